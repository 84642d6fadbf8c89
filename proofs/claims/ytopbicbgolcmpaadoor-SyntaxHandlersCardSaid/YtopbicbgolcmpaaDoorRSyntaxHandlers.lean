/- SyntaxHandlers returns true for every input, and the input reads as it did: the tied card, proved as given, with no condition. -/
import Derived.Test.YtopbicbgolcmpaaDoorRows
import Derived.Test.YtopbicbgolcmpaaDoorCards
import Derived.Test.YtopbicbgolcmpaaDoorTie
import Derived.WalkKit
import Derived.ProofKit
import Derived.LaidMore
import Derived.OpenShut
import Derived.SevenTiedAt
import Derived.SizedLaws
import Derived.Test.YtopbicbgolcmpaaDoorX3
import Derived.Test.YtopbicbgolcmpaaDoorLib4
set_option linter.unusedSimpArgs false
set_option linter.unusedVariables false
set_option linter.defProp false
namespace Go.Proofs.YtopbicbgolcmpaaDoor
open Go Go.Abs Go.ChangeShapes Go.WideShapes Go.ChangeAt Go.WideMaps Go.WideElems Go.RowKit
namespace RSyntaxHandlers
theorem own : ownKnob Tryd.prog.godebug = none := by kernel_rfl
theorem laid : laidOutB Tryd.prog = true := by kernel_rfl
theorem gN2 : Tryd.prog.globalNamed "internal/strconv.uint64pow10" = some 3 := by kernel_rfl
theorem gN3 : Tryd.prog.globalNamed "strconv.ErrRange" = some 5 := by kernel_rfl
theorem gN5 : Tryd.prog.globalNamed "rollbacknet/rollbacknetmake.scalars" = some 0 := by kernel_rfl
theorem gN6 : Tryd.prog.globalNamed "rollbacknet/rollbacknetmake.arrays" = some 1 := by kernel_rfl
theorem tN2 : (Tryd.prog.globals[3]?).map (·.type) = some 136 := by kernel_rfl
theorem tN3 : (Tryd.prog.globals[5]?).map (·.type) = some 108 := by kernel_rfl
theorem tN5 : (Tryd.prog.globals[0]?).map (·.type) = some 66 := by kernel_rfl
theorem tN6 : (Tryd.prog.globals[1]?).map (·.type) = some 68 := by kernel_rfl
theorem door_met (os : Os) (args : Array Value) : laidMetH Tryd.prog Rows.syntaxHandlersRow.laid ((World.doorLaid Tryd.prog 400 os).forCall (fun _ _ => 0) ⟨#[], args, []⟩).memory :=
  laidMetH_of_parts3 (fuel := 8) (laidMet_of_run' 8 (by kernel_rfl) (by kernel_rfl)) (by kernel_rfl) (by kernel_rfl)
def tab2 : List Int := [1, 10, 100, 1000, 10000, 100000, 1000000, 10000000, 100000000, 1000000000, 10000000000, 100000000000, 1000000000000, 10000000000000, 100000000000000, 1000000000000000, 10000000000000000, 100000000000000000, 1000000000000000000, 10000000000000000000]
def tab5 : List (List UInt8) := [[120], [121], [122]]
def tab6 : List (List UInt8) := [[97], [98]]
theorem gok {W : World} (h : laidMetH Tryd.prog Rows.syntaxHandlersRow.laid W) : GOK ⟨fun _ => none, gl, fun _ => 0, 0⟩ (memOf W) := by
  rw [MakeChecks.laidMetH_plain _ _ _ (by kernel_rfl)] at h
  obtain ⟨ps, ⟨a0, u0, cs0, f0, p0, q0, hg0, ht0, hv0, hd0, ⟨a1, u1, cs1, f1, p1, q1, hg1, ht1, hv1, hd1, ⟨a2, u2, cs2, f2, p2, q2, hg2, ht2, hv2, hd2, ⟨a3, u3, cs3, f3, p3, q3, hg3, ht3, hv3, hd3, ⟨a4, u4, cs4, f4, p4, q4, hg4, ht4, hv4, hd4, ⟨a5, u5, cs5, f5, p5, q5, hg5, ht5, hv5, hd5, ⟨a6, u6, cs6, f6, p6, q6, hg6, ht6, hv6, hd6, _, _⟩, _⟩, _⟩, _⟩, _⟩, _⟩, _⟩, _, _⟩ := h
  obtain rfl := Option.some.inj (gN2.symm.trans hg2)
  obtain rfl := Option.some.inj (tN2.symm.trans ht2)
  obtain rfl := Option.some.inj (gN3.symm.trans hg3)
  obtain rfl := Option.some.inj (tN3.symm.trans ht3)
  obtain rfl := Option.some.inj (gN5.symm.trans hg5)
  obtain rfl := Option.some.inj (tN5.symm.trans ht5)
  obtain rfl := Option.some.inj (gN6.symm.trans hg6)
  obtain rfl := Option.some.inj (tN6.symm.trans ht6)
  have c2 : ∀ i, i < 20 → memOf W 3 i = some (.int .u64 (tab2.getD i 0)) := fun i hi => by
    have h1 := table_int (ds := tab2) Tryd.underlying136 Tryd.underlying119 (by kernel_rfl) hd2 i hi
    have h2 := World.var?_cell hg2 hv2 i
    rw [Array.getElem?_toList] at h1
    rw [h1] at h2
    exact h2
  obtain ⟨eu3, ev3, h33⟩ := iface_cell Tryd.underlying108 hd3
  have c3 : memOf W 5 0 = some (.iface eu3 ev3) := by
    have h2 := World.var?_cell hg3 hv3 0
    rw [Array.getElem?_toList] at h33
    rw [h33] at h2
    exact h2
  have c5 : ∀ i, i < 3 → memOf W 0 i = some (.string ⟨(tab5.getD i []).toArray⟩) := fun i hi => by
    have h1 := table_cell (ds := tab5) Tryd.underlying66 Tryd.underlying9 (by kernel_rfl) hd5 i hi
    have h2 := World.var?_cell hg5 hv5 i
    rw [Array.getElem?_toList] at h1
    rw [h1] at h2
    exact h2
  have c6 : ∀ i, i < 2 → memOf W 1 i = some (.string ⟨(tab6.getD i []).toArray⟩) := fun i hi => by
    have h1 := table_cell (ds := tab6) Tryd.underlying68 Tryd.underlying9 (by kernel_rfl) hd6 i hi
    have h2 := World.var?_cell hg6 hv6 i
    rw [Array.getElem?_toList] at h1
    rw [h1] at h2
    exact h2
  intro b cs hb j hj
  match b, hb with
  | 3, hb =>
    cases hb
    have hj2 : j < tab2.length := hj
    refine ⟨_, c2 j hj, ?_⟩
    show Rd _ ((tab2.map fun z => PVal.int .u64 z).getD j .nilptr) _
    rw [show (tab2.map fun z => PVal.int .u64 z).getD j .nilptr = .int .u64 (tab2.getD j 0) by simp [List.getD, hj2]]
    exact .int _ _
  | 5, hb =>
    cases hb
    match j, hj with
    | 0, _ => exact ⟨_, c3, .erri _ _⟩
  | 0, hb =>
    cases hb
    have hj2 : j < tab5.length := hj
    refine ⟨_, c5 j hj, ?_⟩
    show Rd _ ((tab5.map fun z => PVal.str z).getD j .nilptr) _
    rw [show (tab5.map fun z => PVal.str z).getD j .nilptr = .str (tab5.getD j []) by simp [List.getD, hj2]]
    exact .str _
  | 1, hb =>
    cases hb
    have hj2 : j < tab6.length := hj
    refine ⟨_, c6 j hj, ?_⟩
    show Rd _ ((tab6.map fun z => PVal.str z).getD j .nilptr) _
    rw [show (tab6.map fun z => PVal.str z).getD j .nilptr = .str (tab6.getD j []) by simp [List.getD, hj2]]
    exact .str _
  | 2, hb => cases hb
  | 4, hb => cases hb
  | b + 6, hb => cases hb
theorem gex {W : World} (h : laidMetH Tryd.prog Rows.syntaxHandlersRow.laid W) : ∀ b cs, gl b = some cs → cs ≠ [] → ∃ vals T l, W.heap[b]? = some (.cells vals T l) ∧ vals.size = cs.length := by
  rw [MakeChecks.laidMetH_plain _ _ _ (by kernel_rfl)] at h
  obtain ⟨ps, ⟨a0, u0, cs0, f0, p0, q0, hg0, ht0, hv0, hd0, ⟨a1, u1, cs1, f1, p1, q1, hg1, ht1, hv1, hd1, ⟨a2, u2, cs2, f2, p2, q2, hg2, ht2, hv2, hd2, ⟨a3, u3, cs3, f3, p3, q3, hg3, ht3, hv3, hd3, ⟨a4, u4, cs4, f4, p4, q4, hg4, ht4, hv4, hd4, ⟨a5, u5, cs5, f5, p5, q5, hg5, ht5, hv5, hd5, ⟨a6, u6, cs6, f6, p6, q6, hg6, ht6, hv6, hd6, _, _⟩, _⟩, _⟩, _⟩, _⟩, _⟩, _⟩, _, _⟩ := h
  obtain rfl := Option.some.inj (gN2.symm.trans hg2)
  obtain rfl := Option.some.inj (tN2.symm.trans ht2)
  obtain rfl := Option.some.inj (gN3.symm.trans hg3)
  obtain rfl := Option.some.inj (tN3.symm.trans ht3)
  obtain rfl := Option.some.inj (gN5.symm.trans hg5)
  obtain rfl := Option.some.inj (tN5.symm.trans ht5)
  obtain rfl := Option.some.inj (gN6.symm.trans hg6)
  obtain rfl := Option.some.inj (tN6.symm.trans ht6)
  obtain ⟨T2, l2, e2⟩ := var_block hg2 hv2
  have s2 := table_size Tryd.underlying136 (m := 20) (by kernel_rfl) hd2
  obtain ⟨T3, l3, e3⟩ := var_block hg3 hv3
  have s3 := iface_size Tryd.underlying108 hd3
  obtain ⟨T5, l5, e5⟩ := var_block hg5 hv5
  have s5 := table_size Tryd.underlying66 (m := 3) (by kernel_rfl) hd5
  obtain ⟨T6, l6, e6⟩ := var_block hg6 hv6
  have s6 := table_size Tryd.underlying68 (m := 2) (by kernel_rfl) hd6
  intro b cs hb _
  match b, hb with
  | 3, hb => cases hb; exact ⟨_, T2, l2, e2, s2⟩
  | 5, hb => cases hb; exact ⟨_, T3, l3, e3, s3⟩
  | 0, hb => cases hb; exact ⟨_, T5, l5, e5, s5⟩
  | 1, hb => cases hb; exact ⟨_, T6, l6, e6, s6⟩
  | 2, hb => cases hb
  | 4, hb => cases hb
  | b + 6, hb => cases hb
set_option maxRecDepth 100000 in
theorem contract (H : Type) (enc : TypeId × Value → H) (W : World) (base : Nat) (args : Array Value) (ds gs : List (DataW H)) (before : List MemPlace) (hL : laidMetH Tryd.prog Rows.syntaxHandlersRow.laid W)
    (hsz : (DataW.weightsEach Tryd.prog (Tryd.f6.params.toList ++ Rows.syntaxHandlersSpec.plain.varTypes Tryd.prog) (ds ++ gs)).all (· ≤ reachBytes) = true)
    (hval : ∀ (j : Nat) t v, Tryd.f6.params[j]? = some t → args[j]? = some v → Value.okWide Tryd.prog W .any base t v)
    (hW : DataW.Whole enc Tryd.prog Tryd.f6.params.toList Rows.syntaxHandlersSpec.vars false W args.toList ds gs before) :
    Calls Tryd.prog 6 args W fun e W' => ∃ v, e = .returned v ∧ Rows.syntaxHandlersSpec.post enc Tryd.prog Tryd.f6 false true false false W args v W' := by
  have hW' := hW
  obtain ⟨p, q, hA0, hV, rfl, hfz, hnd⟩ := hW
  have hA : DataW.TrodAll enc Tryd.prog W 0 (fun _ => true) true Tryd.f6.params.toList args.toList ds p := hA0
  rw [Tryd.params6] at hA hval
  obtain ⟨v0, vs0, d0, ds0, p0, q0, hargs, rfl, rfl, h0, r0⟩ := trodAll_cons hA
  obtain ⟨v1, vs1, d1, ds1, p1, q1, rfl, rfl, rfl, h1, r1⟩ := trodAll_cons r0
  obtain ⟨v2, vs2, d2, ds2, p2, q2, rfl, rfl, rfl, h2, r2⟩ := trodAll_cons r1
  obtain ⟨rfl, rfl, rfl⟩ := trodAll_nil r2
  obtain rfl : args = #[v0, v1, v2] := by cases args; simp_all
  obtain ⟨xs0, hl0⟩ := open_bytes Tryd.underlying40 Tryd.underlying5 (by kernel_rfl) (hval 0 40 v0 rfl rfl) h0
  obtain ⟨z1, rfl, _, _, hi1⟩ := open_int Tryd.underlying5 (hval 1 5 v1 rfl rfl) h1
  have hz1 : 0 ≤ z1 ∧ z1 ≤ 255 := by simpa [Lit.wf, IntKind.min, IntKind.max, IntKind.bits, IntKind.signed] using hi1
  obtain ⟨n1, rfl⟩ := Int.eq_ofNat_of_zero_le hz1.1
  have hn1 : n1 < 256 := by omega
  obtain ⟨z2, rfl, _, _, hi2⟩ := open_int Tryd.underlying5 (hval 2 5 v2 rfl rfl) h2
  have hz2 : 0 ≤ z2 ∧ z2 ≤ 255 := by simpa [Lit.wf, IntKind.min, IntKind.max, IntKind.bits, IntKind.signed] using hi2
  obtain ⟨n2, rfl⟩ := Int.eq_ofNat_of_zero_le hz2.1
  have hn2 : n2 < 256 := by omega
  refine (law_runs [.slice (xs0.map encB), .int .u8 n1, .int .u8 n2] [v0, .int .u8 n1, .int .u8 n2] (handlers_law xs0 n1 n2 hn1 hn2) (gok hL) (gex hL) rfl ?_).mono fun e W' ⟨he, hh⟩ => ⟨_, he, law_post laid (by
      intro t ht
      rw [Tryd.params6] at ht
      simp at ht
      rcases ht with rfl | rfl | rfl <;> exact ⟨by kernel_rfl, of_decide_eq_true (by kernel_rfl)⟩) (tb := 4) (by kernel_rfl) Tryd.underlying4 rfl ?_ hW' hh⟩
  · intro i hi
    match i, hi with
    | 0, _ => exact hl0
    | 1, _ => exact .int _ _
    | 2, _ => exact .int _ _
  · intro ds hds
    have : ds.length = 3 := hds
    match ds, this with
    | [a0, a1, a2], _ => exact ⟨rfl, rfl, rfl⟩
set_option maxRecDepth 100000 in
theorem lifted (os : Os) (started : os.Started) (H : Type) (enc : TypeId × Value → H) :
    ReturnsInHanded {} Tryd.checked os 6 .any (fun w args => (Rows.syntaxHandlersSpec.pre enc Tryd.prog Tryd.f6 [] false w args ∧ laidMetH Tryd.prog Rows.syntaxHandlersRow.laid w) ∧ sizedMet enc Tryd.prog Tryd.f6 (OpenSpec.ofChange Rows.syntaxHandlersSpec) false w args)
      (Rows.syntaxHandlersSpec.post enc Tryd.prog Tryd.f6 false true false false) := by
  refine returnsInHanded_of_change_and (C := Tryd.checked) (X := fun w _ => laidMetH Tryd.prog Rows.syntaxHandlersRow.laid w) (fun _ _ _ hh h => h.of_heap hh) own started (by kernel_rfl) Tryd.func6
    (ChangeSpec.witness_shaped (enc := enc) (C := Tryd.checked) (os := os) (X := fun w _ => laidMetH Tryd.prog Rows.syntaxHandlersRow.laid w) false (World.doorLaid Tryd.prog 400 os) #[.slice none 0 0, .int .u8 0, .int .u8 0] 8 rfl (World.shaped_of_RefB (by kernel_rfl) (by kernel_rfl)) (by kernel_rfl) (by kernel_rfl) (by kernel_rfl) (door_met os _)) ?_
  intro W base args ds gs before hval hW _ hsz hL _
  exact contract H enc W base args ds gs before hL hsz hval hW
theorem row_holds : Rows.SyntaxHandlersSaid :=
  OpenClaim.holds_of_wide 6 Tryd.f6 rfl rfl rfl rfl rfl rfl rfl ⟨rfl, rfl, rfl, rfl, rfl⟩ rfl rfl rfl rfl rfl (by kernel_rfl) Tryd.func6 (by kernel_rfl)
    (of_decide_eq_true (by kernel_rfl)) (by unfold Func.isWrapper; first | (rw [if_pos (by decide +kernel)]; kernel_rfl) | (rw [if_neg (by decide +kernel)]; exact ⟨rfl, rfl⟩))
    (fun os started H enc _ => lifted os started H enc)
theorem proved : Rows.SyntaxHandlersCardSaid :=
  Claim7.holds_tied_plain_at .later [] [.data, .data, .data, .sentinel, .sentinel, .data, .data] true (true, "ca8dde549624410b4806fb1481057da87c046412ecf1625e421f69b2e981caac") true
    row_holds (fun _ h => by cases h) (by kernel_rfl) (fun _ h => by cases h) syntaxHandlers_row_tie rfl ⟨rfl, rfl⟩ (by kernel_rfl) rfl
    (fun f fn hf hfn => by
      obtain rfl : f = 6 := Option.some.inj ((show Tryd.prog.funcNamed "rollbacknet/rollbacknetlaw02.SyntaxHandlers" = some 6 by kernel_rfl).symm.trans hf) |>.symm
      obtain rfl : fn = Tryd.f6 := (Option.some.inj (Tryd.func6.symm.trans hfn)).symm
      exact ⟨by kernel_rfl, fun j t ht => by
        rw [Tryd.params6] at ht
        have hm : t ∈ [40, 5, 5] := by simpa using Array.mem_of_getElem? ht
        have hall : ([40, 5, 5].all fun u => !Tryd.prog.wantsStandIn u) = true := by kernel_rfl
        exact (show Tryd.prog.wantsStandIn t = false by simpa using List.all_eq_true.1 hall t hm)⟩)
    (by kernel_rfl)
end RSyntaxHandlers
end Go.Proofs.YtopbicbgolcmpaaDoor
