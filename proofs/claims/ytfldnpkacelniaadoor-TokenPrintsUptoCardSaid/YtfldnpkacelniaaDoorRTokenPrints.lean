/- TokenPrints returns true for every input of the stated bulk, and the input reads as it did: the tied card, proved as given, with no condition. -/
import Derived.Test.YtfldnpkacelniaaDoorRows
import Derived.Test.YtfldnpkacelniaaDoorCards
import Derived.Test.YtfldnpkacelniaaDoorTie
import Derived.WalkKit
import Derived.ProofKit
import Derived.LaidMore
import Derived.OpenShut
import Derived.SevenTiedAt
import Derived.SizedLaws
import Derived.Test.YtfldnpkacelniaaDoorN18
import Derived.Test.YtfldnpkacelniaaDoorLib3
import Derived.Deep.DeepHandedRow
import Derived.Deep.DeepWitnessRowRef
set_option linter.unusedSimpArgs false
set_option linter.unusedVariables false
set_option linter.defProp false
namespace Go.Proofs.YtfldnpkacelniaaDoor
open Go Go.Abs Go.ChangeShapes Go.WideShapes Go.ChangeAt Go.WideMaps Go.WideElems Go.RowKit
namespace RTokenPrints
theorem own : ownKnob Tryd.prog.godebug = none := by kernel_rfl
theorem laid : laidOutB Tryd.prog = true := by kernel_rfl
theorem gT : Tryd.prog.globalNamed "internal/strconv.uint64pow10" = some 1 := by kernel_rfl
theorem gE : Tryd.prog.globalNamed "strconv.ErrRange" = some 3 := by kernel_rfl
theorem tT : (Tryd.prog.globals[1]?).map (·.type) = some 85 := by kernel_rfl
theorem tE : (Tryd.prog.globals[3]?).map (·.type) = some 59 := by kernel_rfl

theorem door_met (os : Os) (args : Array Value) : laidMetH Tryd.prog Rows.tokenPrintsUptoRow.laid ((World.doorLaid Tryd.prog 400 os).forCall (fun _ _ => 0) ⟨#[], args, []⟩).memory :=
  laidMetH_of_parts3 (fuel := 8) (laidMet_of_run' 8 (by kernel_rfl) (by kernel_rfl)) (by kernel_rfl) (by kernel_rfl)

def tab : List Int := [1, 10, 100, 1000, 10000, 100000, 1000000, 10000000, 100000000, 1000000000, 10000000000, 100000000000, 1000000000000, 10000000000000, 100000000000000, 1000000000000000, 10000000000000000, 100000000000000000, 1000000000000000000, 10000000000000000000]
theorem gok {W : World} (h : laidMetH Tryd.prog Rows.tokenPrintsUptoRow.laid W) : GOK ⟨fun _ => none, gl, fun _ => 0, 0⟩ (memOf W) := by
  rw [MakeChecks.laidMetH_plain _ _ _ (by kernel_rfl)] at h
  obtain ⟨ps, ⟨a0, u0, cs0, f0, p0, q0, hg0, ht0, hv0, hd0, ⟨a1, u1, cs1, f1, p1, q1, hg1, ht1, hv1, hd1, ⟨a2, u2, cs2, f2, p2, q2, hg2, ht2, hv2, hd2, ⟨a3, u3, cs3, f3, p3, q3, hg3, ht3, hv3, hd3, ⟨a4, u4, cs4, f4, p4, q4, hg4, ht4, hv4, hd4, _, _⟩, _⟩, _⟩, _⟩, _⟩, _, _⟩ := h
  obtain rfl := Option.some.inj (gT.symm.trans hg2)
  obtain rfl := Option.some.inj (gE.symm.trans hg3)
  obtain rfl := Option.some.inj (tT.symm.trans ht2)
  obtain rfl := Option.some.inj (tE.symm.trans ht3)
  have c1 : ∀ i, i < 20 → memOf W 1 i = some (.int .u64 (tab.getD i 0)) := fun i hi => by
    have h1 := table_int (ds := tab) Tryd.underlying85 Tryd.underlying69 (by kernel_rfl) hd2 i hi
    have h2 := World.var?_cell hg2 hv2 i
    rw [Array.getElem?_toList] at h1
    rw [h1] at h2
    exact h2
  obtain ⟨eu, ev, h3⟩ := iface_cell Tryd.underlying59 hd3
  have c3 : memOf W 3 0 = some (.iface eu ev) := by
    have h2 := World.var?_cell hg3 hv3 0
    rw [Array.getElem?_toList] at h3
    rw [h3] at h2
    exact h2
  intro b cs hb j hj
  match b, hb with
  | 1, hb =>
    cases hb
    have hj2 : j < tab.length := hj
    refine ⟨_, c1 j hj, ?_⟩
    show Rd _ ((tab.map fun z => PVal.int .u64 z).getD j .nilptr) _
    rw [show (tab.map fun z => PVal.int .u64 z).getD j .nilptr = .int .u64 (tab.getD j 0) by simp [List.getD, hj2]]
    exact .int _ _
  | 3, hb =>
    cases hb
    match j, hj with
    | 0, _ => exact ⟨_, c3, .erri _ _⟩
  | 0, hb => cases hb
  | 2, hb => cases hb
  | b + 4, hb => cases hb

theorem gex {W : World} (h : laidMetH Tryd.prog Rows.tokenPrintsUptoRow.laid W) : ∀ b cs, gl b = some cs → cs ≠ [] → ∃ vals T l, W.heap[b]? = some (.cells vals T l) ∧ vals.size = cs.length := by
  rw [MakeChecks.laidMetH_plain _ _ _ (by kernel_rfl)] at h
  obtain ⟨ps, ⟨a0, u0, cs0, f0, p0, q0, hg0, ht0, hv0, hd0, ⟨a1, u1, cs1, f1, p1, q1, hg1, ht1, hv1, hd1, ⟨a2, u2, cs2, f2, p2, q2, hg2, ht2, hv2, hd2, ⟨a3, u3, cs3, f3, p3, q3, hg3, ht3, hv3, hd3, ⟨a4, u4, cs4, f4, p4, q4, hg4, ht4, hv4, hd4, _, _⟩, _⟩, _⟩, _⟩, _⟩, _, _⟩ := h
  obtain rfl := Option.some.inj (gT.symm.trans hg2)
  obtain rfl := Option.some.inj (gE.symm.trans hg3)
  obtain rfl := Option.some.inj (tT.symm.trans ht2)
  obtain rfl := Option.some.inj (tE.symm.trans ht3)
  obtain ⟨T1, l1, e1⟩ := var_block hg2 hv2
  obtain ⟨T2, l2, e2⟩ := var_block hg3 hv3
  have s1 := table_size Tryd.underlying85 (m := 20) (by kernel_rfl) hd2
  have s2 := iface_size Tryd.underlying59 hd3
  intro b cs hb _
  match b, hb with
  | 1, hb => cases hb; exact ⟨_, T1, l1, e1, s1⟩
  | 3, hb => cases hb; exact ⟨_, T2, l2, e2, s2⟩
  | 0, hb => cases hb
  | 2, hb => cases hb
  | b + 4, hb => cases hb

theorem bulk_part {H : Type} {d : DataW H} {l : List (DataW H)} (h : d ∈ l) : Rows.uptoBulk d ≤ Rows.uptoBulkAll l := by
  induction l with
  | nil => cases h
  | cons x r ih =>
    simp only [Rows.uptoBulkAll]
    cases List.mem_cons.1 h with
    | inl e => subst e; omega
    | inr e => have := ih e; omega

theorem contract (H : Type) (enc : TypeId × Value → H) (W : World) (base : Nat) (args : Array Value) (ds gs : List (DataW H)) (before : List MemPlace) (hL : laidMetH Tryd.prog Rows.tokenPrintsUptoRow.laid W)
    (hk : Rows.uptoSmall H (ds ++ gs) = true)
    (hval : ∀ (j : Nat) t v, Tryd.f6.params[j]? = some t → args[j]? = some v → Value.okWide Tryd.prog W .any base t v)
    (hW : DataW.Whole enc Tryd.prog Tryd.f6.params.toList Rows.tokenPrintsSpec.vars false W args.toList ds gs before) :
    Calls Tryd.prog 6 args W fun e W' => ∃ v, e = .returned v ∧ Rows.tokenPrintsSpec.post enc Tryd.prog Tryd.f6 false true false false W args v W' := by
  have hW' := hW
  obtain ⟨p, q, hA0, hV, rfl, hfz, hnd⟩ := hW
  have hA : DataW.TrodAll enc Tryd.prog W 0 (fun _ => true) true Tryd.f6.params.toList args.toList ds p := hA0
  rw [Tryd.params6] at hA hval
  obtain ⟨v0, vs0, d0, ds0, p0, q0, hargs, rfl, rfl, h0, r0⟩ := trodAll_cons hA
  obtain ⟨rfl, rfl, rfl⟩ := trodAll_nil r0
  obtain rfl : args = #[v0] := by cases args; simp_all
  obtain ⟨l0, hl0, hb0⟩ := open_toks Tryd.underlying23 Tryd.underlying31 (by kernel_rfl) ⟨by kernel_rfl, by kernel_rfl⟩ ⟨by kernel_rfl, by kernel_rfl⟩ ⟨by kernel_rfl, by kernel_rfl⟩ ⟨by kernel_rfl, by kernel_rfl⟩ Tryd.underlying3 Tryd.underlying9 Tryd.underlying3 Tryd.underlying3 (hval 0 23 v0 rfl rfl) h0
  have ht0 : ∀ t ∈ l0, t.value ≤ 9223372036854775807 ∧ t.text.length ≤ 1048576 := fun t ht => by
    obtain ⟨g1, els, sp, g2, g3⟩ := hb0 t ht
    refine ⟨g1, ?_⟩
    have k1 := of_decide_eq_true hk
    simp only [Rows.uptoBulkAll, List.cons_append, List.nil_append] at k1
    rw [g2] at k1
    simp only [Rows.uptoBulk] at k1
    have k2 := bulk_part g3
    simp only [tkDat, Rows.uptoBulk, Rows.uptoBulkAll] at k2
    omega
  refine (law_runs [.slice (l0.map encTk)] [v0] (prints_law _ ht0) (gok hL) (gex hL) rfl ?_).mono fun e W' ⟨he, hh⟩ => ⟨_, he, law_post laid (by
      intro t ht
      rw [Tryd.params6] at ht
      simp at ht
      rcases ht with rfl <;> exact ⟨by kernel_rfl, of_decide_eq_true (by kernel_rfl)⟩) (tb := 4) (by kernel_rfl) Tryd.underlying4 rfl ?_ hW' hh⟩
  · intro i hi
    match i, hi with
    | 0, _ => exact hl0
  · intro ds hds
    have : ds.length = 1 := hds
    match ds, this with
    | [a0], _ => exact ⟨rfl, rfl, rfl⟩

theorem reads (os : Os) {H : Type} (enc : TypeId × Value → H) : ∃ places, DataW.whole enc Tryd.prog ((World.doorLaid Tryd.prog 400 os).forCall (fun _ _ => 0) ⟨#[], #[.slice none 0 0], []⟩).memory Tryd.f6.params.toList Rows.tokenPrintsSpec.vars false #[(.slice none 0 0 : Value)].toList 8 = some ([.nil], [], places) :=
  ⟨[], by kernel_rfl⟩
set_option maxRecDepth 100000 in
theorem lifted (os : Os) (started : os.Started) (H : Type) (enc : TypeId × Value → H) (F : Stop.Interp) :
    ReturnsInHanded {} Tryd.checked os 6 .any ((Rows.OpenSpec.upto Rows.tokenPrintsSpec).preRow enc Tryd.prog Tryd.f6 Rows.tokenPrintsUptoRow.domain false Rows.tokenPrintsUptoRow.laid) (((Rows.OpenSpec.upto Rows.tokenPrintsSpec).at F).post enc Tryd.prog Tryd.f6 false true false false) := by
  obtain ⟨places, hx⟩ := reads os enc
  refine returnsInHanded_of_row (C := Tryd.checked) (s := Rows.OpenSpec.upto Rows.tokenPrintsSpec) own started (by kernel_rfl) Tryd.func6
    (witness_row_atRef (enc := enc) (C := Tryd.checked) false (World.doorLaid Tryd.prog 400 os) #[.slice none 0 0] rfl (by kernel_rfl) (by kernel_rfl) (by kernel_rfl)
      (OpenSpec.preRow_of_cond 8 hx (by kernel_rfl) (fun k hk => by cases hk; kernel_rfl) (by kernel_rfl) (door_met os _))) ?_
  intro W base args ds gs before hval hW _ hcond _ hL _ _
  exact contract H enc W base args ds gs before hL (hcond _ rfl) hval hW

theorem row_holds : Rows.TokenPrintsUptoSaid :=
  OpenClaim.holds_of_cond 6 Tryd.f6 rfl rfl rfl rfl rfl rfl rfl ⟨rfl, rfl, rfl, rfl, rfl⟩ rfl rfl rfl rfl rfl (by kernel_rfl) Tryd.func6 (by kernel_rfl)
    (of_decide_eq_true (by kernel_rfl)) (by unfold Func.isWrapper; first | (rw [if_pos (by decide +kernel)]; kernel_rfl) | (rw [if_neg (by decide +kernel)]; exact ⟨rfl, rfl⟩))
    (fun os started H enc _ F => by rw [OpenClaim.pre_eq_preRow]; exact lifted os started H enc F)

theorem proved : Rows.TokenPrintsUptoCardSaid :=
  Claim7.holds_tied_plain_at .later [] [.data, .data, .data, .sentinel, .sentinel] true (true, "ccdf8e4000b2f2ac1b298ca104c3af4358b652a8d51389fbc904997a1c440de1") true
    row_holds (fun _ h => by cases h) (by kernel_rfl) (fun _ h => by cases h) tokenPrintsUpto_row_tie rfl ⟨rfl, rfl⟩ (by kernel_rfl) rfl
    (fun f fn hf hfn => by
      obtain rfl : f = 6 := Option.some.inj ((show Tryd.prog.funcNamed "rollbacknet/rollbacknetlaw01.TokenPrints" = some 6 by kernel_rfl).symm.trans hf) |>.symm
      obtain rfl : fn = Tryd.f6 := (Option.some.inj (Tryd.func6.symm.trans hfn)).symm
      exact ⟨by kernel_rfl, fun j t ht => by
        rw [Tryd.params6] at ht
        have hm : t ∈ [23] := by simpa using Array.mem_of_getElem? ht
        have hall : ([23].all fun u => !Tryd.prog.wantsStandIn u) = true := by kernel_rfl
        exact (show Tryd.prog.wantsStandIn t = false by simpa using List.all_eq_true.1 hall t hm)⟩)
    (by kernel_rfl)
end RTokenPrints
end Go.Proofs.YtfldnpkacelniaaDoor
