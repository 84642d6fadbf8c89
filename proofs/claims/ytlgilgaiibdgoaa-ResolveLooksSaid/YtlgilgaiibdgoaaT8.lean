/- ResolveLooks returns true for every input, and the input reads as it did: proved as given, with no condition. -/
import Derived.Test.YtlgilgaiibdgoaaRows
import Derived.WalkKit
import Derived.ProofKit
import Derived.OpenShut
import Derived.Test.YtlgilgaiibdgoaaT7
import Derived.Test.YtlgilgaiibdgoaaAbs31
set_option linter.unusedSimpArgs false
set_option linter.unusedVariables false
namespace Go.Proofs.Ytlgilgaiibdgoaa
open Go Go.Abs Go.ChangeShapes Go.WideShapes Go.ChangeAt Go.RowKit
set_option linter.unusedVariables false

theorem own : ownKnob Try.prog.godebug = none := by kernel_rfl
theorem gok (W : World) : GOK ⟨fun _ => none, gl, fun _ => 0, 0⟩ (memOf W) := by
  intro b cs h; simp [gl] at h
theorem laid : laidOutB Try.prog = true := by kernel_rfl

theorem looks_contract (H : Type) (enc : TypeId × Value → H) (W : World) (base : Nat) (args : Array Value) (ds gs : List (DataW H)) (before : List MemPlace)
    (hval : ∀ (j : Nat) t v, Try.f3.params[j]? = some t → args[j]? = some v → Value.okWide Try.prog W .any base t v)
    (hW : DataW.Whole enc Try.prog Try.f3.params.toList Rows.resolveLooksSpec.vars false W args.toList ds gs before) :
    Calls Try.prog 3 args W fun e W' => ∃ v, e = .returned v ∧ Rows.resolveLooksSpec.post enc Try.prog Try.f3 false true false false W args v W' := by
  have hW' := hW
  obtain ⟨p, q, hA0, hV, rfl, hfz, hnd⟩ := hW
  have hA : DataW.TrodAll enc Try.prog W 0 (fun _ => true) true Try.f3.params.toList args.toList ds p := hA0
  rw [Try.params3] at hA hval
  obtain ⟨v0, vs0, d0, ds0, p0, q0, hargs, rfl, rfl, h0, r0⟩ := trodAll_cons hA
  obtain ⟨v1, vs1, d1, ds1, p1, q1, rfl, rfl, rfl, h1, r1⟩ := trodAll_cons r0
  obtain ⟨v2, vs2, d2, ds2, p2, q2, rfl, rfl, rfl, h2, r2⟩ := trodAll_cons r1
  obtain ⟨rfl, rfl, rfl⟩ := trodAll_nil r2
  obtain rfl : args = #[v0, v1, v2] := by cases args; simp_all
  obtain ⟨l, hl⟩ := open_vars Try.underlying22 Try.underlying25 (by kernel_rfl) (by constructor <;> kernel_rfl) (by constructor <;> kernel_rfl) (by constructor <;> kernel_rfl) Try.underlying9 Try.underlying3 Try.underlying3 (hval 0 22 v0 rfl rfl) h0
  obtain ⟨s, rfl, _, _, _⟩ := Go.ChangeMaps.open_string Try.underlying9 (hval 1 9 v1 rfl rfl) h1
  obtain ⟨n, rfl, _, _, _⟩ := open_int Try.underlying3 (hval 2 3 v2 rfl rfl) h2
  refine (law_runs [.slice (l.map encVar), .str s.data.toList, .int .i64 n] [v0, .string s, .int .i64 n] (looks_ac l s.data.toList n) (gok W) rfl ?_).mono fun e W' ⟨he, hh⟩ => ⟨_, he, law_post laid (by
      intro t ht
      rw [Try.params3] at ht
      simp at ht
      rcases ht with rfl | rfl | rfl <;> exact ⟨by kernel_rfl, of_decide_eq_true (by kernel_rfl)⟩) (tb := 4) (by kernel_rfl) Try.underlying4 rfl ?_ hW' hh⟩
  · intro i hi
    match i, hi with
    | 0, _ => exact hl
    | 1, _ => exact .str _
    | 2, _ => exact .int _ _
  · intro ds hds
    have : ds.length = 3 := hds
    match ds, this with
    | [a, b, c], _ => exact ⟨rfl, rfl, rfl⟩

set_option maxRecDepth 100000 in
theorem looks_lifted (os : Os) (started : os.Started) (H : Type) (enc : TypeId × Value → H) :
    ReturnsInHanded {} Try.checked os 3 .any (Rows.resolveLooksSpec.pre6 enc Try.prog Try.f3 Rows.resolveLooksRow.domain false) (Rows.resolveLooksSpec.post enc Try.prog Try.f3 false true false false) := by
  refine returnsInHanded_of_change (C := Try.checked) own started (by kernel_rfl) Try.func3
    (ChangeSpec.witness6 (enc := enc) (C := Try.checked) false ⟨#[], #[.slice none 0 0, .string ⟨#[]⟩, .int .i64 0], []⟩ 8 (by kernel_rfl) (by kernel_rfl) (by kernel_rfl) (by kernel_rfl)) ?_
  intro W base args ds gs before hval hW _ _
  exact looks_contract H enc W base args ds gs before hval hW

theorem looks_over : Rows.resolveLooksRow.holds Try.pinned (OpenSpec.ofChange Rows.resolveLooksSpec) :=
  OpenClaim.holds_of_wide 3 Try.f3 rfl rfl rfl rfl rfl rfl rfl ⟨rfl, rfl, rfl, rfl, rfl⟩ rfl rfl rfl rfl rfl (by kernel_rfl) Try.func3 (by kernel_rfl)
    (of_decide_eq_true (by kernel_rfl)) (by unfold Func.isWrapper; first | (rw [if_pos (by decide +kernel)]; kernel_rfl) | (rw [if_neg (by decide +kernel)]; exact ⟨rfl, rfl⟩))
    (fun os started H enc _ => looks_lifted os started H enc)

theorem looks_proved : Rows.ResolveLooksSaid := looks_over
end Go.Proofs.Ytlgilgaiibdgoaa
