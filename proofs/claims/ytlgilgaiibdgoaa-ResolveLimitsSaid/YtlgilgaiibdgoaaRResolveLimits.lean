/- ResolveLimits returns true for every input, and the input reads as it did: proved as given, with no condition. -/
import Derived.Test.YtlgilgaiibdgoaaRows
import Derived.WalkKit
import Derived.ProofKit
import Derived.OpenShut
import Derived.Test.YtlgilgaiibdgoaaT9
import Derived.Test.YtlgilgaiibdgoaaAbs31
set_option linter.unusedSimpArgs false
set_option linter.unusedVariables false
namespace Go.Proofs.Ytlgilgaiibdgoaa
open Go Go.Abs Go.ChangeShapes Go.WideShapes Go.ChangeAt Go.RowKit
set_option linter.unusedVariables false
namespace RResolveLimits
theorem own : ownKnob Try.prog.godebug = none := by kernel_rfl
theorem gok (W : World) : GOK ⟨fun _ => none, gl, fun _ => 0, 0⟩ (memOf W) := by
  intro b cs h; simp [gl] at h
theorem laid : laidOutB Try.prog = true := by kernel_rfl

theorem contract (H : Type) (enc : TypeId × Value → H) (W : World) (base : Nat) (args : Array Value) (ds gs : List (DataW H)) (before : List MemPlace)
    (hval : ∀ (j : Nat) t v, Try.f4.params[j]? = some t → args[j]? = some v → Value.okWide Try.prog W .any base t v)
    (hW : DataW.Whole enc Try.prog Try.f4.params.toList Rows.resolveLimitsSpec.vars false W args.toList ds gs before) :
    Calls Try.prog 4 args W fun e W' => ∃ v, e = .returned v ∧ Rows.resolveLimitsSpec.post enc Try.prog Try.f4 false true false false W args v W' := by
  have hW' := hW
  obtain ⟨p, q, hA0, hV, rfl, hfz, hnd⟩ := hW
  have hA : DataW.TrodAll enc Try.prog W 0 (fun _ => true) true Try.f4.params.toList args.toList ds p := hA0
  rw [Try.params4] at hA hval
  obtain ⟨v0, vs0, d0, ds0, p0, q0, hargs, rfl, rfl, h0, r0⟩ := trodAll_cons hA
  obtain ⟨v1, vs1, d1, ds1, p1, q1, rfl, rfl, rfl, h1, r1⟩ := trodAll_cons r0
  obtain ⟨rfl, rfl, rfl⟩ := trodAll_nil r1
  obtain rfl : args = #[v0, v1] := by cases args; simp_all
  obtain ⟨z0, rfl, _, _, hi0⟩ := open_int Try.underlying5 (hval 0 5 v0 rfl rfl) h0
  have hz0 : 0 ≤ z0 ∧ z0 ≤ 255 := by simpa [Lit.wf, IntKind.min, IntKind.max, IntKind.bits, IntKind.signed] using hi0
  obtain ⟨n0, rfl⟩ := Int.eq_ofNat_of_zero_le hz0.1
  have hn0 : n0 < 256 := by omega
  obtain ⟨b1, rfl, _, _⟩ := open_bool Try.underlying4 (hval 1 4 v1 rfl rfl) h1
  refine (law_runs [.int .u8 n0, .bool b1] [.int .u8 n0, .bool b1] (limits_ac n0 hn0 b1) (gok W) rfl ?_).mono fun e W' ⟨he, hh⟩ => ⟨_, he, law_post laid (by
      intro t ht
      rw [Try.params4] at ht
      simp at ht
      rcases ht with rfl | rfl <;> exact ⟨by kernel_rfl, of_decide_eq_true (by kernel_rfl)⟩) (tb := 4) (by kernel_rfl) Try.underlying4 rfl ?_ hW' hh⟩
  · intro i hi
    match i, hi with
    | 0, _ => exact .int _ _
    | 1, _ => exact .bool _
  · intro ds hds
    have : ds.length = 2 := hds
    match ds, this with
    | [a0, a1], _ => exact ⟨rfl, rfl, rfl⟩

set_option maxRecDepth 100000 in
theorem lifted (os : Os) (started : os.Started) (H : Type) (enc : TypeId × Value → H) :
    ReturnsInHanded {} Try.checked os 4 .any (Rows.resolveLimitsSpec.pre6 enc Try.prog Try.f4 Rows.resolveLimitsRow.domain false) (Rows.resolveLimitsSpec.post enc Try.prog Try.f4 false true false false) := by
  refine returnsInHanded_of_change (C := Try.checked) own started (by kernel_rfl) Try.func4
    (ChangeSpec.witness6 (enc := enc) (C := Try.checked) false ⟨#[], #[.int .u8 0, .bool false], []⟩ 8 (by kernel_rfl) (by kernel_rfl) (by kernel_rfl) (by kernel_rfl)) ?_
  intro W base args ds gs before hval hW _ _
  exact contract H enc W base args ds gs before hval hW

theorem over : Rows.resolveLimitsRow.holds Try.pinned (OpenSpec.ofChange Rows.resolveLimitsSpec) :=
  OpenClaim.holds_of_wide 4 Try.f4 rfl rfl rfl rfl rfl rfl rfl ⟨rfl, rfl, rfl, rfl, rfl⟩ rfl rfl rfl rfl rfl (by kernel_rfl) Try.func4 (by kernel_rfl)
    (of_decide_eq_true (by kernel_rfl)) (by unfold Func.isWrapper; first | (rw [if_pos (by decide +kernel)]; kernel_rfl) | (rw [if_neg (by decide +kernel)]; exact ⟨rfl, rfl⟩))
    (fun os started H enc _ => lifted os started H enc)

theorem proved : Rows.ResolveLimitsSaid := over
end RResolveLimits
end Go.Proofs.Ytlgilgaiibdgoaa
