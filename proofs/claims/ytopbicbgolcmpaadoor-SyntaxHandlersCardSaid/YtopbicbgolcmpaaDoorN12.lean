/- A part of the walk (Tryd_N12): its theorems have no condition beyond what they state. -/
import Derived.Test.YtopbicbgolcmpaaDoorN10
import Derived.Test.YtopbicbgolcmpaaDoorLib3
import Derived.Lib.AppendIntMem
set_option linter.unusedSimpArgs false
set_option linter.unusedVariables false
set_option linter.defProp false
namespace Go.Proofs.YtopbicbgolcmpaaDoor
open Go Go.Abs Go.RowKit
theorem tab_is (w : World) (M : Mem) (hs : ∀ b i u, M b i = some u → w.cell? ⟨b, i, none⟩ = some u) (hg : GOK ⟨fun _ => none, gl, fun _ => 0, 0⟩ M)
    (hx : ∀ b cs, gl b = some cs → cs ≠ [] → ∃ vals T l, w.heap[b]? = some (.cells vals T l) ∧ vals.size = cs.length) : Lib.TabIs Tryd.prog w "internal/strconv.uint64pow10" .u64 Lib.pow10Tab := by
  obtain ⟨cs, hcs, hce⟩ : ∃ cs, gl 3 = some cs ∧ cs = Lib.pow10Tab.map fun z => PVal.int .u64 z := ⟨_, rfl, by kernel_rfl⟩
  have hlen : cs.length = Lib.pow10Tab.length := by rw [hce]; simp
  obtain ⟨vals, T, l, hh, hsz⟩ := hx 3 cs hcs (by rw [hce]; decide +kernel)
  have hgn : Tryd.prog.globalNamed "internal/strconv.uint64pow10" = some 3 := by kernel_rfl
  unfold Lib.TabIs World.var?
  rw [hgn]
  simp only [Option.bind_some, hh, Option.some.injEq]
  apply Array.ext
  · rw [hsz, hlen]; simp
  · intro i h1 h2
    have hi : i < cs.length := by omega
    obtain ⟨u, hu, hr⟩ := hg 3 cs hcs i hi
    have hc := hs _ _ _ hu
    have h3 : vals[i]? = some u := by simpa [World.cell?, hh] using hc
    rw [Array.getElem?_eq_getElem h1] at h3
    have h4 : vals[i] = u := by simpa using h3
    have hi2 : i < Lib.pow10Tab.length := by omega
    have h5 : cs.getD i .nilptr = .int .u64 Lib.pow10Tab[i] := by
      rw [hce]; simp [List.getD, hi2]
    rw [h5] at hr
    have h6 := hr.int_inv
    rw [h4, h6]
    simp
theorem itoa_ac (n : Int) (h0 : -9223372036854775808 ≤ n) (h1 : n ≤ 9223372036854775807) : AC Tryd.prog gl 34 [.pv (.int .i64 n)] [] (.pv (.str (Lib.itoa n))) [] := by
  refine AC.ofCalls (ps := [.int .i64 n]) fun w M vs hl hr hs hg hx => ?_
  match vs, hl with
  | [v0], _ =>
    have e0 : v0 = _ := (hr 0 (by simp)).int_inv
    subst e0
    refine (Tryd.strconv_Itoa n h0 h1 w (tab_is w M hs hg hx)).mono ?_
    rintro e w' ⟨rfl, k, os, rfl⟩
    refine ⟨_, rfl, fun g D M' => V_str _ _ _ _, ?_⟩
    exact Lib.below_grow _ w (Nat.le_refl _) k os
end Go.Proofs.YtopbicbgolcmpaaDoor
