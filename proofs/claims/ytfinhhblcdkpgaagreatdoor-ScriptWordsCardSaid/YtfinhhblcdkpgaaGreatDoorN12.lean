/- A part of the walk (Tryz_N5): its theorems have no condition beyond what they state. -/
import Derived.Test.YtfinhhblcdkpgaaGreatDoorN4
import Derived.Test.YtfinhhblcdkpgaaGreatDoorLib3
import Derived.Lib.AppendIntMem
set_option linter.unusedSimpArgs false
set_option linter.unusedVariables false
set_option linter.defProp false
namespace Go.Proofs.YtfinhhblcdkpgaaGreatDoor
open Go Go.Abs Go.RowKit
end Go.Proofs.YtfinhhblcdkpgaaGreatDoor
namespace Go.Proofs.YtfinhhblcdkpgaaGreatDoor
open Go Go.Abs Go.RowKit
end Go.Proofs.YtfinhhblcdkpgaaGreatDoor
namespace Go.Proofs.YtfinhhblcdkpgaaGreatDoor
open Go Go.Abs Go.RowKit
end Go.Proofs.YtfinhhblcdkpgaaGreatDoor
namespace Go.Proofs.YtfinhhblcdkpgaaGreatDoor
open Go Go.Abs Go.RowKit
end Go.Proofs.YtfinhhblcdkpgaaGreatDoor
namespace Go.Proofs.YtfinhhblcdkpgaaGreatDoor
open Go Go.Abs Go.RowKit
theorem tab_is (w : World) (M : Mem) (hs : ∀ b i u, M b i = some u → w.cell? ⟨b, i, none⟩ = some u) (hg : GOK ⟨fun _ => none, gl, fun _ => 0, 0⟩ M)
    (hx : ∀ b cs, gl b = some cs → cs ≠ [] → ∃ vals T l, w.heap[b]? = some (.cells vals T l) ∧ vals.size = cs.length) : Lib.TabIs Tryz.prog w "internal/strconv.uint64pow10" .u64 Lib.pow10Tab := by
  obtain ⟨cs, hcs, hce⟩ : ∃ cs, gl 4 = some cs ∧ cs = Lib.pow10Tab.map fun z => PVal.int .u64 z := ⟨_, rfl, by kernel_rfl⟩
  have hlen : cs.length = Lib.pow10Tab.length := by rw [hce]; simp
  obtain ⟨vals, T, l, hh, hsz⟩ := hx 4 cs hcs (by rw [hce]; decide +kernel)
  have hgn : Tryz.prog.globalNamed "internal/strconv.uint64pow10" = some 4 := by kernel_rfl
  unfold Lib.TabIs World.var?
  rw [hgn]
  simp only [Option.bind_some, hh, Option.some.injEq]
  apply Array.ext
  · rw [hsz, hlen]; simp
  · intro i h1 h2
    have hi : i < cs.length := by omega
    obtain ⟨u, hu, hr⟩ := hg 4 cs hcs i hi
    have hc := hs _ _ _ hu
    have h3 : vals[i]? = some u := by simpa [World.cell?, hh] using hc
    rw [Array.getElem?_eq_getElem h1] at h3
    have h4 : vals[i] = u := by simpa using h3
    have hi2 : i < Lib.pow10Tab.length := by omega
    have h5 : cs.getD i .nilptr = .int .u64 Lib.pow10Tab[i] := by
      rw [hce]; simp [List.getD, hi2]
    rw [h5] at hr
    have h6 := hr.int_inv
    rw [h4, h6]
    simp
end Go.Proofs.YtfinhhblcdkpgaaGreatDoor
