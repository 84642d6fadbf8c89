/- A part of the walk (Tryd_N12): its theorems have no condition beyond what they state. -/
import Derived.Test.YtfldnpkacelniaaDoorN11
import Derived.Test.YtfldnpkacelniaaDoorLib3
import Derived.Lib.AppendIntMem
set_option linter.unusedSimpArgs false
set_option linter.unusedVariables false
set_option linter.defProp false
namespace Go.Proofs.YtfldnpkacelniaaDoor
open Go Go.Abs Go.RowKit
theorem tab_is (w : World) (M : Mem) (hs : ∀ b i u, M b i = some u → w.cell? ⟨b, i, none⟩ = some u) (hg : GOK ⟨fun _ => none, gl, fun _ => 0, 0⟩ M)
    (hx : ∀ b cs, gl b = some cs → cs ≠ [] → ∃ vals T l, w.heap[b]? = some (.cells vals T l) ∧ vals.size = cs.length) : Lib.TabIs Tryd.prog w "internal/strconv.uint64pow10" .u64 Lib.pow10Tab := by
  obtain ⟨cs, hcs, hce⟩ : ∃ cs, gl 1 = some cs ∧ cs = Lib.pow10Tab.map fun z => PVal.int .u64 z := ⟨_, rfl, by kernel_rfl⟩
  have hlen : cs.length = Lib.pow10Tab.length := by rw [hce]; simp
  obtain ⟨vals, T, l, hh, hsz⟩ := hx 1 cs hcs (by rw [hce]; decide +kernel)
  have hgn : Tryd.prog.globalNamed "internal/strconv.uint64pow10" = some 1 := by kernel_rfl
  unfold Lib.TabIs World.var?
  rw [hgn]
  simp only [Option.bind_some, hh, Option.some.injEq]
  apply Array.ext
  · rw [hsz, hlen]; simp
  · intro i h1 h2
    have hi : i < cs.length := by omega
    obtain ⟨u, hu, hr⟩ := hg 1 cs hcs i hi
    have hc := hs _ _ _ hu
    have h3 : vals[i]? = some u := by simpa [World.cell?, hh] using hc
    rw [Array.getElem?_eq_getElem h1] at h3
    have h4 : vals[i] = u := by simpa using h3
    have hi2 : i < Lib.pow10Tab.length := by omega
    have h5 : cs.getD i .nilptr = .int .u64 Lib.pow10Tab[i] := by
      rw [hce]; simp [List.getD, hi2]
    rw [h5] at hr
    have h6 := hr.int_inv
    rw [h4, h6]
    simp
theorem itoa_ac (n : Int) (h0 : -9223372036854775808 ≤ n) (h1 : n ≤ 9223372036854775807) : AC Tryd.prog gl 34 [.pv (.int .i64 n)] [] (.pv (.str (Lib.itoa n))) [] := by
  refine AC.ofCalls (ps := [.int .i64 n]) fun w M vs hl hr hs hg hx => ?_
  match vs, hl with
  | [v0], _ =>
    have e0 : v0 = _ := (hr 0 (by simp)).int_inv
    subst e0
    refine (Tryd.strconv_Itoa n h0 h1 w (tab_is w M hs hg hx)).mono ?_
    rintro e w' ⟨rfl, k, os, rfl⟩
    refine ⟨_, rfl, fun g D M' => V_str _ _ _ _, ?_⟩
    exact Lib.below_grow _ w (Nat.le_refl _) k os
theorem join_ac (xs : List (List UInt8)) (sep : List UInt8) (hl : (Lib.join xs sep).length ≤ 140737488355328) (hn : xs.length ≤ 140737488355328) :
    AC Tryd.prog gl 35 [.row 0 (xs.map fun s => [PVal.str s]).length, .pv (.str sep)] [some (.row 1 (xs.map fun s => [.str s]))] (.pv (.str (Lib.join xs sep))) [some (.row 1 (xs.map fun s => [.str s]))] := by
  refine AC.ofRow (ps := [.str sep]) fun w M v0 vs hS hvl hr hs => ?_
  match vs, hvl with
  | [v1], _ =>
    have e1 : v1 = _ := (hr 0 (by simp)).str_inv
    subst e1
    rcases hS with ⟨rfl, hnil⟩ | ⟨b, c, rfl, hb, hc, hcells⟩
    · have hx : xs = [] := by simpa using hnil
      subst hx
      refine (Tryd.strings_Join_none none 0 ⟨sep.toArray⟩ w).mono ?_
      rintro e w' ⟨rfl, rfl⟩
      exact ⟨_, rfl, fun g D M' => V_str _ _ _ [], Below.refl _ _⟩
    · have hm : (xs.map fun x : List UInt8 => (⟨x.toArray⟩ : ByteArray)).map (·.data.toList) = xs := by simp [Function.comp_def]
      have key := Tryd.strings_Join b 0 c (xs.map fun x => ⟨x.toArray⟩) ⟨sep.toArray⟩ w (fun j x hx => ?_) hb (by simpa using hn) (by simpa using hc) (by rw [hm]; simpa using hl)
      · rw [hm] at key
        simp only [List.length_map] at key ⊢
        refine key.mono ?_
        rintro e w' ⟨rfl, hw⟩
        exact ⟨_, rfl, fun g D M' => V_str _ _ _ _, hw⟩
      · rw [List.getElem?_map] at hx
        cases hj : xs[j]? with
        | none => rw [hj] at hx; cases hx
        | some y =>
          rw [hj] at hx
          have hx' : (⟨y.toArray⟩ : ByteArray) = x := by simpa using hx
          subst hx'
          have hlt := (List.getElem?_eq_some_iff.1 hj).1
          obtain ⟨u, hu, hru⟩ := hcells j 0 (by simpa using hlt) (by omega)
          have hp : pcell (xs.map fun s => [PVal.str s]) j 0 = .str y := by simp [pcell, List.getD, List.getElem?_map, hj]
          rw [hp] at hru
          rw [hru.str_inv] at hu
          simpa using hu
end Go.Proofs.YtfldnpkacelniaaDoor
