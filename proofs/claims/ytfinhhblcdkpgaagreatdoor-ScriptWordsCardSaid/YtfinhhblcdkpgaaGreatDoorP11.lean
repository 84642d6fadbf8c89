/- A part of the walk (Tryz_P11): its theorems have no condition beyond what they state. -/
import Derived.Test.YtfinhhblcdkpgaaGreatDoorP10
import Derived.Test.YtfinhhblcdkpgaaGreatDoorLib4
set_option linter.unusedSimpArgs false
set_option linter.unusedVariables false
set_option linter.defProp false
namespace Go.Proofs.YtfinhhblcdkpgaaGreatDoor
open Go Go.Abs Go.RowKit
abbrev pgC (p : PgD) : AObj := .cells [.pv (.slice (p.vars.map encVar)), .pv (.slice (p.start.map encSm)), .pv (.slice (p.message.map encSm)), .pv (.slice (p.tick.map encSm)), .pv (.slice (p.input.map encSm))]
abbrev seC (z : Seen) : AObj := .cells [.pv (.bool z.s), .pv (.bool z.m), .pv (.bool z.t), .pv (.bool z.i)]
abbrev haO (l : List TkD) (n k : Nat) (p : PgD) (z : Seen) : List (Option AObj) := [some (psC l n k), some (pgC p), some (seC z)]
def RunH (l : List TkD) (n k : Nat) (p : PgD) (z : Seen) : PR (PgD × Seen) → Prop
  | .ok q k' => AC Tryz.prog gl 163 [.ref 0 0, .ref 1 0, .ref 2 0] (haO l n k p z) (.tup []) (haO l n k' q.1 q.2)
  | .bad k' => AP Tryz.prog gl 163 [.ref 0 0, .ref 1 0, .ref 2 0] (haO l n k p z) (fv l n k') [some (psC l n k'), some (pgC p), some .dead]
  | .out => True
def resH (site : Nat → Nat) (nobj : Nat) (rs : List ResultVar) (l : List TkD) (n : Nat) (p : PgD) : PR (PgD × Seen) → Exit → St → Prop
  | .ok q k' => retQ (envOf site nobj) 3 rs (.tup []) (haO l n k' q.1 q.2)
  | .bad k' => panQ 3 (fv l n k') [some (psC l n k'), some (pgC p), some .dead]
  | .out => fun _ _ => True
theorem bodyH {fn : Func} {code : Code} (site : Nat → Nat) (nobj : Nat) (hf : Tryz.prog.funcs[(163 : Nat)]? = some fn) (hb : fn.body = some code) {nt : Nat} (hn : fn.ntmps = nt) {rs : List ResultVar} (hrs : fn.results.toList = rs) {l : List TkD} {n k : Nat} {p : PgD} {z : Seen} {r : PR (PgD × Seen)}
    (hargs : ([.ref 0 0, .ref 1 0, .ref 2 0] : List AVal).length ≤ nt) (hobjs : (haO l n k p z).length ≤ nobj) (hr : r.isOut = false)
    (h : VC Tryz.prog (envOf site nobj) 3 code ⟨[.ref 0 0, .ref 1 0, .ref 2 0] ++ List.replicate (nt - ([.ref 0 0, .ref 1 0, .ref 2 0] : List AVal).length) .junk, haO l n k p z ++ List.replicate (nobj - (haO l n k p z).length) none⟩ (resH site nobj rs l n p r)) : RunH l n k p z r := by
  cases r with
  | ok e k' => exact bodyO site nobj hf hb hn hrs hargs hobjs h
  | bad k' => exact bodyP site nobj hf hb hn hargs hobjs h
  | out => cases hr
theorem B_ok {l : List TkD} {n k k' : Nat} {b : List Sm} (hl : l.length ≤ 100000) (hk : k ≤ l.length) (h : blockF l k = .ok b k') : AC Tryz.prog gl 186 [.ref 0 0] (psO l n k) (lsA b) (psO l n k') := by
  have := block_run l n k hl hk
  rw [h] at this
  exact this
theorem B_bad {l : List TkD} {n k k' : Nat} (hl : l.length ≤ 100000) (hk : k ≤ l.length) (h : blockF l k = .bad k') : AP Tryz.prog gl 186 [.ref 0 0] (psO l n k) (fv l n k') (psO l n k') := by
  have := block_run l n k hl hk
  rw [h] at this
  exact this
theorem blk_no {l : List TkD} {k : Nat} (hk : k ≤ l.length) : blockF l k ≠ .out := fun h => by
  have := blockF_out hk
  rw [h] at this
  cases this
def noW (l : List TkD) (z : Seen) (k i : Nat) : Prop := (0 < i → (!z.s && isT l k [115, 116, 97, 114, 116]) = false) ∧ (1 < i → (!z.m && isT l k [109, 101, 115, 115, 97, 103, 101]) = false) ∧ (2 < i → (!z.t && isT l k [116, 105, 99, 107]) = false) ∧ (3 < i → (!z.i && isT l k [105, 110, 112, 117, 116]) = false)
set_option maxRecDepth 100000 in
set_option maxHeartbeats 16000000 in
theorem handler_run (l : List TkD) (n k : Nat) (p : PgD) (z : Seen) (hl : l.length ≤ 100000) (hk : k ≤ l.length) : RunH l n k p z (hanS l p z k) := by
  have ho := hanS_out l p z k hk
  unfold hanS at ho ⊢
  cases r0 : expF l [111, 110] k with
  | out => exact absurd r0 exp_no
  | bad k' =>
    have q := expect_bad l n _ _ _ r0
    show AP _ _ _ _ _ _ _
    refine bodyP (fun _ => 3) 4 Tryz.func163 rfl Tryz.ntmps163 (by simp) (by simp) ?_
    (repeat' (first | simp -implicitDefEqProofs +contextual (maxSteps := 9000000) only [kx, ↓ky, tq163, simprocAttr, kz] | (with_reducible first | refine SB.c (fun _ => ?_) (fun _ => ?_) | refine REG.i ?_ | refine PREG.i ?_ | exact REG.j | refine fun (_ : List AVal) => ?_) | refine CK.dp [0] [] enters185 q ?_ | with_reducible refine AndI ?_ | omega))
    (refine panQ.mk [0, 1, 2] ?_ <;> simp [kwt])
  | ok u k1 =>
    have le0 := expLe hk (by simp) r0
    have c0 := expect_ok l n _ _ _ r0 (by omega)
    rw [r0] at ho
    simp only [PR.bind] at ho ⊢
    have hB : hanB l p z k1 = hanB l p z k1 := rfl
    generalize hR : hanB l p z k1 = R at ho ⊢
    refine bodyH (fun _ => 3) 4 Tryz.func163 rfl Tryz.ntmps163 (by rw [Tryz.results163]) (by simp) (by simp) (by assumption) ?_
    (repeat' (first | simp -implicitDefEqProofs +contextual (maxSteps := 9000000) only [kx, ↓ky, tq163, simprocAttr, kz] | (with_reducible first | refine SB.c (fun _ => ?_) (fun _ => ?_) | refine REG.i ?_ | refine PREG.i ?_ | exact REG.j | refine fun (_ : List AVal) => ?_) | refine CK.dx [0] [] enters185 c0 ?_ | with_reducible refine AndI ?_ | omega))
    refine loopV (ι := {i : Nat // i ≤ 4 ∧ noW l z k1 i}) (fun i => ⟨(.ref 0 0 :: .ref 1 0 :: .ref 2 0 :: .junk :: .junk :: .junk :: .ref 3 0 :: .junk :: .junk :: .junk :: .junk :: .junk :: .junk :: .junk :: .junk :: .junk :: .junk :: .junk :: .junk :: .junk :: .junk :: .junk :: .junk :: .junk :: .agg [.pv (.str [115, 116, 97, 114, 116]), .pv (.str [109, 101, 115, 115, 97, 103, 101]), .pv (.str [116, 105, 99, 107]), .pv (.str [105, 110, 112, 117, 116])] :: .pv (.int .i64 i.1) :: .junk :: .junk :: .junk :: .junk :: .junk :: .junk :: .junk :: .junk :: .junk :: .junk :: .junk :: .junk :: .junk :: .junk :: .junk :: .junk :: .junk :: .junk :: .junk :: .junk :: .junk :: .junk :: .junk :: .junk :: .junk :: .junk :: .junk :: []), [some (psC l n k1), some (pgC p), some (seC z), some (.cells [.ref 1 1, .ref 1 2, .ref 1 3, .ref 1 4])]⟩) (fun i => 4 - i.1) ⟨0, by omega, ⟨by omega, by omega, by omega, by omega⟩⟩ WFn ?_
    rintro ⟨i, hi, w0, w1, w2, w3⟩
    have hcs : i = 0 ∨ i = 1 ∨ i = 2 ∨ i = 3 ∨ i = 4 := by omega
    rcases hcs with rfl | rfl | rfl | rfl | rfl
    · -- start
      have hw : IntKind.i64.wrap 1 = 1 := by decide
      by_cases hz : z.s = true
      · (repeat' (first | simp -implicitDefEqProofs +contextual (maxSteps := 9000000) only [kx, ↓ky, tq163, simprocAttr, hz] | (with_reducible first | refine SB.c (fun _ => ?_) (fun _ => ?_) | refine REG.i ?_ | refine PREG.i ?_ | exact REG.j | refine fun (_ : List AVal) => ?_) | with_reducible refine AndI ?_ | omega))
        exact ⟨⟨1, by omega, ⟨fun _ => by rw [hz]; rfl, fun h => by omega, fun h => by omega, fun h => by omega⟩⟩, (WFe (by simp [kwf, hz, hw]) (by simp [kwf, hz, hw])), by show 4 - 1 < 4 - 0; decide⟩
      · replace hz : z.s = false := by simpa using hz
        by_cases e0 : isT l k1 [115, 116, 97, 114, 116] = true
        · have t := accept_t l n k1 _ e0 (by omega)
          have hlt := isT_lt e0 (by simp)
          have hc : (!z.s && isT l k1 [115, 116, 97, 114, 116]) = true := by rw [hz, e0]; rfl
          unfold hanB at hR
          simp only [hc, if_true, if_false, Bool.false_eq_true, ↓reduceIte] at hR
          cases r1 : blockF l (k1 + 1) with
          | out => exact absurd r1 (blk_no (by omega))
          | bad k2 =>
            have q := B_bad (n := n) hl (by omega) r1
            rw [r1] at hR
            replace hR : PR.bad k2 = R := hR
            subst hR
            (repeat' (first | simp -implicitDefEqProofs +contextual (maxSteps := 9000000) only [kx, ↓ky, tq163, simprocAttr, hz, kz] | (with_reducible first | refine SB.c (fun _ => ?_) (fun _ => ?_) | refine REG.i ?_ | refine PREG.i ?_ | exact REG.j | refine fun (_ : List AVal) => ?_) | refine CK.dx [0] [] enters182 t ?_ | refine CK.dp [0] [] enters186 q ?_ | with_reducible refine AndI ?_ | omega))
            (refine panQ.mk [0, 1, 2] ?_ <;> simp [kwt])
          | ok b k2 =>
            have q := B_ok (n := n) hl (by omega) r1
            rw [r1] at hR
            replace hR : PR.ok ({ p with start := b }, { z with s := true }) k2 = R := hR
            subst hR
            (repeat' (first | simp -implicitDefEqProofs +contextual (maxSteps := 9000000) only [kx, ↓ky, tq163, simprocAttr, hz, lsA, kz] | (with_reducible first | refine SB.c (fun _ => ?_) (fun _ => ?_) | refine REG.i ?_ | refine PREG.i ?_ | exact REG.j | refine fun (_ : List AVal) => ?_) | refine CK.dx [0] [] enters182 t ?_ | refine CK.dx [0] [] enters186 q ?_ | with_reducible refine AndI ?_ | omega))
            (refine retQ.mk [0, 1, 2] ?_ ?_ <;> simp [kwr, tq163])
        · have t := accept_f l n k1 _ (by simpa using e0)
          replace e0 : isT l k1 [115, 116, 97, 114, 116] = false := by simpa using e0
          (repeat' (first | simp -implicitDefEqProofs +contextual (maxSteps := 9000000) only [kx, ↓ky, tq163, simprocAttr, hz, kz] | (with_reducible first | refine SB.c (fun _ => ?_) (fun _ => ?_) | refine REG.i ?_ | refine PREG.i ?_ | exact REG.j | refine fun (_ : List AVal) => ?_) | refine CK.dx [0] [] enters182 t ?_ | with_reducible refine AndI ?_ | omega))
          exact ⟨⟨1, by omega, ⟨fun _ => by rw [e0, Bool.and_false], fun h => by omega, fun h => by omega, fun h => by omega⟩⟩, (WFe (by simp [kwf, hz, hw]) (by simp [kwf, hz, hw])), by show 4 - 1 < 4 - 0; decide⟩
    · -- message
      replace w0 := w0 (by omega)
      have hw : IntKind.i64.wrap 2 = 2 := by decide
      by_cases hz : z.m = true
      · (repeat' (first | simp -implicitDefEqProofs +contextual (maxSteps := 9000000) only [kx, ↓ky, tq163, simprocAttr, hz] | (with_reducible first | refine SB.c (fun _ => ?_) (fun _ => ?_) | refine REG.i ?_ | refine PREG.i ?_ | exact REG.j | refine fun (_ : List AVal) => ?_) | with_reducible refine AndI ?_ | omega))
        exact ⟨⟨2, by omega, ⟨fun _ => w0, fun _ => by rw [hz]; rfl, fun h => by omega, fun h => by omega⟩⟩, (WFe (by simp [kwf, hz, hw]) (by simp [kwf, hz, hw])), by show 4 - 2 < 4 - 1; decide⟩
      · replace hz : z.m = false := by simpa using hz
        by_cases e0 : isT l k1 [109, 101, 115, 115, 97, 103, 101] = true
        · have t := accept_t l n k1 _ e0 (by omega)
          have hlt := isT_lt e0 (by simp)
          have hc : (!z.m && isT l k1 [109, 101, 115, 115, 97, 103, 101]) = true := by rw [hz, e0]; rfl
          unfold hanB at hR
          simp only [w0, hc, if_true, if_false, Bool.false_eq_true, ↓reduceIte] at hR
          cases r1 : blockF l (k1 + 1) with
          | out => exact absurd r1 (blk_no (by omega))
          | bad k2 =>
            have q := B_bad (n := n) hl (by omega) r1
            rw [r1] at hR
            replace hR : PR.bad k2 = R := hR
            subst hR
            (repeat' (first | simp -implicitDefEqProofs +contextual (maxSteps := 9000000) only [kx, ↓ky, tq163, simprocAttr, hz, kz] | (with_reducible first | refine SB.c (fun _ => ?_) (fun _ => ?_) | refine REG.i ?_ | refine PREG.i ?_ | exact REG.j | refine fun (_ : List AVal) => ?_) | refine CK.dx [0] [] enters182 t ?_ | refine CK.dp [0] [] enters186 q ?_ | with_reducible refine AndI ?_ | omega))
            (refine panQ.mk [0, 1, 2] ?_ <;> simp [kwt])
          | ok b k2 =>
            have q := B_ok (n := n) hl (by omega) r1
            rw [r1] at hR
            replace hR : PR.ok ({ p with message := b }, { z with m := true }) k2 = R := hR
            subst hR
            (repeat' (first | simp -implicitDefEqProofs +contextual (maxSteps := 9000000) only [kx, ↓ky, tq163, simprocAttr, hz, lsA, kz] | (with_reducible first | refine SB.c (fun _ => ?_) (fun _ => ?_) | refine REG.i ?_ | refine PREG.i ?_ | exact REG.j | refine fun (_ : List AVal) => ?_) | refine CK.dx [0] [] enters182 t ?_ | refine CK.dx [0] [] enters186 q ?_ | with_reducible refine AndI ?_ | omega))
            (refine retQ.mk [0, 1, 2] ?_ ?_ <;> simp [kwr, tq163])
        · have t := accept_f l n k1 _ (by simpa using e0)
          replace e0 : isT l k1 [109, 101, 115, 115, 97, 103, 101] = false := by simpa using e0
          (repeat' (first | simp -implicitDefEqProofs +contextual (maxSteps := 9000000) only [kx, ↓ky, tq163, simprocAttr, hz, kz] | (with_reducible first | refine SB.c (fun _ => ?_) (fun _ => ?_) | refine REG.i ?_ | refine PREG.i ?_ | exact REG.j | refine fun (_ : List AVal) => ?_) | refine CK.dx [0] [] enters182 t ?_ | with_reducible refine AndI ?_ | omega))
          exact ⟨⟨2, by omega, ⟨fun _ => w0, fun _ => by rw [e0, Bool.and_false], fun h => by omega, fun h => by omega⟩⟩, (WFe (by simp [kwf, hz, hw]) (by simp [kwf, hz, hw])), by show 4 - 2 < 4 - 1; decide⟩
    · -- tick
      replace w0 := w0 (by omega)
      replace w1 := w1 (by omega)
      have hw : IntKind.i64.wrap 3 = 3 := by decide
      by_cases hz : z.t = true
      · (repeat' (first | simp -implicitDefEqProofs +contextual (maxSteps := 9000000) only [kx, ↓ky, tq163, simprocAttr, hz] | (with_reducible first | refine SB.c (fun _ => ?_) (fun _ => ?_) | refine REG.i ?_ | refine PREG.i ?_ | exact REG.j | refine fun (_ : List AVal) => ?_) | with_reducible refine AndI ?_ | omega))
        exact ⟨⟨3, by omega, ⟨fun _ => w0, fun _ => w1, fun _ => by rw [hz]; rfl, fun h => by omega⟩⟩, (WFe (by simp [kwf, hz, hw]) (by simp [kwf, hz, hw])), by show 4 - 3 < 4 - 2; decide⟩
      · replace hz : z.t = false := by simpa using hz
        by_cases e0 : isT l k1 [116, 105, 99, 107] = true
        · have t := accept_t l n k1 _ e0 (by omega)
          have hlt := isT_lt e0 (by simp)
          have hc : (!z.t && isT l k1 [116, 105, 99, 107]) = true := by rw [hz, e0]; rfl
          unfold hanB at hR
          simp only [w0, w1, hc, if_true, if_false, Bool.false_eq_true, ↓reduceIte] at hR
          cases r1 : blockF l (k1 + 1) with
          | out => exact absurd r1 (blk_no (by omega))
          | bad k2 =>
            have q := B_bad (n := n) hl (by omega) r1
            rw [r1] at hR
            replace hR : PR.bad k2 = R := hR
            subst hR
            (repeat' (first | simp -implicitDefEqProofs +contextual (maxSteps := 9000000) only [kx, ↓ky, tq163, simprocAttr, hz, kz] | (with_reducible first | refine SB.c (fun _ => ?_) (fun _ => ?_) | refine REG.i ?_ | refine PREG.i ?_ | exact REG.j | refine fun (_ : List AVal) => ?_) | refine CK.dx [0] [] enters182 t ?_ | refine CK.dp [0] [] enters186 q ?_ | with_reducible refine AndI ?_ | omega))
            (refine panQ.mk [0, 1, 2] ?_ <;> simp [kwt])
          | ok b k2 =>
            have q := B_ok (n := n) hl (by omega) r1
            rw [r1] at hR
            replace hR : PR.ok ({ p with tick := b }, { z with t := true }) k2 = R := hR
            subst hR
            (repeat' (first | simp -implicitDefEqProofs +contextual (maxSteps := 9000000) only [kx, ↓ky, tq163, simprocAttr, hz, lsA, kz] | (with_reducible first | refine SB.c (fun _ => ?_) (fun _ => ?_) | refine REG.i ?_ | refine PREG.i ?_ | exact REG.j | refine fun (_ : List AVal) => ?_) | refine CK.dx [0] [] enters182 t ?_ | refine CK.dx [0] [] enters186 q ?_ | with_reducible refine AndI ?_ | omega))
            (refine retQ.mk [0, 1, 2] ?_ ?_ <;> simp [kwr, tq163])
        · have t := accept_f l n k1 _ (by simpa using e0)
          replace e0 : isT l k1 [116, 105, 99, 107] = false := by simpa using e0
          (repeat' (first | simp -implicitDefEqProofs +contextual (maxSteps := 9000000) only [kx, ↓ky, tq163, simprocAttr, hz, kz] | (with_reducible first | refine SB.c (fun _ => ?_) (fun _ => ?_) | refine REG.i ?_ | refine PREG.i ?_ | exact REG.j | refine fun (_ : List AVal) => ?_) | refine CK.dx [0] [] enters182 t ?_ | with_reducible refine AndI ?_ | omega))
          exact ⟨⟨3, by omega, ⟨fun _ => w0, fun _ => w1, fun _ => by rw [e0, Bool.and_false], fun h => by omega⟩⟩, (WFe (by simp [kwf, hz, hw]) (by simp [kwf, hz, hw])), by show 4 - 3 < 4 - 2; decide⟩
    · -- input
      replace w0 := w0 (by omega)
      replace w1 := w1 (by omega)
      replace w2 := w2 (by omega)
      have hw : IntKind.i64.wrap 4 = 4 := by decide
      by_cases hz : z.i = true
      · (repeat' (first | simp -implicitDefEqProofs +contextual (maxSteps := 9000000) only [kx, ↓ky, tq163, simprocAttr, hz] | (with_reducible first | refine SB.c (fun _ => ?_) (fun _ => ?_) | refine REG.i ?_ | refine PREG.i ?_ | exact REG.j | refine fun (_ : List AVal) => ?_) | with_reducible refine AndI ?_ | omega))
        exact ⟨⟨4, by omega, ⟨fun _ => w0, fun _ => w1, fun _ => w2, fun _ => by rw [hz]; rfl⟩⟩, (WFe (by simp [kwf, hz, hw]) (by simp [kwf, hz, hw])), by show 4 - 4 < 4 - 3; decide⟩
      · replace hz : z.i = false := by simpa using hz
        by_cases e0 : isT l k1 [105, 110, 112, 117, 116] = true
        · have t := accept_t l n k1 _ e0 (by omega)
          have hlt := isT_lt e0 (by simp)
          have hc : (!z.i && isT l k1 [105, 110, 112, 117, 116]) = true := by rw [hz, e0]; rfl
          unfold hanB at hR
          simp only [w0, w1, w2, hc, if_true, if_false, Bool.false_eq_true, ↓reduceIte] at hR
          cases r1 : blockF l (k1 + 1) with
          | out => exact absurd r1 (blk_no (by omega))
          | bad k2 =>
            have q := B_bad (n := n) hl (by omega) r1
            rw [r1] at hR
            replace hR : PR.bad k2 = R := hR
            subst hR
            (repeat' (first | simp -implicitDefEqProofs +contextual (maxSteps := 9000000) only [kx, ↓ky, tq163, simprocAttr, hz, kz] | (with_reducible first | refine SB.c (fun _ => ?_) (fun _ => ?_) | refine REG.i ?_ | refine PREG.i ?_ | exact REG.j | refine fun (_ : List AVal) => ?_) | refine CK.dx [0] [] enters182 t ?_ | refine CK.dp [0] [] enters186 q ?_ | with_reducible refine AndI ?_ | omega))
            (refine panQ.mk [0, 1, 2] ?_ <;> simp [kwt])
          | ok b k2 =>
            have q := B_ok (n := n) hl (by omega) r1
            rw [r1] at hR
            replace hR : PR.ok ({ p with input := b }, { z with i := true }) k2 = R := hR
            subst hR
            (repeat' (first | simp -implicitDefEqProofs +contextual (maxSteps := 9000000) only [kx, ↓ky, tq163, simprocAttr, hz, lsA, kz] | (with_reducible first | refine SB.c (fun _ => ?_) (fun _ => ?_) | refine REG.i ?_ | refine PREG.i ?_ | exact REG.j | refine fun (_ : List AVal) => ?_) | refine CK.dx [0] [] enters182 t ?_ | refine CK.dx [0] [] enters186 q ?_ | with_reducible refine AndI ?_ | omega))
            (refine retQ.mk [0, 1, 2] ?_ ?_ <;> simp [kwr, tq163])
        · have t := accept_f l n k1 _ (by simpa using e0)
          replace e0 : isT l k1 [105, 110, 112, 117, 116] = false := by simpa using e0
          (repeat' (first | simp -implicitDefEqProofs +contextual (maxSteps := 9000000) only [kx, ↓ky, tq163, simprocAttr, hz, kz] | (with_reducible first | refine SB.c (fun _ => ?_) (fun _ => ?_) | refine REG.i ?_ | refine PREG.i ?_ | exact REG.j | refine fun (_ : List AVal) => ?_) | refine CK.dx [0] [] enters182 t ?_ | with_reducible refine AndI ?_ | omega))
          exact ⟨⟨4, by omega, ⟨fun _ => w0, fun _ => w1, fun _ => w2, fun _ => by rw [e0, Bool.and_false]⟩⟩, (WFe (by simp [kwf, hz, hw]) (by simp [kwf, hz, hw])), by show 4 - 4 < 4 - 3; decide⟩
    · -- no more words
      replace w0 := w0 (by omega)
      replace w1 := w1 (by omega)
      replace w2 := w2 (by omega)
      replace w3 := w3 (by omega)
      unfold hanB at hR
      simp only [w0, w1, w2, w3, if_false, Bool.false_eq_true, ↓reduceIte] at hR
      subst hR
      have q := fail_ap l n k1
      (repeat' (first | simp -implicitDefEqProofs +contextual (maxSteps := 9000000) only [kx, ↓ky, tq163, simprocAttr, kz] | (with_reducible first | refine SB.c (fun _ => ?_) (fun _ => ?_) | refine REG.i ?_ | refine PREG.i ?_ | exact REG.j | refine fun (_ : List AVal) => ?_) | refine CK.dp [0] [] enters187 q ?_ | with_reducible refine AndI ?_ | omega))
      (refine panQ.mk [0, 1, 2] ?_ <;> simp [kwt])
end Go.Proofs.YtfinhhblcdkpgaaGreatDoor
