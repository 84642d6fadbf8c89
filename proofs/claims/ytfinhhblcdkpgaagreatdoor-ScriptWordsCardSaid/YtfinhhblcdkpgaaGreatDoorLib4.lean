/- A sound walk of the program by abstract states, part 4: its theorems have no condition beyond what they state. -/
import Derived.Test.YtfinhhblcdkpgaaGreatDoorLib3
import Derived.Test.YtfinhhblcdkpgaaGreatDoorLib2
import Derived.ChangeSame
import Derived.ChangeStays
import Derived.WideKeyArgs
import Derived.Deep.Slices
import Derived.ProofKit
import Derived.WalkKit
import Derived.OpenShut
import Derived.ChangeMaps5
import Derived.ChangeSlices
import Derived.HandedShaped
import Derived.Handed
import Derived.Shelf.Vars
set_option linter.unusedSimpArgs false
set_option linter.unusedVariables false
set_option linter.defProp false
namespace Go.Abs
open Go
variable (l : List TkD)
theorem exF_bin (n : Nat) (lv : Nat) (k : Nat) : exF l (n + 1) (.bin lv) k = (if lv = 5 then exF l n .un k else (exF l n (.bin (lv + 1)) k).bind fun e k' => exF l n (.loop lv e) k') := rfl
theorem exF_loop (n : Nat) (lv : Nat) (e : Ex) (k : Nat) : exF l (n + 1) (.loop lv e) k = (if opF lv (peekF l k) = 0 then .ok e k else (exF l n (.bin (lv + 1)) (k + 1)).bind fun e2 k2 => exF l n (.loop lv (exB (opF lv (peekF l k)) e e2)) k2) := rfl
theorem exF_un (n : Nat) (k : Nat) : exF l (n + 1) .un k = (if isT l k [45] then (exF l n .un (k + 1)).bind fun e k' => .ok (exU 8 e) k' else if isT l k [33] then (exF l n .un (k + 1)).bind fun e k' => .ok (exU 9 e) k' else exF l n .prim k) := rfl
theorem exF_prim (n : Nat) (k : Nat) : exF l (n + 1) .prim k = (if isNum l k then (nmF l 0 k).bind fun v k' => .ok (exC v) k' else if isT l k [115, 101, 108, 102] then .ok (exK 4) (k + 1) else if isT l k [112, 114, 111, 99, 115] then .ok (exK 5) (k + 1) else if isT l k [102, 114, 111, 109] then .ok (exK 6) (k + 1) else if isT l k [118, 97, 108, 117, 101] then .ok (exK 7) (k + 1) else if isT l k [40] then (exF l n (.bin 0) (k + 1)).bind fun e k' => (expF l [41] k').bind fun _ k2 => .ok e k2 else (pnmF l k).bind fun nm k1 => if isT l k1 [91] then (exF l n (.bin 0) (k1 + 1)).bind fun e k' => (expF l [93] k').bind fun _ k2 => .ok (exI nm e) k2 else .ok (exN nm) k1) := rfl
theorem smF_block (n : Nat) (k : Nat) : smF l (n + 1) .block k = ((expF l [123] k).bind fun _ k1 => smF l n (.stmts []) k1) := rfl
theorem smF_stmts (n : Nat) (acc : List Sm) (k : Nat) : smF l (n + 1) (.stmts acc) k = (if isT l k [125] then .ok acc (k + 1) else (smF l n .stmt k).bind fun s k1 => smF l n (.stmts (acc ++ s)) k1) := rfl
theorem smF_stmt (n : Nat) (k : Nat) : smF l (n + 1) .stmt k = (if isT l k [105, 102] then (pexF l (k + 1)).bind fun e k1 => (smF l n .block k1).bind fun b k2 => if isT l k2 [101, 108, 115, 101] then (smF l n .block (k2 + 1)).bind fun c k3 => .ok [smE 3 [] exZ e b c] k3 else .ok [smE 3 [] exZ e b []] k2 else if isT l k [119, 104, 105, 108, 101] then (pexF l (k + 1)).bind fun e k1 => (smF l n .block k1).bind fun b k2 => .ok [smE 4 [] exZ e b []] k2 else if isT l k [115, 101, 110, 100] then (pexF l (k + 1)).bind fun p k1 => (expF l [44] k1).bind fun _ k2 => (pexF l k2).bind fun e k3 => (expF l [59] k3).bind fun _ k4 => .ok [smE 5 [] p e [] []] k4 else if isT l k [111, 117, 116, 112, 117, 116] then (pexF l (k + 1)).bind fun e k1 => (expF l [59] k1).bind fun _ k2 => .ok [smE 6 [] exZ e [] []] k2 else (pnmF l k).bind fun nm k1 => if isT l k1 [91] then (pexF l (k1 + 1)).bind fun p k2 => (expF l [93] k2).bind fun _ k3 => (expF l [61] k3).bind fun _ k4 => (pexF l k4).bind fun e k5 => (expF l [59] k5).bind fun _ k6 => .ok [smE 2 nm p e [] []] k6 else (expF l [61] k1).bind fun _ k4 => (pexF l k4).bind fun e k5 => (expF l [59] k5).bind fun _ k6 => .ok [smE 1 nm exZ e [] []] k6) := rfl
end Go.Abs
namespace Go.Abs
open Go
section
variable {l : List TkD}
theorem PR.bind_ok {α β : Type} {r : PR α} {f : α → Nat → PR β} {b : β} {k : Nat} (h : r.bind f = .ok b k) : ∃ a k', r = .ok a k' ∧ f a k' = .ok b k := by
  cases r with
  | ok a k' => exact ⟨a, k', rfl, h⟩
  | bad k' => cases h
  | out => cases h
def Ns.need (m : Nat) : Ns → Nat
  | .block => 3 * m + 1
  | .stmts _ => 3 * m + 3
  | .stmt => 3 * m + 2
def Ns.strict : Ns → Bool
  | _ => true
theorem pexF_on {k : Nat} (hk : k ≤ l.length) : (pexF l k).on k l.length := (pexF_past hk).on
theorem smF_past : ∀ (n : Nat) (nt : Ns) (k : Nat), k ≤ l.length → (smF l n nt k).past k l.length
  | 0, nt, k, hk => by cases nt <;> trivial
  | n + 1, .block, k, hk => by
    rw [smF_block]
    exact PR.past.bind (expF_past hk (by simp)) (fun _ k1 _ h1 => (smF_past n (.stmts []) k1 h1).on)
  | n + 1, .stmts acc, k, hk => by
    rw [smF_stmts]
    split
    · rename_i h
      have := isT_lt h (by simp)
      exact ⟨by omega, by omega⟩
    · exact PR.past.bind (smF_past n .stmt k hk) (fun s k1 _ h1 => (smF_past n _ k1 h1).on)
  | n + 1, .stmt, k, hk => by
    rw [smF_stmt]
    have semi : ∀ (s : List Sm) (k5 : Nat), k5 ≤ l.length → ((expF l [59] k5).bind fun _ k6 => PR.ok s k6).on k5 l.length := fun s k5 h5 => PR.on.bind (expF_past h5 (by simp)).on (fun _ k6 _ h6 => PR.ok_on _ h6)
    have valu : ∀ (g : Ex → List Sm) (k4 : Nat), k4 ≤ l.length → ((pexF l k4).bind fun e k5 => (expF l [59] k5).bind fun _ k6 => PR.ok (g e) k6).on k4 l.length := fun g k4 h4 => PR.on.bind (pexF_on h4) (fun e k5 _ h5 => semi _ _ h5)
    split
    · rename_i h
      have := isT_lt h (by simp)
      refine PR.on.lt (PR.on.bind (pexF_on (k := k + 1) (by omega)) (fun e k1 _ h1 => PR.on.bind (smF_past n .block k1 h1).on (fun b k2 _ h2 => ?_))) (by omega)
      split
      · rename_i h3
        have := isT_lt h3 (by simp)
        exact PR.on.le (PR.on.bind (smF_past n .block (k2 + 1) (by omega)).on (fun c k3 _ h3 => PR.ok_on _ h3)) (by omega)
      · exact PR.ok_on _ h2
    split
    · rename_i h
      have := isT_lt h (by simp)
      exact PR.on.lt (PR.on.bind (pexF_on (k := k + 1) (by omega)) (fun e k1 _ h1 => PR.on.bind (smF_past n .block k1 h1).on (fun b k2 _ h2 => PR.ok_on _ h2))) (by omega)
    split
    · rename_i h
      have := isT_lt h (by simp)
      exact PR.on.lt (PR.on.bind (pexF_on (k := k + 1) (by omega)) (fun p k1 _ h1 => PR.on.bind (expF_past h1 (by simp)).on (fun _ k2 _ h2 => valu _ k2 h2))) (by omega)
    split
    · rename_i h
      have := isT_lt h (by simp)
      exact PR.on.lt (valu _ (k + 1) (by omega)) (by omega)
    · refine PR.past.bind (pnmF_past hk) (fun nm k1 _ h1 => ?_)
      split
      · rename_i h
        have := isT_lt h (by simp)
        exact PR.on.le (PR.on.bind (pexF_on (k := k1 + 1) (by omega)) (fun p k2 _ h2 => PR.on.bind (expF_past h2 (by simp)).on (fun _ k3 _ h3 => PR.on.bind (expF_past h3 (by simp)).on (fun _ k4 _ h4 => valu _ k4 h4)))) (by omega)
      · exact PR.on.bind (expF_past h1 (by simp)).on (fun _ k4 _ h4 => valu _ k4 h4)
theorem smF_out : ∀ (n : Nat) (nt : Ns) (k : Nat), k ≤ l.length → nt.need (l.length - k) ≤ n → (smF l n nt k).isOut = false
  | 0, nt, k, hk, h => by cases nt <;> simp only [Ns.need] at h <;> omega
  | n + 1, .block, k, hk, h => by
    simp only [Ns.need] at h
    rw [smF_block]
    refine PR.bind_out expF_out (fun _ k1 he => ?_)
    have h1 := expF_past (l := l) (s := [123]) hk (by simp)
    rw [he] at h1
    exact smF_out n (.stmts []) k1 h1.2 (by have := h1.1; have := h1.2; simp only [Ns.need]; omega)
  | n + 1, .stmts acc, k, hk, h => by
    simp only [Ns.need] at h
    rw [smF_stmts]
    split
    · rfl
    · refine PR.bind_out (smF_out n .stmt k hk (by simp only [Ns.need]; omega)) (fun s k1 he => ?_)
      have h1 := smF_past (l := l) n .stmt k hk
      rw [he] at h1
      exact smF_out n _ k1 h1.2 (by have := h1.1; have := h1.2; simp only [Ns.need]; omega)
  | n + 1, .stmt, k, hk, h => by
    simp only [Ns.need] at h
    rw [smF_stmt]
    have semi : ∀ (s : List Sm) (k5 : Nat), ((expF l [59] k5).bind fun _ k6 => PR.ok s k6).isOut = false := fun s k5 => PR.bind_out expF_out (fun _ _ _ => rfl)
    have valu : ∀ (g : Ex → List Sm) (k4 : Nat), k4 ≤ l.length → ((pexF l k4).bind fun e k5 => (expF l [59] k5).bind fun _ k6 => PR.ok (g e) k6).isOut = false := fun g k4 h4 => PR.bind_out (pexF_out h4) (fun e k5 _ => semi _ _)
    have okx : ∀ {k k1 : Nat} {e : Ex}, k ≤ l.length → pexF l k = .ok e k1 → k < k1 ∧ k1 ≤ l.length := fun hk he => by have := pexF_past (l := l) hk; rw [he] at this; exact this
    have oke : ∀ {s : List UInt8} {k k1 : Nat} {u : Unit}, k ≤ l.length → s ≠ [] → expF l s k = .ok u k1 → k < k1 ∧ k1 ≤ l.length := fun hk hs he => by have := expF_past (l := l) hk hs; rw [he] at this; exact this
    have okb : ∀ {k k1 : Nat} {b : List Sm}, k ≤ l.length → smF l n .block k = .ok b k1 → k < k1 ∧ k1 ≤ l.length := fun hk he => by have := smF_past (l := l) n .block _ hk; rw [he] at this; exact this
    split
    · rename_i h0
      have := isT_lt h0 (by simp)
      refine PR.bind_out (pexF_out (by omega)) (fun e k1 he => ?_)
      have h1 := okx (by omega) he
      refine PR.bind_out (smF_out n .block k1 h1.2 (by simp only [Ns.need]; omega)) (fun b k2 hb => ?_)
      have h2 := okb h1.2 hb
      split
      · rename_i h3
        have := isT_lt h3 (by simp)
        exact PR.bind_out (smF_out n .block (k2 + 1) (by omega) (by simp only [Ns.need]; omega)) (fun _ _ _ => rfl)
      · rfl
    split
    · rename_i h0
      have := isT_lt h0 (by simp)
      refine PR.bind_out (pexF_out (by omega)) (fun e k1 he => ?_)
      have h1 := okx (by omega) he
      exact PR.bind_out (smF_out n .block k1 h1.2 (by simp only [Ns.need]; omega)) (fun _ _ _ => rfl)
    split
    · rename_i h0
      have := isT_lt h0 (by simp)
      refine PR.bind_out (pexF_out (by omega)) (fun p k1 he => ?_)
      have h1 := okx (by omega) he
      refine PR.bind_out expF_out (fun _ k2 hx => ?_)
      exact valu _ k2 (oke h1.2 (by simp) hx).2
    split
    · rename_i h0
      have := isT_lt h0 (by simp)
      exact valu _ (k + 1) (by omega)
    · refine PR.bind_out pnmF_out (fun nm k1 he => ?_)
      have h1 := pnmF_past (l := l) hk
      rw [he] at h1
      have h1' : k < k1 ∧ k1 ≤ l.length := h1
      split
      · rename_i h0
        have := isT_lt h0 (by simp)
        refine PR.bind_out (pexF_out (by omega)) (fun p k2 hp => ?_)
        have h2 := okx (by omega) hp
        refine PR.bind_out expF_out (fun _ k3 hx => ?_)
        have h3 := oke h2.2 (by simp) hx
        refine PR.bind_out expF_out (fun _ k4 hy => ?_)
        exact valu _ k4 (oke h3.2 (by simp) hy).2
      · refine PR.bind_out expF_out (fun _ k4 hy => ?_)
        exact valu _ k4 (oke h1'.2 (by simp) hy).2
theorem smF_one : ∀ {n k k' : Nat} {b : List Sm}, smF l n .stmt k = .ok b k' → ∃ s, b = [s]
  | 0, _, _, _, h => by cases h
  | n + 1, k, k', b, h => by
    rw [smF_stmt] at h
    have semi : ∀ {s : Sm} {k5 : Nat}, ((expF l [59] k5).bind fun _ k6 => PR.ok [s] k6) = .ok b k' → ∃ s, b = [s] := fun h => by
      obtain ⟨_, _, _, h2⟩ := PR.bind_ok h
      cases h2; exact ⟨_, rfl⟩
    have valu : ∀ {g : Ex → Sm} {k4 : Nat}, ((pexF l k4).bind fun e k5 => (expF l [59] k5).bind fun _ k6 => PR.ok [g e] k6) = .ok b k' → ∃ s, b = [s] := fun h => by
      obtain ⟨_, _, _, h2⟩ := PR.bind_ok h
      exact semi h2
    split at h
    · obtain ⟨_, _, _, h2⟩ := PR.bind_ok h
      obtain ⟨_, _, _, h3⟩ := PR.bind_ok h2
      split at h3
      · obtain ⟨_, _, _, h4⟩ := PR.bind_ok h3
        cases h4; exact ⟨_, rfl⟩
      · cases h3; exact ⟨_, rfl⟩
    split at h
    · obtain ⟨_, _, _, h2⟩ := PR.bind_ok h
      obtain ⟨_, _, _, h3⟩ := PR.bind_ok h2
      cases h3; exact ⟨_, rfl⟩
    split at h
    · obtain ⟨_, _, _, h2⟩ := PR.bind_ok h
      obtain ⟨_, _, _, h3⟩ := PR.bind_ok h2
      exact valu h3
    split at h
    · exact valu (g := fun e => smE 6 [] exZ e [] []) h
    · obtain ⟨nm, _, _, h2⟩ := PR.bind_ok h
      split at h2
      · obtain ⟨_, _, _, h3⟩ := PR.bind_ok h2
        obtain ⟨_, _, _, h4⟩ := PR.bind_ok h3
        obtain ⟨_, _, _, h5⟩ := PR.bind_ok h4
        exact valu h5
      · obtain ⟨_, _, _, h3⟩ := PR.bind_ok h2
        exact valu (g := fun e => smE 1 nm exZ e [] []) h3
theorem blockF_out {k : Nat} (hk : k ≤ l.length) : (blockF l k).isOut = false := smF_out _ _ k hk (by simp only [Ns.need]; omega)
theorem blockF_past {k : Nat} (hk : k ≤ l.length) : (blockF l k).past k l.length := smF_past _ _ k hk
end
end Go.Abs
namespace Go.Abs
open Go
section
variable {l : List TkD}
theorem pdcF_eq (n : Nat) (acc : List VarD) (k : Nat) : pdcF l (n + 1) acc k = (if isT l k [118, 97, 114] then (pnmF l (k + 1)).bind fun nm k1 => (initF l k1).bind fun v k2 => (expF l [59] k2).bind fun _ k3 => pdcF l n (acc ++ [⟨nm, 0, v⟩]) k3
    else if isT l k [97, 114, 114, 97, 121] then (pnmF l (k + 1)).bind fun nm k1 => (expF l [91] k1).bind fun _ k2 => (nmF l 1 k2).bind fun v k3 => (expF l [93] k3).bind fun _ k4 => (expF l [59] k4).bind fun _ k5 => pdcF l n (acc ++ [⟨nm, v, 0⟩]) k5
    else .ok acc k) := rfl
theorem hanF_eq (n : Nat) (p : PgD) (z : Seen) (k : Nat) : hanF l (n + 1) p z k = (if k < l.length then (expF l [111, 110] k).bind fun _ k1 =>
      if !z.s && isT l k1 [115, 116, 97, 114, 116] then (blockF l (k1 + 1)).bind fun b k2 => hanF l n { p with start := b } { z with s := true } k2
      else if !z.m && isT l k1 [109, 101, 115, 115, 97, 103, 101] then (blockF l (k1 + 1)).bind fun b k2 => hanF l n { p with message := b } { z with m := true } k2
      else if !z.t && isT l k1 [116, 105, 99, 107] then (blockF l (k1 + 1)).bind fun b k2 => hanF l n { p with tick := b } { z with t := true } k2
      else if !z.i && isT l k1 [105, 110, 112, 117, 116] then (blockF l (k1 + 1)).bind fun b k2 => hanF l n { p with input := b } { z with i := true } k2
      else .bad k1
    else .ok p k) := rfl
theorem initF_on {k : Nat} (hk : k ≤ l.length) : (initF l k).on k l.length := by
  unfold initF
  split
  · rename_i h
    have := isT_lt h (by simp)
    split
    · rename_i h2
      have := isT_lt h2 (by simp)
      exact PR.on.le (PR.on.bind (nmF_past (z := 0) (k := k + 2) (by omega)).on (fun v k' _ h2 => PR.ok_on _ h2)) (by omega)
    · exact PR.on.le (nmF_past (by omega)).on (by omega)
  · exact PR.ok_on _ hk
theorem initF_out {k : Nat} : (initF l k).isOut = false := by
  unfold initF
  split
  · split
    · exact PR.bind_out nmF_out (fun _ _ _ => rfl)
    · exact nmF_out
  · rfl
theorem pdcF_on : ∀ (n : Nat) (acc : List VarD) (k : Nat), k ≤ l.length → (pdcF l n acc k).on k l.length
  | 0, _, _, _ => trivial
  | n + 1, acc, k, hk => by
    rw [pdcF_eq]
    split
    · rename_i h
      have := isT_lt h (by simp)
      exact PR.on.le (PR.on.bind (pnmF_past (k := k + 1) (by omega)).on (fun nm k1 _ h1 => PR.on.bind (initF_on h1) (fun v k2 _ h2 => PR.on.bind (expF_past h2 (by simp)).on (fun _ k3 _ h3 => pdcF_on n _ k3 h3)))) (by omega)
    split
    · rename_i h
      have := isT_lt h (by simp)
      exact PR.on.le (PR.on.bind (pnmF_past (k := k + 1) (by omega)).on (fun nm k1 _ h1 => PR.on.bind (expF_past h1 (by simp)).on (fun _ k2 _ h2 => PR.on.bind (nmF_past h2).on (fun v k3 _ h3 => PR.on.bind (expF_past h3 (by simp)).on (fun _ k4 _ h4 => PR.on.bind (expF_past h4 (by simp)).on (fun _ k5 _ h5 => pdcF_on n _ k5 h5)))))) (by omega)
    · exact PR.ok_on _ hk
theorem pdcF_out : ∀ (n : Nat) (acc : List VarD) (k : Nat), k ≤ l.length → l.length - k + 1 ≤ n → (pdcF l n acc k).isOut = false
  | 0, _, k, hk, h => by omega
  | n + 1, acc, k, hk, h => by
    rw [pdcF_eq]
    have on' : ∀ {α : Type} {r : PR α} {a : α} {k k1 : Nat}, r.on k l.length → r = .ok a k1 → k ≤ k1 ∧ k1 ≤ l.length := fun h e => by rw [e] at h; exact h
    split
    · rename_i h0
      have := isT_lt h0 (by simp)
      refine PR.bind_out pnmF_out (fun nm k1 e1 => ?_)
      have h1 := on' (pnmF_past (k := k + 1) (by omega)).on e1
      refine PR.bind_out initF_out (fun v k2 e2 => ?_)
      have h2 := on' (initF_on h1.2) e2
      refine PR.bind_out expF_out (fun _ k3 e3 => ?_)
      have h3 := on' (expF_past h2.2 (by simp)).on e3
      exact pdcF_out n _ k3 h3.2 (by omega)
    split
    · rename_i h0
      have := isT_lt h0 (by simp)
      refine PR.bind_out pnmF_out (fun nm k1 e1 => ?_)
      have h1 := on' (pnmF_past (k := k + 1) (by omega)).on e1
      refine PR.bind_out expF_out (fun _ k2 e2 => ?_)
      have h2 := on' (expF_past h1.2 (by simp)).on e2
      refine PR.bind_out nmF_out (fun v k3 e3 => ?_)
      have h3 := on' (nmF_past h2.2).on e3
      refine PR.bind_out expF_out (fun _ k4 e4 => ?_)
      have h4 := on' (expF_past h3.2 (by simp)).on e4
      refine PR.bind_out expF_out (fun _ k5 e5 => ?_)
      have h5 := on' (expF_past h4.2 (by simp)).on e5
      exact pdcF_out n _ k5 h5.2 (by omega)
    · rfl
theorem hanF_out : ∀ (n : Nat) (p : PgD) (z : Seen) (k : Nat), k ≤ l.length → l.length - k + 1 ≤ n → (hanF l n p z k).isOut = false
  | 0, _, _, k, hk, h => by omega
  | n + 1, p, z, k, hk, h => by
    rw [hanF_eq]
    split
    · refine PR.bind_out expF_out (fun _ k1 e1 => ?_)
      have h1 : k < k1 ∧ k1 ≤ l.length := by have := expF_past (l := l) (s := [111, 110]) hk (by simp); rw [e1] at this; exact this
      have one : ∀ {s : List UInt8} (f : List Sm → PgD) (z' : Seen), isT l k1 s = true → s ≠ [] → ((blockF l (k1 + 1)).bind fun b k2 => hanF l n (f b) z' k2).isOut = false := fun f z' hs hne => by
        have hlt := isT_lt hs hne
        refine PR.bind_out (blockF_out (by omega)) (fun b k2 e2 => ?_)
        have h2 : k1 + 1 < k2 ∧ k2 ≤ l.length := by have := blockF_past (l := l) (k := k1 + 1) (by omega); rw [e2] at this; exact this
        exact hanF_out n _ _ k2 h2.2 (by omega)
      split
      · rename_i h2; exact one (fun b => { p with start := b }) _ (by simp at h2; exact h2.2) (by simp)
      split
      · rename_i h2; exact one (fun b => { p with message := b }) _ (by simp at h2; exact h2.2) (by simp)
      split
      · rename_i h2; exact one (fun b => { p with tick := b }) _ (by simp at h2; exact h2.2) (by simp)
      split
      · rename_i h2; exact one (fun b => { p with input := b }) _ (by simp at h2; exact h2.2) (by simp)
      · rfl
    · rfl
theorem progF_out : (progF l).isOut = false := by
  unfold progF
  refine PR.bind_out (pdcF_out _ _ 0 (by omega) (by omega)) (fun vs k e => ?_)
  have h1 : 0 ≤ k ∧ k ≤ l.length := by have := pdcF_on (l := l) (l.length + 1) [] 0 (by omega); rw [e] at this; exact this
  exact hanF_out _ _ _ k h1.2 (by omega)
end
end Go.Abs
namespace Go.Abs
open Go
section
variable (l : List TkD)
def hanB (p : PgD) (z : Seen) (k1 : Nat) : PR (PgD × Seen) :=
  if !z.s && isT l k1 [115, 116, 97, 114, 116] then (blockF l (k1 + 1)).bind fun b k2 => .ok ({ p with start := b }, { z with s := true }) k2
  else if !z.m && isT l k1 [109, 101, 115, 115, 97, 103, 101] then (blockF l (k1 + 1)).bind fun b k2 => .ok ({ p with message := b }, { z with m := true }) k2
  else if !z.t && isT l k1 [116, 105, 99, 107] then (blockF l (k1 + 1)).bind fun b k2 => .ok ({ p with tick := b }, { z with t := true }) k2
  else if !z.i && isT l k1 [105, 110, 112, 117, 116] then (blockF l (k1 + 1)).bind fun b k2 => .ok ({ p with input := b }, { z with i := true }) k2
  else .bad k1
def hanS (p : PgD) (z : Seen) (k : Nat) : PR (PgD × Seen) := (expF l [111, 110] k).bind fun _ k1 => hanB l p z k1
theorem PR.bind_assoc {α β γ : Type} (r : PR α) (f : α → Nat → PR β) (g : β → Nat → PR γ) : (r.bind f).bind g = r.bind fun a k => (f a k).bind g := by cases r <;> rfl
theorem hanF_step (n : Nat) (p : PgD) (z : Seen) (k : Nat) : hanF l (n + 1) p z k = if k < l.length then (hanS l p z k).bind fun q k2 => hanF l n q.1 q.2 k2 else .ok p k := by
  rw [hanF_eq]
  split
  · unfold hanS
    rw [PR.bind_assoc]
    congr 1
    funext _ k1
    unfold hanB
    repeat' split
    all_goals first | rfl | (rw [PR.bind_assoc]; rfl)
  · rfl
theorem hanB_on (p : PgD) (z : Seen) (k1 : Nat) (h : k1 ≤ l.length) : (hanB l p z k1).on k1 l.length := by
  have one : ∀ {s : List UInt8} (f : List Sm → PgD × Seen), isT l k1 s = true → s ≠ [] → ((blockF l (k1 + 1)).bind fun b k2 => PR.ok (f b) k2).on k1 l.length := fun f hs hne => by
    have hlt := isT_lt hs hne
    exact PR.on.le (PR.on.bind (blockF_past (by omega)).on (fun b k2 _ h2 => PR.ok_on _ h2)) (by omega)
  unfold hanB
  split
  · rename_i h2; exact one (fun b => ({ p with start := b }, _)) (by simp at h2; exact h2.2) (by simp)
  split
  · rename_i h2; exact one (fun b => ({ p with message := b }, _)) (by simp at h2; exact h2.2) (by simp)
  split
  · rename_i h2; exact one (fun b => ({ p with tick := b }, _)) (by simp at h2; exact h2.2) (by simp)
  split
  · rename_i h2; exact one (fun b => ({ p with input := b }, _)) (by simp at h2; exact h2.2) (by simp)
  · exact ⟨Nat.le_refl _, h⟩
theorem hanS_past (p : PgD) (z : Seen) (k : Nat) (h : k ≤ l.length) : (hanS l p z k).past k l.length := by
  unfold hanS
  exact PR.past.bind (expF_past h (by simp)) (fun _ k1 _ h1 => hanB_on l p z k1 h1)
theorem hanS_out (p : PgD) (z : Seen) (k : Nat) (h : k ≤ l.length) : (hanS l p z k).isOut = false := by
  unfold hanS
  refine PR.bind_out expF_out (fun _ k1 e1 => ?_)
  have h1 : k < k1 ∧ k1 ≤ l.length := by have := expF_past (l := l) (s := [111, 110]) h (by simp); rw [e1] at this; exact this
  have one : ∀ {s : List UInt8} (f : List Sm → PgD × Seen), isT l k1 s = true → s ≠ [] → ((blockF l (k1 + 1)).bind fun b k2 => PR.ok (f b) k2).isOut = false := fun f hs hne => by
    have hlt := isT_lt hs hne
    exact PR.bind_out (blockF_out (by omega)) (fun b k2 e2 => rfl)
  unfold hanB
  split
  · rename_i h2; exact one (fun b => ({ p with start := b }, _)) (by simp at h2; exact h2.2) (by simp)
  split
  · rename_i h2; exact one (fun b => ({ p with message := b }, _)) (by simp at h2; exact h2.2) (by simp)
  split
  · rename_i h2; exact one (fun b => ({ p with tick := b }, _)) (by simp at h2; exact h2.2) (by simp)
  split
  · rename_i h2; exact one (fun b => ({ p with input := b }, _)) (by simp at h2; exact h2.2) (by simp)
  · rfl
end
end Go.Abs
namespace Go.Abs
open Go
def Off (s : List UInt8) : Nat → List TkD → Prop
  | _, [] => True
  | k, t :: r => ∃ a : Nat, t.pos = a ∧ k ≤ a ∧ 0 < (wordT t).length ∧ a + (wordT t).length ≤ s.length ∧ cut s a (a + (wordT t).length) = wordT t ∧ Off s (a + (wordT t).length) r
theorem Off.mono {s : List UInt8} {k k' : Nat} {l : List TkD} (h : Off s k l) (hk : k' ≤ k) : Off s k' l := by
  cases l with
  | nil => trivial
  | cons t r => obtain ⟨a, h1, h2, h3⟩ := h; exact ⟨a, h1, by omega, h3⟩
theorem one_word {s : List UInt8} {k e : Nat} {t : TkD} (hk : k < s.length) (h : oneF s k = (t, (e : Int), 0)) : t.pos = k ∧ cut s k e = wordT t ∧ e = k + (wordT t).length ∧ k < e ∧ e ≤ s.length := by
  obtain ⟨hg, hp, h1, h2, _⟩ := one_good s k e t hk h
  have hw := hg.word
  have hl := cut_len s k e h2
  exact ⟨hp, hw.symm, by rw [hw, hl]; omega, h1, h2⟩
theorem Sc.len {s : List UInt8} {k : Nat} {l : List TkD} (h : Sc s k l) : l.length ≤ s.length - k := by
  induction h with
  | fin _ => simp
  | blank _ _ _ ih => omega
  | @hsh k l hk hh _ ih => have := (hash_gt' s k hk hh); omega
  | @tok k e t l hk hb hh ho _ ih =>
    obtain ⟨h1, h2, h3, h4, h5⟩ := one_word hk ho
    simp only [List.length_cons]; omega
theorem Sc.vals {s : List UInt8} {k : Nat} {l : List TkD} (h : Sc s k l) : ∀ t ∈ l, t.value ≤ 9223372036854775807 ∧ 0 < (wordT t).length ∧ (wordT t).length ≤ s.length ∧ Good t (wordT t) := by
  intro t ht
  obtain ⟨e, a, _, h2, h3, h4, hg⟩ := h.good t ht
  have hw := hg.word
  have hl := cut_len s a e h4
  refine ⟨?_, by rw [hw, hl]; omega, by rw [hw, hl]; omega, by rw [hw]; exact hg⟩
  rcases hg.kinds with ⟨_, _, h, _⟩ | ⟨_, _, h, _, h5⟩ | ⟨_, _, h, _⟩
  all_goals rw [h]
  all_goals omega
end Go.Abs
namespace Go.Abs
open Go
structure TokOK (t : TkD) : Prop where
  k : t.kind = 1 ∨ t.kind = 2 ∨ t.kind = 3
  k1 : t.kind = 1 → ∃ c r, t.text = c :: r ∧ isL c = true
  k2 : t.kind = 2 → t.text = [] ∧ 0 ≤ t.value
  k3 : t.kind = 3 → ∃ c r, t.text = c :: r ∧ isL c = false
def wordy (s : List UInt8) : Bool := match s with | c :: _ => isL c | [] => false
theorem TokOK.word {t : TkD} (h : TokOK t) {s : List UInt8} (hs : wordy s = true) (he : t.text = s) : t.kind = 1 := by
  cases s with
  | nil => simp [wordy] at hs
  | cons c r =>
    have hc : isL c = true := by simpa [wordy] using hs
    rcases h.k with h1 | h1 | h1
    · exact h1
    · have := (h.k2 h1).1
      rw [he] at this; cases this
    · obtain ⟨c', r', e, h2⟩ := h.k3 h1
      rw [he] at e
      cases e
      rw [hc] at h2; cases h2
end Go.Abs
namespace Go.Abs
open Go
variable {l : List TkD}
end Go.Abs
namespace Go.Abs
open Go
section
variable {l : List TkD}
theorem szE_K (op : Int) : szE (exK op) = 1 := by simp [exK, szE, szEs]
theorem szE_C (v : Int) : szE (exC v) = 1 := by simp [exC, szE, szEs]
theorem szE_N (nm : List UInt8) : szE (exN nm) = 1 := by simp [exN, szE, szEs]
theorem szE_I (nm : List UInt8) (e : Ex) : szE (exI nm e) = 1 + szE e := by simp [exI, szE, szEs]
theorem szE_U (op : Int) (e : Ex) : szE (exU op e) = 1 + szE e := by simp [exU, szE, szEs]
theorem szE_B (op : Int) (a b : Ex) : szE (exB op a b) = 1 + szE a + szE b := by simp [exB, szE, szEs]; omega
theorem expF_ok {s : List UInt8} {k k' : Nat} {u : Unit} (h : expF l s k = .ok u k') : k' = k + 1 := by
  unfold expF at h; split at h <;> cases h; rfl
theorem pnmF_ok {k k' : Nat} {nm : List UInt8} (h : pnmF l k = .ok nm k') : k' = k + 1 := by
  unfold pnmF at h; split at h <;> cases h; rfl
theorem nmF_ok {z : Int} {k k' : Nat} {v : Int} (h : nmF l z k = .ok v k') : k' = k + 1 := by
  unfold nmF at h; split at h <;> cases h; rfl
def Nt.pre : Nt → Nat
  | .loop _ e => szE e
  | _ => 0
theorem exF_sz : ∀ (n : Nat) (nt : Nt) (k : Nat) (e : Ex) (k' : Nat), exF l n nt k = .ok e k' → szE e + k ≤ k' + nt.pre
  | 0, nt, k, e, k', h => by cases h
  | n + 1, .bin lv, k, e, k', h => by
    rw [exF_bin] at h
    split at h
    · exact exF_sz n .un k e k' h
    · obtain ⟨e1, k1, h1, h2⟩ := PR.bind_ok h
      have := exF_sz n _ _ _ _ h1
      have := exF_sz n _ _ _ _ h2
      simp only [Nt.pre] at *
      omega
  | n + 1, .loop lv e0, k, e, k', h => by
    rw [exF_loop] at h
    split at h
    · cases h; simp only [Nt.pre]; omega
    · obtain ⟨e1, k1, h1, h2⟩ := PR.bind_ok h
      have := exF_sz n _ _ _ _ h1
      have := exF_sz n _ _ _ _ h2
      simp only [Nt.pre, szE_B] at *
      omega
  | n + 1, .un, k, e, k', h => by
    rw [exF_un] at h
    split at h
    · obtain ⟨e1, k1, h1, h2⟩ := PR.bind_ok h
      have := exF_sz n _ _ _ _ h1
      cases h2
      simp only [Nt.pre, szE_U] at *
      omega
    split at h
    · obtain ⟨e1, k1, h1, h2⟩ := PR.bind_ok h
      have := exF_sz n _ _ _ _ h1
      cases h2
      simp only [Nt.pre, szE_U] at *
      omega
    · exact exF_sz n .prim k e k' h
  | n + 1, .prim, k, e, k', h => by
    rw [exF_prim] at h
    split at h
    · obtain ⟨v, k1, h1, h2⟩ := PR.bind_ok h
      have := nmF_ok h1
      cases h2
      simp only [Nt.pre, szE_C] at *
      omega
    split at h
    · cases h; simp only [Nt.pre, szE_K] at *; omega
    split at h
    · cases h; simp only [Nt.pre, szE_K] at *; omega
    split at h
    · cases h; simp only [Nt.pre, szE_K] at *; omega
    split at h
    · cases h; simp only [Nt.pre, szE_K] at *; omega
    split at h
    · obtain ⟨e1, k1, h1, h2⟩ := PR.bind_ok h
      have := exF_sz n _ _ _ _ h1
      obtain ⟨u, k2, h3, h4⟩ := PR.bind_ok h2
      have := expF_ok h3
      cases h4
      simp only [Nt.pre] at *
      omega
    · obtain ⟨nm, k1, h1, h2⟩ := PR.bind_ok h
      have := pnmF_ok h1
      split at h2
      · obtain ⟨e1, k2, h3, h4⟩ := PR.bind_ok h2
        have := exF_sz n _ _ _ _ h3
        obtain ⟨u, k3, h5, h6⟩ := PR.bind_ok h4
        have := expF_ok h5
        cases h6
        simp only [Nt.pre, szE_I] at *
        omega
      · cases h2
        simp only [Nt.pre, szE_N] at *
        omega
theorem pexF_sz {k k' : Nat} {e : Ex} (h : pexF l k = .ok e k') : szE e + k ≤ k' := by
  have := exF_sz _ _ _ _ _ h
  simpa [Nt.pre] using this
theorem szSs_app : ∀ a b : List Sm, szSs (a ++ b) = szSs a + szSs b
  | [], b => by simp [szSs]
  | s :: r, b => by simp only [List.cons_append, szSs, szSs_app r b]; omega
theorem szS_E (kind : Int) (nm : List UInt8) (p v : Ex) (b c : List Sm) : szSs [smE kind nm p v b c] = 1 + szE p + szE v + szSs b + szSs c := by simp [smE, szSs, szS]
theorem szS_1 (kind : Int) (nm : List UInt8) (p v : Ex) (b c : List Sm) : szS (smE kind nm p v b c) = 1 + szE p + szE v + szSs b + szSs c := by simp [smE, szS]
def Ns.pre : Ns → Nat
  | .stmts acc => szSs acc
  | _ => 0
theorem smF_sz : ∀ (n : Nat) (nt : Ns) (k : Nat) (b : List Sm) (k' : Nat), smF l n nt k = .ok b k' → szSs b + 2 * k ≤ 2 * k' + nt.pre
  | 0, nt, k, e, k', h => by cases h
  | n + 1, .block, k, b, k', h => by
    rw [smF_block] at h
    obtain ⟨u, k1, h1, h2⟩ := PR.bind_ok h
    have := expF_ok h1
    have := smF_sz n _ _ _ _ h2
    simp only [Ns.pre, szSs] at *
    omega
  | n + 1, .stmts acc, k, b, k', h => by
    rw [smF_stmts] at h
    split at h
    · cases h; simp only [Ns.pre]; omega
    · obtain ⟨s, k1, h1, h2⟩ := PR.bind_ok h
      have := smF_sz n _ _ _ _ h1
      have := smF_sz n _ _ _ _ h2
      simp only [Ns.pre, szSs_app] at *
      omega
  | n + 1, .stmt, k, b, k', h => by
    rw [smF_stmt] at h
    have z0 : szE exZ = 1 := szE_K 0
    have valu : ∀ {g : Ex → List Sm} {k4 c : Nat}, (∀ e, szSs (g e) = c + szE e) → ((pexF l k4).bind fun e k5 => (expF l [59] k5).bind fun _ k6 => PR.ok (g e) k6) = .ok b k' → szSs b + k4 + 1 ≤ k' + c := fun hg h => by
      obtain ⟨e, k5, h1, h2⟩ := PR.bind_ok h
      have := pexF_sz h1
      obtain ⟨u, k6, h3, h4⟩ := PR.bind_ok h2
      have := expF_ok h3
      cases h4
      rw [hg]
      omega
    split at h
    · obtain ⟨e, k1, h1, h2⟩ := PR.bind_ok h
      have := pexF_sz h1
      obtain ⟨b1, k2, h3, h4⟩ := PR.bind_ok h2
      have := smF_sz n _ _ _ _ h3
      have := szE_pos e
      split at h4
      · obtain ⟨c, k3, h5, h6⟩ := PR.bind_ok h4
        have := smF_sz n _ _ _ _ h5
        cases h6
        simp only [Ns.pre, szSs, szS_1, z0] at *
        omega
      · cases h4
        simp only [Ns.pre, szSs, szS_1, z0] at *
        omega
    split at h
    · obtain ⟨e, k1, h1, h2⟩ := PR.bind_ok h
      have := pexF_sz h1
      obtain ⟨b1, k2, h3, h4⟩ := PR.bind_ok h2
      have := smF_sz n _ _ _ _ h3
      have := szE_pos e
      cases h4
      simp only [Ns.pre, szSs, szS_1, z0] at *
      omega
    split at h
    · obtain ⟨p, k1, h1, h2⟩ := PR.bind_ok h
      have := pexF_sz h1
      obtain ⟨u, k2, h3, h4⟩ := PR.bind_ok h2
      have := expF_ok h3
      have := valu (c := 1 + szE p) (fun e => by rw [szS_E]; simp only [szSs]; omega) h4
      simp only [Ns.pre]
      omega
    split at h
    · have := valu (g := fun e => [smE 6 [] exZ e [] []]) (c := 2) (fun e => by rw [szS_E, z0]; simp [szSs]) h
      simp only [Ns.pre]
      omega
    · obtain ⟨nm, k1, h1, h2⟩ := PR.bind_ok h
      have := pnmF_ok h1
      split at h2
      · obtain ⟨p, k2, h3, h4⟩ := PR.bind_ok h2
        have := pexF_sz h3
        obtain ⟨u, k3, h5, h6⟩ := PR.bind_ok h4
        have := expF_ok h5
        obtain ⟨u2, k4, h7, h8⟩ := PR.bind_ok h6
        have := expF_ok h7
        have := valu (c := 1 + szE p) (fun e => by rw [szS_E]; simp only [szSs]; omega) h8
        simp only [Ns.pre]
        omega
      · obtain ⟨u, k3, h5, h6⟩ := PR.bind_ok h2
        have := expF_ok h5
        have := valu (g := fun e => [smE 1 nm exZ e [] []]) (c := 2) (fun e => by rw [szS_E, z0]; simp [szSs]) h6
        simp only [Ns.pre]
        omega
theorem blockF_sz {k k' : Nat} {b : List Sm} (h : blockF l k = .ok b k') : szSs b + 2 * k ≤ 2 * k' := by
  have := smF_sz _ _ _ _ _ h
  simpa [Ns.pre] using this
theorem pdcF_sz : ∀ (n : Nat) (acc : List VarD) (k : Nat) (vs : List VarD) (k' : Nat), pdcF l n acc k = .ok vs k' → k ≤ l.length → vs.length + k ≤ k' + acc.length
  | 0, _, _, _, _, h, _ => by cases h
  | n + 1, acc, k, vs, k', h, hk => by
    rw [pdcF_eq] at h
    split at h
    · rename_i h0
      have := isT_lt h0 (by simp)
      obtain ⟨nm, k1, h1, h2⟩ := PR.bind_ok h
      have := pnmF_ok h1
      obtain ⟨v, k2, h3, h4⟩ := PR.bind_ok h2
      have q : k1 ≤ k2 ∧ k2 ≤ l.length := by
        have := pnmF_past (l := l) (k := k + 1) (by omega)
        rw [h1] at this
        have := initF_on (l := l) (k := k1) this.2
        rw [h3] at this
        exact this
      obtain ⟨u, k3, h5, h6⟩ := PR.bind_ok h4
      have := expF_ok h5
      have q3 : k3 ≤ l.length := by
        have := expF_past (l := l) (s := [59]) q.2 (by simp)
        rw [h5] at this
        exact this.2
      have := pdcF_sz n _ _ _ _ h6 q3
      simp only [List.length_append, List.length_cons, List.length_nil] at this
      omega
    split at h
    · rename_i h0
      have := isT_lt h0 (by simp)
      obtain ⟨nm, k1, h1, h2⟩ := PR.bind_ok h
      have := pnmF_ok h1
      obtain ⟨u, k2, h3, h4⟩ := PR.bind_ok h2
      have := expF_ok h3
      obtain ⟨v, k3, h5, h6⟩ := PR.bind_ok h4
      have := nmF_ok h5
      obtain ⟨u2, k4, h7, h8⟩ := PR.bind_ok h6
      have := expF_ok h7
      obtain ⟨u3, k5, h9, h10⟩ := PR.bind_ok h8
      have := expF_ok h9
      have q3 : k5 ≤ l.length := by
        have a1 := pnmF_past (l := l) (k := k + 1) (by omega)
        rw [h1] at a1
        have a2 := expF_past (l := l) (s := [91]) a1.2 (by simp)
        rw [h3] at a2
        have a3 := nmF_past (l := l) (z := 1) a2.2
        rw [h5] at a3
        have a4 := expF_past (l := l) (s := [93]) a3.2 (by simp)
        rw [h7] at a4
        have a5 := expF_past (l := l) (s := [59]) a4.2 (by simp)
        rw [h9] at a5
        exact a5.2
      have := pdcF_sz n _ _ _ _ h10 q3
      simp only [List.length_append, List.length_cons, List.length_nil] at this
      omega
    · cases h
      omega
def PgD.fits (p : PgD) (z : Seen) : Prop := (z.s = false → p.start = []) ∧ (z.m = false → p.message = []) ∧ (z.t = false → p.tick = []) ∧ (z.i = false → p.input = [])
theorem hanF_sz : ∀ (n : Nat) (p : PgD) (z : Seen) (k : Nat) (q : PgD) (k' : Nat), hanF l n p z k = .ok q k' → k ≤ l.length → p.fits z → szP q + 2 * k ≤ 2 * k' + szP p ∧ k' ≤ l.length
  | 0, _, _, _, _, _, h, _, _ => by cases h
  | n + 1, p, z, k, q, k', h, hk, hz => by
    rw [hanF_step] at h
    split at h
    · obtain ⟨⟨q1, z1⟩, k2, h1, h2⟩ := PR.bind_ok h
      have hp := hanS_past l p z k hk
      rw [h1] at hp
      unfold hanS at h1
      obtain ⟨u, k1, h3, h4⟩ := PR.bind_ok h1
      have := expF_ok h3
      unfold hanB at h4
      obtain ⟨f1, f2, f3, f4⟩ := hz
      have key : szP q1 + 2 * k ≤ 2 * k2 + szP p ∧ q1.fits z1 := by
        split at h4
        · rename_i hc
          obtain ⟨b, k3, h5, h6⟩ := PR.bind_ok h4
          have := blockF_sz h5
          cases h6
          have : p.start = [] := f1 (by simp at hc; exact hc.1)
          exact ⟨by simp only [szP, this, szSs]; omega, fun h => (by cases h), f2, f3, f4⟩
        split at h4
        · rename_i hc
          obtain ⟨b, k3, h5, h6⟩ := PR.bind_ok h4
          have := blockF_sz h5
          cases h6
          have : p.message = [] := f2 (by simp at hc; exact hc.1)
          exact ⟨by simp only [szP, this, szSs]; omega, f1, fun h => (by cases h), f3, f4⟩
        split at h4
        · rename_i hc
          obtain ⟨b, k3, h5, h6⟩ := PR.bind_ok h4
          have := blockF_sz h5
          cases h6
          have : p.tick = [] := f3 (by simp at hc; exact hc.1)
          exact ⟨by simp only [szP, this, szSs]; omega, f1, f2, fun h => (by cases h), f4⟩
        split at h4
        · rename_i hc
          obtain ⟨b, k3, h5, h6⟩ := PR.bind_ok h4
          have := blockF_sz h5
          cases h6
          have : p.input = [] := f4 (by simp at hc; exact hc.1)
          exact ⟨by simp only [szP, this, szSs]; omega, f1, f2, f3, fun h => (by cases h)⟩
        · cases h4
      have := hanF_sz n q1 z1 k2 q k' h2 hp.2 key.2
      omega
    · cases h
      omega
theorem progF_sz {p : PgD} {k : Nat} (h : progF l = .ok p k) : szP p ≤ 2 * l.length := by
  unfold progF at h
  obtain ⟨vs, k1, h1, h2⟩ := PR.bind_ok h
  have a1 := pdcF_sz _ _ _ _ _ h1 (by omega)
  have a2 := pdcF_on (l := l) (l.length + 1) [] 0 (by omega)
  rw [h1] at a2
  have a3 := hanF_sz _ _ _ _ _ _ h2 a2.2 ⟨fun _ => rfl, fun _ => rfl, fun _ => rfl, fun _ => rfl⟩
  simp only [szP, szSs, List.length_nil] at a1 a3 ⊢
  omega
theorem vals_of {s : List UInt8} {k : Nat} (h : Sc s k l) : ∀ i, (l.getD i tk0).value ≤ 9223372036854775807 := fun i => by
  by_cases hi : i < l.length
  · have e : l.getD i tk0 = l[i] := by simp [List.getD, hi]
    rw [e]
    exact (h.vals l[i] (List.getElem_mem hi)).1
  · have e : l.getD i tk0 = tk0 := by simp [List.getD, Nat.le_of_not_lt hi]
    rw [e]; decide
end
end Go.Abs
namespace Go.Abs
open Go
def pgZ : PgD := ⟨[], [], [], [], []⟩
def parF (s : List UInt8) : PgD × Int × Int :=
  if (scan s).2.2 ≠ 0 then (pgZ, (scan s).2.1, (scan s).2.2)
  else match progF (scan s).1 with
    | .ok p _ => if depP p > 16 then (pgZ, 0, 6) else (p, 0, 0)
    | .bad k => (pgZ, placeF (scan s).1 s.length k, 1)
    | .out => (pgZ, 0, 0)
theorem parF_sz (s : List UInt8) : szP (parF s).1 ≤ 1000000000 := by
  have h0 : szP pgZ ≤ 1000000000 := by decide
  unfold parF
  split
  · exact h0
  · rename_i h
    obtain ⟨hs, l, hSc, e⟩ := scan_sc s (by simpa using h)
    rw [e]
    have := hSc.len
    split
    · rename_i p k hr
      have := progF_sz hr
      split
      · exact h0
      · simp only at *; omega
    · exact h0
    · exact h0
end Go.Abs
namespace Go.Abs
open Go
def linesF (s : List UInt8) : List (List UInt8) := (splitF 10 s).dropLast
def tornF (s : List UInt8) : Bool := decide ((splitF 10 s).getLast (splitF_ne 10 s) ≠ [])
def bodyF (s : List UInt8) : CdD × Int := if (parF s).2.2 ≠ 0 then (cd0, (parF s).2.2) else resolveF (parF s).1
def cutEnd : List (List UInt8) → List UInt8 → Option (List UInt8 × List (List UInt8))
  | [], _ => none
  | l :: r, b => if l = [101, 110, 100] then some (b, r) else cutEnd r (b ++ (l ++ [10]))
inductive HR where
  | ok (cs : List CdD) (rest : List (List UInt8)) (at_ : Int)
  | bad (at_ : Int) (e : Int)
def procsF : Nat → List (List UInt8) → Int → List CdD → HR
  | 0, _, at_, _ => .bad at_ 1
  | _ + 1, [], at_, _ => .bad at_ 1
  | f + 1, l :: r, at_, cs =>
    if l = [112, 114, 111, 99, 101, 115, 115] then
      if 5 ≤ cs.length then .bad at_ 4
      else match cutEnd r [] with
        | none => .bad (at_ + 1 + r.length) 1
        | some (b, r') => if (bodyF b).2 ≠ 0 then .bad at_ (bodyF b).2 else procsF f r' (at_ + 1 + (r.length - r'.length : Nat)) (cs ++ [(bodyF b).1])
    else if l = [115, 116, 101, 112, 115] ∧ cs ≠ [] then .ok cs r (at_ + 1)
    else .bad at_ 1
def stepsF (torn : Bool) : List (List UInt8) → Int → List StD → (List StD × Int × Int)
  | [], at_, xs => if torn then ([], at_, 1) else (xs, 0, 0)
  | l :: r, at_, xs => match stepF l with
    | none => ([], at_, 1)
    | some x => if 400 ≤ xs.length then ([], at_, 4) else stepsF torn r (at_ + 1) (xs ++ [x])
/-! ### Writing -/
def badP (p : PgD) : Bool := decide ((fmtF p).2 ≠ 0)
def badS (x : StD) : Bool := decide (wdF x.kind = []) || !zeroF x
structure ScD where
  codes : List CdD
  protocol : Int
  faults : Int
  steps : List StD
def headF (line : List UInt8) : Int × Int × Bool := match splitF 32 line with
  | [a, b, c] => if a = [112, 114, 111, 116, 111, 99, 111, 108] ∧ b ∈ prsT.tail then ((prsT.idxOf b : Int), (numR c).1, (numR c).2) else (0, 0, false)
  | _ => (0, 0, false)
def readF (s : List UInt8) : ScD × Int × Int :=
  if 65536 < s.length then (⟨[], 0, 0, []⟩, 0, 5)
  else match linesF s with
    | [] => (⟨[], 0, 0, []⟩, 1, 1)
    | l :: r => if (headF l).2.2 = false then (⟨[], 0, 0, []⟩, 1, 1)
      else match procsF (r.length + 1) r 2 [] with
        | .bad a e => (⟨[], 0, 0, []⟩, a, e)
        | .ok cs r' a => if (stepsF (tornF s) r' a []).2.2 ≠ 0 then (⟨[], 0, 0, []⟩, (stepsF (tornF s) r' a []).2.1, (stepsF (tornF s) r' a []).2.2)
          else (⟨cs, (headF l).1, (headF l).2.1, (stepsF (tornF s) r' a []).1⟩, 0, 0)
end Go.Abs
namespace Go.Abs
open Go
theorem cut_eq (s : List UInt8) (a i : Nat) : cut s a i = (s.drop a).take (i - a) := by
  unfold cut
  rw [List.drop_take]
theorem split_at (c : UInt8) (s : List UInt8) (a i : Nat) (h : a ≤ i) (hi : i < s.length) (no : ∀ k, a ≤ k → k < i → s.getD k 0 ≠ c) (hc : s.getD i 0 = c) : splitF c (s.drop a) = cut s a i :: splitF c (s.drop (i + 1)) := by
  have e : s.drop a = cut s a i ++ c :: s.drop (i + 1) := by
    conv => lhs; rw [← List.take_append_drop (i - a) (s.drop a)]
    rw [← cut_eq, List.drop_drop, show a + (i - a) = i by omega, List.drop_eq_getElem_cons hi]
    congr 2
    rw [← hc, List.getD_eq_getElem?_getD, List.getElem?_eq_getElem hi]
    rfl
  rw [e]
  refine splitF_hit c _ _ ?_
  intro hm
  rw [cut_eq] at hm
  obtain ⟨k, hk, he⟩ := List.getElem_of_mem hm
  have hk' : k < i - a := by simp at hk; omega
  rw [List.getElem_take, List.getElem_drop] at he
  refine no (a + k) (by omega) (by omega) ?_
  rw [List.getD_eq_getElem?_getD, List.getElem?_eq_getElem (by omega)]
  exact he
theorem split_end (c : UInt8) (s : List UInt8) (a : Nat) (no : ∀ k, a ≤ k → k < s.length → s.getD k 0 ≠ c) : splitF c (s.drop a) = [cut s a s.length] := by
  have e : cut s a s.length = s.drop a := by unfold cut; rw [List.take_length]
  rw [e]
  refine splitF_none c _ ?_
  intro hm
  obtain ⟨k, hk, he⟩ := List.getElem_of_mem hm
  have hk' : k < s.length - a := by simpa using hk
  rw [List.getElem_drop] at he
  refine no (a + k) (by omega) (by omega) ?_
  rw [List.getD_eq_getElem?_getD, List.getElem?_eq_getElem (by omega)]
  exact he
structure WI (c : UInt8) (s : List UInt8) where
  i : Nat
  a : Nat
  acc : List (List UInt8)
  ha : a ≤ i
  hi : i ≤ s.length
  no : ∀ k, a ≤ k → k < i → s.getD k 0 ≠ c
  hl : acc.length ≤ i
  eq : splitF c s = acc ++ splitF c (s.drop a)
variable {c : UInt8} {s : List UInt8} (w : WI c s)
def WI.start (c : UInt8) (s : List UInt8) : WI c s := ⟨0, 0, [], Nat.le_refl _, Nat.zero_le _, fun _ _ h => absurd h (Nat.not_lt_zero _), by simp, by simp⟩
def WI.skip (h : w.i < s.length) (hc : s.getD w.i 0 ≠ c) : WI c s := ⟨w.i + 1, w.a, w.acc, by have := w.ha; omega, h, fun k h1 h2 => by
  rcases Nat.lt_or_ge k w.i with h3 | h3
  · exact w.no k h1 h3
  · rw [show k = w.i by omega]; exact hc, by have := w.hl; omega, w.eq⟩
def WI.push (h : w.i < s.length) (hc : s.getD w.i 0 = c) : WI c s := ⟨w.i + 1, w.i + 1, w.acc ++ [cut s w.a w.i], Nat.le_refl _, h, fun k h1 h2 => absurd h2 (by omega), by have := w.hl; simp; omega, by
  rw [w.eq, split_at c s w.a w.i w.ha h w.no hc]; simp⟩
theorem WI.start_acc (c : UInt8) (s : List UInt8) : (WI.start c s).acc = [] := rfl
theorem WI.fin (h : w.i = s.length) : splitF c s = w.acc ++ [cut s w.a s.length] := by
  rw [w.eq, split_end c s w.a (fun k h1 h2 => w.no k h1 (by omega))]
def encT (x : List UInt8) : List PVal := [.str x]
end Go.Abs
namespace Go.Abs
open Go
end Go.Abs
namespace Go.Abs
open Go
def prIx (b : List UInt8) : Nat → Int
  | 0 => 0
  | k + 1 => if 1 ≤ k ∧ prF k = b then k else prIx b k
theorem prIx_one (b : List UInt8) : prIx b 1 = 0 := by simp [prIx]
theorem prIx_t (b : List UInt8) (k : Nat) (h : 1 ≤ k) (e : prF k = b) : prIx b (k + 1) = k := by rw [prIx, if_pos ⟨h, e⟩]
theorem prIx_f (b : List UInt8) (k : Nat) (e : prF k ≠ b) : prIx b (k + 1) = prIx b k := by rw [prIx, if_neg (fun h => e h.2)]
def firstF (line : List UInt8) (f : Int) : Int × Int × Bool := match splitF 32 line with
  | [a, b, c] => if a = [112, 114, 111, 116, 111, 99, 111, 108] then (prIx b 9, (numG c).1, (numG c).2 && (prIx b 9 != 0)) else (0, f, false)
  | _ => (0, f, false)
theorem firstF_ne (line : List UInt8) (f : Int) (h : (splitF 32 line).length ≠ 3) : firstF line f = (0, f, false) := by
  unfold firstF
  match hs : splitF 32 line with
  | [] => rfl
  | [a] => rfl
  | [a, b] => rfl
  | [a, b, c] => rw [hs] at h; exact absurd rfl h
  | a :: b :: c :: d :: r => rfl
theorem firstF_3 (line : List UInt8) (f : Int) (a b c : List UInt8) (hs : splitF 32 line = [a, b, c]) : firstF line f = if a = [112, 114, 111, 116, 111, 99, 111, 108] then (prIx b 9, (numG c).1, (numG c).2 && (prIx b 9 != 0)) else (0, f, false) := by
  unfold firstF
  rw [hs]
end Go.Abs
namespace Go.Abs
open Go
theorem pr_rg (P : Nat → Prop) (h : P 1 ∧ P 2 ∧ P 3 ∧ P 4 ∧ P 5 ∧ P 6 ∧ P 7 ∧ P 8) (k : Nat) (h1 : 1 ≤ k) (h2 : k ≤ 8) : P k := by
  obtain ⟨a1, a2, a3, a4, a5, a6, a7, a8⟩ := h
  have : k = 1 ∨ k = 2 ∨ k = 3 ∨ k = 4 ∨ k = 5 ∨ k = 6 ∨ k = 7 ∨ k = 8 := by omega
  rcases this with rfl | rfl | rfl | rfl | rfl | rfl | rfl | rfl <;> assumption
theorem prF_mem (k : Nat) (h1 : 1 ≤ k) (h2 : k ≤ 8) : prF k ∈ prsT.tail := by
  refine pr_rg (fun k => prF (k : Nat) ∈ prsT.tail) ?_ k h1 h2
  decide
theorem prIx_mem (k : Nat) (h1 : 1 ≤ k) (h2 : k ≤ 8) : prIx (prF k) 9 = k ∧ (prsT.idxOf (prF k) : Int) = k := by
  refine pr_rg (fun k => prIx (prF (k : Nat)) 9 = (k : Nat) ∧ (prsT.idxOf (prF (k : Nat)) : Int) = (k : Nat)) ?_ k h1 h2
  decide
theorem prIx_not (b : List UInt8) (h : b ∉ prsT.tail) : ∀ n : Nat, n ≤ 9 → prIx b n = 0
  | 0, _ => rfl
  | n + 1, hn => by
    rw [prIx, if_neg, prIx_not b h n (by omega)]
    rintro ⟨h1, rfl⟩
    exact h (prF_mem n h1 (by omega))
theorem pr_of_mem (b : List UInt8) (h : b ∈ prsT.tail) : ∃ k : Nat, 1 ≤ k ∧ k ≤ 8 ∧ b = prF k := by
  simp only [prsT, List.tail_cons, List.mem_cons, List.not_mem_nil, or_false] at h
  rcases h with rfl | rfl | rfl | rfl | rfl | rfl | rfl | rfl
  · exact ⟨1, by omega, by omega, by decide⟩
  · exact ⟨2, by omega, by omega, by decide⟩
  · exact ⟨3, by omega, by omega, by decide⟩
  · exact ⟨4, by omega, by omega, by decide⟩
  · exact ⟨5, by omega, by omega, by decide⟩
  · exact ⟨6, by omega, by omega, by decide⟩
  · exact ⟨7, by omega, by omega, by decide⟩
  · exact ⟨8, by omega, by omega, by decide⟩
theorem first_head (line : List UInt8) (f : Int) : (firstF line f).2.2 = (headF line).2.2 ∧ ((headF line).2.2 = true → firstF line f = headF line) := by
  by_cases h3 : (splitF 32 line).length = 3
  · match hs : splitF 32 line, h3 with
    | [a, b, c], _ =>
      rw [firstF_3 line f a b c hs]
      have hh : headF line = if a = [112, 114, 111, 116, 111, 99, 111, 108] ∧ b ∈ prsT.tail then ((prsT.idxOf b : Int), (numR c).1, (numR c).2) else (0, 0, false) := by
        unfold headF; rw [hs]
      rw [hh]
      by_cases ha : a = [112, 114, 111, 116, 111, 99, 111, 108]
      · rw [if_pos ha]
        by_cases hb : b ∈ prsT.tail
        · rw [if_pos ⟨ha, hb⟩]
          obtain ⟨k, h1, h2, rfl⟩ := pr_of_mem b hb
          obtain ⟨e1, e2⟩ := prIx_mem k h1 h2
          rw [e1, e2, numG_eq]
          have hk : ((k : Int) != 0) = true := by simp; omega
          rw [hk, Bool.and_true]
          by_cases hn : (numR c).2 = true
          · rw [if_pos hn, hn]; exact ⟨rfl, fun _ => rfl⟩
          · rw [if_neg hn]
            have : (numR c).2 = false := by simpa using hn
            rw [this]
            exact ⟨rfl, fun h => by cases h⟩
        · rw [if_neg (fun h => hb h.2), prIx_not b hb 9 (by omega)]
          simp
      · rw [if_neg ha, if_neg (fun h => ha h.1)]
        simp
  · rw [firstF_ne line f h3]
    have hh : headF line = (0, 0, false) := by
      unfold headF
      match hs : splitF 32 line with
      | [] => rfl
      | [a] => rfl
      | [a, b] => rfl
      | [a, b, c] => rw [hs] at h3; exact absurd rfl h3
      | a :: b :: c :: d :: r => rfl
    rw [hh]
    simp
end Go.Abs
namespace Go.Abs
open Go
theorem split_le (c : UInt8) (s : List UInt8) : ∀ w ∈ splitF c s, w.length ≤ s.length := by
  intro w hw
  have hj := join_split c s
  have key : ∀ (l : List (List UInt8)) (w : List UInt8), w ∈ l → w.length ≤ (joinF c l).length := by
    intro l
    induction l with
    | nil => intro w hw; simp at hw
    | cons a r ih =>
      intro w hw
      cases r with
      | nil => simp at hw; subst hw; simp [joinF]
      | cons b r =>
        rcases List.mem_cons.1 hw with rfl | hw
        · simp [joinF]
        · have := ih w hw
          simp only [joinF, List.length_append, List.length_cons]
          omega
  have := key _ w hw
  rw [hj] at this
  exact this
theorem split_num (c : UInt8) : ∀ s : List UInt8, (splitF c s).length ≤ s.length + 1
  | [] => by simp [splitF]
  | x :: r => by
    have ih := split_num c r
    rw [splitF]
    split
    · simp; omega
    · match hs : splitF c r, splitF_ne c r with
      | a :: t, _ => rw [hs] at ih; simp at ih ⊢; omega
def lineS (line : List UInt8) : StD × Bool := match stepF line with
  | some x => (x, true)
  | none => (st0, false)
theorem lineS_of {line a : List UInt8} {l : List (List UInt8)} (hs : splitF 32 line = a :: l) : lineS line = match stepL a l with
  | some x => (x, true)
  | none => (st0, false) := by
  unfold lineS stepF
  rw [hs]
theorem lineS_none {line a : List UInt8} {l : List (List UInt8)} (hs : splitF 32 line = a :: l) (hno : ∀ j : Nat, 1 ≤ j → j < 15 → wdF j ≠ a) : lineS line = (st0, false) := by
  rw [lineS_of hs]
  have : stepL a l = none := by
    unfold stepL
    by_cases h : kdF a < 1 ∨ 14 < kdF a
    · rw [if_pos h]
    · exfalso
      have h2 := wd_kd a (by omega) (by omega)
      have h3 : ((kdF a).toNat : Int) = kdF a := by omega
      exact hno (kdF a).toNat (by omega) (by omega) (by rw [h3]; exact h2)
  rw [this]
theorem stepL_w (k : Int) (h1 : 1 ≤ k) (h2 : k ≤ 14) (l : List (List UInt8)) : stepL (wdF k) l = if l.length ≠ nfF k then none else if (l.all fun w => (numR w).2) = false then none else some (mkSt k (l.map fun w => (numR w).1)) := by
  unfold stepL
  rw [kd_wd k h1 h2, if_neg (by omega)]
theorem lineS_len {line : List UInt8} {k : Int} {l : List (List UInt8)} (hs : splitF 32 line = wdF k :: l) (h1 : 1 ≤ k) (h2 : k ≤ 14) (hl : l.length ≠ nfF k) : lineS line = (st0, false) := by
  rw [lineS_of hs, stepL_w k h1 h2, if_pos hl]
theorem lineS_0 {line : List UInt8} {k : Int} (hs : splitF 32 line = [wdF k]) (h1 : 1 ≤ k) (h2 : k ≤ 14) (h : shF k = 0) : lineS line = (⟨k, 0, 0, 0⟩, true) := by
  have hn : nfF k = 0 := by simp [nfF, h]
  rw [lineS_of hs, stepL_w k h1 h2, if_neg (by rw [hn]; simp)]
  simp [mkSt, h]
theorem lineS_1 {line b : List UInt8} {k : Int} (hs : splitF 32 line = [wdF k, b]) (h1 : 1 ≤ k) (h2 : k ≤ 14) (h : shF k = 1) : lineS line = if (numR b).2 = true then (⟨k, 0, (numR b).1, 0⟩, true) else (st0, false) := by
  have hn : nfF k = 1 := by simp [nfF, h]
  rw [lineS_of hs, stepL_w k h1 h2, if_neg (by rw [hn]; simp)]
  cases h3 : (numR b).2 <;> simp [mkSt, h, h3]
theorem lineS_3 {line b : List UInt8} {k : Int} (hs : splitF 32 line = [wdF k, b]) (h1 : 1 ≤ k) (h2 : k ≤ 14) (h : shF k = 3) : lineS line = if (numR b).2 = true then (⟨k, (numR b).1, 0, 0⟩, true) else (st0, false) := by
  have hn : nfF k = 1 := by simp [nfF, h]
  rw [lineS_of hs, stepL_w k h1 h2, if_neg (by rw [hn]; simp)]
  cases h3 : (numR b).2 <;> simp [mkSt, h, h3]
theorem lineS_2 {line b c : List UInt8} {k : Int} (hs : splitF 32 line = [wdF k, b, c]) (h1 : 1 ≤ k) (h2 : k ≤ 14) (h : shF k = 2) : lineS line = if (numR b).2 = true then (if (numR c).2 = true then (⟨k, (numR b).1, 0, (numR c).1⟩, true) else (st0, false)) else (st0, false) := by
  have hn : nfF k = 2 := by simp [nfF, h]
  rw [lineS_of hs, stepL_w k h1 h2, if_neg (by rw [hn]; simp)]
  cases h3 : (numR b).2 <;> cases h4 : (numR c).2 <;> simp [mkSt, h, h3, h4]
theorem numG_t {w : List UInt8} (h : (numR w).2 = true) : numG w = ((numR w).1, true) := by rw [numG_eq, if_pos h]
theorem numG_f {w : List UInt8} (h : (numR w).2 = false) : numG w = (0, false) := by rw [numG_eq, if_neg (by rw [h]; simp)]
theorem wd_cell (k : Nat) (h : k < 15) : ((wdsT.map PVal.str).drop k).take 1 = [.str (wdF k)] := by
  have : k = 0 ∨ k = 1 ∨ k = 2 ∨ k = 3 ∨ k = 4 ∨ k = 5 ∨ k = 6 ∨ k = 7 ∨ k = 8 ∨ k = 9 ∨ k = 10 ∨ k = 11 ∨ k = 12 ∨ k = 13 ∨ k = 14 := by omega
  rcases this with rfl | rfl | rfl | rfl | rfl | rfl | rfl | rfl | rfl | rfl | rfl | rfl | rfl | rfl | rfl <;> rfl
end Go.Abs
namespace Go.Abs
open Go
theorem pr_cell (k : Nat) (h : k < 9) : ((prsT.map PVal.str).drop k).take 1 = [.str (prF k)] := by
  have : k = 0 ∨ k = 1 ∨ k = 2 ∨ k = 3 ∨ k = 4 ∨ k = 5 ∨ k = 6 ∨ k = 7 ∨ k = 8 := by omega
  rcases this with rfl | rfl | rfl | rfl | rfl | rfl | rfl | rfl | rfl <;> rfl
end Go.Abs
namespace Go.Abs
open Go
variable {P : Program} {env : Env} {pin : Nat} {σ : St} {Q : Exit → St → Prop}
def RN (P : Program) (env : Env) (pin : Nat) (c : Code) (Q : Exit → St → Prop) (t : Tg (c, Q)) : Nat → St → Prop
  | 0, _ => False
  | n + 1, σ => VC P env pin c σ (thenQ (fun σ' => RN P env pin c Q t n σ') Q)
@[congr] theorem RN_congr {c : Code} {t : Tg (c, Q)} {n : Nat} {σ σ' : St} (h : σ = σ') : RN P env pin c Q t n σ = RN P env pin c Q t n σ' := by rw [h]
theorem RN_succ (c : Code) (t : Tg (c, Q)) (n : Nat) (σ : St) : RN P env pin c Q t (n + 1) σ = VC P env pin c σ (thenQ (fun σ' => RN P env pin c Q t n σ') Q) := rfl
theorem LW.rounds {c : Code} {t : Tg (Code.loop c, Q)} (hE : EnvOK P env) (hm : P.follows .mixedOrders = true) (n : Nat) (h : RN P env pin c Q .mk n σ) : LW P env pin (.loop c) σ Q t := by
  refine SW.loop (ι := {q : Nat × St // RN P env pin c Q .mk q.1 q.2}) (fun q => q.1.2) (fun q => q.1.1) ⟨(n, σ), h⟩ (Weak.refl _) ?_
  rintro ⟨⟨k, s⟩, hk⟩
  cases k with
  | zero => exact hk.elim
  | succ k =>
    refine (VC.to hE hm c hk).mono fun e σ' hq => ?_
    cases e with
    | normal => exact ⟨⟨(k, σ'), hq⟩, Weak.refl _, Nat.lt_succ_self _⟩
    | _ => exact hq
end Go.Abs
namespace Go.Abs
open Go
variable {P : Program} {env : Env} {pin : Nat} {σ : St} {Q : Exit → St → Prop}
variable {K : KT} {t : Tg K} {f : FuncId} {vals : List AVal} {d : Option Nat} {rest : List COp} {acc : Option Tr}
theorem VX.sb {b w : Bool} {r : Option Eff} {T : List Nat} (h1 : b = true → VX P env K t (b = w) r T d rest acc σ) (h2 : b = false → VX P env K t (b = w) r T d rest acc σ) : VX P env K t (b = w) r T d rest acc σ := by
  cases b
  · exact h2 rfl
  · exact h1 rfl
theorem CK.sb {b w : Bool} (h1 : b = true → CK P env K t (b = w) f vals d rest acc σ) (h2 : b = false → CK P env K t (b = w) f vals d rest acc σ) : CK P env K t (b = w) f vals d rest acc σ := by
  cases b
  · exact h2 rfl
  · exact h1 rfl
theorem VX.sa {b w : Bool} {q : Prop} {r : Option Eff} {T : List Nat} (h1 : b = true → VX P env K t (b = w ∧ q) r T d rest acc σ) (h2 : b = false → VX P env K t (b = w ∧ q) r T d rest acc σ) : VX P env K t (b = w ∧ q) r T d rest acc σ := by
  cases b
  · exact h2 rfl
  · exact h1 rfl
theorem CK.sa {b w : Bool} {q : Prop} (h1 : b = true → CK P env K t (b = w ∧ q) f vals d rest acc σ) (h2 : b = false → CK P env K t (b = w ∧ q) f vals d rest acc σ) : CK P env K t (b = w ∧ q) f vals d rest acc σ := by
  cases b
  · exact h2 rfl
  · exact h1 rfl
end Go.Abs
namespace Go.Abs
open Go
theorem cutEnd_len : ∀ (l : List (List UInt8)) (b b' : List UInt8) (r : List (List UInt8)), cutEnd l b = some (b', r) → r.length < l.length
  | [], _, _, _, h => by simp [cutEnd] at h
  | x :: l, b, b', r, h => by
    rw [cutEnd] at h
    split at h
    · cases h; simp
    · have := cutEnd_len l _ _ _ h
      simp; omega
def sumL (l : List (List UInt8)) : Nat := (l.map fun x => x.length + 1).sum
theorem sumL_cons (x : List UInt8) (l : List (List UInt8)) : sumL (x :: l) = x.length + 1 + sumL l := by simp [sumL]
structure PcI (ls : List (List UInt8)) (k0 : Nat) where
  k : Nat
  b : List UInt8
  hk : k ≤ ls.length
  eq : cutEnd (ls.drop k) b = cutEnd (ls.drop k0) []
  hb : b.length + sumL (ls.drop k) ≤ 1000000
theorem PcI.line {ls : List (List UInt8)} {k0 : Nat} (i : PcI ls k0) (h : i.k < ls.length) : ls.drop i.k = ls.getD i.k [] :: ls.drop (i.k + 1) := by
  rw [List.drop_eq_getElem_cons h]
  simp [List.getD, h]
def PcI.next {ls : List (List UInt8)} {k0 : Nat} (i : PcI ls k0) (h : i.k < ls.length) (hne : ls.getD i.k [] ≠ [101, 110, 100]) : PcI ls k0 :=
  ⟨i.k + 1, i.b ++ (ls.getD i.k [] ++ [10]), h, by
    rw [← i.eq, i.line h, cutEnd, if_neg hne], by
    have := i.hb
    rw [i.line h, sumL_cons] at this
    simp only [List.length_append, List.length_cons, List.length_nil]
    omega⟩
theorem PcI.fin {ls : List (List UInt8)} {k0 : Nat} (i : PcI ls k0) (h : i.k < ls.length) (he : ls.getD i.k [] = [101, 110, 100]) : cutEnd (ls.drop k0) [] = some (i.b, ls.drop (i.k + 1)) := by
  rw [← i.eq, i.line h, cutEnd, if_pos he]
theorem PcI.out {ls : List (List UInt8)} {k0 : Nat} (i : PcI ls k0) (h : ¬ i.k < ls.length) : cutEnd (ls.drop k0) [] = none := by
  rw [← i.eq, List.drop_eq_nil_of_le (by omega), cutEnd]
end Go.Abs
namespace Go.Abs
open Go
section
variable {P : Program} {env : Env} {pin : Nat} {σ σ' : St} {Q : Exit → St → Prop}
theorem Rel.wkL {E : Ent} {g : Gh} {M : Mem} {a a' : Act} {w : World} (hR : Rel E σ g M a w) (τ : Nat → Nat) (hsize : a'.tmps.size = σ'.slots.length) (hdef : a'.defers = E.ds)
    (hs : ∀ i, i < σ'.slots.length → σ'.slot i = .junk ∨ ∃ x, V g σ.dom M x (a'.tmps.getD i undef) ∧ x = ren τ (σ'.slot i) ∧ inScope (hasObj σ'.objs) (σ'.slot i) = true)
    (ho : wkObjs τ (hasObj σ'.objs) σ 0 σ'.objs) (hinj : ∀ i j o o', σ'.obj i = some o → o ≠ .dead → σ'.obj j = some o' → o' ≠ .dead → τ i = τ j → i = j) :
    Rel E σ' ⟨fun k => g.ρ (τ k), fun k => g.κ (τ k), fun k => g.ν (τ k)⟩ M a' w := by
  have hdom : ∀ k, hasObj σ'.objs k = true → σ'.dom k := fun k hk h0 => by
    have h1 : σ'.objs.getD k none = none := h0
    simp only [hasObj] at hk
    rw [h1] at hk; cases hk
  have hsc : ∀ k, hasObj σ'.objs k = true → σ'.dom k ∧ (⟨fun k => g.ρ (τ k), fun k => g.κ (τ k), fun k => g.ν (τ k)⟩ : Gh).ρ k = g.ρ (τ k) ∧ (⟨fun k => g.ρ (τ k), fun k => g.κ (τ k), fun k => g.ν (τ k)⟩ : Gh).κ k = g.κ (τ k) ∧ (⟨fun k => g.ρ (τ k), fun k => g.κ (τ k), fun k => g.ν (τ k)⟩ : Gh).ν k = g.ν (τ k) :=
    fun k hk => ⟨hdom k hk, rfl, rfl, rfl⟩
  have hown : ∀ k ob, owns (⟨fun k => g.ρ (τ k), fun k => g.κ (τ k), fun k => g.ν (τ k)⟩ : Gh) k ob = owns g (τ k) ob := fun k ob => by cases ob <;> rfl
  have hget : ∀ k ob b, σ'.obj k = some ob → owns (⟨fun k => g.ρ (τ k), fun k => g.κ (τ k), fun k => g.ν (τ k)⟩ : Gh) k ob = some b → σ.obj (τ k) = some (renO τ ob) ∧ owns g (τ k) (renO τ ob) = some b ∧ k < σ'.objs.length := fun k ob b hk hb => by
    rcases wkObjs_get ho k ob hk with rfl | ⟨h1, _⟩
    · simp [owns] at hb
    · rw [Nat.zero_add] at h1
      exact ⟨h1, by rw [owns_ren, ← hown]; exact hb, dom_of_some hk⟩
  refine ⟨hsize, hdef, ?_, ?_, ?_, ?_, hR.sat, hR.M0, hR.Mnew, hR.size0, hR.same, ?_, hR.os, hR.tape, hR.output⟩
  · intro i hi
    rcases hs i hi with h1 | ⟨x, h1, h2, h3⟩
    · rw [h1]; exact .junk _
    · exact V_in hsc h1 _ h2 h3
  · intro k ob hk
    rcases wkObjs_get ho k ob hk with rfl | ⟨h1, h2⟩
    · trivial
    · rw [Nat.zero_add] at h1
      have hor := hR.objs _ _ h1
      cases ob with
      | cells cs =>
        obtain ⟨vals, T, hh, hsz, hv⟩ := hor
        refine ⟨vals, T, hh, by rw [hsz, renL_length], fun j hj => ?_⟩
        exact V_in hsc (hv j (by rw [renL_length]; exact hj)) _ (renL_get τ cs j) (inScopeL_get _ _ _ h2)
      | row sz xs => exact hor
      | map kd es =>
        obtain ⟨ents, clock, hh, hsz, hv⟩ := hor
        refine ⟨ents, clock, hh, hsz, fun i e he => ?_⟩
        obtain ⟨en, q1, q2, q3, q4⟩ := hv i e he
        exact ⟨en, q1, q2, q3, V_in hsc q4 _ (ren_mval _ _).symm (inScope_mval _ _)⟩
      | bh T e B n =>
        obtain ⟨hd, hn, p, hh, hp⟩ := hor
        obtain ⟨k1, k2, k3, k4⟩ := hsc B h2
        exact ⟨k1, hn, p, hh, hp⟩
      | bb e s => exact hor
      | dead => trivial
  · intro k k' ob ob' b hk hk' hb hb'
    obtain ⟨h1, h2, h3⟩ := hget k ob b hk hb
    obtain ⟨h4, h5, h6⟩ := hget k' ob' b hk' hb'
    exact hinj k k' ob ob' hk (fun e => by subst e; simp [owns] at hb) hk' (fun e => by subst e; simp [owns] at hb') (hR.apart _ _ _ _ b h1 h4 h2 h5)
  · intro k ob b hk hb i
    obtain ⟨h1, h2, _⟩ := hget k ob b hk hb
    exact hR.offM _ _ b h1 h2 i
  · intro k ob b hk hb
    obtain ⟨h1, h2, _⟩ := hget k ob b hk hb
    exact hR.own0 _ _ b h1 h2
def liveT : List (Option AObj) → List Nat → List Nat
  | [], _ => []
  | _, [] => []
  | none :: r, _ :: t => liveT r t
  | some .dead :: r, _ :: t => liveT r t
  | some (.cells _) :: r, k :: t => k :: liveT r t
  | some (.row _ _) :: r, k :: t => k :: liveT r t
  | some (.map _ _) :: r, k :: t => k :: liveT r t
  | some (.bh _ _ _ _) :: r, k :: t => k :: liveT r t
  | some (.bb _ _) :: r, k :: t => k :: liveT r t
theorem liveT_get : ∀ (os : List (Option AObj)) (τ : List Nat) (i : Nat) (o : AObj), os.length = τ.length → os.getD i none = some o → o ≠ .dead → τ.getD i 0 ∈ liveT os τ
  | [], _, i, o, _, h, _ => by simp [List.getD] at h
  | _ :: _, [], _, _, hl, _, _ => by simp at hl
  | x :: r, k :: t, 0, o, hl, h, hd => by
    simp only [List.getD_cons_zero] at h ⊢
    subst h
    cases o <;> simp [liveT] at hd ⊢
  | x :: r, k :: t, i + 1, o, hl, h, hd => by
    have hm := liveT_get r t i o (by simpa using hl) (by simpa [List.getD] using h) hd
    have e : (k :: t).getD (i + 1) 0 = t.getD i 0 := by simp [List.getD]
    rw [e]
    cases x with
    | none => exact hm
    | some ob => cases ob <;> first | exact hm | exact List.mem_cons_of_mem _ hm
def nodupB : List Nat → Bool
  | [] => true
  | k :: r => !r.contains k && nodupB r
theorem live_inj : ∀ (os : List (Option AObj)) (τ : List Nat), os.length = τ.length → nodupB (liveT os τ) = true → ∀ i j o o', os.getD i none = some o → o ≠ .dead → os.getD j none = some o' → o' ≠ .dead → τ.getD i 0 = τ.getD j 0 → i = j
  | [], _, _, _, i, j, o, o', h, _, _, _, _ => by simp [List.getD] at h
  | _ :: _, [], hl, _, _, _, _, _, _, _, _, _, _ => by simp at hl
  | x :: r, k :: t, hl, hn, i, j, o, o', hi, hd, hj, hd', e => by
    have hl' : r.length = t.length := by simpa using hl
    have tail : nodupB (liveT r t) = true := by
      cases x with
      | none => exact hn
      | some ob => cases ob <;> simp only [liveT, nodupB, Bool.and_eq_true] at hn <;> first | exact hn | exact hn.2
    have head : ∀ ob : AObj, x = some ob → ob ≠ .dead → k ∉ liveT r t := fun ob hx hob => by
      subst hx
      cases ob <;> simp [liveT, nodupB] at hn hob ⊢ <;> exact hn.1
    match i, j with
    | 0, 0 => rfl
    | 0, j + 1 =>
      exfalso
      have h1 : x = some o := by simpa using hi
      have h2 := liveT_get r t j o' hl' (by simpa [List.getD] using hj) hd'
      have e' : k = t.getD j 0 := by simpa [List.getD] using e
      rw [← e'] at h2
      exact head o h1 hd h2
    | i + 1, 0 =>
      exfalso
      have h1 : x = some o' := by simpa using hj
      have h2 := liveT_get r t i o hl' (by simpa [List.getD] using hi) hd
      have e' : k = t.getD i 0 := by simpa [List.getD] using e.symm
      rw [← e'] at h2
      exact head o' h1 hd' h2
    | i + 1, j + 1 =>
      have := live_inj r t hl' tail i j o o' (by simpa [List.getD] using hi) hd (by simpa [List.getD] using hj) hd' (by simpa [List.getD] using e)
      omega
theorem Weak.wkL (τ : List Nat) (hlen : σ'.objs.length = env.nobj) (hτ : τ.length = env.nobj) (hnd : nodupB (liveT σ'.objs τ) = true) (hpin : ∀ k, k < pin → tau τ k = k ∧ (σ.dom k → σ'.dom k))
    (hs : wkSlots (tau τ) (hasObj σ'.objs) σ.slots σ'.slots) (ho : wkObjs (tau τ) (hasObj σ'.objs) σ 0 σ'.objs) : Weak env pin σ σ' := fun _ => ⟨hlen, fun E g M a w hR => by
  obtain ⟨hl, hg⟩ := wkSlots_get hs
  refine ⟨_, M, hR.wkL (tau τ) (by rw [hR.size, hl]) hR.defers (fun i hi => ?_) ho (fun i j o o' hi hd hj hd' e => live_inj σ'.objs τ (by omega) hnd i j o o' hi hd hj hd' e), Mem.le_refl _, fun id hid hd => ?_⟩
  · rcases hg i with h1 | ⟨h1, h2⟩
    · exact .inl h1
    · exact .inr ⟨σ.slot i, hR.slot i, h1, h2⟩
  · obtain ⟨h1, h2⟩ := hpin id hid
    refine ⟨?_, h2 hd⟩
    simp [Gh.agree, h1]⟩
theorem WMe (τ : List Nat) (hs : wkSlots (tau τ) (hasObj σ'.objs) σ.slots σ'.slots) (ho : wkObjs (tau τ) (hasObj σ'.objs) σ 0 σ'.objs) (hlen : σ'.objs.length = env.nobj := by rfl) (hτ : τ.length = env.nobj := by rfl) (hnd : nodupB (liveT σ'.objs τ) = true := by rfl) (hp : ∀ k, k < pin → tau τ k = k := by first | decide | (simp only [List.length_cons, List.length_nil]; decide)) (h1 : (σ'.objs.take pin).all Option.isSome = true := by simp) (h2 : pin ≤ σ'.objs.length := by simp) : Weak env pin σ σ' :=
  Weak.wkL τ hlen hτ hnd (pinsT hp h1 h2) hs ho
end
end Go.Abs
namespace Go.Abs
open Go
def sc0 : ScD := ⟨[], 0, 0, []⟩
def readS (ls : List (List UInt8)) (torn : Bool) : ScD × Int × Int :=
  if (firstF (ls.getD 0 []) 0).2.2 = false then (sc0, 1, 1)
  else match procsF ls.length (ls.drop 1) 2 [] with
    | .bad a e => (sc0, a, e)
    | .ok cs r a => if (stepsF torn r a []).2.2 ≠ 0 then (sc0, (stepsF torn r a []).2.1, (stepsF torn r a []).2.2)
      else (⟨cs, (firstF (ls.getD 0 []) 0).1, (firstF (ls.getD 0 []) 0).2.1, (stepsF torn r a []).1⟩, 0, 0)
theorem readF_S (s : List UInt8) : readF s = if 65536 < s.length then (sc0, 0, 5) else readS (linesF s) (tornF s) := by
  unfold readF
  by_cases hl : 65536 < s.length
  · rw [if_pos hl, if_pos hl]; rfl
  rw [if_neg hl, if_neg hl]
  cases h : linesF s with
  | nil => rfl
  | cons l r =>
    obtain ⟨e1, e2⟩ := first_head l 0
    unfold readS
    simp only [List.getD_cons_zero, List.length_cons, List.drop_succ_cons, List.drop_zero]
    rw [e1]
    by_cases hh : (headF l).2.2 = false
    · rw [if_pos hh, if_pos hh]; rfl
    · rw [if_neg hh, if_neg hh, e2 (by simpa using hh)]
      rfl
theorem cutEnd_drop : ∀ (l : List (List UInt8)) (b b' : List UInt8) (r : List (List UInt8)), cutEnd l b = some (b', r) → r = l.drop (l.length - r.length)
  | [], _, _, _, h => by simp [cutEnd] at h
  | x :: l, b, b', r, h => by
    have hl := cutEnd_len _ _ _ _ h
    rw [cutEnd] at h
    split at h
    · cases h; simp
    · have hl2 := cutEnd_len _ _ _ _ h
      have := cutEnd_drop l _ _ _ h
      simp only [List.length_cons]
      rw [show l.length + 1 - r.length = (l.length - r.length) + 1 by omega, List.drop_succ_cons]
      exact this
structure RqI (ls : List (List UInt8)) (R : HR) where
  k : Nat
  cs : List CdD
  f : Nat
  hk1 : 1 ≤ k
  hk : k ≤ ls.length
  hf : ls.length - k < f
  hcs : cs.length ≤ 5
  eq : procsF f (ls.drop k) ((k : Int) + 1) cs = R
section
variable {ls : List (List UInt8)} {R : HR} (i : RqI ls R)
theorem RqI.line (h : i.k < ls.length) : ls.drop i.k = ls.getD i.k [] :: ls.drop (i.k + 1) := by
  rw [List.drop_eq_getElem_cons h]
  simp [List.getD, h]
theorem RqI.fuel : ∃ g, i.f = g + 1 := ⟨i.f - 1, by have := i.hf; omega⟩
theorem RqI.out (h : ¬ i.k < ls.length) : R = .bad ((i.k + 1 : Nat) : Int) 1 := by
  obtain ⟨g, hg⟩ := i.fuel
  refine i.eq.symm.trans ?_
  rw [hg, List.drop_eq_nil_of_le (by omega), procsF]
  congr 1
theorem RqI.bad (h : i.k < ls.length) (hp : ls.getD i.k [] ≠ [112, 114, 111, 99, 101, 115, 115]) (hs : ls.getD i.k [] ≠ [115, 116, 101, 112, 115] ∨ i.cs = []) : R = .bad ((i.k + 1 : Nat) : Int) 1 := by
  obtain ⟨g, hg⟩ := i.fuel
  refine i.eq.symm.trans ?_
  rw [hg, i.line h, procsF, if_neg hp, if_neg]
  · congr 1
  · rintro ⟨a, b⟩
    rcases hs with hs | hs
    · exact hs a
    · exact b hs
theorem RqI.steps (h : i.k < ls.length) (hs : ls.getD i.k [] = [115, 116, 101, 112, 115]) (hc : i.cs ≠ []) : R = .ok i.cs (ls.drop (i.k + 1)) (((i.k + 1 : Nat) : Int) + 1) := by
  obtain ⟨g, hg⟩ := i.fuel
  refine i.eq.symm.trans ?_
  rw [hg, i.line h, procsF, hs, if_neg (by decide), if_pos ⟨rfl, hc⟩]
  congr 1
theorem RqI.many (h : i.k < ls.length) (hp : ls.getD i.k [] = [112, 114, 111, 99, 101, 115, 115]) (h5 : 5 ≤ i.cs.length) : R = .bad ((i.k + 1 : Nat) : Int) 4 := by
  obtain ⟨g, hg⟩ := i.fuel
  refine i.eq.symm.trans ?_
  rw [hg, i.line h, procsF, if_pos hp, if_pos h5]
  congr 1
theorem RqI.none (h : i.k < ls.length) (hp : ls.getD i.k [] = [112, 114, 111, 99, 101, 115, 115]) (h5 : ¬ 5 ≤ i.cs.length) (hc : cutEnd (ls.drop (i.k + 1)) [] = none) : R = .bad ((ls.length + 1 : Nat) : Int) 1 := by
  obtain ⟨g, hg⟩ := i.fuel
  refine i.eq.symm.trans ?_
  rw [hg, i.line h, procsF, if_pos hp, if_neg h5, hc]
  simp only [List.length_drop]
  congr 1
  omega
theorem RqI.body (h : i.k < ls.length) (hp : ls.getD i.k [] = [112, 114, 111, 99, 101, 115, 115]) (h5 : ¬ 5 ≤ i.cs.length) {b : List UInt8} {r : List (List UInt8)} (hc : cutEnd (ls.drop (i.k + 1)) [] = some (b, r)) (he : (bodyF b).2 ≠ 0) : R = .bad ((i.k + 1 : Nat) : Int) (bodyF b).2 := by
  obtain ⟨g, hg⟩ := i.fuel
  refine i.eq.symm.trans ?_
  rw [hg, i.line h, procsF, if_pos hp, if_neg h5, hc]
  dsimp only
  rw [if_pos he]
  congr 1
def RqI.next (h : i.k < ls.length) (hp : ls.getD i.k [] = [112, 114, 111, 99, 101, 115, 115]) (h5 : ¬ 5 ≤ i.cs.length) {b : List UInt8} {r : List (List UInt8)} (hc : cutEnd (ls.drop (i.k + 1)) [] = some (b, r)) (he : (bodyF b).2 = 0) : RqI ls R :=
  ⟨ls.length - r.length, i.cs ++ [(bodyF b).1], i.f - 1, by
    have := cutEnd_len _ _ _ _ hc
    simp only [List.length_drop] at this
    have := i.hk1
    omega, by omega, by
    have := cutEnd_len _ _ _ _ hc
    simp only [List.length_drop] at this
    have := i.hf
    omega, by simp; omega, by
    obtain ⟨g, hg⟩ := i.fuel
    have hl := cutEnd_len _ _ _ _ hc
    have hd := cutEnd_drop _ _ _ _ hc
    simp only [List.length_drop] at hl
    rw [List.drop_drop, List.length_drop, show i.k + 1 + (ls.length - (i.k + 1) - r.length) = ls.length - r.length by omega] at hd
    refine Eq.trans ?_ i.eq
    rw [hg, i.line h, procsF, if_pos hp, if_neg h5, hc]
    dsimp only
    rw [if_neg (by simpa using he), ← hd]
    simp only [List.length_drop, Nat.add_sub_cancel]
    congr 1
    omega⟩
end
structure RsI (ls : List (List UInt8)) (torn : Bool) (S : List StD × Int × Int) where
  k : Nat
  xs : List StD
  hk : k ≤ ls.length
  hx : xs.length ≤ 400
  eq : stepsF torn (ls.drop k) ((k : Int) + 1) xs = S
section
variable {ls : List (List UInt8)} {torn : Bool} {S : List StD × Int × Int} (i : RsI ls torn S)
theorem RsI.line (h : i.k < ls.length) : ls.drop i.k = ls.getD i.k [] :: ls.drop (i.k + 1) := by
  rw [List.drop_eq_getElem_cons h]
  simp [List.getD, h]
theorem RsI.fin (h : ¬ i.k < ls.length) (ht : torn = false) : S = (i.xs, 0, 0) := by
  refine i.eq.symm.trans ?_
  rw [List.drop_eq_nil_of_le (by omega), stepsF, if_neg (by rw [ht]; simp)]
theorem RsI.cut (h : ¬ i.k < ls.length) (ht : torn = true) : S = ([], ((i.k + 1 : Nat) : Int), 1) := by
  refine i.eq.symm.trans ?_
  rw [List.drop_eq_nil_of_le (by omega), stepsF, if_pos ht]
  rfl
theorem RsI.none (h : i.k < ls.length) (hs : stepF (ls.getD i.k []) = none) : S = ([], ((i.k + 1 : Nat) : Int), 1) := by
  refine i.eq.symm.trans ?_
  rw [i.line h, stepsF, hs]
  rfl
theorem RsI.many (h : i.k < ls.length) {x : StD} (hs : stepF (ls.getD i.k []) = some x) (h4 : 400 ≤ i.xs.length) : S = ([], ((i.k + 1 : Nat) : Int), 4) := by
  refine i.eq.symm.trans ?_
  rw [i.line h, stepsF, hs]
  dsimp only
  rw [if_pos h4]
  rfl
def RsI.next (h : i.k < ls.length) {x : StD} (hs : stepF (ls.getD i.k []) = some x) (h4 : ¬ 400 ≤ i.xs.length) : RsI ls torn S :=
  ⟨i.k + 1, i.xs ++ [x], h, by simp; omega, by
    refine Eq.trans ?_ i.eq
    rw [i.line h, stepsF, hs]
    dsimp only
    rw [if_neg h4]
    congr 1⟩
end
end Go.Abs
namespace Go.Abs
open Go
end Go.Abs
namespace Go.Abs
open Go
end Go.Abs
namespace Go.Abs
open Go
section
variable {ps : List PgD} {protocol faults : Int} {l : List StD}
end
structure FpI (ps : List PgD) where
  k : Nat
  hk : k ≤ ps.length
  no : ∀ p ∈ ps.take k, badP p = false
def FpI.next {ps : List PgD} (i : FpI ps) (h : i.k < ps.length) (hb : badP ps[i.k] = false) : FpI ps := ⟨i.k + 1, h, by
  rw [List.take_succ_eq_append_getElem h]
  intro p hp
  rcases List.mem_append.1 hp with hp | hp
  · exact i.no p hp
  · simp at hp; subst hp; exact hb⟩
structure FsI (l : List StD) where
  k : Nat
  hk : k ≤ l.length
  no : ∀ x ∈ l.take k, badS x = false
def FsI.next {l : List StD} (i : FsI l) (h : i.k < l.length) (hb : badS l[i.k] = false) : FsI l := ⟨i.k + 1, h, by
  rw [List.take_succ_eq_append_getElem h]
  intro x hx
  rcases List.mem_append.1 hx with hx | hx
  · exact i.no x hx
  · simp at hx; subst hx; exact hb⟩
end Go.Abs
namespace Go.Abs
open Go
theorem procsF_ne : ∀ (f : Nat) (r : List (List UInt8)) (a : Int) (cs : List CdD) (x e : Int), procsF f r a cs = .bad x e → e ≠ 0
  | 0, _, _, _, x, e, h => by rw [procsF] at h; cases h; decide
  | f + 1, [], _, _, x, e, h => by rw [procsF] at h; cases h; decide
  | f + 1, l :: r, a, cs, x, e, h => by
    rw [procsF] at h
    split at h
    · split at h
      · cases h; decide
      · split at h
        · cases h; decide
        · split at h
          · rename_i he
            cases h; exact he
          · exact procsF_ne f _ _ _ x e h
    · split at h
      · cases h
      · cases h; decide
theorem readS_ok (ls : List (List UInt8)) (torn : Bool) (h : (readS ls torn).2.2 = 0) : ∃ d, readS ls torn = (d, 0, 0) := by
  unfold readS at h ⊢
  split at h
  · cases h
  · rename_i h1
    rw [if_neg h1]
    split at h
    · rename_i a e he
      exact absurd h (procsF_ne _ _ _ _ _ _ he)
    · rename_i cs r a he
      split at h
      · rename_i h2; exact absurd h h2
      · rename_i h2
        try rw [he]
        try dsimp only
        rw [if_neg h2]
        exact ⟨_, rfl⟩
theorem readS_bad (ls : List (List UInt8)) (torn : Bool) (h : (readS ls torn).2.2 ≠ 0) : ∃ a e, readS ls torn = (sc0, a, e) ∧ e ≠ 0 := by
  unfold readS at h ⊢
  split at h
  · rename_i h1
    rw [if_pos h1]
    exact ⟨_, _, rfl, by decide⟩
  · rename_i h1
    rw [if_neg h1]
    split at h
    · rename_i a e he
      try rw [he]
      exact ⟨_, _, rfl, h⟩
    · rename_i cs r a he
      split at h
      · rename_i h2
        try rw [he]
        try dsimp only
        rw [if_pos h2]
        exact ⟨_, _, rfl, h2⟩
      · exact absurd rfl h
theorem sumL_split (c : UInt8) : ∀ s : List UInt8, sumL (splitF c s) = s.length + 1
  | [] => by simp [splitF, sumL]
  | x :: r => by
    have ih := sumL_split c r
    rw [splitF]
    split
    · rw [sumL_cons, ih]; simp; omega
    · match hs : splitF c r, splitF_ne c r with
      | a :: t, _ =>
        rw [hs, sumL_cons] at ih
        rw [sumL_cons]; simp; omega
theorem sumL_drop : ∀ l : List (List UInt8), sumL l.dropLast ≤ sumL l
  | [] => by simp [sumL]
  | [a] => by simp [sumL]
  | a :: b :: r => by
    have := sumL_drop (b :: r)
    rw [List.dropLast_cons_cons, sumL_cons, sumL_cons]
    omega
theorem len_sumL : ∀ l : List (List UInt8), l.length ≤ sumL l
  | [] => by simp
  | a :: r => by have := len_sumL r; rw [sumL_cons]; simp; omega
theorem linesF_sum (s : List UInt8) : sumL (linesF s) ≤ s.length + 1 ∧ (linesF s).length ≤ s.length + 1 := by
  have h1 := sumL_drop (splitF 10 s)
  rw [sumL_split] at h1
  have h2 := len_sumL (linesF s)
  unfold linesF at h2 ⊢
  omega
theorem linesF_take (s : List UInt8) : ((splitF 10 s).map fun x => [PVal.str x]).take ((splitF 10 s).length - 1) = (linesF s).map encT := by
  unfold linesF
  rw [List.dropLast_eq_take, List.map_take]
  rfl
theorem tornF_last (s : List UInt8) : ((splitF 10 s).map fun x => [PVal.str x]).getD ((splitF 10 s).length - 1) [] = [.str ((splitF 10 s).getLast (splitF_ne 10 s))] ∧ ((splitF 10 s).getLast (splitF_ne 10 s) == []) = !tornF s := by
  have hp : 0 < (splitF 10 s).length := List.length_pos_iff.2 (splitF_ne 10 s)
  refine ⟨?_, ?_⟩
  · have hk : (splitF 10 s).length - 1 < (splitF 10 s).length := by omega
    rw [List.getD_eq_getElem?_getD, List.getElem?_map, List.getElem?_eq_getElem hk, List.getLast_eq_getElem]
    rfl
  · unfold tornF
    by_cases h : (splitF 10 s).getLast (splitF_ne 10 s) = []
    · simp [h]
    · simp [h]
def scA (q : ScD × Int × Int) : AVal := .tup [.agg [.pv (.slice (q.1.codes.map fun c => [.slice (c.init.map enc1), .slice (c.start.map encSm), .slice (c.message.map encSm), .slice (c.tick.map encSm), .slice (c.input.map encSm)])), .pv (.int .i64 q.1.protocol), .pv (.int .i64 q.1.faults)], .pv (.slice (q.1.steps.map encSt)), .pv (.int .i64 q.2.1), .pv (.int .i64 q.2.2)]
end Go.Abs
namespace Go.Abs
open Go
def rmodF (x n : Int) : Int := if x.tmod n < 0 then x.tmod n + n else x.tmod n
theorem rmodF_lt (x n : Int) (hn : 0 < n) : 0 ≤ rmodF x n ∧ rmodF x n < n := by
  unfold rmodF
  have h1 := Int.tmod_lt_of_pos x hn
  have h2 : -n < x.tmod n := by
    have := Int.lt_tmod_of_pos x hn
    exact this
  split <;> omega
end Go.Abs
namespace Go.Abs
open Go Go.ChangeShapes Go.WideShapes Go.ChangeAt Go.RowKit
def memOf (W : World) : Mem := fun b i => W.cell? ⟨b, i, none⟩
structure Held (W W' : World) : Prop where
  os : W'.os = W.os
  output : W'.output = W.output
  size : W.heap.size ≤ W'.heap.size
  same : ∀ b, b < W.heap.size → W'.heap[b]? = W.heap[b]?
theorem law_runs {P : Program} {gl : Nat → Option (List PVal)} {f : FuncId} {W : World} (pvs : List PVal) (vargs : List Value) (hac : AC P gl f (pvs.map .pv) [] (.pv (.bool true)) [])
    (hgl : GOK ⟨fun _ => none, gl, fun _ => 0, 0⟩ (memOf W)) (hex : ∀ b cs, gl b = some cs → cs ≠ [] → ∃ vals T l, W.heap[b]? = some (.cells vals T l) ∧ vals.size = cs.length) (hlen : vargs.length = pvs.length) (hrd : ∀ i, i < pvs.length → Rd (memOf W) (pvs.getD i .nilptr) (vargs.getD i undef)) :
    Calls P f vargs.toArray W fun e W' => e = .returned (.bool true) ∧ Held W W' := by
  have hR : Rel ⟨W, memOf W, blocksOf ⟨fun _ => 0, fun _ => 0, fun _ => false⟩ [], []⟩ ⟨pvs.map .pv, []⟩ ⟨fun _ => 0, fun _ => 0, fun _ => false⟩ (memOf W) ⟨vargs.toArray, []⟩ W := by
    refine ⟨by simpa using hlen, rfl, fun i hi => ?_, ?_, ?_, ?_, fun b i u h => h, Mem.le_refl _, fun _ _ _ _ => rfl, Nat.le_refl _, fun _ _ _ => rfl, ?_, rfl, rfl, rfl⟩
    · simp only [List.length_map] at hi
      have h1 := hrd i hi
      have e1 : St.slot ⟨pvs.map .pv, []⟩ i = .pv (pvs.getD i .nilptr) := by simp [St.slot, List.getD, hi]
      have e2 : vargs.toArray.getD i undef = vargs.getD i undef := by simp [Array.getD, List.getD, hlen, hi]
      rw [e1]
      show V _ _ _ _ (vargs.toArray.getD i undef)
      rw [e2]
      exact .pv h1
    · intro id o h; simp [St.obj] at h
    · intro id id' o o' b h; simp [St.obj] at h
    · intro id o b h; simp [St.obj] at h
    · intro id o b h; simp [St.obj] at h
  refine (hac W (memOf W) _ vargs hR ⟨hgl, fun b cs hb hne => ⟨by rintro ⟨id, ob, h, _⟩; simp at h, hex b cs hb hne⟩⟩).mono fun e W' ⟨v, g', M', he, hR', _⟩ => ?_
  have hs := hR'.slots 0 (by simp)
  have hv : v = .bool true := by
    have h1 : V g' (St.dom ⟨[.pv (.bool true)], []⟩) M' (.pv (.bool true)) v := by simpa [St.slot, Array.getD] using hs
    cases h1 with
    | pv h => cases h; rfl
  have hB : ∀ b, ¬ blocksOf ⟨fun _ => 0, fun _ => 0, fun _ => false⟩ [] b := by rintro b ⟨id, ob, h, _⟩; simp at h
  exact ⟨by rw [he, hv], hR'.os, hR'.output, hR'.size0, fun b hb => hR'.same b hb (hB b)⟩
section
variable {H : Type} {enc : TypeId × Value → H} {P : Program}
theorem Held.sameAt {W W' : World} (h : Held W W') {p : MemPlace} (hp : p.block < W.heap.size) : W.sameAt W' p := by
  cases p with
  | cell b off => show W'.cell? _ = W.cell? _; simp only [World.cell?]; rw [h.same b hp]
  | map b => exact h.same b hp
theorem trodAll_stays (hl : laidOutB P = true) {W W' : World} (hh : Held W W') {sp' : Nat → Bool} : ∀ {ts : List TypeId} {vs : List Value} {ds : List (DataW H)} {ps : List MemPlace}, (∀ t ∈ ts, P.readableRec t = true ∧ t < P.types.size) →
    DataW.TrodAll enc P W 0 (fun _ => true) true ts vs ds ps → (∀ p ∈ ps, p.block < W.heap.size) → (∀ p ∈ ps, sp' p.block = true) → DataW.TrodAll enc P W' 0 sp' true ts vs ds ps
  | [], [], [], _, _, h, _, _ => h
  | [], [], _ :: _, _, _, h, _, _ => h.elim
  | [], _ :: _, _, _, _, h, _, _ => h.elim
  | _ :: _, [], _, _, _, h, _, _ => h.elim
  | _ :: _, _ :: _, [], _, _, h, _, _ => h.elim
  | t :: ts, v :: vs, d :: ds, ps, hr, ⟨p, q, h1, h2, he⟩, hlt, hsp => by
    subst he
    have hr1 := hr t (by simp)
    exact ⟨p, q, WideElems.Trod_stays hl hr1.1 hr1.2 h1 (fun x hx => hh.sameAt (hlt x (by simp [hx]))) (fun x hx => hsp x (by simp [hx])),
      trodAll_stays hl hh (fun t ht => hr t (by simp [ht])) h2 (fun x hx => hlt x (by simp [hx])) (fun x hx => hsp x (by simp [hx])), rfl⟩
theorem Held.keptBut {W W' : World} (h : Held W W') (may : MemPlace → Prop) : W.keptBut W' may := by
  refine ⟨h.os, h.output, fun i hi => ?_⟩
  rw [h.same i hi]
  split
  · rename_i h1 h2; rw [h1] at h2; cases h2; exact ⟨rfl, rfl, rfl, fun _ _ => rfl⟩
  · rename_i h1 h2; rw [h1] at h2; cases h2; exact .inr ⟨rfl, rfl⟩
  · rfl
theorem law_post {f : Func} {s : ChangeSpec} {fresh handsOn again : Bool} {W W' : World} {args : Array Value} {ds gs : List (DataW H)} {before : List MemPlace} {tb : TypeId}
    (hl : laidOutB P = true) (hr : ∀ t ∈ f.params.toList, P.readableRec t = true ∧ t < P.types.size) (hrt : f.resultTypes = #[tb]) (htb : P.underlying tb = some .bool)
    (hvars : s.vars = []) (hfn : ∀ ds : List (DataW H), ds.length = f.params.size → (s.fn H ds).results = [.lit (.bool true)] ∧ (s.fn H ds).args = ds ∧ (s.fn H ds).vars = [])
    (hW : DataW.Whole enc P f.params.toList s.vars false W args.toList ds gs before) (hh : Held W W') :
    s.post enc P f false fresh handsOn again W args (.bool true) W' := by
  have hlt := hW.lt
  have hW' := hW
  obtain ⟨p, q, hA, hV, rfl, hz, hn⟩ := hW
  rw [hvars] at hV
  obtain ⟨rfl, rfl⟩ := trodVars_none hV
  rw [List.append_nil] at hlt hz hn hW'
  have hdl : ds.length = f.params.size := by
    have : ∀ {ts : List TypeId} {vs : List Value} {ds : List (DataW H)} {ps : List MemPlace}, DataW.TrodAll enc P W 0 (fun _ => true) true ts vs ds ps → ds.length = ts.length := by
      intro ts
      induction ts with
      | nil => intro vs ds ps h; obtain ⟨_, rfl, _⟩ := trodAll_nil h; rfl
      | cons t ts ih =>
        intro vs ds ps h
        obtain ⟨_, _, _, _, _, _, _, rfl, _, _, h2⟩ := trodAll_cons h
        simp [ih h2]
    simpa using this hA
  obtain ⟨f1, f2, f3⟩ := hfn (ds ++ []) (by simpa using hdl)
  have hres : ∀ (b : Nat) (sp : Nat → Bool) (hd : Bool), DataW.TrodAll enc P W' b sp hd f.resultTypes.toList ((Value.bool true).resultList f.resultTypes.size) (s.fn H (ds ++ [])).results [] := fun b sp hd => by
    rw [f1, hrt]
    exact trodAll_cons_mk (shut_bool htb _) trodAll_mk0
  have hargs : ∀ sp : Nat → Bool, (∀ x ∈ p, sp x.block = true) → DataW.TrodAll enc P W' 0 sp true f.params.toList args.toList (s.fn H (ds ++ [])).args p := fun sp hsp => by
    rw [f2, List.append_nil]
    exact trodAll_stays hl hh hr hA hlt hsp
  have hvs : ∀ sp : Nat → Bool, DataW.TrodVars enc P W' sp s.vars (s.fn H (ds ++ [])).vars [] := fun sp => by rw [hvars, f3]; rfl
  refine ⟨ds, [], p, [], p, [], hW', hres _ _ _, hargs _ (fun x hx => by simpa using hlt x hx), hvs _, hh.keptBut _, fun _ => ?_⟩
  refine ⟨?_, _, _, ([] ++ p) ++ [], ⟨[] ++ p, [], trodAll_append (hargs _ (fun _ _ => rfl)) (hres _ _ _), hvs _, rfl, ?_, ?_⟩, ?_⟩
  · exact ok_one (by rw [hrt]) rfl (okWide_bool_mk htb _)
  · intro b off hp
    have hp' : MemPlace.cell b off ∈ p := by simpa using hp
    have := hz b off hp'
    rw [World.frozen?, hh.same b (hlt _ hp')]
    exact this
  · intro ha; cases ha
  · intro x hx _
    simpa using hx
end
end Go.Abs
namespace Go.Abs
open Go Go.ChangeShapes Go.WideShapes Go.ChangeAt Go.RowKit Go.Deep
section
variable {H : Type} {enc : TypeId × Value → H} {P : Program} {W : World} {spare : Nat → Bool} {held : Bool}
end
end Go.Abs
namespace Go.Abs
open Go Go.ChangeShapes Go.WideShapes Go.ChangeAt Go.RowKit Go.Deep
section
variable {H : Type} {enc : TypeId × Value → H} {P : Program} {W : World} {spare : Nat → Bool} {held : Bool}
end
end Go.Abs
namespace Go.Abs
open Go
theorem table_cell {H : Type} {enc : TypeId × Value → H} {P : Program} {w : World} {base : Nat} {spare : Nat → Bool} {held : Bool} {fuel : Nat} {t e : TypeId} {cs : List Value} {ps : List MemPlace} {n : Nat} {ds : List (List UInt8)}
    (ht : P.underlying t = some (.array n e)) (he : P.underlying e = some .string) (hC : P.cellsOf e = 1)
    (h : DataW.trod enc P w base spare held fuel t cs = some (.agg (ds.map fun s => .lit (.string s)), ps)) (i : Nat) (hi : i < ds.length) : cs[i]? = some (.string ⟨(ds.getD i []).toArray⟩) := by
  obtain ⟨xs, m, _, hx, _, hn, hel⟩ := DataW.trod_array ht h
  simp only [Prod.mk.injEq, DataW.agg.injEq] at hx
  have hlen : ds.length = xs.length := by have := congrArg List.length hx.1; simpa using this
  have h1 := hel i (by omega)
  rw [hC, List.getElem?_eq_getElem (by omega)] at h1
  obtain ⟨s, e1, e2, _⟩ := DataW.trod_string he h1
  have h2 : (ds.map fun s => (DataW.lit (.string s) : DataW H))[i]? = (xs.map (fun x => x.fst))[i]? := by rw [hx.1]
  rw [List.getElem?_map, List.getElem?_map, List.getElem?_eq_getElem hi, List.getElem?_eq_getElem (by omega : i < xs.length)] at h2
  simp only [Option.map_some, Option.some.injEq] at h2
  rw [e2] at h2
  simp only [DataW.lit.injEq, Lit.string.injEq] at h2
  have h3 : ds.getD i [] = s.data.toList := by simp [List.getD, hi, h2]
  rw [h3]
  have h4 : cs[i]? = some (.string s) := by
    have := congrArg (fun l => l[0]?) e1
    simpa using this
  rw [h4]
end Go.Abs
namespace Go.Abs
open Go
theorem table_int {H : Type} {enc : TypeId × Value → H} {P : Program} {w : World} {base : Nat} {spare : Nat → Bool} {held : Bool} {fuel : Nat} {t e : TypeId} {cs : List Value} {ps : List MemPlace} {n : Nat} {k : IntKind} {ds : List Int}
    (ht : P.underlying t = some (.array n e)) (he : P.underlying e = some (.int k)) (hC : P.cellsOf e = 1)
    (h : DataW.trod enc P w base spare held fuel t cs = some (.agg (ds.map fun s => .lit (.int k s)), ps)) (i : Nat) (hi : i < ds.length) : cs[i]? = some (.int k (ds.getD i 0)) := by
  obtain ⟨xs, m, _, hx, _, hn, hel⟩ := DataW.trod_array ht h
  simp only [Prod.mk.injEq, DataW.agg.injEq] at hx
  have hlen : ds.length = xs.length := by have := congrArg List.length hx.1; simpa using this
  have h1 := hel i (by omega)
  rw [hC, List.getElem?_eq_getElem (by omega)] at h1
  obtain ⟨s, e1, e2, _⟩ := DataW.trod_int he h1
  have h2 : (ds.map fun s => (DataW.lit (.int k s) : DataW H))[i]? = (xs.map (fun x => x.fst))[i]? := by rw [hx.1]
  rw [List.getElem?_map, List.getElem?_map, List.getElem?_eq_getElem hi, List.getElem?_eq_getElem (by omega : i < xs.length)] at h2
  simp only [Option.map_some, Option.some.injEq] at h2
  rw [e2] at h2
  simp only [DataW.lit.injEq, Lit.int.injEq] at h2
  have h3 : ds.getD i 0 = s := by simp [List.getD, hi, h2]
  rw [h3]
  have h4 : cs[i]? = some (.int k s) := by
    have := congrArg (fun l => l[0]?) e1
    simpa using this
  rw [h4]
theorem iface_cell {H : Type} {enc : TypeId × Value → H} {P : Program} {w : World} {base : Nat} {spare : Nat → Bool} {held : Bool} {fuel : Nat} {t : TypeId} {cs : List Value} {ps : List MemPlace} {ms : Array (String × TypeId)} {nm : String} {d : DataW H}
    (ht : P.underlying t = some (.interface ms)) (h : DataW.trod enc P w base spare held fuel t cs = some (.iface nm d, ps)) : ∃ u v, cs[0]? = some (.iface u v) := by
  cases fuel with
  | zero => simp [DataW.trod] at h
  | succ f =>
    unfold DataW.trod at h
    rw [ht] at h
    split at h <;> simp_all
theorem var_block {P : Program} {W : World} {name : String} {b : Nat} {cs : Array Value} (hg : P.globalNamed name = some b) (hv : W.var? P name = some cs) : ∃ T l, W.heap[b]? = some (.cells cs T l) := by
  unfold World.var? at hv
  rw [hg] at hv
  simp only [Option.bind_some] at hv
  split at hv
  · rename_i cs' T l h
    cases hv
    exact ⟨T, l, h⟩
  · cases hv
theorem table_size {H : Type} {enc : TypeId × Value → H} {P : Program} {w : World} {base : Nat} {spare : Nat → Bool} {held : Bool} {fuel : Nat} {t e : TypeId} {cs : Array Value} {x : DataW H × List MemPlace} {n m : Nat}
    (ht : P.underlying t = some (.array n e)) (hC : P.cellsOf t = m) (h : DataW.trod enc P w base spare held fuel t cs.toList = some x) : cs.size = m := by
  obtain ⟨_, _, _, _, hl, _⟩ := DataW.trod_array ht h
  simpa [hC] using hl
theorem iface_size {H : Type} {enc : TypeId × Value → H} {P : Program} {w : World} {base : Nat} {spare : Nat → Bool} {held : Bool} {fuel : Nat} {t : TypeId} {cs : Array Value} {ps : List MemPlace} {ms : Array (String × TypeId)} {nm : String} {d : DataW H}
    (ht : P.underlying t = some (.interface ms)) (h : DataW.trod enc P w base spare held fuel t cs.toList = some (.iface nm d, ps)) : cs.size = 1 := by
  rw [← Array.length_toList]
  generalize cs.toList = l at *
  cases fuel with
  | zero => simp [DataW.trod] at h
  | succ f =>
    unfold DataW.trod at h
    rw [ht] at h
    split at h <;> simp_all
end Go.Abs
namespace Go.Abs
open Go
variable {H : Type} {enc : TypeId × Value → H}
theorem returns_shaped {a : Assume} {C : Checked} {os : Os} {f : FuncId} {fn : Func} {s : ChangeSpec} {conds : List PathCond} {apart fresh handsOn again : Bool} {X : World → Array Value → Prop}
    (hX : ∀ (w w' : World) (args : Array Value), w.heap = w'.heap → X w args → X w' args)
    (own : ownKnob C.prog.godebug = none) (started : os.Started) (noInit : C.prog.inits.idxOf? f = none) (hfn : C.prog.funcs[f]? = some fn)
    (witness : ∃ (w : World) (tape : Tape) (i : Input), w.os = os ∧ (w.forCall tape i).Shaped C.prog ∧ i.vars = [] ∧ Input.okWide C.prog (w.forCall tape i) .any w.heap.size f i ∧
      ((s.pre enc C.prog fn conds apart (w.forCall tape i).memory i.args ∧ X (w.forCall tape i).memory i.args) ∧ sizedMet enc C.prog fn (OpenSpec.ofChange s) apart (w.forCall tape i).memory i.args) ∧ a.holds C.prog (lone (Frame.enter C.prog f i.args .normal) [] (w.forCall tape i)))
    (contract : ∀ (W : World) (base : Nat) (args : Array Value) (ds gs : List (DataW H)) (before : List MemPlace),
      (∀ (j : Nat) t v, fn.params[j]? = some t → args[j]? = some v → Value.okWide C.prog W .any base t v) →
      DataW.Whole enc C.prog fn.params.toList s.vars apart W args.toList ds gs before →
      conds.all (PathCond.test C.prog ⟨fn.params.toList, ds, s.plain.varTypes C.prog, gs⟩) = true →
      (DataW.weightsEach C.prog (fn.params.toList ++ s.plain.varTypes C.prog) (ds ++ gs)).all (· ≤ reachBytes) = true → X W args → W.ShapedOpen C.prog →
      Calls C.prog f args W fun e W' => ∃ v, e = .returned v ∧ s.post enc C.prog fn apart fresh handsOn again W args v W') :
    ReturnsInHanded a C os f .any (fun w args => (s.pre enc C.prog fn conds apart w args ∧ X w args) ∧ sizedMet enc C.prog fn (OpenSpec.ofChange s) apart w args) (s.post enc C.prog fn apart fresh handsOn again) := by
  refine returnsInHanded_of_calls own started noInit witness ?_
  intro w tape i _ hsh _ hok hpre hholds
  obtain ⟨_, _, _, fn', hfn', _, _, _, _, hval⟩ := hok
  have e : fn' = fn := Option.some.inj (hfn'.symm.trans hfn)
  subst e
  obtain ⟨⟨⟨ds, gs, before, hw, hc⟩, hx⟩, hz⟩ := hpre
  have hw' := DataW.Whole.of_heap (w' := w.forCall tape i) (by rfl) hw
  refine (contract (w.forCall tape i) w.heap.size i.args ds gs before hval hw' hc (hz.weights hw) (hX _ _ _ (by rfl) hx) hsh).mono fun e W' ⟨v, he, hp⟩ => ?_
  subst he
  exact ChangeSpec.post_blind hp
theorem open_cell {P : Program} {w : World} {g : Nat} {t : TypeId} {zero : Array Value} {k : IntKind}
    (h : w.ShapedOpen P) (hg : g < P.globals.size)
    (h0 : ((begin P (fun _ _ => 0) default).world.heap[g]?).bind Obj.row? = some (zero, t)) (hz : zero.size = 1)
    (hb : P.buildable t = true) (hc : P.cellTypes P.depth t = some [t]) (hu : P.underlying t = some (.int k)) :
    (∃ m, w.cell? ⟨g, 0, none⟩ = some (.int k m)) ∧ ∃ vals T l, w.heap[g]? = some (.cells vals T l) ∧ vals.size = 1 := by
  refine ⟨Go.Proofs.cell_of_shapedOpen_int h hg h0 hz hb hc hu, ?_⟩
  obtain ⟨cs, hh, hs, _⟩ := h.1 g zero t hg h0
  exact ⟨cs, t, _, hh, by omega⟩
end Go.Abs
