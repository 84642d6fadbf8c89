/- A sound walk of the program by abstract states, part 3: its theorems have no condition beyond what they state. -/
import Derived.Test.YtlgilgaiibdgoaaDoorLib2
import Derived.ChangeSame
import Derived.ChangeStays
import Derived.WideKeyArgs
import Derived.Deep.Slices
import Derived.ProofKit
import Derived.WalkKit
import Derived.OpenShut
import Derived.ChangeMaps5
import Derived.ChangeSlices
set_option linter.unusedSimpArgs false
set_option linter.unusedVariables false
set_option linter.defProp false
namespace Go.Abs
open Go

def plOk (l : List VarD) (pl : List Pl) : Prop := ∀ n, plFind n pl = if (lookupF n 0 l).2.2 then some ((lookupF n 0 l).1, (lookupF n 0 l).2.1) else none
theorem lookupF_miss (n : List UInt8) : ∀ (l : List VarD) (f : Int), (lookupF n f l).2.2 = false → (lookupF n f l).1 = 0 ∧ (lookupF n f l).2.1 = 0
  | [], f, _ => ⟨rfl, rfl⟩
  | v :: r, f, h => by
    rw [lookupF] at h ⊢
    split at h
    · simp at h
    · rename_i h1
      rw [if_neg h1]
      split at h
      · rename_i h2; rw [if_pos h2]; exact ⟨rfl, rfl⟩
      · rename_i h2; rw [if_neg h2]; exact lookupF_miss n r _ h

theorem findF_ok {l : List VarD} {pl : List Pl} (h : plOk l pl) (n : List UInt8) (arr : Bool) (f : Fl) :
    findF pl n arr f = (((lookupF n 0 l).1, (lookupF n 0 l).2.1), (f.1 || !foundF l n, f.2 || (foundF l n && (arr != decide ((lookupF n 0 l).2.1 > 0))))) := by
  unfold findF foundF
  rw [h n]
  cases hf : (lookupF n 0 l).2.2
  · obtain ⟨h1, h2⟩ := lookupF_miss n l 0 hf
    simp [h1, h2]
  · simp
theorem headQ_ok {l : List VarD} {pl : List Pl} (h : plOk l pl) (op : Int) (n : List UInt8) (a b : Int) (f : Fl) (k1 k2 : Int) (hk : k1 ≠ k2) :
    (headQ pl op n a b f k1 k2).1 = (head3 l op n a b k1 k2).1 ∧ (headQ pl op n a b f k1 k2).2.1 = (f.1 || ((op == k1 || op == k2) && !foundF l n)) ∧
    (((op == k1 || op == k2) && !foundF l n) = false → (headQ pl op n a b f k1 k2).2.2 = (f.2 || !(head3 l op n a b k1 k2).2)) := by
  unfold headQ head3
  by_cases h1 : op = k1
  · subst h1
    rw [if_pos rfl, findF_ok h]
    have h2 : (op == k2) = false := by simpa using hk
    simp [h2]
    intro hf; simp [hf]
    try (cases decide (0 < (lookupF n 0 l).2.1) <;> rfl)
  · have h1' : (op == k1) = false := by simpa using h1
    rw [if_neg h1]
    by_cases h2 : op = k2
    · subst h2
      rw [if_pos rfl, findF_ok h]
      simp [h1']
      intro hf; simp [hf]
      try (cases decide (0 < (lookupF n 0 l).2.1) <;> rfl)
    · have h2' : (op == k2) = false := by simpa using h2
      rw [if_neg h2]
      simp [h1', h2']

structure RelR (l : List VarD) (α : Type) (r : α × Fl) (f : Fl) (d : Bool) (q : α × Bool) : Prop where
  val : r.1 = q.1
  nm : r.2.1 = (f.1 || !d)
  sh : d = true → r.2.2 = (f.2 || !q.2)

mutual
theorem rsE_ok {l : List VarD} {pl : List Pl} (h : plOk l pl) : ∀ (e : Ex) (f : Fl), RelR l Ex (rsE pl e f) f (namesE l e) (r3E l e)
  | .mk op v n a b args, f => by
    obtain ⟨h1, h2, h3⟩ := headQ_ok h op n a b f 2 3 (by decide)
    obtain ⟨g1, g2, g3⟩ := rsEs_ok h args (headQ pl op n a b f 2 3).2
    refine ⟨?_, ?_, ?_⟩
    · simp only [rsE, r3E, h1, g1]
    · simp only [rsE, namesE, g2, h2]
      cases f.1 <;> cases ((op == 2 || op == 3) && !foundF l n) <;> cases namesEs l args <;> rfl
    · intro hn
      simp only [namesE, Bool.and_eq_true, Bool.not_eq_true'] at hn
      simp only [rsE, r3E, g3 hn.2, h3 hn.1]
      cases f.2 <;> cases (head3 l op n a b 2 3).2 <;> cases (r3Es l args).2 <;> rfl
theorem rsEs_ok {l : List VarD} {pl : List Pl} (h : plOk l pl) : ∀ (e : List Ex) (f : Fl), RelR l (List Ex) (rsEs pl e f) f (namesEs l e) (r3Es l e)
  | [], f => ⟨by simp [rsEs, r3Es], by simp [rsEs, namesEs], by simp [rsEs, r3Es]⟩
  | e :: r, f => by
    obtain ⟨h1, h2, h3⟩ := rsE_ok h e f
    obtain ⟨g1, g2, g3⟩ := rsEs_ok h r (rsE pl e f).2
    refine ⟨?_, ?_, ?_⟩
    · simp only [rsEs, r3Es, h1, g1]
    · simp only [rsEs, namesEs, g2, h2]
      cases f.1 <;> cases namesE l e <;> cases namesEs l r <;> rfl
    · intro hn
      simp only [namesEs, Bool.and_eq_true] at hn
      simp only [rsEs, r3Es, g3 hn.2, h3 hn.1]
      cases f.2 <;> cases (r3E l e).2 <;> cases (r3Es l r).2 <;> rfl
end
mutual
theorem rsS_ok {l : List VarD} {pl : List Pl} (h : plOk l pl) : ∀ (s : Sm) (f : Fl), RelR l Sm (rsS pl s f) f (declS l s) (r3S l s)
  | .mk k n a b p v body els, f => by
    obtain ⟨h1, h2, h3⟩ := headQ_ok h k n a b f 1 2 (by decide)
    obtain ⟨p1, p2, p3⟩ := rsE_ok h p (headQ pl k n a b f 1 2).2
    obtain ⟨v1, v2, v3⟩ := rsE_ok h v (rsE pl p (headQ pl k n a b f 1 2).2).2
    obtain ⟨b1, b2, b3⟩ := rsSs_ok h body (rsE pl v (rsE pl p (headQ pl k n a b f 1 2).2).2).2
    obtain ⟨e1, e2, e3⟩ := rsSs_ok h els (rsSs pl body (rsE pl v (rsE pl p (headQ pl k n a b f 1 2).2).2).2).2
    refine ⟨?_, ?_, ?_⟩
    · simp only [rsS, r3S, h1, p1, v1, b1, e1]
    · simp only [rsS, declS, e2, b2, v2, p2, h2]
      cases f.1 <;> cases ((k == 1 || k == 2) && !foundF l n) <;> cases namesE l p <;> cases namesE l v <;> cases declSs l body <;> cases declSs l els <;> rfl
    · intro hn
      simp only [declS, Bool.and_eq_true, Bool.not_eq_true', Bool.or_eq_false_iff, Bool.not_eq_false'] at hn
      obtain ⟨hn0, ⟨⟨hnp, hnv⟩, hnb⟩, hne⟩ := hn
      simp only [rsS, r3S, e3 hne, b3 hnb, v3 hnv, p3 hnp, h3 hn0]
      cases f.2 <;> cases (head3 l k n a b 1 2).2 <;> cases (r3E l p).2 <;> cases (r3E l v).2 <;> cases (r3Ss l body).2 <;> cases (r3Ss l els).2 <;> rfl
theorem rsSs_ok {l : List VarD} {pl : List Pl} (h : plOk l pl) : ∀ (s : List Sm) (f : Fl), RelR l (List Sm) (rsSs pl s f) f (declSs l s) (r3Ss l s)
  | [], f => ⟨by simp [rsSs, r3Ss], by simp [rsSs, declSs], by simp [rsSs, r3Ss]⟩
  | e :: r, f => by
    obtain ⟨h1, h2, h3⟩ := rsS_ok h e f
    obtain ⟨g1, g2, g3⟩ := rsSs_ok h r (rsS pl e f).2
    refine ⟨?_, ?_, ?_⟩
    · simp only [rsSs, r3Ss, h1, g1]
    · simp only [rsSs, declSs, g2, h2]
      cases f.1 <;> cases declS l e <;> cases declSs l r <;> rfl
    · intro hn
      simp only [declSs, Bool.and_eq_true] at hn
      simp only [rsSs, r3Ss, g3 hn.2, h3 hn.1]
      cases f.2 <;> cases (r3S l e).2 <;> cases (r3Ss l r).2 <;> rfl
end

theorem rs4_ok {l : List VarD} {pl : List Pl} (h : plOk l pl) (p : PgD) (xs : List Int) : finR xs (rs4 pl p) =
    if (!declSs l p.start || !declSs l p.message || !declSs l p.tick || !declSs l p.input) = true then (cd0, 2)
    else if (!(r3Ss l p.start).2 || !(r3Ss l p.message).2 || !(r3Ss l p.tick).2 || !(r3Ss l p.input).2) = true then (cd0, 7)
    else (⟨xs, (r3Ss l p.start).1, (r3Ss l p.message).1, (r3Ss l p.tick).1, (r3Ss l p.input).1⟩, 0) := by
  obtain ⟨a1, a2, a3⟩ := rsSs_ok h p.start (false, false)
  obtain ⟨b1, b2, b3⟩ := rsSs_ok h p.message (rsSs pl p.start (false, false)).2
  obtain ⟨c1, c2, c3⟩ := rsSs_ok h p.tick (rsSs pl p.message (rsSs pl p.start (false, false)).2).2
  obtain ⟨d1, d2, d3⟩ := rsSs_ok h p.input (rsSs pl p.tick (rsSs pl p.message (rsSs pl p.start (false, false)).2).2).2
  unfold finR rs4
  dsimp only
  have hnm : (rsSs pl p.input (rsSs pl p.tick (rsSs pl p.message (rsSs pl p.start (false, false)).2).2).2).2.1 = (!declSs l p.start || !declSs l p.message || !declSs l p.tick || !declSs l p.input) := by
    rw [d2, c2, b2, a2]; rfl
  rw [hnm]
  split
  · rfl
  · rename_i hn
    simp only [Bool.or_eq_true, Bool.not_eq_true', not_or, Bool.not_eq_false] at hn
    obtain ⟨⟨⟨n1, n2⟩, n3⟩, n4⟩ := hn
    have hsh : (rsSs pl p.input (rsSs pl p.tick (rsSs pl p.message (rsSs pl p.start (false, false)).2).2).2).2.2 = (!(r3Ss l p.start).2 || !(r3Ss l p.message).2 || !(r3Ss l p.tick).2 || !(r3Ss l p.input).2) := by
      rw [d3 n4, c3 n3, b3 n2, a3 n1]; rfl
    rw [hsh, a1, b1, c1, d1]
end Go.Abs
namespace Go.Abs
open Go
theorem plFind_set (n m : List UInt8) (a b : Int) : ∀ l : List Pl, plFind n (plSet m a b l) = if n = m then some (a, b) else plFind n l
  | [] => by simp [plSet, plFind]
  | p :: r => by
    have ih := plFind_set n m a b r
    rw [plSet]
    by_cases h : m = p.name
    · rw [if_pos h]
      by_cases h2 : n = m
      · simp [plFind, h2]
      · have : ¬ n = p.name := fun e => h2 (e.trans h.symm)
        simp [plFind, h2, this]
    · rw [if_neg h]
      by_cases h2 : n = p.name
      · have : ¬ n = m := fun e => h (e.symm.trans h2)
        simp [plFind, h2] at *
        simp [h, Ne.symm] at *
      · simp [plFind, h2, ih]
theorem dupP_none : ∀ (l : List VarD) (es : List Pl), (dupP es l = none ↔ (l.any (fun v => (plFind v.name es).isSome) = true ∨ dup3 l = true))
  | [], es => by simp [dupP, dup3]
  | v :: r, es => by
    rw [dupP]
    by_cases h : (plFind v.name es).isSome = true
    · rw [if_pos h]; simp [h]
    · rw [if_neg h, dupP_none r]
      simp only [List.any_cons, dup3, plFind_set, Bool.or_eq_true]
      constructor
      · rintro (h1 | h1)
        · rw [List.any_eq_true] at h1
          obtain ⟨x, hx, hs⟩ := h1
          by_cases hxv : x.name = v.name
          · right; left; rw [List.any_eq_true]; exact ⟨x, hx, by simpa using hxv⟩
          · rw [if_neg hxv] at hs
            left; right; rw [List.any_eq_true]; exact ⟨x, hx, hs⟩
        · right; right; exact h1
      · rintro ((h1 | h1) | (h1 | h1))
        · exact absurd h1 h
        · rw [List.any_eq_true] at h1
          obtain ⟨x, hx, hs⟩ := h1
          left; rw [List.any_eq_true]; refine ⟨x, hx, ?_⟩
          split
          · rfl
          · exact hs
        · rw [List.any_eq_true] at h1
          obtain ⟨x, hx, hs⟩ := h1
          left; rw [List.any_eq_true]; refine ⟨x, hx, ?_⟩
          rw [if_pos (by simpa using hs)]; rfl
        · right; exact h1
theorem dupP_find (n : List UInt8) : ∀ (l : List VarD) (es es' : List Pl), dupP es l = some es' → (∀ v ∈ l, v.name ≠ n) → plFind n es' = plFind n es
  | [], es, es', h, _ => by simp [dupP] at h; rw [h]
  | v :: r, es, es', h, hn => by
    rw [dupP] at h
    split at h
    · cases h
    · rw [dupP_find n r _ es' h (fun x hx => hn x (by simp [hx])), plFind_set, if_neg (fun e => hn v (by simp) e.symm)]
def lkF (n : List UInt8) : Int → List VarD → Option (Int × Int)
  | _, [] => none
  | f, v :: r => if v.name = n then some (f, v.size) else lkF n (f + mx v.size 1) r
theorem lkF_none (n : List UInt8) : ∀ (l : List VarD) (f : Int), (∀ v ∈ l, v.name ≠ n) → lkF n f l = none
  | [], f, _ => rfl
  | v :: r, f, h => by rw [lkF, if_neg (h v (by simp))]; exact lkF_none n r _ (fun x hx => h x (by simp [hx]))
theorem lkF_some (n : List UInt8) : ∀ (l : List VarD) (f : Int), lkF n f l = none → ∀ v ∈ l, v.name ≠ n
  | [], f, _, v, hv => by simp at hv
  | v :: r, f, h, x, hx => by
    rw [lkF] at h
    split at h
    · cases h
    · rename_i hne
      rcases List.mem_cons.1 hx with rfl | hx
      · exact hne
      · exact lkF_some n r _ h x hx
theorem one3_eq (v : VarD) : [v.init] ++ List.replicate ((mx v.size 1).toNat - 1) 0 = one3 v := by
  unfold one3
  have : (mx v.size 1).toNat - 1 = v.size.toNat - 1 := by unfold mx imax; split <;> omega
  rw [this]; rfl
theorem fill_step (n : Int) (v : VarD) (h0 : 0 ≤ n) : (mx v.size 1 > 32 - n ↔ n + cells3 v > 32) := by
  unfold cells3 imin
  split <;> omega
theorem fillP_sum : ∀ (l : List VarD) (es : List Pl) (xs : List Int), (fillP es xs l = none ↔ sum3 xs.length l = none) ∧ ∀ q, fillP es xs l = some q → q.2 = xs ++ init3 l
  | [], es, xs => by simp [fillP, sum3, init3]
  | v :: r, es, xs => by
    rw [fillP, sum3]
    have hs := fill_step xs.length v (by omega)
    by_cases h : mx v.size 1 > 32 - (xs.length : Int)
    · rw [if_pos h, if_pos (hs.1 h)]; simp
    · have h' : ¬ (xs.length : Int) + cells3 v > 32 := fun e => h (hs.2 e)
      rw [if_neg h, if_neg h']
      have hc := cells3_small v (by omega)
      have h1 := one3_len v
      have ih := fillP_sum r (plSet v.name xs.length v.size es) (xs ++ [v.init] ++ List.replicate ((mx v.size 1).toNat - 1) 0)
      rw [List.append_assoc, one3_eq] at ih ⊢
      have hl : ((xs ++ one3 v).length : Int) = xs.length + cells3 v := by rw [List.length_append, hc, ← h1]; omega
      rw [hl] at ih
      refine ⟨ih.1, fun q hq => ?_⟩
      rw [ih.2 q hq, init3, List.append_assoc]
theorem fillP_find (n : List UInt8) : ∀ (l : List VarD) (es : List Pl) (xs : List Int) (q : List Pl × List Int), dup3 l = false → fillP es xs l = some q → plFind n q.1 = (lkF n xs.length l).or (plFind n es)
  | [], es, xs, q, _, h => by simp [fillP] at h; rw [← h]; simp [lkF]
  | v :: r, es, xs, q, hd, h => by
    rw [fillP] at h
    split at h
    · cases h
    · rename_i hle
      simp only [dup3, Bool.or_eq_false_iff] at hd
      have hl : (((xs ++ [v.init] ++ List.replicate ((mx v.size 1).toNat - 1) 0).length : Nat) : Int) = xs.length + mx v.size 1 := by
        rw [List.append_assoc, one3_eq, List.length_append, ← one3_len v]; omega
      have ih := fillP_find n r _ _ q hd.2 h
      rw [hl, plFind_set] at ih
      rw [ih, lkF]
      by_cases hv : v.name = n
      · subst hv
        have : ∀ x ∈ r, x.name ≠ v.name := fun x hx e => by
          have := hd.1
          rw [List.any_eq_false] at this
          exact this x hx (by simpa using e)
        rw [lkF_none _ r _ this]; simp
      · rw [if_neg hv, if_neg (fun e => hv e.symm)]
theorem lookupF_lk (n : List UInt8) : ∀ (l : List VarD) (f : Int), 0 ≤ f → sum3 f l ≠ none → (∀ v ∈ l, 0 ≤ v.size) → lookupF n f l = match lkF n f l with | some q => (q.1, q.2, true) | none => (0, 0, false)
  | [], f, _, _, _ => rfl
  | v :: r, f, h0, hs, hp => by
    rw [sum3] at hs
    split at hs
    · exact absurd rfl hs
    · rename_i hle
      have hc0 := cells3_pos v
      have hc := cells3_small v (by omega)
      rw [lookupF, lkF]
      by_cases hv : v.name = n
      · have h1 := hp v (by simp)
        have h2 : mx v.size 0 = v.size := by unfold mx imax; split <;> omega
        simp [hv, h2]
      · have : (v.name == n) = false := by simpa using hv
        rw [this, if_neg (by simp), if_neg (by omega), if_neg hv]
        rw [hc] at hs
        exact lookupF_lk n r _ (by omega) hs (fun x hx => hp x (by simp [hx]))
theorem plOk_of {l : List VarD} {es : List Pl} {q : List Pl × List Int} (hd : dup3 l = false) (he : dupP [] l = some es) (hf : fillP es [] l = some q) (hp : ∀ v ∈ l, 0 ≤ v.size) : plOk l q.1 := by
  intro n
  have hs : sum3 0 l ≠ none := fun h => by
    have := (fillP_sum l es []).1.2 (by simpa using h)
    rw [this] at hf; cases hf
  have h1 := fillP_find n l es [] q hd hf
  have h2 := lookupF_lk n l 0 (by omega) hs hp
  rw [h1, h2]
  simp only [List.length_nil]
  rw [show ((0 : Nat) : Int) = 0 from rfl]
  cases hk : lkF n 0 l with
  | some z => simp
  | none =>
    have := dupP_find n l [] es he (lkF_some n l 0 hk)
    simp [this, plFind]
theorem resolve_same (p : PgD) : resolveF p = resolve3F p := by
  unfold resolveF resolve3F
  by_cases h1 : checkF goodSFs p ≠ 0
  · rw [if_pos h1, if_pos h1]
  · rw [if_neg h1, if_neg h1]
    by_cases h2 : p.vars.length > 16
    · rw [if_pos h2, if_pos h2]
    · rw [if_neg h2, if_neg h2]
      have hp : ∀ v ∈ p.vars, 0 ≤ v.size := by
        intro v hv
        have h3 : checkF goodSFs p = 0 := by simpa using h1
        unfold checkF at h3
        split at h3
        · cases h3
        · split at h3
          · cases h3
          · rename_i hany
            have : goodVarF v = true := by
              cases hg : goodVarF v with
              | true => rfl
              | false => exact absurd (List.any_eq_true.2 ⟨v, hv, by simp [hg]⟩) hany
            unfold goodVarF at this
            grind
      have hdn := dupP_none p.vars []
      have h0 : p.vars.any (fun v => (plFind v.name []).isSome) = false := by simp [plFind]
      rw [h0] at hdn
      cases hd : dup3 p.vars with
      | true =>
        have : dupP [] p.vars = none := hdn.2 (.inr hd)
        rw [this]; simp
      | false =>
        cases he : dupP [] p.vars with
        | none => have := hdn.1 he; rw [hd] at this; simp at this
        | some es =>
          have hfs := fillP_sum p.vars es []
          rw [if_neg (by simp)]
          dsimp only
          cases hf : fillP es [] p.vars with
          | none =>
            have := hfs.1.1 hf
            rw [if_pos (by simpa using this)]
          | some q =>
            have hs : ¬ sum3 0 p.vars = none := fun h => by
              have := hfs.1.2 (by simpa using h)
              rw [this] at hf; cases hf
            rw [if_neg hs]
            dsimp only
            rw [rs4_ok (plOk_of hd he hf hp) p q.2, hfs.2 q hf]
            rfl
end Go.Abs
namespace Go.Abs
open Go
def encB (x : UInt8) : List PVal := [.int .u8 (x.toNat : Int)]
def cObj (xs : List UInt8) (a : Nat) : Option AObj := some (.cells [.pv (.slice (xs.map encB)), .pv (.int .i64 a)])
def nxt (xs : List UInt8) (a : Nat) (n : Int) : Int × Nat := if a < xs.length then (((xs.getD a 0).toNat : Int).tmod n, a + 1) else (0, a)
theorem nxt_lt (xs : List UInt8) (a : Nat) (n : Int) (h : 0 < n) : 0 ≤ (nxt xs a n).1 ∧ (nxt xs a n).1 < n := by
  unfold nxt
  split
  · exact ⟨Int.tmod_nonneg _ (by omega), Int.tmod_lt_of_pos _ h⟩
  · exact ⟨Int.le_refl _, h⟩
theorem nxt_le (xs : List UInt8) (a : Nat) (n : Int) (h : a ≤ xs.length) : (nxt xs a n).2 ≤ xs.length := by unfold nxt; split <;> simp <;> omega

def exL (op value : Int) (name : List UInt8) (args : List Ex) : Ex := .mk op value name 0 0 args
def scal (i : Int) : List UInt8 := if i = 0 then [120] else if i = 1 then [121] else [122]
def arrN (i : Int) : List UInt8 := if i = 0 then [97] else [98]
def opN (i : Int) : Int := if i = 0 then 4 else if i = 1 then 5 else 6
def kF (small : Bool) (k m : Int) : Int := if (small && decide (k ≥ m)) = true then k - m else k
def exprStep (xs : List UInt8) (rec : Nat → Ex × Nat) (small : Bool) (a : Nat) : Ex × Nat :=
  if kF small (nxt xs a 12).1 8 < 2 then (exL 1 (nxt xs (nxt xs a 12).2 5).1 [] [], (nxt xs (nxt xs a 12).2 5).2)
  else if kF small (nxt xs a 12).1 8 < 4 then (exL 2 0 (scal (nxt xs (nxt xs a 12).2 3).1) [], (nxt xs (nxt xs a 12).2 3).2)
  else if kF small (nxt xs a 12).1 8 = 4 then (exL 7 0 [] [], (nxt xs a 12).2)
  else if kF small (nxt xs a 12).1 8 = 5 then (exL (opN (nxt xs (nxt xs a 12).2 3).1) 0 [] [], (nxt xs (nxt xs a 12).2 3).2)
  else if kF small (nxt xs a 12).1 8 = 6 ∨ small = true then (exL 1 (1 + (nxt xs (nxt xs a 12).2 200).1) [] [], (nxt xs (nxt xs a 12).2 200).2)
  else if kF small (nxt xs a 12).1 8 = 7 then (exL 3 0 (arrN (nxt xs (nxt xs a 12).2 2).1) [(rec (nxt xs (nxt xs a 12).2 2).2).1], (rec (nxt xs (nxt xs a 12).2 2).2).2)
  else if kF small (nxt xs a 12).1 8 = 8 then (exL (8 + (nxt xs (nxt xs a 12).2 2).1) 0 [] [(rec (nxt xs (nxt xs a 12).2 2).2).1], (rec (nxt xs (nxt xs a 12).2 2).2).2)
  else (exL (10 + (nxt xs (rec (nxt xs a 12).2).2 13).1) 0 [] [(rec (nxt xs a 12).2).1, (rec (nxt xs (rec (nxt xs a 12).2).2 13).2).1], (rec (nxt xs (rec (nxt xs a 12).2).2 13).2).2)
def exprF (xs : List UInt8) : Nat → Nat → Ex × Nat
  | 0, a => exprStep xs (fun a => (exL 0 0 [] [], a)) true a
  | d + 1, a => exprStep xs (exprF xs d) (decide (d + 1 ≤ 1)) a
theorem exprStep_le (xs : List UInt8) (rec : Nat → Ex × Nat) (small : Bool) (a : Nat) (ha : a ≤ xs.length) (hr : ∀ a ≤ xs.length, (rec a).2 ≤ xs.length) : (exprStep xs rec small a).2 ≤ xs.length := by
  have h0 := nxt_le xs a 12 ha
  unfold exprStep
  repeat' split
  all_goals first | exact nxt_le _ _ _ h0 | exact h0 | exact hr _ (nxt_le _ _ _ h0) | exact hr _ (nxt_le _ _ _ (hr _ h0))
theorem exprF_le (xs : List UInt8) : ∀ (d a : Nat), a ≤ xs.length → (exprF xs d a).2 ≤ xs.length
  | 0, a, h => exprStep_le xs _ _ a h (fun a h => h)
  | d + 1, a, h => exprStep_le xs _ _ a h (fun a h => exprF_le xs d a h)

def smL (kind : Int) (name : List UInt8) (place value : Ex) (body els : List Sm) : Sm := .mk kind name 0 0 place value body els
def ex0 : Ex := .mk 0 0 [] 0 0 []
def stmtStep (xs : List UInt8) (rec : Int → Nat → List Sm × Nat) (small : Bool) (a : Nat) : Sm × Nat :=
  let q := nxt xs a 10
  if kF small q.1 7 < 3 then (smL 1 (scal (nxt xs q.2 3).1) ex0 (exprF xs 3 (nxt xs q.2 3).2).1 [] [], (exprF xs 3 (nxt xs q.2 3).2).2)
  else if kF small q.1 7 = 3 then (smL 2 (arrN (nxt xs q.2 2).1) (exprF xs 2 (nxt xs q.2 2).2).1 (exprF xs 2 (exprF xs 2 (nxt xs q.2 2).2).2).1 [] [], (exprF xs 2 (exprF xs 2 (nxt xs q.2 2).2).2).2)
  else if kF small q.1 7 < 6 then (smL 5 [] (exprF xs 2 q.2).1 (exprF xs 2 (exprF xs 2 q.2).2).1 [] [], (exprF xs 2 (exprF xs 2 q.2).2).2)
  else if kF small q.1 7 = 6 then (smL 6 [] ex0 (exprF xs 2 q.2).1 [] [], (exprF xs 2 q.2).2)
  else if kF small q.1 7 < 9 then (smL 3 [] ex0 (exprF xs 2 q.2).1 (rec 2 (exprF xs 2 q.2).2).1 (rec 1 (rec 2 (exprF xs 2 q.2).2).2).1, (rec 1 (rec 2 (exprF xs 2 q.2).2).2).2)
  else (smL 4 [] ex0 (exprF xs 2 q.2).1 (rec 2 (exprF xs 2 q.2).2).1 [], (rec 2 (exprF xs 2 q.2).2).2)
def stmtsLoop (xs : List UInt8) (rec : Int → Nat → List Sm × Nat) (small : Bool) : Nat → Nat → List Sm × Nat
  | 0, a => ([], a)
  | n + 1, a => ((stmtStep xs rec small a).1 :: (stmtsLoop xs rec small n (stmtStep xs rec small a).2).1, (stmtsLoop xs rec small n (stmtStep xs rec small a).2).2)
def stmtsTop (xs : List UInt8) (rec : Int → Nat → List Sm × Nat) (small : Bool) (most : Int) (a : Nat) : List Sm × Nat :=
  stmtsLoop xs rec small (nxt xs a (most + 1)).1.toNat (nxt xs a (most + 1)).2
def stmtsF (xs : List UInt8) : Nat → Int → Nat → List Sm × Nat
  | 0, most, a => stmtsTop xs (fun _ a => ([], a)) true most a
  | d + 1, most, a => stmtsTop xs (stmtsF xs d) (decide (d + 1 ≤ 1)) most a
theorem stmtStep_le (xs : List UInt8) (rec : Int → Nat → List Sm × Nat) (small : Bool) (a : Nat) (ha : a ≤ xs.length) (hr : ∀ m a, a ≤ xs.length → (rec m a).2 ≤ xs.length) : (stmtStep xs rec small a).2 ≤ xs.length := by
  have h0 := nxt_le xs a 10 ha
  unfold stmtStep
  dsimp only
  repeat' split
  all_goals dsimp only
  all_goals first | exact exprF_le _ _ _ (nxt_le _ _ _ h0) | exact exprF_le _ _ _ (exprF_le _ _ _ (nxt_le _ _ _ h0)) | exact exprF_le _ _ _ (exprF_le _ _ _ h0) | exact exprF_le _ _ _ h0 | exact hr _ _ (hr _ _ (exprF_le _ _ _ h0)) | exact hr _ _ (exprF_le _ _ _ h0)
theorem stmtsLoop_le (xs : List UInt8) (rec : Int → Nat → List Sm × Nat) (small : Bool) (hr : ∀ m a, a ≤ xs.length → (rec m a).2 ≤ xs.length) : ∀ (n a : Nat), a ≤ xs.length → (stmtsLoop xs rec small n a).2 ≤ xs.length
  | 0, a, h => h
  | n + 1, a, h => stmtsLoop_le xs rec small hr n _ (stmtStep_le xs rec small a h hr)
theorem stmtsF_le (xs : List UInt8) : ∀ (d : Nat) (m : Int) (a : Nat), a ≤ xs.length → (stmtsF xs d m a).2 ≤ xs.length
  | 0, m, a, h => stmtsLoop_le xs _ _ (fun _ _ h => h) _ _ (nxt_le _ _ _ h)
  | d + 1, m, a, h => stmtsLoop_le xs _ _ (fun m a h => stmtsF_le xs d m a h) _ _ (nxt_le _ _ _ h)
def eB : Nat → Nat
  | 0 => 1
  | d + 1 => 1 + 2 * eB d
theorem exprStep_sz (xs : List UInt8) (rec : Nat → Ex × Nat) (small : Bool) (a B : Nat) (hr : ∀ a, szE (rec a).1 ≤ B) : szE (exprStep xs rec small a).1 ≤ 1 + 2 * B := by
  have h := fun a => hr a
  unfold exprStep
  repeat' split
  all_goals simp only [exL, szE, szEs]
  all_goals try omega
  · have := h (nxt xs (nxt xs a 12).2 2).2; omega
  · have := h (nxt xs (nxt xs a 12).2 2).2; omega
  · have := h (nxt xs a 12).2; have := h (nxt xs (rec (nxt xs a 12).2).2 13).2; omega
theorem exprF_sz (xs : List UInt8) : ∀ (d a : Nat), szE (exprF xs d a).1 ≤ 1 + 2 * eB d
  | 0, a => exprStep_sz xs _ _ a 1 (fun a => by simp [exL, szE, szEs])
  | d + 1, a => exprStep_sz xs _ _ a _ (fun a => by have := exprF_sz xs d a; simp only [eB] at *; omega)
def sB : Nat → Nat
  | 0 => 100
  | d + 1 => 100 + 3 * sB d
theorem stmtStep_sz (xs : List UInt8) (rec : Int → Nat → List Sm × Nat) (small : Bool) (a B : Nat) (h2 : ∀ a, szSs (rec 2 a).1 ≤ 2 * B) (h1 : ∀ a, szSs (rec 1 a).1 ≤ B) : szS (stmtStep xs rec small a).1 ≤ 100 + 3 * B := by
  have e2 := fun a => exprF_sz xs 2 a
  have e3 := fun a => exprF_sz xs 3 a
  simp only [eB] at e2 e3
  unfold stmtStep
  dsimp only
  repeat' split
  all_goals simp only [smL, szS, szSs, ex0, szE, szEs]
  · have := e3 (nxt xs (nxt xs a 10).2 3).2; omega
  · have := e2 (nxt xs (nxt xs a 10).2 2).2; have := e2 (exprF xs 2 (nxt xs (nxt xs a 10).2 2).2).2; omega
  · have := e2 (nxt xs a 10).2; have := e2 (exprF xs 2 (nxt xs a 10).2).2; omega
  · have := e2 (nxt xs a 10).2; omega
  · have := e2 (nxt xs a 10).2; have := h2 (exprF xs 2 (nxt xs a 10).2).2; have := h1 (rec 2 (exprF xs 2 (nxt xs a 10).2).2).2; omega
  · have := e2 (nxt xs a 10).2; have := h2 (exprF xs 2 (nxt xs a 10).2).2; omega
theorem stmtsLoop_sz (xs : List UInt8) (rec : Int → Nat → List Sm × Nat) (small : Bool) (B : Nat) (h : ∀ a, szS (stmtStep xs rec small a).1 ≤ B) : ∀ (n a : Nat), szSs (stmtsLoop xs rec small n a).1 ≤ n * B
  | 0, a => by simp [stmtsLoop, szSs]
  | n + 1, a => by
    have h1 := h a
    have h2 := stmtsLoop_sz xs rec small B h n (stmtStep xs rec small a).2
    simp only [stmtsLoop, szSs]
    rw [Nat.succ_mul]; omega
theorem stmtsTop_sz (xs : List UInt8) (rec : Int → Nat → List Sm × Nat) (small : Bool) (B : Nat) (h : ∀ a, szS (stmtStep xs rec small a).1 ≤ B) (most : Nat) (a : Nat) : szSs (stmtsTop xs rec small most a).1 ≤ most * B := by
  unfold stmtsTop
  have h1 := nxt_lt xs a ((most : Int) + 1) (by omega)
  refine Nat.le_trans (stmtsLoop_sz xs rec small B h _ _) (Nat.mul_le_mul_right _ (by omega))
theorem stmtsF_sz (xs : List UInt8) : ∀ (d : Nat) (most : Nat) (a : Nat), szSs (stmtsF xs d most a).1 ≤ most * sB (d + 1)
  | 0, most, a => stmtsTop_sz xs _ _ _ (fun a => Nat.le_trans (stmtStep_sz xs _ _ a 0 (fun _ => by simp [szSs]) (fun _ => by simp [szSs])) (by simp [sB])) most a
  | d + 1, most, a => stmtsTop_sz xs _ _ _ (fun a => Nat.le_trans (stmtStep_sz xs _ _ a (sB (d + 1)) (fun a => stmtsF_sz xs d 2 a) (fun a => by have := stmtsF_sz xs d 1 a; simpa using this)) (by simp [sB])) most a
end Go.Abs
namespace Go.Abs
open Go

def varsF (u v w : Int) : List VarD := [⟨[120], 0, u - 2⟩, ⟨[97], 1 + v, 0⟩, ⟨[121], 0, 0⟩, ⟨[122], 0, w⟩, ⟨[98], 2, 0⟩]
def programF (xs : List UInt8) (a : Nat) : PgD × Nat :=
  let m1 := nxt xs a 7
  let m2 := nxt xs m1.2 5
  let m3 := nxt xs m2.2 3
  let s1 := stmtsF xs 2 3 m3.2
  let s2 := stmtsF xs 3 4 s1.2
  let s3 := stmtsF xs 2 3 s2.2
  let s4 := stmtsF xs 2 2 s3.2
  (⟨varsF m1.1 m2.1 m3.1, s1.1, s2.1, s3.1, s4.1⟩, s4.2)
theorem programF_le (xs : List UInt8) (a : Nat) (h : a ≤ xs.length) : (programF xs a).2 ≤ xs.length :=
  stmtsF_le _ _ _ _ (stmtsF_le _ _ _ _ (stmtsF_le _ _ _ _ (stmtsF_le _ _ _ _ (nxt_le _ _ _ (nxt_le _ _ _ (nxt_le _ _ _ h))))))
theorem programF_sz (xs : List UInt8) (a : Nat) : szP (programF xs a).1 ≤ 100000 := by
  unfold programF szP
  dsimp only
  have h1 := stmtsF_sz xs 2 3 (nxt xs (nxt xs (nxt xs a 7).2 5).2 3).2
  have h2 := stmtsF_sz xs 3 4 (stmtsF xs 2 3 (nxt xs (nxt xs (nxt xs a 7).2 5).2 3).2).2
  have h3 := stmtsF_sz xs 2 3 (stmtsF xs 3 4 (stmtsF xs 2 3 (nxt xs (nxt xs (nxt xs a 7).2 5).2 3).2).2).2
  have h4 := stmtsF_sz xs 2 2 (stmtsF xs 2 3 (stmtsF xs 3 4 (stmtsF xs 2 3 (nxt xs (nxt xs (nxt xs a 7).2 5).2 3).2).2).2).2
  simp only [sB, Int.cast_ofNat_Int] at h1 h2 h3 h4
  simp only [varsF, List.length_cons, List.length_nil]
  omega
def nmL : List (List UInt8) := [[120], [121], [122], [99, 111, 117, 110, 116], [97, 49], [95, 98], [118, 97, 114], [49, 97], [], [102, 114, 111, 109], [97, 98, 99, 100, 101, 102, 103, 104, 105, 106, 107, 108, 109, 110, 111, 112], [97, 98, 99, 100, 101, 102, 103, 104, 105, 106, 107, 108, 109, 110, 111, 112, 113], [120, 32, 121], [88]]
def nameF (xs : List UInt8) (a : Nat) : List UInt8 × Nat :=
  if (nxt xs a 8).1 = 7 then (nmL.getD (nxt xs (nxt xs a 8).2 14).1.toNat [], (nxt xs (nxt xs a 8).2 14).2) else (nmL.getD (nxt xs (nxt xs a 8).2 6).1.toNat [], (nxt xs (nxt xs a 8).2 6).2)
theorem nameF_le (xs : List UInt8) (a : Nat) (h : a ≤ xs.length) : (nameF xs a).2 ≤ xs.length := by
  unfold nameF
  split <;> exact nxt_le _ _ _ (nxt_le _ _ _ h)

end Go.Abs
namespace Go.Abs
open Go

def ls12 : List UInt8 := [97, 98, 99, 100, 101, 102, 103, 104, 105, 106, 107, 108]
def badL (xs : List UInt8) : Nat → Nat → Nat → List VarD → List VarD × Nat
  | 0, _, a, v => (v, a)
  | f + 1, i, a, v => if (i : Int) < 10 + (nxt xs a 3).1 then badL xs f (i + 1) (nxt xs a 3).2 (v ++ [⟨118 :: (ls12.take (i + 1)).drop i, 0, 0⟩]) else (v, (nxt xs a 3).2)
theorem badL_ok (xs : List UInt8) : ∀ (f i a : Nat) (v : List VarD), a ≤ xs.length → (badL xs f i a v).2 ≤ xs.length ∧ (badL xs f i a v).1.length ≤ v.length + f
  | 0, i, a, v, h => ⟨h, by simp [badL]⟩
  | f + 1, i, a, v, h => by
    rw [badL]
    split
    · have := badL_ok xs f (i + 1) (nxt xs a 3).2 (v ++ [⟨118 :: (ls12.take (i + 1)).drop i, 0, 0⟩]) (nxt_le _ _ _ h)
      refine ⟨this.1, ?_⟩
      have h2 := this.2
      simp only [List.length_append, List.length_cons, List.length_nil] at h2
      omega
    · exact ⟨nxt_le _ _ _ h, by simp⟩
end Go.Abs
namespace Go.Abs
open Go
mutual
theorem r3E_sz (l : List VarD) : ∀ e : Ex, szE (r3E l e).1 = szE e
  | .mk op v n a b args => by simp only [r3E, szE, r3Es_sz l args]
theorem r3Es_sz (l : List VarD) : ∀ e : List Ex, szEs (r3Es l e).1 = szEs e
  | [] => by simp [r3Es]
  | e :: r => by simp only [r3Es, szEs, r3E_sz l e, r3Es_sz l r]
end
mutual
theorem r3S_sz (l : List VarD) : ∀ s : Sm, szS (r3S l s).1 = szS s
  | .mk k n a b p v body els => by simp only [r3S, szS, r3E_sz, r3Ss_sz l body, r3Ss_sz l els]
theorem r3Ss_sz (l : List VarD) : ∀ s : List Sm, szSs (r3Ss l s).1 = szSs s
  | [] => by simp [r3Ss]
  | e :: r => by simp only [r3Ss, szSs, r3S_sz l e, r3Ss_sz l r]
end
structure CdSz (c : CdD) (n : Nat) : Prop where
  h0 : c.init.length ≤ 32
  h1 : szSs c.start ≤ n
  h2 : szSs c.message ≤ n
  h3 : szSs c.tick ≤ n
  h4 : szSs c.input ≤ n
theorem resolve3_sz (p : PgD) : CdSz (resolve3F p).1 (szP p) := by
  have hz : CdSz cd0 (szP p) := ⟨by simp [cd0], by simp [cd0, szSs], by simp [cd0, szSs], by simp [cd0, szSs], by simp [cd0, szSs]⟩
  unfold resolve3F
  split
  · exact hz
  · split
    · exact hz
    · split
      · exact hz
      · split
        · exact hz
        · rename_i hs
          split
          · exact hz
          · split
            · exact hz
            · cases h : sum3 0 p.vars with
              | none => exact absurd h hs
              | some m =>
                have := sum3_len p.vars 0 m (by omega) h
                have h32 : mx 0 32 = 32 := by decide
                rw [h32] at this
                refine ⟨by simp only; omega, ?_, ?_, ?_, ?_⟩ <;> simp only [r3Ss_sz] <;> unfold szP <;> omega
def encPg (p : PgD) : List PVal := [.slice (p.vars.map encVar), .slice (p.start.map encSm), .slice (p.message.map encSm), .slice (p.tick.map encSm), .slice (p.input.map encSm)]
def pgAw : PgD := ⟨[⟨[120], 0, 3⟩, ⟨[97], 2, 0⟩, ⟨[121], 0, 0⟩], [], [], [], []⟩
theorem resolve_aw : resolveF pgAw = (⟨[3, 0, 0, 0], [], [], [], []⟩, 0) := by rfl
theorem lookup_aw : lookupF [121] 0 pgAw.vars = (3, 0, true) := by rfl
end Go.Abs
namespace Go.Abs
open Go
def wr (n : Int) : Int := IntKind.i64.wrap n
def outC (a b : Bool) (slot size c : Int) : Bool := (a || b) && (decide (slot < 0) || decide (IntKind.i64.wrap (slot + imax size 1) > c))
mutual
def insE (c : Int) : Ex → Bool
  | .mk op _ _ slot size args => !outC (op == 2) (op == 3) slot size c && insEs c args
def insEs (c : Int) : List Ex → Bool
  | [] => true
  | e :: r => insE c e && insEs c r
end
theorem insE_eq (c : Int) (e : Ex) : insE c e = (!outC (e.op == 2) (e.op == 3) e.slot e.size c && insEs c e.args) := by cases e; rfl
mutual
def witS (c : Int) : Sm → Bool
  | .mk kind _ slot size place value body els => !outC (kind == 1) (kind == 2) slot size c && (insE c place && insE c value && witSs c body && witSs c els)
def witSs (c : Int) : List Sm → Bool
  | [] => true
  | e :: r => witS c e && witSs c r
end
theorem witS_eq (c : Int) (s : Sm) : witS c s = (!outC (s.kind == 1) (s.kind == 2) s.slot s.size c && (insE c s.place && insE c s.value && witSs c s.body && witSs c s.els)) := by cases s; rfl
theorem insEs_drop (c : Int) (l : List Ex) (k : Nat) (h : k < l.length) : insEs c (l.drop k) = (insE c l[k] && insEs c (l.drop (k + 1))) := by
  rw [List.drop_eq_getElem_cons h, insEs]
theorem witSs_drop (c : Int) (l : List Sm) (k : Nat) (h : k < l.length) : witSs c (l.drop k) = (witS c l[k] && witSs c (l.drop (k + 1))) := by
  rw [List.drop_eq_getElem_cons h, witSs]
end Go.Abs
namespace Go.Abs
open Go
def nn (s : List UInt8) : List UInt8 := if s = [] then [] else 110 :: 95 :: s
theorem nn_nil : nn [] = [] := rfl
theorem nn_cons {s : List UInt8} (h : s ≠ []) : nn s = 110 :: 95 :: s := if_neg h
mutual
def othE : Ex → Ex
  | .mk op v n a b args => .mk op v (nn n) a b (othEs args)
def othEs : List Ex → List Ex
  | [] => []
  | e :: r => othE e :: othEs r
end
theorem othEs_map : ∀ l, othEs l = l.map othE
  | [] => rfl
  | e :: r => by simp [othEs, othEs_map r]
theorem othE_eq (e : Ex) : othE e = .mk e.op e.value (nn e.name) e.slot e.size (e.args.map othE) := by cases e; simp [othE, othEs_map, Ex.op, Ex.value, Ex.name, Ex.slot, Ex.size, Ex.args]
mutual
def rnS : Sm → Sm
  | .mk k n a b p v body els => .mk k (nn n) a b (othE p) (othE v) (rnSs body) (rnSs els)
def rnSs : List Sm → List Sm
  | [] => []
  | e :: r => rnS e :: rnSs r
end
theorem rnSs_map : ∀ l, rnSs l = l.map rnS
  | [] => rfl
  | e :: r => by simp [rnSs, rnSs_map r]
theorem rnS_eq (s : Sm) : rnS s = .mk s.kind (nn s.name) s.slot s.size (othE s.place) (othE s.value) (s.body.map rnS) (s.els.map rnS) := by cases s; simp [rnS, rnSs_map, Sm.kind, Sm.name, Sm.slot, Sm.size, Sm.place, Sm.value, Sm.body, Sm.els]
mutual
def nmE : Ex → Prop
  | .mk _ _ n _ _ args => n.length ≤ 1000 ∧ nmEs args
def nmEs : List Ex → Prop
  | [] => True
  | e :: r => nmE e ∧ nmEs r
end
theorem nmE_eq (e : Ex) : nmE e ↔ (e.name.length ≤ 1000 ∧ nmEs e.args) := by cases e; simp [nmE, Ex.name, Ex.args]
theorem nmEs_mem : ∀ (l : List Ex) (e : Ex), nmEs l → e ∈ l → nmE e
  | [], _, _, h => by cases h
  | x :: r, e, h, hm => by
    simp only [nmEs] at h
    rcases List.mem_cons.1 hm with rfl | hm
    · exact h.1
    · exact nmEs_mem r e h.2 hm
mutual
def nmS : Sm → Prop
  | .mk _ n _ _ p v body els => n.length ≤ 1000 ∧ nmE p ∧ nmE v ∧ nmSs body ∧ nmSs els
def nmSs : List Sm → Prop
  | [] => True
  | e :: r => nmS e ∧ nmSs r
end
theorem nmS_eq (s : Sm) : nmS s ↔ (s.name.length ≤ 1000 ∧ nmE s.place ∧ nmE s.value ∧ nmSs s.body ∧ nmSs s.els) := by cases s; simp [nmS, Sm.name, Sm.place, Sm.value, Sm.body, Sm.els]
theorem nmSs_mem : ∀ (l : List Sm) (e : Sm), nmSs l → e ∈ l → nmS e
  | [], _, _, h => by cases h
  | x :: r, e, h, hm => by
    simp only [nmSs] at h
    rcases List.mem_cons.1 hm with rfl | hm
    · exact h.1
    · exact nmSs_mem r e h.2 hm
end Go.Abs
namespace Go.Abs
open Go
abbrev NmP := List UInt8 → Prop
inductive WfE (S A : NmP) : Nat → Ex → Prop
  | leaf (d : Nat) (op value : Int) : (op = 1 ∧ 0 ≤ value) ∨ (4 ≤ op ∧ op ≤ 7 ∧ value = 0) → WfE S A d (exL op value [] [])
  | scal (d : Nat) (n : List UInt8) : S n → WfE S A d (exL 2 0 n [])
  | arr (d : Nat) (n : List UInt8) (e : Ex) : A n → WfE S A d e → WfE S A (d + 1) (exL 3 0 n [e])
  | un (d : Nat) (op : Int) (e : Ex) : op = 8 ∨ op = 9 → WfE S A d e → WfE S A (d + 1) (exL op 0 [] [e])
  | bin (d : Nat) (op : Int) (e f : Ex) : 10 ≤ op ∧ op ≤ 22 → WfE S A d e → WfE S A d f → WfE S A (d + 1) (exL op 0 [] [e, f])
inductive WfS (S A : NmP) : Nat → Sm → Prop
  | assign (d : Nat) (n : List UInt8) (v : Ex) : S n → WfE S A 3 v → WfS S A d (smL 1 n ex0 v [] [])
  | store (d : Nat) (n : List UInt8) (p v : Ex) : A n → WfE S A 3 p → WfE S A 3 v → WfS S A d (smL 2 n p v [] [])
  | send (d : Nat) (p v : Ex) : WfE S A 3 p → WfE S A 3 v → WfS S A d (smL 5 [] p v [] [])
  | out (d : Nat) (v : Ex) : WfE S A 3 v → WfS S A d (smL 6 [] ex0 v [] [])
  | ite (d : Nat) (v : Ex) (b e : List Sm) : WfE S A 3 v → (∀ s, s ∈ b → WfS S A d s) → (∀ s, s ∈ e → WfS S A d s) → WfS S A (d + 1) (smL 3 [] ex0 v b e)
  | whl (d : Nat) (v : Ex) (b : List Sm) : WfE S A 3 v → (∀ s, s ∈ b → WfS S A d s) → WfS S A (d + 1) (smL 4 [] ex0 v b [])
theorem WfE.up {S A : NmP} {d : Nat} {e : Ex} (h : WfE S A d e) : WfE S A (d + 1) e := by
  induction h with
  | leaf d op v h => exact .leaf _ op v h
  | scal d n h => exact .scal _ n h
  | arr d n e h _ ih => exact .arr _ n e h ih
  | un d op e h _ ih => exact .un _ op e h ih
  | bin d op e f h _ _ ih1 ih2 => exact .bin _ op e f h ih1 ih2
def S0 : NmP := fun n => n = [120] ∨ n = [121] ∨ n = [122]
def A0 : NmP := fun n => n = [97] ∨ n = [98]
theorem scal_S0 (i : Int) : S0 (scal i) := by
  unfold scal S0
  by_cases h : i = 0
  · simp [h]
  · by_cases h1 : i = 1 <;> simp [h, h1]
theorem arrN_A0 (i : Int) : A0 (arrN i) := by unfold arrN A0; split <;> simp

theorem exprStep_WfE (xs : List UInt8) (rec : Nat → Ex × Nat) (d : Nat) (hr : ∀ a, WfE S0 A0 d (rec a).1) (a : Nat) : WfE S0 A0 (d + 1) (exprStep xs rec false a).1 := by
  have h12 := nxt_lt xs a 12 (by omega)
  unfold exprStep
  simp only [kF, Bool.false_and, Bool.false_eq_true, if_false, or_false]
  repeat' split
  · exact .leaf _ _ _ (.inl ⟨rfl, (nxt_lt _ _ 5 (by omega)).1⟩)
  · exact .scal _ _ (scal_S0 _)
  · exact .leaf _ _ _ (.inr (by omega))
  · refine .leaf _ _ _ (.inr ?_)
    unfold opN
    repeat' split
    all_goals omega
  · have := (nxt_lt xs (nxt xs a 12).2 200 (by omega)).1
    exact .leaf _ _ _ (.inl ⟨rfl, by omega⟩)
  · exact .arr _ _ _ (arrN_A0 _) (hr _)
  · have := nxt_lt xs (nxt xs a 12).2 2 (by omega)
    exact .un _ _ _ (by omega) (hr _)
  · have := nxt_lt xs (rec (nxt xs a 12).2).2 13 (by omega)
    exact .bin _ _ _ _ (by omega) (hr _) (hr _)
theorem exprStep_WEs (xs : List UInt8) (rec : Nat → Ex × Nat) (d : Nat) (a : Nat) : WfE S0 A0 d (exprStep xs rec true a).1 := by
  have h12 := nxt_lt xs a 12 (by omega)
  unfold exprStep
  simp only [kF, Bool.true_and, or_true, if_true, decide_eq_true_eq]
  generalize (if (nxt xs a 12).1 ≥ 8 then (nxt xs a 12).1 - 8 else (nxt xs a 12).1) = q
  repeat' split
  · exact .leaf _ _ _ (.inl ⟨rfl, (nxt_lt _ _ 5 (by omega)).1⟩)
  · exact .scal _ _ (scal_S0 _)
  · exact .leaf _ _ _ (.inr (by omega))
  · refine .leaf _ _ _ (.inr ?_)
    unfold opN
    repeat' split
    all_goals omega
  · have := (nxt_lt xs (nxt xs a 12).2 200 (by omega)).1
    exact .leaf _ _ _ (.inl ⟨rfl, by omega⟩)
theorem exprF_WfE (xs : List UInt8) : ∀ (d a : Nat), WfE S0 A0 d (exprF xs d a).1
  | 0, a => exprStep_WEs xs _ 0 a
  | 1, a => exprStep_WEs xs _ 1 a
  | d + 2, a => exprStep_WfE xs _ (d + 1) (fun a => exprF_WfE xs (d + 1) a) a

theorem stmtStep_WfS (xs : List UInt8) (rec : Int → Nat → List Sm × Nat) (d : Nat) (hr : ∀ m a s, s ∈ (rec m a).1 → WfS S0 A0 d s) (a : Nat) : WfS S0 A0 (d + 1) (stmtStep xs rec false a).1 := by
  have e2 := fun a => (exprF_WfE xs 2 a).up
  have e3 := fun a => exprF_WfE xs 3 a
  unfold stmtStep
  simp only [kF, Bool.false_and, Bool.false_eq_true, if_false]
  repeat' split
  · exact .assign _ _ _ (scal_S0 _) (e3 _)
  · exact .store _ _ _ _ (arrN_A0 _) (e2 _) (e2 _)
  · exact .send _ _ _ (e2 _) (e2 _)
  · exact .out _ _ (e2 _)
  · exact .ite _ _ _ _ (e2 _) (hr _ _) (hr _ _)
  · exact .whl _ _ _ (e2 _) (hr _ _)
theorem stmtStep_WSs (xs : List UInt8) (rec : Int → Nat → List Sm × Nat) (d : Nat) (a : Nat) : WfS S0 A0 d (stmtStep xs rec true a).1 := by
  have e2 := fun a => (exprF_WfE xs 2 a).up
  have e3 := fun a => exprF_WfE xs 3 a
  have h10 := nxt_lt xs a 10 (by omega)
  unfold stmtStep
  simp only [kF, Bool.true_and, decide_eq_true_eq]
  have hq : (if (nxt xs a 10).1 ≥ 7 then (nxt xs a 10).1 - 7 else (nxt xs a 10).1) < 7 := by split <;> omega
  generalize (if (nxt xs a 10).1 ≥ 7 then (nxt xs a 10).1 - 7 else (nxt xs a 10).1) = q at *
  repeat' split
  · exact .assign _ _ _ (scal_S0 _) (e3 _)
  · exact .store _ _ _ _ (arrN_A0 _) (e2 _) (e2 _)
  · exact .send _ _ _ (e2 _) (e2 _)
  · exact .out _ _ (e2 _)
  · omega
  · omega
theorem stmtsLoop_mem (xs : List UInt8) (rec : Int → Nat → List Sm × Nat) (small : Bool) (R : Sm → Prop) (h : ∀ a, R (stmtStep xs rec small a).1) : ∀ (n a : Nat) (s : Sm), s ∈ (stmtsLoop xs rec small n a).1 → R s
  | 0, a, s, hs => by simp [stmtsLoop] at hs
  | n + 1, a, s, hs => by
    simp only [stmtsLoop, List.mem_cons] at hs
    rcases hs with rfl | hs
    · exact h a
    · exact stmtsLoop_mem xs rec small R h n _ s hs
theorem stmtsF_WfS (xs : List UInt8) : ∀ (d : Nat) (m : Int) (a : Nat) (s : Sm), s ∈ (stmtsF xs d m a).1 → WfS S0 A0 d s
  | 0, m, a, s, hs => stmtsLoop_mem xs _ _ _ (fun a => stmtStep_WSs xs _ 0 a) _ _ s hs
  | 1, m, a, s, hs => stmtsLoop_mem xs _ _ _ (fun a => stmtStep_WSs xs _ 1 a) _ _ s hs
  | d + 2, m, a, s, hs => stmtsLoop_mem xs _ _ _ (fun a => stmtStep_WfS xs _ (d + 1) (fun m a s hs => stmtsF_WfS xs (d + 1) m a s hs) a) _ _ s hs

structure Kn (S A : NmP) (L : List VarD) (n : Int) : Prop where
  s : ∀ x, S x → x.length ≤ 100 ∧ validF x = true ∧ (lookupF x 0 L).2 = (0, true) ∧ 0 ≤ (lookupF x 0 L).1 ∧ (lookupF x 0 L).1 + 1 ≤ n
  a : ∀ x, A x → x.length ≤ 100 ∧ validF x = true ∧ (lookupF x 0 L).2.2 = true ∧ 1 ≤ (lookupF x 0 L).2.1 ∧ 0 ≤ (lookupF x 0 L).1 ∧ (lookupF x 0 L).1 + (lookupF x 0 L).2.1 ≤ n
  n : n ≤ 1000
structure GE (L : List VarD) (n : Int) (d : Nat) (e : Ex) : Prop where
  good : goodEF e = true
  names : namesE L e = true
  shape : (r3E L e).2 = true
  ins : insE n (r3E L e).1 = true
  nm : nmE e
  nm2 : nmE (r3E L e).1
  dep : depE e ≤ d + 1
theorem outC_in (a b : Bool) (slot size n : Int) (h0 : 0 ≤ slot) (h1 : slot + imax size 1 ≤ n) (hn : n ≤ 1000) : outC a b slot size n = false := by
  have : 1 ≤ imax size 1 := by unfold imax; split <;> omega
  unfold outC
  rw [wrap64 _ (by omega) (by omega)]
  have e1 : decide (slot < 0) = false := by simp; omega
  have e2 : decide (slot + imax size 1 > n) = false := by simp; omega
  rw [e1, e2]
  simp
theorem imax_one {z : Int} (h : 1 ≤ z) : imax z 1 = z := by unfold imax; split <;> omega
theorem WfE.ge {S A : NmP} {L : List VarD} {n : Int} (K : Kn S A L n) {d : Nat} {e : Ex} (h : WfE S A d e) : GE L n d e := by
  induction h with
  | leaf d op v h =>
    have h3 : (op == 2) = false ∧ (op == 3) = false := by constructor <;> (simp; omega)
    have har : arityF op = 0 := by unfold arityF; repeat' split <;> omega
    have hh : head3 L op [] 0 0 2 3 = ((0, 0), true) := by simp [head3, h3]
    refine ⟨?_, ?_, ?_, ?_, ?_, ?_, ?_⟩
    · have hv : (!(decide (v < 0) || v != 0 && op != 1)) = true := by
        rcases h with ⟨rfl, h⟩ | ⟨h1, h2, rfl⟩
        · simp; omega
        · simp
      simp only [exL, goodEF, headEF, har, goodEFs, goodNameF, h3, hv, List.length_nil]
      simp
    · simp [exL, namesE, namesEs, h3]
    · simp [exL, r3E, r3Es, hh]
    · simp [exL, r3E, r3Es, insE, insEs, outC, h3]
    · simp [exL, nmE, nmEs]
    · simp [exL, r3E, r3Es, nmE, nmEs]
    · simp only [exL, depE, depEs]; omega
  | scal d x h =>
    obtain ⟨k1, k2, k3, k4, k5⟩ := K.s x h
    have hn := K.n
    have hh : head3 L 2 x 0 0 2 3 = (((lookupF x 0 L).1, 0), true) := by simp [head3, k3]
    refine ⟨?_, ?_, ?_, ?_, ?_, ?_, ?_⟩
    · simp [exL, goodEF, headEF, goodEFs, goodNameF, k2, arityF]
    · simp [exL, namesE, namesEs, foundF, k3]
    · simp [exL, r3E, r3Es, hh]
    · simp only [exL, r3E, r3Es, insE, insEs, hh]
      rw [outC_in _ _ _ _ _ k4 (by simpa [imax] using k5) hn]
      rfl
    · simp only [exL, nmE, nmEs]; exact ⟨by omega, trivial⟩
    · simp only [exL, r3E, r3Es, nmE, nmEs]; exact ⟨by omega, trivial⟩
    · simp only [exL, depE, depEs]; omega
  | arr d x e h _ ih =>
    obtain ⟨k1, k2, k3, k4, k5, k6⟩ := K.a x h
    have hn := K.n
    have hh : head3 L 3 x 0 0 2 3 = (((lookupF x 0 L).1, (lookupF x 0 L).2.1), true) := by
      have : decide ((lookupF x 0 L).2.1 > 0) = true := by simp; omega
      simp [head3, this]
    refine ⟨?_, ?_, ?_, ?_, ?_, ?_, ?_⟩
    · simp [exL, goodEF, headEF, goodEFs, goodNameF, k2, arityF, ih.good]
    · simp [exL, namesE, namesEs, foundF, k3, ih.names]
    · simp [exL, r3E, r3Es, hh, ih.shape]
    · simp only [exL, r3E, r3Es, insE, insEs, hh, ih.ins]
      rw [outC_in _ _ _ _ _ k5 (by rw [imax_one k4]; exact k6) hn]
      rfl
    · simp only [exL, nmE, nmEs]; exact ⟨by omega, ih.nm, trivial⟩
    · simp only [exL, r3E, r3Es, nmE, nmEs]; exact ⟨by omega, ih.nm2, trivial⟩
    · have := ih.dep
      simp only [exL, depE, depEs, mx, imax]; split <;> omega
  | un d op e h _ ih =>
    have h3 : (op == 2) = false ∧ (op == 3) = false := by constructor <;> (simp; omega)
    have har : arityF op = 1 := by unfold arityF; repeat' split <;> omega
    have hh : head3 L op [] 0 0 2 3 = ((0, 0), true) := by simp [head3, h3]
    refine ⟨?_, ?_, ?_, ?_, ?_, ?_, ?_⟩
    · simp [exL, goodEF, headEF, har, goodEFs, goodNameF, h3, ih.good]
    · simp [exL, namesE, namesEs, h3, ih.names]
    · simp [exL, r3E, r3Es, hh, ih.shape]
    · simp [exL, r3E, r3Es, insE, insEs, outC, h3, ih.ins]
    · simp [exL, nmE, nmEs, ih.nm]
    · simp [exL, r3E, r3Es, nmE, nmEs, ih.nm2]
    · have := ih.dep
      simp only [exL, depE, depEs, mx, imax]; split <;> omega
  | bin d op e f h _ _ ih1 ih2 =>
    have h3 : (op == 2) = false ∧ (op == 3) = false := by constructor <;> (simp; omega)
    have har : arityF op = 2 := by unfold arityF; repeat' split <;> omega
    have hh : head3 L op [] 0 0 2 3 = ((0, 0), true) := by simp [head3, h3]
    refine ⟨?_, ?_, ?_, ?_, ?_, ?_, ?_⟩
    · simp [exL, goodEF, headEF, har, goodEFs, goodNameF, h3, ih1.good, ih2.good]
    · simp [exL, namesE, namesEs, h3, ih1.names, ih2.names]
    · simp [exL, r3E, r3Es, hh, ih1.shape, ih2.shape]
    · simp [exL, r3E, r3Es, insE, insEs, outC, h3, ih1.ins, ih2.ins]
    · simp [exL, nmE, nmEs, ih1.nm, ih2.nm]
    · simp [exL, r3E, r3Es, nmE, nmEs, ih1.nm2, ih2.nm2]
    · have := ih1.dep
      have := ih2.dep
      simp only [exL, depE, depEs, mx, imax]; repeat' split <;> omega
end Go.Abs
namespace Go.Abs
open Go
structure GS (L : List VarD) (n : Int) (d : Nat) (s : Sm) : Prop where
  good : goodSF s = true
  decl : declS L s = true
  shape : (r3S L s).2 = true
  wit : witS n (r3S L s).1 = true
  nm : nmS s
  nm2 : nmS (r3S L s).1
  dep : depS s ≤ d + 5
structure GSs (L : List VarD) (n : Int) (d : Nat) (l : List Sm) : Prop where
  good : goodSFs l = true
  decl : declSs L l = true
  shape : (r3Ss L l).2 = true
  wit : witSs n (r3Ss L l).1 = true
  nm : nmSs l
  nm2 : nmSs (r3Ss L l).1
  dep : depSs 0 l ≤ d + 5
theorem depSs_bound : ∀ (l : List Sm) (d b : Int), d ≤ b → (∀ s, s ∈ l → depS s ≤ b) → depSs d l ≤ b
  | [], d, b, h, _ => h
  | s :: r, d, b, h, hs => depSs_bound r _ b (by have := hs s (by simp); unfold mx imax; split <;> omega) (fun s hm => hs s (by simp [hm]))
theorem GSs.of (L : List VarD) (n : Int) (d : Nat) : ∀ l : List Sm, (∀ s, s ∈ l → GS L n d s) → GSs L n d l
  | [], _ => ⟨rfl, rfl, rfl, rfl, trivial, trivial, by simp [depSs]; omega⟩
  | s :: r, h => by
    have h1 := h s (by simp)
    have h2 := GSs.of L n d r (fun s hs => h s (by simp [hs]))
    exact ⟨by simp [goodSFs, h1.good, h2.good], by simp [declSs, h1.decl, h2.decl], by simp [r3Ss, h1.shape, h2.shape], by simp [r3Ss, witSs, h1.wit, h2.wit], ⟨h1.nm, h2.nm⟩, ⟨h1.nm2, h2.nm2⟩, depSs_bound _ _ _ (by omega) (fun s hs => (h s hs).dep)⟩
theorem depE_ex0 : depE ex0 = 1 := rfl
theorem r3E_ex0 (L : List VarD) : r3E L ex0 = (ex0, true) := by simp [ex0, r3E, r3Es, head3]
theorem dep4 {p v b e c : Int} (h1 : p ≤ c - 1) (h2 : v ≤ c - 1) (h3 : b ≤ c - 1) (h4 : e ≤ c - 1) : 1 + mx (mx (mx p v) b) e ≤ c := by
  have hm : ∀ x y : Int, x ≤ c - 1 → y ≤ c - 1 → mx x y ≤ c - 1 := fun x y hx hy => by unfold mx imax; split <;> omega
  have := hm _ _ (hm _ _ (hm p v h1 h2) h3) h4
  omega
theorem WfS.gs {S A : NmP} {L : List VarD} {n : Int} (K : Kn S A L n) {d : Nat} {s : Sm} (h : WfS S A d s) : GS L n d s := by
  have hn := K.n
  induction h with
  | assign d x v h hv =>
    obtain ⟨k1, k2, k3, k4, k5⟩ := K.s x h
    have gv := hv.ge K
    have hh : head3 L 1 x 0 0 1 2 = (((lookupF x 0 L).1, 0), true) := by simp [head3, k3]
    refine ⟨?_, ?_, ?_, ?_, ?_, ?_, ?_⟩
    · simp [smL, goodSF, headSF, goodNameF, k2, gv.good, goodSFs, zeroEF, ex0, Ex.op, Ex.value, Ex.name, Ex.slot, Ex.size, Ex.args]
    · simp [smL, declS, declSs, foundF, k3, gv.names, ex0, namesE, namesEs]
    · simp [smL, r3S, r3Ss, hh, gv.shape, r3E_ex0]
    · simp only [smL, r3S, r3Ss, witS, witSs, hh, gv.ins]
      rw [outC_in _ _ _ _ _ k4 (by simpa [imax] using k5) hn]
      simp [ex0, r3E, r3Es, head3, insE, insEs, outC]
    · simp only [smL, nmS, nmSs, ex0, nmE, nmEs]; exact ⟨by omega, ⟨by simp, trivial⟩, gv.nm, trivial, trivial⟩
    · simp only [smL, r3S, r3Ss, nmS, nmSs, ex0, r3E, r3Es, nmE, nmEs]; exact ⟨by omega, ⟨by simp, trivial⟩, gv.nm2, trivial, trivial⟩
    · have := gv.dep
      simp only [smL, depS, depSs, depE_ex0]; exact dep4 (by omega) (by omega) (by omega) (by omega)
  | store d x p v h hp hv =>
    obtain ⟨k1, k2, k3, k4, k5, k6⟩ := K.a x h
    have gv := hv.ge K
    have gp := hp.ge K
    have hh : head3 L 2 x 0 0 1 2 = (((lookupF x 0 L).1, (lookupF x 0 L).2.1), true) := by
      have : decide ((lookupF x 0 L).2.1 > 0) = true := by simp; omega
      simp [head3, this]
    refine ⟨?_, ?_, ?_, ?_, ?_, ?_, ?_⟩
    · simp [smL, goodSF, headSF, goodNameF, k2, gv.good, gp.good, goodSFs]
    · simp [smL, declS, declSs, foundF, k3, gv.names, gp.names]
    · simp [smL, r3S, r3Ss, hh, gv.shape, gp.shape]
    · simp only [smL, r3S, r3Ss, witS, witSs, hh, gv.ins, gp.ins]
      rw [outC_in _ _ _ _ _ k5 (by rw [imax_one k4]; exact k6) hn]
      rfl
    · simp only [smL, nmS, nmSs]; exact ⟨by omega, gp.nm, gv.nm, trivial, trivial⟩
    · simp only [smL, r3S, r3Ss, nmS, nmSs]; exact ⟨by omega, gp.nm2, gv.nm2, trivial, trivial⟩
    · have := gv.dep
      have := gp.dep
      simp only [smL, depS, depSs]; exact dep4 (by omega) (by omega) (by omega) (by omega)
  | send d p v hp hv =>
    have gv := hv.ge K
    have gp := hp.ge K
    refine ⟨?_, ?_, ?_, ?_, ?_, ?_, ?_⟩
    · simp [smL, goodSF, headSF, goodNameF, gv.good, gp.good, goodSFs]
    · simp [smL, declS, declSs, gv.names, gp.names]
    · simp [smL, r3S, r3Ss, head3, gv.shape, gp.shape]
    · simp [smL, r3S, r3Ss, witS, witSs, head3, gv.ins, gp.ins, outC]
    · simp only [smL, nmS, nmSs]; exact ⟨by simp, gp.nm, gv.nm, trivial, trivial⟩
    · simp only [smL, r3S, r3Ss, nmS, nmSs]; exact ⟨by simp, gp.nm2, gv.nm2, trivial, trivial⟩
    · have := gv.dep
      have := gp.dep
      simp only [smL, depS, depSs]; exact dep4 (by omega) (by omega) (by omega) (by omega)
  | out d v hv =>
    have gv := hv.ge K
    refine ⟨?_, ?_, ?_, ?_, ?_, ?_, ?_⟩
    · simp [smL, goodSF, headSF, goodNameF, gv.good, goodSFs, zeroEF, ex0, Ex.op, Ex.value, Ex.name, Ex.slot, Ex.size, Ex.args]
    · simp [smL, declS, declSs, gv.names, ex0, namesE, namesEs]
    · simp [smL, r3S, r3Ss, head3, gv.shape, ex0, r3E, r3Es]
    · simp [smL, r3S, r3Ss, witS, witSs, head3, gv.ins, outC, ex0, r3E, r3Es, insE, insEs]
    · simp only [smL, nmS, nmSs, ex0, nmE, nmEs]; exact ⟨by simp, ⟨by simp, trivial⟩, gv.nm, trivial, trivial⟩
    · simp only [smL, r3S, r3Ss, nmS, nmSs, ex0, r3E, r3Es, nmE, nmEs]; exact ⟨by simp, ⟨by simp, trivial⟩, gv.nm2, trivial, trivial⟩
    · have := gv.dep
      simp only [smL, depS, depSs, depE_ex0]; exact dep4 (by omega) (by omega) (by omega) (by omega)
  | ite d v b e hv _ _ ihb ihe =>
    have gv := hv.ge K
    have gb := GSs.of L n d b ihb
    have ge := GSs.of L n d e ihe
    refine ⟨?_, ?_, ?_, ?_, ?_, ?_, ?_⟩
    · simp [smL, goodSF, headSF, goodNameF, gv.good, gb.good, ge.good, zeroEF, ex0, Ex.op, Ex.value, Ex.name, Ex.slot, Ex.size, Ex.args]
    · simp [smL, declS, gb.decl, ge.decl, gv.names, ex0, namesE, namesEs]
    · simp [smL, r3S, head3, gv.shape, gb.shape, ge.shape, ex0, r3E, r3Es]
    · simp [smL, r3S, witS, head3, gv.ins, gb.wit, ge.wit, outC, ex0, r3E, r3Es, insE, insEs]
    · simp only [smL, nmS, ex0, nmE, nmEs]; exact ⟨by simp, ⟨by simp, trivial⟩, gv.nm, gb.nm, ge.nm⟩
    · simp only [smL, r3S, nmS, ex0, r3E, r3Es, nmE, nmEs]; exact ⟨by simp, ⟨by simp, trivial⟩, gv.nm2, gb.nm2, ge.nm2⟩
    · have := gv.dep
      have := gb.dep
      have := ge.dep
      simp only [smL, depS, depE_ex0]; exact dep4 (by omega) (by omega) (by omega) (by omega)
  | whl d v b hv _ ihb =>
    have gv := hv.ge K
    have gb := GSs.of L n d b ihb
    refine ⟨?_, ?_, ?_, ?_, ?_, ?_, ?_⟩
    · simp [smL, goodSF, headSF, goodNameF, gv.good, gb.good, goodSFs, zeroEF, ex0, Ex.op, Ex.value, Ex.name, Ex.slot, Ex.size, Ex.args]
    · simp [smL, declS, declSs, gb.decl, gv.names, ex0, namesE, namesEs]
    · simp [smL, r3S, r3Ss, head3, gv.shape, gb.shape, ex0, r3E, r3Es]
    · simp [smL, r3S, r3Ss, witS, witSs, head3, gv.ins, gb.wit, outC, ex0, r3E, r3Es, insE, insEs]
    · simp only [smL, nmS, nmSs, ex0, nmE, nmEs]; exact ⟨by simp, ⟨by simp, trivial⟩, gv.nm, gb.nm, trivial⟩
    · simp only [smL, r3S, r3Ss, nmS, nmSs, ex0, r3E, r3Es, nmE, nmEs]; exact ⟨by simp, ⟨by simp, trivial⟩, gv.nm2, gb.nm2, trivial⟩
    · have := gv.dep
      have := gb.dep
      simp only [smL, depS, depSs, depE_ex0]; exact dep4 (by omega) (by omega) (by omega) (by omega)
theorem resolves (p : PgD) (n : Int) (d : Nat) (hd : d ≤ 10) (h1 : GSs p.vars n d p.start) (h2 : GSs p.vars n d p.message) (h3 : GSs p.vars n d p.tick) (h4 : GSs p.vars n d p.input) (hv : p.vars.any (fun v => !goodVarF v) = false)
    (hl : p.vars.length ≤ 16) (hdup : dup3 p.vars = false) (hs : ∃ m, sum3 0 p.vars = some m) :
    resolve3F p = (⟨init3 p.vars, (r3Ss p.vars p.start).1, (r3Ss p.vars p.message).1, (r3Ss p.vars p.tick).1, (r3Ss p.vars p.input).1⟩, 0) := by
  have hck : checkF goodSFs p = 0 := by
    unfold checkF
    have a1 := h1.dep
    have a2 := h2.dep
    have a3 := h3.dep
    have a4 := h4.dep
    have : ¬ depP p > 16 := by
      have hm : ∀ x y : Int, x ≤ 16 → y ≤ 16 → mx x y ≤ 16 := fun x y hx hy => by unfold mx imax; split <;> omega
      have := hm _ _ (hm _ _ (hm (depSs 0 p.start) (depSs 0 p.message) (by omega) (by omega)) (show depSs 0 p.tick ≤ 16 by omega)) (show depSs 0 p.input ≤ 16 by omega)
      unfold depP; omega
    rw [if_neg this, hv, h1.good, h2.good, h3.good, h4.good]
    simp
  obtain ⟨m, hm⟩ := hs
  unfold resolve3F
  rw [hck, hdup, hm, h1.decl, h2.decl, h3.decl, h4.decl, h1.shape, h2.shape, h3.shape, h4.shape]
  simp
  omega
end Go.Abs
namespace Go.Abs
open Go
def nx (v : Int) (k : Nat) : Int := [0, 1, 2 + v, 3 + v, 4 + v, 6 + v].getD k 0
structure VF (L : List VarD) (I : List Int) (x : VarD) (a b n : Int) : Prop where
  look : lookupF x.name 0 L = (a, x.size, true)
  pos : 0 ≤ a
  next : a + imax x.size 1 = b
  le : b ≤ n
  size : 0 ≤ x.size
  init : x.size = 0 → I.getD a.toNat 0 = x.init
  zero : ∀ i : Nat, (i : Int) < x.size → I.getD (a + i).toNat 0 = 0
theorem vars_fact (u v w : Int) (hv : 0 ≤ v ∧ v < 5) (k : Nat) (hk : k < 5) : VF (varsF u v w) (init3 (varsF u v w)) ((varsF u v w).getD k ⟨[], 0, 0⟩) (nx v k) (nx v (k + 1)) (6 + v) := by
  have h5 : v = 0 ∨ v = 1 ∨ v = 2 ∨ v = 3 ∨ v = 4 := by omega
  have k5 : k = 0 ∨ k = 1 ∨ k = 2 ∨ k = 3 ∨ k = 4 := by omega
  rcases h5 with rfl | rfl | rfl | rfl | rfl <;> rcases k5 with rfl | rfl | rfl | rfl | rfl <;>
    refine ⟨by simp [varsF, lookupF, nx, mx, imax], by simp [nx], by simp [varsF, nx, imax], by simp [nx], by simp [varsF], fun h => ?_, fun i hi => ?_⟩
  all_goals first
    | (simp [varsF] at hi; omega)
    | (simp [varsF] at h; done)
    | (simp [varsF, init3, one3, nx]; done)
    | (simp only [varsF, List.getD_cons_succ, List.getD_cons_zero] at hi
       have h5 : i = 0 ∨ i = 1 ∨ i = 2 ∨ i = 3 ∨ i = 4 := by omega
       rcases h5 with rfl | rfl | rfl | rfl | rfl <;> first | (simp [varsF, init3, one3, nx, List.replicate]; done) | omega)
theorem vars_len (u v w : Int) (hv : 0 ≤ v ∧ v < 5) : ((init3 (varsF u v w)).length : Int) = 6 + v := by
  have h5 : v = 0 ∨ v = 1 ∨ v = 2 ∨ v = 3 ∨ v = 4 := by omega
  rcases h5 with rfl | rfl | rfl | rfl | rfl <;> simp [varsF, init3, one3]
theorem vars_kn (u v w : Int) (hv : 0 ≤ v ∧ v < 5) : Kn S0 A0 (varsF u v w) (6 + v) := by
  have f := vars_fact u v w hv
  have f0 := f 0 (by omega)
  have f1 := f 1 (by omega)
  have f2 := f 2 (by omega)
  have f3 := f 3 (by omega)
  have f4 := f 4 (by omega)
  have l0 : lookupF [120] 0 (varsF u v w) = (0, 0, true) := f0.look
  have l1 : lookupF [97] 0 (varsF u v w) = (1, 1 + v, true) := f1.look
  have l2 : lookupF [121] 0 (varsF u v w) = (2 + v, 0, true) := f2.look
  have l3 : lookupF [122] 0 (varsF u v w) = (3 + v, 0, true) := f3.look
  have l4 : lookupF [98] 0 (varsF u v w) = (4 + v, 2, true) := f4.look
  refine ⟨?_, ?_, by omega⟩
  · rintro x (rfl | rfl | rfl)
    · rw [l0]; exact ⟨by decide, by decide, rfl, by simp, by simp; omega⟩
    · rw [l2]; exact ⟨by decide, by decide, rfl, by simp; omega, by simp; omega⟩
    · rw [l3]; exact ⟨by decide, by decide, rfl, by simp; omega, by simp; omega⟩
  · rintro x (rfl | rfl)
    · rw [l1]; exact ⟨by decide, by decide, rfl, by simp; omega, by simp, by simp; omega⟩
    · rw [l4]; exact ⟨by decide, by decide, rfl, by simp, by simp; omega, by simp; omega⟩
theorem vars_good (u v w : Int) (hu : 0 ≤ u ∧ u < 7) (hv : 0 ≤ v ∧ v < 5) (hw : 0 ≤ w ∧ w < 3) : (varsF u v w).any (fun v => !goodVarF v) = false := by
  have a1 : validF [120] = true := by decide
  have a2 : validF [97] = true := by decide
  have a3 : validF [121] = true := by decide
  have a4 : validF [122] = true := by decide
  have a5 : validF [98] = true := by decide
  have b1 : ¬ (1 + v < 0) := by omega
  have b2 : ¬ (1 + v = 0) := by omega
  simp [varsF, goodVarF, a1, a2, a3, a4, a5, b1]
  omega
theorem vars_dup (u v w : Int) : dup3 (varsF u v w) = false := by simp [varsF, dup3]
theorem vars_sum (u v w : Int) (hv : 0 ≤ v ∧ v < 5) : ∃ m, sum3 0 (varsF u v w) = some m := by
  have h5 : v = 0 ∨ v = 1 ∨ v = 2 ∨ v = 3 ∨ v = 4 := by omega
  rcases h5 with rfl | rfl | rfl | rfl | rfl <;> exact ⟨_, rfl⟩
structure PF (p : PgD) (u v w : Int) : Prop where
  hu : 0 ≤ u ∧ u < 7
  hv : 0 ≤ v ∧ v < 5
  hw : 0 ≤ w ∧ w < 3
  vars : p.vars = varsF u v w
  s1 : ∀ s, s ∈ p.start → WfS S0 A0 3 s
  s2 : ∀ s, s ∈ p.message → WfS S0 A0 3 s
  s3 : ∀ s, s ∈ p.tick → WfS S0 A0 3 s
  s4 : ∀ s, s ∈ p.input → WfS S0 A0 3 s
theorem WfS.up {S A : NmP} {d : Nat} {s : Sm} (h : WfS S A d s) : WfS S A (d + 1) s := by
  induction h with
  | assign d n v h hv => exact .assign _ n v h hv
  | store d n p v h hp hv => exact .store _ n p v h hp hv
  | send d p v hp hv => exact .send _ p v hp hv
  | out d v hv => exact .out _ v hv
  | ite d v b e hv _ _ ih1 ih2 => exact .ite _ v b e hv ih1 ih2
  | whl d v b hv _ ih => exact .whl _ v b hv ih
theorem programF_PF (xs : List UInt8) (a : Nat) : ∃ u v w, PF (programF xs a).1 u v w :=
  ⟨_, _, _, nxt_lt _ _ 7 (by omega), nxt_lt _ _ 5 (by omega), nxt_lt _ _ 3 (by omega), rfl, fun s hs => (stmtsF_WfS xs 2 3 _ s hs).up, fun s hs => stmtsF_WfS xs 3 4 _ s hs, fun s hs => (stmtsF_WfS xs 2 3 _ s hs).up, fun s hs => (stmtsF_WfS xs 2 2 _ s hs).up⟩
theorem PF.gs {p : PgD} {u v w : Int} (h : PF p u v w) : GSs p.vars (6 + v) 3 p.start ∧ GSs p.vars (6 + v) 3 p.message ∧ GSs p.vars (6 + v) 3 p.tick ∧ GSs p.vars (6 + v) 3 p.input := by
  have K := vars_kn u v w h.hv
  rw [h.vars]
  exact ⟨GSs.of _ _ _ _ fun s hs => (h.s1 s hs).gs K, GSs.of _ _ _ _ fun s hs => (h.s2 s hs).gs K, GSs.of _ _ _ _ fun s hs => (h.s3 s hs).gs K, GSs.of _ _ _ _ fun s hs => (h.s4 s hs).gs K⟩
theorem PF.resolves {p : PgD} {u v w : Int} (h : PF p u v w) : resolve3F p = (⟨init3 p.vars, (r3Ss p.vars p.start).1, (r3Ss p.vars p.message).1, (r3Ss p.vars p.tick).1, (r3Ss p.vars p.input).1⟩, 0) := by
  obtain ⟨g1, g2, g3, g4⟩ := h.gs
  refine Go.Abs.resolves p (6 + v) 3 (by omega) g1 g2 g3 g4 ?_ ?_ ?_ ?_
  · rw [h.vars]; exact vars_good u v w h.hu h.hv h.hw
  · rw [h.vars]; simp [varsF]
  · rw [h.vars]; exact vars_dup u v w
  · rw [h.vars]; exact vars_sum u v w h.hv
end Go.Abs
namespace Go.Abs
open Go
def oth (S : NmP) : NmP := fun n => ∃ m, S m ∧ n = nn m
def vN (v : VarD) : VarD := ⟨110 :: 95 :: v.name, v.size, v.init⟩
theorem WfE.oth {S A : NmP} {d : Nat} {e : Ex} (h : WfE S A d e) : WfE (oth S) (oth A) d (othE e) := by
  induction h with
  | leaf d op v h => simp only [exL, othE, othEs, nn_nil]; exact .leaf _ op v h
  | scal d n h => simp only [exL, othE, othEs]; exact .scal _ _ ⟨n, h, rfl⟩
  | arr d n e h _ ih => simp only [exL, othE, othEs]; exact .arr _ _ _ ⟨n, h, rfl⟩ ih
  | un d op e h _ ih => simp only [exL, othE, othEs, nn_nil]; exact .un _ op _ h ih
  | bin d op e f h _ _ ih1 ih2 => simp only [exL, othE, othEs, nn_nil]; exact .bin _ op _ _ h ih1 ih2
theorem othE_ex0 : othE ex0 = ex0 := rfl
theorem rnSs_mem {l : List Sm} {s : Sm} (h : s ∈ rnSs l) : ∃ t, t ∈ l ∧ s = rnS t := by
  rw [rnSs_map, List.mem_map] at h
  obtain ⟨t, h1, h2⟩ := h
  exact ⟨t, h1, h2.symm⟩
theorem WfS.oth {S A : NmP} {d : Nat} {s : Sm} (h : WfS S A d s) : WfS (oth S) (oth A) d (rnS s) := by
  induction h with
  | assign d n v h hv => simp only [smL, rnS, rnSs, othE_ex0]; exact .assign _ _ _ ⟨n, h, rfl⟩ hv.oth
  | store d n p v h hp hv => simp only [smL, rnS, rnSs]; exact .store _ _ _ _ ⟨n, h, rfl⟩ hp.oth hv.oth
  | send d p v hp hv => simp only [smL, rnS, rnSs, nn_nil]; exact .send _ _ _ hp.oth hv.oth
  | out d v hv => simp only [smL, rnS, rnSs, nn_nil, othE_ex0]; exact .out _ _ hv.oth
  | ite d v b e hv _ _ ih1 ih2 =>
    simp only [smL, rnS, nn_nil, othE_ex0]
    exact .ite _ _ _ _ hv.oth (fun s hs => by obtain ⟨t, h1, rfl⟩ := rnSs_mem hs; exact ih1 t h1) (fun s hs => by obtain ⟨t, h1, rfl⟩ := rnSs_mem hs; exact ih2 t h1)
  | whl d v b hv _ ih =>
    simp only [smL, rnS, rnSs, nn_nil, othE_ex0]
    exact .whl _ _ _ hv.oth (fun s hs => by obtain ⟨t, h1, rfl⟩ := rnSs_mem hs; exact ih t h1)

theorem lookupF_vN (n : List UInt8) : ∀ (L : List VarD) (f : Int), lookupF (110 :: 95 :: n) f (L.map vN) = lookupF n f L
  | [], f => rfl
  | v :: r, f => by
    simp only [List.map_cons, lookupF, lookupF_vN n r]
    have : ((vN v).name == 110 :: 95 :: n) = (v.name == n) := by
      rw [Bool.eq_iff_iff]; simp [vN]
    rw [this]
    rfl
theorem init3_vN : ∀ L : List VarD, init3 (L.map vN) = init3 L
  | [] => rfl
  | v :: r => by simp only [List.map_cons, init3, init3_vN r]; rfl
theorem head3_oth {L : List VarD} {op : Int} {n : List UInt8} {a b k1 k2 : Int} (h : (op == k1 || op == k2) = true → n ≠ []) : head3 (L.map vN) op (nn n) a b k1 k2 = head3 L op n a b k1 k2 := by
  unfold head3
  by_cases hc : (op == k1 || op == k2) = true
  · rw [if_pos hc, if_pos hc, nn_cons (h hc), lookupF_vN]
  · rw [if_neg hc, if_neg hc]
structure NE (S A : NmP) : Prop where
  s : ∀ x, S x → x ≠ []
  a : ∀ x, A x → x ≠ []
theorem WfE.comm {S A : NmP} (hN : NE S A) {L : List VarD} {d : Nat} {e : Ex} (h : WfE S A d e) : (r3E (L.map vN) (othE e)).1 = othE (r3E L e).1 := by
  induction h with
  | leaf d op v h =>
    have h3 : (op == 2 || op == 3) = false := by simp; omega
    simp [exL, othE, othEs, r3E, r3Es, head3, h3, nn_nil]
  | scal d n h =>
    have := head3_oth (L := L) (op := 2) (a := 0) (b := 0) (k1 := 2) (k2 := 3) (fun _ => hN.s n h)
    simp only [exL, othE, othEs, r3E, r3Es, this]
  | arr d n e h _ ih =>
    have := head3_oth (L := L) (op := 3) (a := 0) (b := 0) (k1 := 2) (k2 := 3) (fun _ => hN.a n h)
    simp only [exL, othE, othEs, r3E, r3Es, this, ih]
  | un d op e h _ ih =>
    have h3 : (op == 2 || op == 3) = false := by simp; omega
    simp [exL, othE, othEs, r3E, r3Es, head3, h3, nn_nil, ih]
  | bin d op e f h _ _ ih1 ih2 =>
    have h3 : (op == 2 || op == 3) = false := by simp; omega
    simp [exL, othE, othEs, r3E, r3Es, head3, h3, nn_nil, ih1, ih2]
theorem commL {L : List VarD} : ∀ l : List Sm, (∀ s, s ∈ l → (r3S (L.map vN) (rnS s)).1 = rnS (r3S L s).1) → (r3Ss (L.map vN) (rnSs l)).1 = rnSs (r3Ss L l).1
  | [], _ => rfl
  | s :: r, h => by simp only [rnSs, r3Ss, h s (by simp), commL r (fun t ht => h t (by simp [ht]))]
theorem WfS.comm {S A : NmP} (hN : NE S A) {L : List VarD} {d : Nat} {s : Sm} (h : WfS S A d s) : (r3S (L.map vN) (rnS s)).1 = rnS (r3S L s).1 := by
  induction h with
  | assign d n v h hv =>
    have := head3_oth (L := L) (op := 1) (a := 0) (b := 0) (k1 := 1) (k2 := 2) (fun _ => hN.s n h)
    simp only [smL, rnS, rnSs, r3S, r3Ss, this, hv.comm hN, othE_ex0, r3E_ex0]
  | store d n p v h hp hv =>
    have := head3_oth (L := L) (op := 2) (a := 0) (b := 0) (k1 := 1) (k2 := 2) (fun _ => hN.a n h)
    simp only [smL, rnS, rnSs, r3S, r3Ss, this, hv.comm hN, hp.comm hN]
  | send d p v hp hv => simp [smL, rnS, rnSs, r3S, r3Ss, head3, hv.comm hN, hp.comm hN, nn_nil]
  | out d v hv => simp [smL, rnS, rnSs, r3S, r3Ss, head3, hv.comm hN, othE_ex0, r3E_ex0, nn_nil]
  | ite d v b e hv _ _ ih1 ih2 => simp [smL, rnS, r3S, head3, hv.comm hN, othE_ex0, r3E_ex0, nn_nil, commL b ih1, commL e ih2]
  | whl d v b hv _ ih => simp [smL, rnS, rnSs, r3S, r3Ss, head3, hv.comm hN, othE_ex0, r3E_ex0, nn_nil, commL b ih]
theorem ne0 : NE S0 A0 := ⟨by rintro x (rfl | rfl | rfl) <;> simp, by rintro x (rfl | rfl) <;> simp⟩
def pgN (p : PgD) : PgD := ⟨p.vars.map vN, rnSs p.start, rnSs p.message, rnSs p.tick, rnSs p.input⟩
theorem oth_kn {u v w : Int} (hv : 0 ≤ v ∧ v < 5) : Kn (oth S0) (oth A0) ((varsF u v w).map vN) (6 + v) := by
  have K := vars_kn u v w hv
  refine ⟨?_, ?_, K.n⟩
  · rintro x ⟨m, hm, rfl⟩
    have k := K.s m hm
    have hl := lookupF_vN m (varsF u v w) 0
    have hne := ne0.s m hm
    rw [nn_cons hne, hl]
    refine ⟨?_, ?_, k.2.2⟩ <;> rcases hm with rfl | rfl | rfl <;> decide
  · rintro x ⟨m, hm, rfl⟩
    have k := K.a m hm
    have hl := lookupF_vN m (varsF u v w) 0
    have hne := ne0.a m hm
    rw [nn_cons hne, hl]
    refine ⟨?_, ?_, k.2.2⟩ <;> rcases hm with rfl | rfl <;> decide
theorem oth_good (u v w : Int) (hu : 0 ≤ u ∧ u < 7) (hv : 0 ≤ v ∧ v < 5) (hw : 0 ≤ w ∧ w < 3) : ((varsF u v w).map vN).any (fun v => !goodVarF v) = false := by
  have a1 : validF [110, 95, 120] = true := by decide
  have a2 : validF [110, 95, 97] = true := by decide
  have a3 : validF [110, 95, 121] = true := by decide
  have a4 : validF [110, 95, 122] = true := by decide
  have a5 : validF [110, 95, 98] = true := by decide
  have b1 : ¬ (1 + v < 0) := by omega
  simp [varsF, vN, goodVarF, a1, a2, a3, a4, a5, b1]
  omega
theorem sum3_vN : ∀ (L : List VarD) (n : Int), sum3 n (L.map vN) = sum3 n L
  | [], n => rfl
  | v :: r, n => by simp only [List.map_cons, sum3, sum3_vN r]; rfl
theorem PF.othR {p : PgD} {u v w : Int} (h : PF p u v w) : resolve3F (pgN p) = (⟨init3 p.vars, rnSs (r3Ss p.vars p.start).1, rnSs (r3Ss p.vars p.message).1, rnSs (r3Ss p.vars p.tick).1, rnSs (r3Ss p.vars p.input).1⟩, 0) := by
  have K := oth_kn (u := u) (w := w) h.hv
  have hr := Go.Abs.resolves (pgN p) (6 + v) 3 (by omega)
    (GSs.of _ _ _ _ fun s hs => by obtain ⟨t, h1, rfl⟩ := rnSs_mem hs; exact (show Kn _ _ (pgN p).vars _ by simp only [pgN]; rw [h.vars]; exact K) |> (h.s1 t h1).oth.gs)
    (GSs.of _ _ _ _ fun s hs => by obtain ⟨t, h1, rfl⟩ := rnSs_mem hs; exact (show Kn _ _ (pgN p).vars _ by simp only [pgN]; rw [h.vars]; exact K) |> (h.s2 t h1).oth.gs)
    (GSs.of _ _ _ _ fun s hs => by obtain ⟨t, h1, rfl⟩ := rnSs_mem hs; exact (show Kn _ _ (pgN p).vars _ by simp only [pgN]; rw [h.vars]; exact K) |> (h.s3 t h1).oth.gs)
    (GSs.of _ _ _ _ fun s hs => by obtain ⟨t, h1, rfl⟩ := rnSs_mem hs; exact (show Kn _ _ (pgN p).vars _ by simp only [pgN]; rw [h.vars]; exact K) |> (h.s4 t h1).oth.gs)
    (by simp only [pgN]; rw [h.vars]; exact oth_good u v w h.hu h.hv h.hw) (by simp only [pgN]; rw [h.vars]; simp [varsF]) (by simp only [pgN]; rw [h.vars]; simp [varsF, vN, dup3])
    (by simp only [pgN]; rw [h.vars, sum3_vN]; exact vars_sum u v w h.hv)
  rw [hr]
  simp only [pgN, init3_vN]
  rw [commL p.start (fun s hs => (h.s1 s hs).comm ne0), commL p.message (fun s hs => (h.s2 s hs).comm ne0), commL p.tick (fun s hs => (h.s3 s hs).comm ne0), commL p.input (fun s hs => (h.s4 s hs).comm ne0)]
mutual
theorem othE_sz : ∀ e : Ex, szE (othE e) = szE e
  | .mk _ _ _ _ _ args => by simp only [othE, szE, othEs_sz args]
theorem othEs_sz : ∀ l : List Ex, szEs (othEs l) = szEs l
  | [] => rfl
  | e :: r => by simp only [othEs, szEs, othE_sz e, othEs_sz r]
end
mutual
theorem rnS_sz : ∀ s : Sm, szS (rnS s) = szS s
  | .mk _ _ _ _ p v b e => by simp only [rnS, szS, othE_sz, rnSs_sz b, rnSs_sz e]
theorem rnSs_sz : ∀ l : List Sm, szSs (rnSs l) = szSs l
  | [] => rfl
  | e :: r => by simp only [rnSs, szSs, rnS_sz e, rnSs_sz r]
end
end Go.Abs
namespace Go.Abs
open Go Go.ChangeShapes Go.WideShapes Go.ChangeAt Go.RowKit

def memOf (W : World) : Mem := fun b i => W.cell? ⟨b, i, none⟩

structure Held (W W' : World) : Prop where
  os : W'.os = W.os
  output : W'.output = W.output
  size : W.heap.size ≤ W'.heap.size
  same : ∀ b, b < W.heap.size → W'.heap[b]? = W.heap[b]?

theorem law_runs {P : Program} {gl : Nat → Option (List PVal)} {f : FuncId} {W : World} (pvs : List PVal) (vargs : List Value) (hac : AC P gl f (pvs.map .pv) [] (.pv (.bool true)) [])
    (hgl : GOK ⟨fun _ => none, gl, fun _ => 0, 0⟩ (memOf W)) (hlen : vargs.length = pvs.length) (hrd : ∀ i, i < pvs.length → Rd (memOf W) (pvs.getD i .nilptr) (vargs.getD i undef)) :
    Calls P f vargs.toArray W fun e W' => e = .returned (.bool true) ∧ Held W W' := by
  have hR : Rel ⟨W, memOf W, blocksOf ⟨fun _ => 0, fun _ => 0, fun _ => false⟩ []⟩ ⟨pvs.map .pv, []⟩ ⟨fun _ => 0, fun _ => 0, fun _ => false⟩ (memOf W) ⟨vargs.toArray, []⟩ W := by
    refine ⟨by simpa using hlen, rfl, fun i hi => ?_, ?_, ?_, ?_, fun b i u h => h, Mem.le_refl _, fun _ _ _ _ => rfl, Nat.le_refl _, fun _ _ _ => rfl, ?_, rfl, rfl, rfl⟩
    · simp only [List.length_map] at hi
      have h1 := hrd i hi
      have e1 : St.slot ⟨pvs.map .pv, []⟩ i = .pv (pvs.getD i .nilptr) := by simp [St.slot, List.getD, hi]
      have e2 : vargs.toArray.getD i undef = vargs.getD i undef := by simp [Array.getD, List.getD, hlen, hi]
      rw [e1]
      show V _ _ _ _ (vargs.toArray.getD i undef)
      rw [e2]
      exact .pv h1
    · intro id o h; simp [St.obj] at h
    · intro id id' o o' b h; simp [St.obj] at h
    · intro id o b h; simp [St.obj] at h
    · intro id o b h; simp [St.obj] at h
  refine (hac W (memOf W) _ vargs hR hgl).mono fun e W' ⟨v, g', M', he, hR', _⟩ => ?_
  have hs := hR'.slots 0 (by simp)
  have hv : v = .bool true := by
    have h1 : V g' (St.dom ⟨[.pv (.bool true)], []⟩) M' (.pv (.bool true)) v := by simpa [St.slot, Array.getD] using hs
    cases h1 with
    | pv h => cases h; rfl
  have hB : ∀ b, ¬ blocksOf ⟨fun _ => 0, fun _ => 0, fun _ => false⟩ [] b := by rintro b ⟨id, ob, h, _⟩; simp at h
  exact ⟨by rw [he, hv], hR'.os, hR'.output, hR'.size0, fun b hb => hR'.same b hb (hB b)⟩

section
variable {H : Type} {enc : TypeId × Value → H} {P : Program}

theorem Held.sameAt {W W' : World} (h : Held W W') {p : MemPlace} (hp : p.block < W.heap.size) : W.sameAt W' p := by
  cases p with
  | cell b off => show W'.cell? _ = W.cell? _; simp only [World.cell?]; rw [h.same b hp]
  | map b => exact h.same b hp

theorem trodAll_stays (hl : laidOutB P = true) {W W' : World} (hh : Held W W') {sp' : Nat → Bool} : ∀ {ts : List TypeId} {vs : List Value} {ds : List (DataW H)} {ps : List MemPlace}, (∀ t ∈ ts, P.readableRec t = true ∧ t < P.types.size) →
    DataW.TrodAll enc P W 0 (fun _ => true) true ts vs ds ps → (∀ p ∈ ps, p.block < W.heap.size) → (∀ p ∈ ps, sp' p.block = true) → DataW.TrodAll enc P W' 0 sp' true ts vs ds ps
  | [], [], [], _, _, h, _, _ => h
  | [], [], _ :: _, _, _, h, _, _ => h.elim
  | [], _ :: _, _, _, _, h, _, _ => h.elim
  | _ :: _, [], _, _, _, h, _, _ => h.elim
  | _ :: _, _ :: _, [], _, _, h, _, _ => h.elim
  | t :: ts, v :: vs, d :: ds, ps, hr, ⟨p, q, h1, h2, he⟩, hlt, hsp => by
    subst he
    have hr1 := hr t (by simp)
    exact ⟨p, q, WideElems.Trod_stays hl hr1.1 hr1.2 h1 (fun x hx => hh.sameAt (hlt x (by simp [hx]))) (fun x hx => hsp x (by simp [hx])),
      trodAll_stays hl hh (fun t ht => hr t (by simp [ht])) h2 (fun x hx => hlt x (by simp [hx])) (fun x hx => hsp x (by simp [hx])), rfl⟩

theorem Held.keptBut {W W' : World} (h : Held W W') (may : MemPlace → Prop) : W.keptBut W' may := by
  refine ⟨h.os, h.output, fun i hi => ?_⟩
  rw [h.same i hi]
  split
  · rename_i h1 h2; rw [h1] at h2; cases h2; exact ⟨rfl, rfl, rfl, fun _ _ => rfl⟩
  · rename_i h1 h2; rw [h1] at h2; cases h2; exact .inr ⟨rfl, rfl⟩
  · rfl

theorem law_post {f : Func} {s : ChangeSpec} {fresh handsOn again : Bool} {W W' : World} {args : Array Value} {ds gs : List (DataW H)} {before : List MemPlace} {tb : TypeId}
    (hl : laidOutB P = true) (hr : ∀ t ∈ f.params.toList, P.readableRec t = true ∧ t < P.types.size) (hrt : f.resultTypes = #[tb]) (htb : P.underlying tb = some .bool)
    (hvars : s.vars = []) (hfn : ∀ ds : List (DataW H), ds.length = f.params.size → (s.fn H ds).results = [.lit (.bool true)] ∧ (s.fn H ds).args = ds ∧ (s.fn H ds).vars = [])
    (hW : DataW.Whole enc P f.params.toList s.vars false W args.toList ds gs before) (hh : Held W W') :
    s.post enc P f false fresh handsOn again W args (.bool true) W' := by
  have hlt := hW.lt
  have hW' := hW
  obtain ⟨p, q, hA, hV, rfl, hz, hn⟩ := hW
  rw [hvars] at hV
  obtain ⟨rfl, rfl⟩ := trodVars_none hV
  rw [List.append_nil] at hlt hz hn hW'
  have hdl : ds.length = f.params.size := by
    have : ∀ {ts : List TypeId} {vs : List Value} {ds : List (DataW H)} {ps : List MemPlace}, DataW.TrodAll enc P W 0 (fun _ => true) true ts vs ds ps → ds.length = ts.length := by
      intro ts
      induction ts with
      | nil => intro vs ds ps h; obtain ⟨_, rfl, _⟩ := trodAll_nil h; rfl
      | cons t ts ih =>
        intro vs ds ps h
        obtain ⟨_, _, _, _, _, _, _, rfl, _, _, h2⟩ := trodAll_cons h
        simp [ih h2]
    simpa using this hA
  obtain ⟨f1, f2, f3⟩ := hfn (ds ++ []) (by simpa using hdl)
  have hres : ∀ (b : Nat) (sp : Nat → Bool) (hd : Bool), DataW.TrodAll enc P W' b sp hd f.resultTypes.toList ((Value.bool true).resultList f.resultTypes.size) (s.fn H (ds ++ [])).results [] := fun b sp hd => by
    rw [f1, hrt]
    exact trodAll_cons_mk (shut_bool htb _) trodAll_mk0
  have hargs : ∀ sp : Nat → Bool, (∀ x ∈ p, sp x.block = true) → DataW.TrodAll enc P W' 0 sp true f.params.toList args.toList (s.fn H (ds ++ [])).args p := fun sp hsp => by
    rw [f2, List.append_nil]
    exact trodAll_stays hl hh hr hA hlt hsp
  have hvs : ∀ sp : Nat → Bool, DataW.TrodVars enc P W' sp s.vars (s.fn H (ds ++ [])).vars [] := fun sp => by rw [hvars, f3]; rfl
  refine ⟨ds, [], p, [], p, [], hW', hres _ _ _, hargs _ (fun x hx => by simpa using hlt x hx), hvs _, hh.keptBut _, fun _ => ?_⟩
  refine ⟨?_, _, _, ([] ++ p) ++ [], ⟨[] ++ p, [], trodAll_append (hargs _ (fun _ _ => rfl)) (hres _ _ _), hvs _, rfl, ?_, ?_⟩, ?_⟩
  · exact ok_one (by rw [hrt]) rfl (okWide_bool_mk htb _)
  · intro b off hp
    have hp' : MemPlace.cell b off ∈ p := by simpa using hp
    have := hz b off hp'
    rw [World.frozen?, hh.same b (hlt _ hp')]
    exact this
  · intro ha; cases ha
  · intro x hx _
    simpa using hx
end
end Go.Abs
namespace Go.Abs
open Go Go.ChangeShapes Go.WideShapes Go.ChangeAt Go.RowKit Go.Deep

section
variable {H : Type} {enc : TypeId × Value → H} {P : Program} {W : World} {spare : Nat → Bool} {held : Bool}

theorem addr_add (b off k : Nat) : (⟨b, off, none⟩ : Addr).add k = ⟨b, off + k, none⟩ := by
  unfold Addr.add
  split
  · rename_i h; subst h; rfl
  · rfl

theorem spot_none {base : Nat} {t e : TypeId} {a : Addr} {len cap : Nat} (ht : P.underlying t = some (.slice e)) (hv : Value.okWide P W .any base t (.slice (some a) len cap)) : a.spot = none := by
  simp only [Value.okWide, ht, Cell.okWide, Cell.ok] at hv
  exact hv.2.2.2.1

theorem open_vars {base : Nat} {t e : TypeId} {f0 f1 f2 : Field} {v : Value} {d : DataW H} {p : List MemPlace} (ht : P.underlying t = some (.slice e)) (he : P.underlying e = some (.struct #[f0, f1, f2])) (hC : P.cellsOf e = 3)
    (o0 : f0.offset = 0 ∧ P.cellsOf f0.type = 1) (o1 : f1.offset = 1 ∧ P.cellsOf f1.type = 1) (o2 : f2.offset = 2 ∧ P.cellsOf f2.type = 1)
    (h0 : P.underlying f0.type = some .string) (h1 : P.underlying f1.type = some (.int .i64)) (h2 : P.underlying f2.type = some (.int .i64))
    (hval : Value.okWide P W .any base t v) (h : DataW.Trod enc P W 0 spare held t v d p) : ∃ l : List VarD, Rd (memOf W) (.slice (l.map encVar)) v := by
  obtain ⟨a', len', cap', rfl⟩ := okWide_slice ht hval
  obtain ⟨fuel, hf⟩ := h
  rcases open_slice ht hf with ⟨hcs, _⟩ | ⟨a, len, cap, m, n, D, Pl, hcs, _, hlc, _, hm, _, hi⟩
  · simp [Value.cells] at hcs
    obtain ⟨rfl, rfl, rfl⟩ := hcs
    exact ⟨[], .nils⟩
  · simp [Value.cells] at hcs
    obtain ⟨rfl, rfl, rfl⟩ := hcs
    have hsp := spot_none ht hval
    obtain ⟨b, off, sp⟩ := a
    cases hsp
    have hml : len' ≤ m := by rw [hm]; split <;> omega
    have key : ∀ i, ∃ x : VarD, i < len' → memOf W b (off + i * 3 + 0) = some (.string ⟨x.name.toArray⟩) ∧ memOf W b (off + i * 3 + 1) = some (.int .i64 x.size) ∧ memOf W b (off + i * 3 + 2) = some (.int .i64 x.init) := by
      intro i
      by_cases hil : i < len'
      · obtain ⟨cs, hc, ht'⟩ := hi i (by omega)
        rw [hC] at hc
        obtain ⟨_, hcl, hat⟩ := World.cells?_some hc
        obtain ⟨xs, n', _, _, _, hxl, hfd⟩ := DataW.trod_struct he ht'
        match cs, hcl with
        | [c0, c1, c2], _ =>
          have e0 := hfd 0 f0 rfl
          have e1 := hfd 1 f1 rfl
          have e2 := hfd 2 f2 rfl
          rw [o0.1, o0.2] at e0
          rw [o1.1, o1.2] at e1
          rw [o2.1, o2.2] at e2
          have hx : xs.length = 3 := hxl
          match xs, hx with
          | [x0, x1, x2], _ =>
            obtain ⟨s, hs, _, _⟩ := DataW.trod_string h0 e0
            obtain ⟨z1, hz1, _, _⟩ := DataW.trod_int h1 e1
            obtain ⟨z2, hz2, _, _⟩ := DataW.trod_int h2 e2
            simp at hs hz1 hz2
            subst hs hz1 hz2
            have a0 := hat 0 (by omega)
            have a1 := hat 1 (by omega)
            have a2 := hat 2 (by omega)
            rw [addr_add, addr_add] at a0 a1 a2
            refine ⟨⟨s.data.toList, z1, z2⟩, fun _ => ⟨?_, ?_, ?_⟩⟩
            · simpa [memOf] using a0
            · simpa [memOf] using a1
            · simpa [memOf] using a2
      · exact ⟨⟨[], 0, 0⟩, fun h => absurd h hil⟩
    let g : Nat → VarD := fun i => Classical.choose (key i)
    have hg : ∀ i, i < len' → _ := fun i hi => Classical.choose_spec (key i) hi
    refine ⟨(List.range len').map g, ?_⟩
    have hlen : (((List.range len').map g).map encVar).length = len' := by simp
    have := Rd.slice (M := memOf W) (((List.range len').map g).map encVar) 3 b off cap' (fun i j => match j with | 0 => .string ⟨(g i).name.toArray⟩ | 1 => .int .i64 (g i).size | _ => .int .i64 (g i).init)
      (fun x hx => by simp at hx; obtain ⟨i, _, rfl⟩ := hx; rfl) (fun i j hi hj => ?_) (fun i j hi hj => ?_) (by rw [hlen]; exact hlc)
    · rw [hlen] at this; exact this
    · rw [hlen] at hi
      obtain ⟨g0, g1, g2⟩ := hg i hi
      match j, hj with
      | 0, _ => exact g0
      | 1, _ => exact g1
      | 2, _ => exact g2
    · rw [hlen] at hi
      have hc : pcell (((List.range len').map g).map encVar) i j = (encVar (g i)).getD j .nilptr := by simp [pcell, List.getD, hi]
      rw [hc]
      match j, hj with
      | 0, _ => exact .str _
      | 1, _ => exact .int _ _
      | 2, _ => exact .int _ _
end
end Go.Abs
namespace Go.Abs
open Go Go.ChangeShapes Go.WideShapes Go.ChangeAt Go.RowKit Go.Deep
section
variable {H : Type} {enc : TypeId × Value → H} {P : Program} {W : World} {spare : Nat → Bool} {held : Bool}
theorem open_bytes {base : Nat} {t e : TypeId} {v : Value} {d : DataW H} {p : List MemPlace} (ht : P.underlying t = some (.slice e)) (he : P.underlying e = some (.int .u8)) (hC : P.cellsOf e = 1)
    (hval : Value.okWide P W .any base t v) (h : DataW.Trod enc P W 0 spare held t v d p) : ∃ l : List UInt8, Rd (memOf W) (.slice (l.map encB)) v := by
  obtain ⟨a', len', cap', rfl⟩ := okWide_slice ht hval
  obtain ⟨fuel, hf⟩ := h
  rcases Go.ChangeShapes.open_ints ht he hC hf with ⟨hcs, _⟩ | ⟨a, len, cap, zs, hcs, _, hlc, _, hzl, _, hcell, hwf⟩
  · simp [Value.cells] at hcs
    obtain ⟨rfl, rfl, rfl⟩ := hcs
    exact ⟨[], .nils⟩
  · simp [Value.cells] at hcs
    obtain ⟨rfl, rfl, rfl⟩ := hcs
    have hsp := spot_none ht hval
    obtain ⟨b, off, sp⟩ := a
    cases hsp
    have hml : len' ≤ zs.length := by rw [hzl]; split <;> omega
    have hz : ∀ i, i < zs.length → ∃ u : UInt8, zs.getD i 0 = (u.toNat : Int) := fun i hi => by
      have hm : zs.getD i 0 ∈ zs := by simp [List.getD, hi]
      have := hwf _ hm
      have hr : 0 ≤ zs.getD i 0 ∧ zs.getD i 0 ≤ 255 := by simpa [Lit.wf, IntKind.min, IntKind.max, IntKind.bits, IntKind.signed] using this
      refine ⟨UInt8.ofNat (zs.getD i 0).toNat, ?_⟩
      rw [UInt8.toNat_ofNat']
      omega
    let g : Nat → UInt8 := fun i => if h : i < zs.length then Classical.choose (hz i h) else 0
    have hg : ∀ i, i < zs.length → zs.getD i 0 = ((g i).toNat : Int) := fun i hi => by
      have := Classical.choose_spec (hz i hi)
      simp only [g, hi, dif_pos]; exact this
    refine ⟨(List.range len').map g, ?_⟩
    have hlen : (((List.range len').map g).map encB).length = len' := by simp
    have := Rd.slice (M := memOf W) (((List.range len').map g).map encB) 1 b off cap' (fun i _ => .int .u8 (((g i).toNat : Nat) : Int))
      (fun x hx => by simp at hx; obtain ⟨i, _, rfl⟩ := hx; rfl) (fun i j hi hj => ?_) (fun i j hi hj => ?_) (by rw [hlen]; exact hlc)
    · rw [hlen] at this; exact this
    · rw [hlen] at hi
      have hj0 : j = 0 := by omega
      subst hj0
      have hc := hcell i (by omega)
      rw [addr_add] at hc
      rw [hg i (by omega)] at hc
      simpa [memOf] using hc
    · rw [hlen] at hi
      have hj0 : j = 0 := by omega
      subst hj0
      have hc : pcell (((List.range len').map g).map encB) i 0 = .int .u8 (((g i).toNat : Nat) : Int) := by simp [pcell, List.getD, hi, encB]
      rw [hc]
      exact .int _ _
end
end Go.Abs
namespace Go.Abs
open Go
theorem table_cell {H : Type} {enc : TypeId × Value → H} {P : Program} {w : World} {base : Nat} {spare : Nat → Bool} {held : Bool} {fuel : Nat} {t e : TypeId} {cs : List Value} {ps : List MemPlace} {n : Nat} {ds : List (List UInt8)}
    (ht : P.underlying t = some (.array n e)) (he : P.underlying e = some .string) (hC : P.cellsOf e = 1)
    (h : DataW.trod enc P w base spare held fuel t cs = some (.agg (ds.map fun s => .lit (.string s)), ps)) (i : Nat) (hi : i < ds.length) : cs[i]? = some (.string ⟨(ds.getD i []).toArray⟩) := by
  obtain ⟨xs, m, _, hx, _, hn, hel⟩ := DataW.trod_array ht h
  simp only [Prod.mk.injEq, DataW.agg.injEq] at hx
  have hlen : ds.length = xs.length := by have := congrArg List.length hx.1; simpa using this
  have h1 := hel i (by omega)
  rw [hC, List.getElem?_eq_getElem (by omega)] at h1
  obtain ⟨s, e1, e2, _⟩ := DataW.trod_string he h1
  have h2 : (ds.map fun s => (DataW.lit (.string s) : DataW H))[i]? = (xs.map (fun x => x.fst))[i]? := by rw [hx.1]
  rw [List.getElem?_map, List.getElem?_map, List.getElem?_eq_getElem hi, List.getElem?_eq_getElem (by omega : i < xs.length)] at h2
  simp only [Option.map_some, Option.some.injEq] at h2
  rw [e2] at h2
  simp only [DataW.lit.injEq, Lit.string.injEq] at h2
  have h3 : ds.getD i [] = s.data.toList := by simp [List.getD, hi, h2]
  rw [h3]
  have h4 : cs[i]? = some (.string s) := by
    have := congrArg (fun l => l[0]?) e1
    simpa using this
  rw [h4]
end Go.Abs
