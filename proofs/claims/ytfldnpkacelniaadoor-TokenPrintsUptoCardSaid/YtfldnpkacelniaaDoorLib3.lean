/- A sound walk of the program by abstract states, part 3: its theorems have no condition beyond what they state. -/
import Derived.Test.YtfldnpkacelniaaDoorLib2
import Derived.Lib.ParseIntB
import Derived.Lib.Bytealg
import Derived.Lib.Join
import Derived.Lib.ItoaNum
import Derived.ChangeSame
import Derived.ChangeStays
import Derived.WideKeyArgs
import Derived.Deep.Slices
import Derived.ProofKit
import Derived.WalkKit
import Derived.OpenShut
import Derived.ChangeMaps5
import Derived.ChangeSlices
set_option linter.unusedSimpArgs false
set_option linter.unusedVariables false
set_option linter.defProp false
namespace Go.Abs
open Go
def letterF (n : Int) : Bool := (decide (n ≥ 97) && decide (n ≤ 122)) || (decide (n ≥ 65) && decide (n ≤ 90)) || n == 95
def digitF (n : Int) : Bool := decide (n ≥ 48) && decide (n ≤ 57)
def isW (c : UInt8) : Bool := letterF c.toNat || digitF c.toNat
def wordF (s : List UInt8) (a : Nat) : Nat := a + ((s.drop a).takeWhile isW).length
theorem wordF_end (s : List UInt8) (a : Nat) (h : s.length ≤ a) : wordF s a = a := by
  simp [wordF, List.drop_eq_nil_of_le h]
theorem wordF_step (s : List UInt8) (a : Nat) (h : a < s.length) : wordF s a = if isW (s.getD a 0) then wordF s (a + 1) else a := by
  have e : s.getD a 0 = s[a] := by simp [List.getD, h]
  rw [e]
  unfold wordF
  rw [List.drop_eq_getElem_cons h, List.takeWhile_cons]
  split
  · simp; omega
  · simp
def resF (s : List UInt8) : Bool := s == [118, 97, 114] || s == [97, 114, 114, 97, 121] || s == [111, 110] || s == [115, 116, 97, 114, 116] || s == [109, 101, 115, 115, 97, 103, 101] || s == [116, 105, 99, 107] || s == [105, 110, 112, 117, 116] || s == [105, 102] || s == [101, 108, 115, 101] || s == [119, 104, 105, 108, 101] || s == [115, 101, 110, 100] || s == [111, 117, 116, 112, 117, 116] || s == [115, 101, 108, 102] || s == [112, 114, 111, 99, 115] || s == [102, 114, 111, 109] || s == [118, 97, 108, 117, 101]
def validF (s : List UInt8) : Bool := !(s == [] || decide ((s.length : Int) > 16) || !letterF (s.getD 0 0).toNat) && (((wordF s 0 : Nat) : Int) == (s.length : Int) && !resF s)
structure PgD where
  vars : List VarD
  start : List Sm
  message : List Sm
  tick : List Sm
  input : List Sm
def pgA (p : PgD) : AVal := .agg [.pv (.slice (p.vars.map encVar)), .pv (.slice (p.start.map encSm)), .pv (.slice (p.message.map encSm)), .pv (.slice (p.tick.map encSm)), .pv (.slice (p.input.map encSm))]
def szP (p : PgD) : Nat := szSs p.start + szSs p.message + szSs p.tick + szSs p.input + p.vars.length
def depP (p : PgD) : Int := mx (mx (mx (depSs 0 p.start) (depSs 0 p.message)) (depSs 0 p.tick)) (depSs 0 p.input)
def goodVarF (v : VarD) : Bool := if !validF v.name || decide (v.size < 0) then false else if v.size != 0 && v.init != 0 then false else v.init != -9223372036854775808
def checkF (g : List Sm → Bool) (p : PgD) : Int :=
  if depP p > 16 then 6 else if p.vars.any (fun v => !goodVarF v) then 7 else if !g p.start || !g p.message || !g p.tick || !g p.input then 7 else 0

theorem validF_long (s : List UInt8) (h : 16 < s.length) : validF s = false := by
  have : (s.length : Int) > 16 := by omega
  simp [validF, this]
def arityF (op : Int) : Int := if op < 1 ∨ op > 22 then -1 else if op ≥ 10 then 2 else if op = 3 ∨ op = 8 ∨ op = 9 then 1 else 0
def goodNameF (name : List UInt8) (m : Bool) : Bool := if m then validF name else name == []
def zeroEF (e : Ex) : Bool := e.op == 0 && e.value == 0 && e.name == [] && e.slot == 0 && e.size == 0 && e.args.length == 0
def headEF (op value : Int) (name : List UInt8) (slot size : Int) (n : Nat) : Bool :=
  arityF op == (n : Int) && slot == 0 && size == 0 && !(decide (value < 0) || (value != 0 && op != 1)) && goodNameF name (op == 2 || op == 3)
mutual
def goodEF : Ex → Bool
  | .mk op value name slot size args => headEF op value name slot size args.length && goodEFs args
def goodEFs : List Ex → Bool
  | [] => true
  | e :: r => goodEF e && goodEFs r
end
theorem goodEF_eq (e : Ex) : goodEF e = (headEF e.op e.value e.name e.slot e.size e.args.length && goodEFs e.args) := by cases e; simp [goodEF, Ex.op, Ex.value, Ex.name, Ex.slot, Ex.size, Ex.args]
theorem goodEFs_all : ∀ l : List Ex, goodEFs l = l.all goodEF
  | [] => by simp [goodEFs]
  | e :: r => by simp [goodEFs, goodEFs_all r]
def headSF (kind : Int) (name : List UInt8) (slot size : Int) (place : Ex) (nb ne : Nat) : Bool :=
  decide (kind ≥ 1) && decide (kind ≤ 6) && slot == 0 && size == 0 && goodNameF name (kind == 1 || kind == 2) &&
  (if kind == 2 || kind == 5 then goodEF place else zeroEF place) && !(decide (nb > 0) && kind != 3 && kind != 4) && !(decide (ne > 0) && kind != 3)
mutual
def goodSF : Sm → Bool
  | .mk kind name slot size place value body els => headSF kind name slot size place body.length els.length && (goodEF value && goodSFs body && goodSFs els)
def goodSFs : List Sm → Bool
  | [] => true
  | e :: r => goodSF e && goodSFs r
end
theorem goodSF_eq (s : Sm) : goodSF s = (headSF s.kind s.name s.slot s.size s.place s.body.length s.els.length && (goodEF s.value && goodSFs s.body && goodSFs s.els)) := by cases s; simp [goodSF, Sm.kind, Sm.name, Sm.slot, Sm.size, Sm.place, Sm.value, Sm.body, Sm.els]
theorem goodSFs_all : ∀ l : List Sm, goodSFs l = l.all goodSF
  | [] => by simp [goodSFs]
  | e :: r => by simp [goodSFs, goodSFs_all r]
theorem beq_natCast (a b : Nat) : ((a : Int) == (b : Int)) = (a == b) := Bool.eq_iff_iff.mpr (by simp only [beq_iff_eq]; omega)
theorem beqF {a b : Int} (h : ¬ a = b) : (a == b) = false := by simpa using h
end Go.Abs
namespace Go.Abs
open Go
structure TkD where
  kind : Int
  text : List UInt8
  value : Int
  pos : Int
def encTk (t : TkD) : List PVal := [.int .i64 t.kind, .str t.text, .int .i64 t.value, .int .i64 t.pos]
def tkA (t : TkD) : AVal := .agg [.pv (.int .i64 t.kind), .pv (.str t.text), .pv (.int .i64 t.value), .pv (.int .i64 t.pos)]
def tk0 : TkD := ⟨0, [], 0, 0⟩

def runF (p : UInt8 → Bool) (s : List UInt8) (a : Nat) : Nat := a + ((s.drop a).takeWhile p).length
theorem runF_end (p : UInt8 → Bool) (s : List UInt8) (a : Nat) (h : s.length ≤ a) : runF p s a = a := by
  simp [runF, List.drop_eq_nil_of_le h]
theorem runF_step (p : UInt8 → Bool) (s : List UInt8) (a : Nat) (h : a < s.length) : runF p s a = if p (s.getD a 0) then runF p s (a + 1) else a := by
  unfold runF
  rw [List.drop_eq_getElem_cons h, List.takeWhile_cons]
  have : s.getD a 0 = s[a] := by simp [List.getD, h]
  rw [this]
  split
  · simp; omega
  · simp
theorem runF_ge (p : UInt8 → Bool) (s : List UInt8) (a : Nat) : a ≤ runF p s a := by unfold runF; omega
theorem runF_le (p : UInt8 → Bool) (s : List UInt8) (a : Nat) (h : a ≤ s.length) : runF p s a ≤ s.length := by
  unfold runF
  have h1 : ((s.drop a).takeWhile p).length ≤ (s.drop a).length := (List.takeWhile_sublist p).length_le
  simp at h1
  omega
theorem wordF_run (s : List UInt8) (a : Nat) : wordF s a = runF isW s a := rfl
def isD (c : UInt8) : Bool := digitF c.toNat
def isL (c : UInt8) : Bool := letterF c.toNat
def notLF (c : UInt8) : Bool := c != 10
def isB (c : UInt8) : Bool := c == 9 || c == 10 || c == 13 || c == 32

def cut (s : List UInt8) (a b : Nat) : List UInt8 := (s.take b).drop a
def valA : List UInt8 → Nat → Nat
  | [], acc => acc
  | c :: r, acc => valA r (acc * 10 + (c.toNat - 48))
def valF (l : List UInt8) : Nat := valA l 0
theorem valA_ge : ∀ (l : List UInt8) (acc : Nat), acc ≤ valA l acc
  | [], acc => by rw [valA]; omega
  | c :: r, acc => by have := valA_ge r (acc * 10 + (c.toNat - 48)); rw [valA]; omega
theorem digit_le {c : UInt8} (h : isD c = true) : 48 ≤ c.toNat ∧ c.toNat ≤ 57 := by
  unfold isD digitF at h
  rw [Bool.and_eq_true, decide_eq_true_eq, decide_eq_true_eq] at h
  omega
theorem valA_cons (acc : Nat) (c : UInt8) (r : List UInt8) : valA (c :: r) acc = valA r (acc * 10 + (c.toNat - 48)) := by rw [valA]
theorem parseUintM_eq (M : Nat) (hM : M < 18446744073709551620) : ∀ (l : List UInt8) (acc : Nat), (∀ c ∈ l, isD c = true) → acc ≤ M → Lib.parseUintM M acc l = if valA l acc ≤ M then .ok (valA l acc) else .range
  | [], acc, _, h => by rw [Lib.parseUintM, valA, if_pos h]
  | c :: r, acc, hd, h => by
    have hc := digit_le (hd c List.mem_cons_self)
    have hge := valA_ge r (acc * 10 + (c.toNat - 48))
    rw [Lib.parseUintM, valA_cons, if_pos hc]
    have ih := parseUintM_eq M hM r (acc * 10 + (c.toNat - 48)) (fun x hx => hd x (List.mem_cons_of_mem _ hx))
    generalize hq : acc * 10 + (c.toNat - 48) = q at *
    by_cases h1 : 1844674407370955162 ≤ acc
    · rw [if_pos h1, if_neg (by omega)]
    · rw [if_neg h1]
      by_cases h2 : M < q
      · rw [if_pos h2, if_neg (by omega)]
      · rw [if_neg h2]
        exact ih (by omega)
theorem parseInt_eq (l : List UInt8) (h0 : l ≠ []) (hd : ∀ c ∈ l, isD c = true) : Lib.parseIntB 64 l = if valF l < 9223372036854775808 then .ok (valF l : Int) else .range := by
  cases l with
  | nil => exact absurd rfl h0
  | cons c r =>
    have hc := digit_le (hd c (by simp))
    have e1 : ¬ (c.toNat = 43 ∨ c.toNat = 45) := by omega
    have e2 : ¬ c.toNat = 45 := by omega
    have hp := parseUintM_eq 18446744073709551615 (by omega) (c :: r) 0 hd (by omega)
    simp only [Lib.parseIntB, if_neg e1, Lib.parseUintB]
    rw [if_neg (by simp), show (2 ^ 64 - 1 : Nat) = 18446744073709551615 from rfl, hp]
    have hv0 : valA (c :: r) 0 = valF (c :: r) := rfl
    rw [hv0]
    generalize valF (c :: r) = v
    by_cases h1 : v ≤ 18446744073709551615
    · rw [if_pos h1]
      by_cases h2 : v < 9223372036854775808
      · rw [if_pos h2]
        simp only [e2]
        rw [if_neg (by simp; omega), if_neg (by simp)]
        simp
      · rw [if_neg h2]
        simp only [e2]
        rw [if_pos (by simp; omega)]
    · rw [if_neg h1, if_neg (by omega)]

def signF (c n : Int) : Int :=
  if c == 61 || c == 33 || c == 60 || c == 62 then (if n == 61 then 2 else 1)
  else if c == 40 || c == 41 || c == 123 || c == 125 || c == 91 || c == 93 || c == 44 || c == 59 || c == 43 || c == 45 || c == 42 || c == 47 || c == 37 then 1
  else if (c == 38 || c == 124) && n == c then 2 else 0
def nextB (s : List UInt8) (a : Nat) : Int := if a + 1 < s.length then ((s.getD (a + 1) 0).toNat : Int) else 0
def numEnd (s : List UInt8) (a : Nat) : Nat := if s.getD a 0 = 48 then a + 1 else runF isD s (a + 1)
def numF (s : List UInt8) (a : Nat) : TkD × Int × Int :=
  if runF isW s (numEnd s a) > numEnd s a then (tk0, 0, 1)
  else if valF (cut s a (numEnd s a)) < 9223372036854775808 then (⟨2, [], valF (cut s a (numEnd s a)), a⟩, numEnd s a, 0) else (tk0, 0, 3)
def oneF (s : List UInt8) (a : Nat) : TkD × Int × Int :=
  if isL (s.getD a 0) then (if runF isW s a - a > 16 then (tk0, 0, 5) else (⟨1, cut s a (runF isW s a), 0, a⟩, runF isW s a, 0))
  else if isD (s.getD a 0) then numF s a
  else if signF (s.getD a 0).toNat (nextB s a) = 0 then (tk0, 0, 1)
  else (⟨3, cut s a (a + (signF (s.getD a 0).toNat (nextB s a)).toNat), 0, a⟩, a + signF (s.getD a 0).toNat (nextB s a), 0)
theorem signF_le (c n : Int) : 0 ≤ signF c n ∧ signF c n ≤ 2 := by
  unfold signF
  repeat' split
  all_goals omega
theorem numEnd_le (s : List UInt8) (a : Nat) (h : a < s.length) : a < numEnd s a ∧ numEnd s a ≤ s.length := by
  unfold numEnd
  split
  · omega
  · have := runF_ge isD s (a + 1); have := runF_le isD s (a + 1) (by omega); omega
theorem sign_two {c n : Int} (h : signF c n = 2) : n = 61 ∨ n = 38 ∨ n = 124 := by
  unfold signF at h
  grind
theorem oneF_end (s : List UInt8) (a : Nat) (h : a < s.length) (h0 : (oneF s a).2.2 = 0) : ∃ e : Nat, (oneF s a).2.1 = e ∧ a < e ∧ e ≤ s.length := by
  unfold oneF at h0 ⊢
  split
  · rename_i hl
    rw [if_pos hl] at h0
    have hW : isW (s.getD a 0) = true := by simp [isW]; exact .inl hl
    have h1 := runF_step isW s a h
    rw [hW, if_pos rfl] at h1
    have h2 := runF_ge isW s (a + 1)
    have h3 := runF_le isW s a (by omega)
    split
    · rename_i h16; rw [if_pos h16] at h0; simp at h0
    · exact ⟨_, rfl, by omega, h3⟩
  · rename_i hl
    rw [if_neg hl] at h0
    split
    · rename_i hd
      rw [if_pos hd] at h0
      unfold numF at h0 ⊢
      have h1 := numEnd_le s a h
      split
      · rename_i hw; rw [if_pos hw] at h0; simp at h0
      · rename_i hw
        rw [if_neg hw] at h0
        split
        · exact ⟨_, rfl, h1.1, h1.2⟩
        · rename_i hv; rw [if_neg hv] at h0; simp at h0
    · rename_i hd
      rw [if_neg hd] at h0
      split
      · rename_i hs; rw [if_pos hs] at h0; simp at h0
      · rename_i hs
        have h1 := signF_le (s.getD a 0).toNat (nextB s a)
        refine ⟨a + (signF (s.getD a 0).toNat (nextB s a)).toNat, by show (a : Int) + signF _ _ = _; omega, by omega, ?_⟩
        by_cases h2 : signF (s.getD a 0).toNat (nextB s a) = 2
        · have h3 := sign_two h2
          have : a + 1 < s.length := by
            by_cases h4 : a + 1 < s.length
            · exact h4
            · simp [nextB, h4] at h3
          omega
        · omega
def scanF (s : List UInt8) : Nat → Nat → List TkD → List TkD × Int × Int
  | 0, _, acc => (acc, 0, 0)
  | f + 1, a, acc =>
    if a < s.length then
      if isB (s.getD a 0) then scanF s f (a + 1) acc
      else if s.getD a 0 = 35 then scanF s f (runF notLF s a) acc
      else if (oneF s a).2.2 = 0 then scanF s f (oneF s a).2.1.toNat (acc ++ [(oneF s a).1])
      else ([], a, (oneF s a).2.2)
    else (acc, 0, 0)
def scan (s : List UInt8) : List TkD × Int × Int := if s.length > 4096 then ([], 0, 5) else scanF s (s.length + 1) 0 []
end Go.Abs
namespace Go.Abs
open Go
theorem indexByte_run : ∀ l : List UInt8, Lib.indexByte l 10 = if (l.takeWhile notLF).length = l.length then -1 else ((l.takeWhile notLF).length : Int)
  | [] => by simp [Lib.indexByte]
  | b :: l => by
    rw [Lib.indexByte, indexByte_run l, List.takeWhile_cons]
    have hle : (l.takeWhile notLF).length ≤ l.length := (List.takeWhile_sublist notLF).length_le
    by_cases h : b = 10
    · subst h
      simp [notLF]
    · have hb : (b == 10) = false := by simpa using h
      have hn : notLF b = true := by simp [notLF, h]
      rw [hb, hn, if_neg (by simp), if_pos rfl]
      simp only [List.length_cons]
      by_cases h2 : (l.takeWhile notLF).length = l.length
      · simp [h2]
      · have h3 : ¬ ((l.takeWhile notLF).length + 1 = l.length + 1) := by omega
        have h4 : ¬ (((l.takeWhile notLF).length : Int) = -1) := by omega
        simp [h2, h4]
theorem comment_eq (s : List UInt8) (a : Nat) (h : a ≤ s.length) : (if Lib.indexByte (s.drop a) 10 < 0 then (s.length : Int) else a + Lib.indexByte (s.drop a) 10) = runF notLF s a := by
  rw [indexByte_run]
  unfold runF
  have hl : (s.drop a).length = s.length - a := by simp
  by_cases h2 : ((s.drop a).takeWhile notLF).length = (s.drop a).length
  · rw [if_pos h2, if_pos (by omega), h2, hl]; omega
  · rw [if_neg h2, if_neg (by omega)]; omega
theorem cut_succ (s : List UInt8) (a k : Nat) (h : k < s.length) (ha : a ≤ k) : cut s a (k + 1) = cut s a k ++ [s.getD k 0] := by
  unfold cut
  rw [List.take_succ_eq_append_getElem h, List.drop_append_of_le_length (by simp; omega)]
  simp [List.getD, h]
theorem numEnd_exit (s : List UInt8) (a k : Nat) (hr1 : s.getD a 0 ≠ 48 → runF isD s k = runF isD s (a + 1)) (hr2 : s.getD a 0 = 48 → k = a + 1)
    (hc : ((((s.getD a 0).toNat : Nat) : Int) != 48 && decide ((k : Int) < s.length) && digitF ((s.getD k 0).toNat : Int)) = false) (h48 : ((((s.getD a 0).toNat : Nat) : Int) != 48) = true ↔ s.getD a 0 ≠ 48) : numEnd s a = k := by
  unfold numEnd
  by_cases h : s.getD a 0 = 48
  · rw [if_pos h, hr2 h]
  · rw [if_neg h, ← hr1 h]
    rw [h48.2 h, Bool.true_and] at hc
    by_cases hlt : k < s.length
    · rw [runF_step isD s k hlt]
      have h1 : decide ((k : Int) < s.length) = true := by simpa using (show (k : Int) < s.length by omega)
      rw [h1, Bool.true_and] at hc
      rw [show isD (s.getD k 0) = false from hc]
      simp
    · exact runF_end isD s k (by omega)
theorem cut_self (s : List UInt8) (a : Nat) : cut s a a = [] := by simp [cut]
theorem cut_ne (s : List UInt8) (a k : Nat) (h : a < k) (hk : k ≤ s.length) : cut s a k ≠ [] := by
  intro e
  have := congrArg List.length e
  simp [cut] at this
  omega
theorem cut_len (s : List UInt8) (a k : Nat) (hk : k ≤ s.length) : (cut s a k).length = k - a := by simp [cut]; omega
theorem isD_int (s : List UInt8) (k : Nat) : digitF ((s.getD k 0).toNat : Int) = isD (s.getD k 0) := rfl
theorem u8_ne (c : UInt8) (n : Nat) (h : n < 256) : (((c.toNat : Int) != (n : Int)) = true) ↔ c ≠ UInt8.ofNat n := by
  rw [bne_iff_ne]
  constructor
  · intro h1 h2
    apply h1
    rw [h2]
    simp
    omega
  · intro h1 h2
    apply h1
    apply UInt8.toNat.inj
    simp
    omega
end Go.Abs
namespace Go.Abs
open Go
structure SI (s : List UInt8) where
  k : Nat
  acc : List TkD
  f : Nat
  hk : k ≤ s.length
  hf : s.length < k + f
  ha : acc.length ≤ k
  eq : scanF s f k acc = scanF s (s.length + 1) 0 []
variable {s : List UInt8} (i : SI s)
theorem SI.fpos (h : i.k < s.length) : ∃ f, i.f = f + 1 := ⟨i.f - 1, by have := i.hf; omega⟩
theorem SI.unf (h : i.k < s.length) : scanF s i.f i.k i.acc = (if isB (s.getD i.k 0) then scanF s (i.f - 1) (i.k + 1) i.acc
      else if s.getD i.k 0 = 35 then scanF s (i.f - 1) (runF notLF s i.k) i.acc
      else if (oneF s i.k).2.2 = 0 then scanF s (i.f - 1) (oneF s i.k).2.1.toNat (i.acc ++ [(oneF s i.k).1])
      else ([], i.k, (oneF s i.k).2.2)) := by
  obtain ⟨f, hf⟩ := i.fpos h
  rw [hf, scanF, if_pos h]
  rfl
def SI.blank (h : i.k < s.length) (hb : isB (s.getD i.k 0) = true) : SI s := ⟨i.k + 1, i.acc, i.f - 1, h, by have := i.hf; omega, by have := i.ha; omega, by
  have := i.unf h; rw [if_pos hb] at this; rw [← this]; exact i.eq⟩
theorem hash_gt (h : i.k < s.length) (hh : s.getD i.k 0 = 35) : i.k < runF notLF s i.k ∧ runF notLF s i.k ≤ s.length := by
  have h1 := runF_step notLF s i.k h
  have h2 : notLF (s.getD i.k 0) = true := by rw [hh]; rfl
  rw [h2, if_pos rfl] at h1
  have h3 := runF_ge notLF s (i.k + 1)
  exact ⟨by omega, runF_le notLF s i.k (by omega)⟩
def SI.hsh (h : i.k < s.length) (hh : s.getD i.k 0 = 35) : SI s := ⟨runF notLF s i.k, i.acc, i.f - 1, (hash_gt i h hh).2, by have := i.hf; have := hash_gt i h hh; omega, by have := i.ha; have := hash_gt i h hh; omega, by
  have := i.unf h
  have hb : ¬ (isB (s.getD i.k 0) = true) := by rw [hh]; decide
  rw [if_neg hb, if_pos hh] at this; rw [← this]; exact i.eq⟩
theorem tok_gt (h : i.k < s.length) (h0 : (oneF s i.k).2.2 = 0) : i.k < (oneF s i.k).2.1.toNat ∧ (oneF s i.k).2.1.toNat ≤ s.length ∧ (oneF s i.k).2.1 = (((oneF s i.k).2.1.toNat : Nat) : Int) := by
  obtain ⟨e, h1, h2, h3⟩ := oneF_end s i.k h h0
  rw [h1]
  exact ⟨by simpa using h2, by simpa using h3, by simp⟩
def SI.tok (h : i.k < s.length) (hb : ¬ (isB (s.getD i.k 0) = true)) (hh : ¬ s.getD i.k 0 = 35) (h0 : (oneF s i.k).2.2 = 0) : SI s :=
  ⟨(oneF s i.k).2.1.toNat, i.acc ++ [(oneF s i.k).1], i.f - 1, (tok_gt i h h0).2.1, by have := i.hf; have := tok_gt i h h0; omega, by have := i.ha; have := tok_gt i h h0; simp; omega, by
  have := i.unf h
  rw [if_neg hb, if_neg hh, if_pos h0] at this; rw [← this]; exact i.eq⟩
theorem SI.bad (h : i.k < s.length) (hb : ¬ (isB (s.getD i.k 0) = true)) (hh : ¬ s.getD i.k 0 = 35) (h0 : ¬ (oneF s i.k).2.2 = 0) : scanF s (s.length + 1) 0 [] = ([], (i.k : Int), (oneF s i.k).2.2) := by
  have := i.unf h
  rw [if_neg hb, if_neg hh, if_neg h0] at this; rw [← i.eq, this]
theorem SI.fin (h : ¬ i.k < s.length) : scanF s (s.length + 1) 0 [] = (i.acc, 0, 0) := by
  rw [← i.eq]
  cases hf : i.f with
  | zero => rfl
  | succ f => rw [scanF, if_neg h]
def SI.start (s : List UInt8) : SI s := ⟨0, [], s.length + 1, by omega, by omega, by simp, rfl⟩
theorem SI.blank_k (h : i.k < s.length) (hb : isB (s.getD i.k 0) = true) : (i.blank h hb).k = i.k + 1 := rfl
theorem SI.blank_acc (h : i.k < s.length) (hb : isB (s.getD i.k 0) = true) : (i.blank h hb).acc = i.acc := rfl
theorem SI.hsh_k (h : i.k < s.length) (hb : s.getD i.k 0 = 35) : (i.hsh h hb).k = runF notLF s i.k := rfl
theorem SI.hsh_acc (h : i.k < s.length) (hb : s.getD i.k 0 = 35) : (i.hsh h hb).acc = i.acc := rfl
theorem SI.tok_k (h : i.k < s.length) (hb : ¬ (isB (s.getD i.k 0) = true)) (hh : ¬ s.getD i.k 0 = 35) (h0 : (oneF s i.k).2.2 = 0) : (i.tok h hb hh h0).k = (oneF s i.k).2.1.toNat := rfl
theorem SI.tok_acc (h : i.k < s.length) (hb : ¬ (isB (s.getD i.k 0) = true)) (hh : ¬ s.getD i.k 0 = 35) (h0 : (oneF s i.k).2.2 = 0) : (i.tok h hb hh h0).acc = i.acc ++ [(oneF s i.k).1] := rfl
theorem SI.start_k (s : List UInt8) : (SI.start s).k = 0 := rfl
theorem SI.start_acc (s : List UInt8) : (SI.start s).acc = [] := rfl
theorem u8_eq {c : UInt8} {n : Nat} (hn : n < 256) (h : (c.toNat : Int) = n) : c = UInt8.ofNat n := by
  apply UInt8.toNat.inj
  simp
  omega
theorem u8f {c d : UInt8} (h : c ≠ d) : (((c.toNat : Nat) : Int) == ((d.toNat : Nat) : Int)) = false := by
  have : ¬ ((c.toNat : Int) = d.toNat) := fun e => h (UInt8.toNat.inj (by omega))
  simpa using this
theorem u8b (c d : UInt8) : (((c.toNat : Nat) : Int) == ((d.toNat : Nat) : Int)) = (c == d) := by
  rw [Bool.eq_iff_iff]
  simp only [beq_iff_eq]
  constructor
  · intro h; exact UInt8.toNat.inj (by omega)
  · intro h; rw [h]
def dblF (a b : Int) : Bool := b == 61 && (a == 61 || a == 33 || a == 60 || a == 62) || a == 38 && b == 38 || a == 124 && b == 124
def sngL : List UInt8 := [40, 41, 123, 125, 91, 93, 44, 59, 61, 60, 62, 43, 45, 42, 47, 37, 33]
theorem signF_eq (c : UInt8) (n : Int) : signF c.toNat n = if dblF c.toNat n then 2 else if sngL.contains c then 1 else 0 := by
  have e := fun d : UInt8 => u8b c d
  have e1 := e 61; have e2 := e 33; have e3 := e 60; have e4 := e 62; have e5 := e 40; have e6 := e 41; have e7 := e 123; have e8 := e 125; have e9 := e 91; have e10 := e 93
  have f1 := e 44; have f2 := e 59; have f3 := e 43; have f4 := e 45; have f5 := e 42; have f6 := e 47; have f7 := e 37; have f8 := e 38; have f9 := e 124
  simp only [UInt8.reduceToNat, Int.cast_ofNat_Int] at e1 e2 e3 e4 e5 e6 e7 e8 e9 e10 f1 f2 f3 f4 f5 f6 f7 f8 f9
  unfold signF dblF sngL
  simp only [e1, e2, e3, e4, e5, e6, e7, e8, e9, e10, f1, f2, f3, f4, f5, f6, f7, f8, f9, List.contains_cons, List.contains_nil, Bool.or_false]
  have hl : (c == 40 || (c == 41 || (c == 123 || (c == 125 || (c == 91 || (c == 93 || (c == 44 || (c == 59 || (c == 61 || (c == 60 || (c == 62 || (c == 43 || (c == 45 || (c == 42 || (c == 47 || (c == 37 || c == 33)))))))))))))))) =
      ((c == 61 || c == 33 || c == 60 || c == 62) || (c == 40 || c == 41 || c == 123 || c == 125 || c == 91 || c == 93 || c == 44 || c == 59 || c == 43 || c == 45 || c == 42 || c == 47 || c == 37)) := by ac_rfl
  rw [hl]
  by_cases h38 : c = 38
  · subst h38; simp
  · by_cases h124 : c = 124
    · subst h124; simp
    · have g1 : (c == 38) = false := by simpa using h38
      have g2 : (c == 124) = false := by simpa using h124
      rw [g1, g2]
      generalize (c == 61 || c == 33 || c == 60 || c == 62) = A
      generalize (c == 40 || c == 41 || c == 123 || c == 125 || c == 91 || c == 93 || c == 44 || c == 59 || c == 43 || c == 45 || c == 42 || c == 47 || c == 37) = B
      cases A <;> cases B <;> simp
theorem run_exit (p : UInt8 → Bool) (s : List UInt8) (k : Nat) (hc : (decide ((k : Int) < s.length) && p (s.getD k 0)) = false) : runF p s k = k := by
  by_cases hlt : k < s.length
  · have h1 : decide ((k : Int) < s.length) = true := by simpa using (show (k : Int) < s.length by omega)
    rw [h1, Bool.true_and] at hc
    rw [runF_step p s k hlt, hc]; simp
  · exact runF_end p s k (by omega)
theorem run_more (p : UInt8 → Bool) (s : List UInt8) (k : Nat) (hc : (decide ((k : Int) < s.length) && p (s.getD k 0)) = true) : k < s.length ∧ runF p s k = runF p s (k + 1) ∧ k < runF p s k := by
  rw [Bool.and_eq_true, decide_eq_true_eq] at hc
  have hlt : k < s.length := by omega
  have h1 := runF_step p s k hlt
  rw [hc.2, if_pos rfl] at h1
  have := runF_ge p s (k + 1)
  exact ⟨hlt, h1, by omega⟩
theorem isB_not {c : UInt8} (h : ¬ (isB c = true)) : c ≠ 9 ∧ c ≠ 10 ∧ c ≠ 13 ∧ c ≠ 32 := by
  simp [isB] at h; exact ⟨h.1.1.1, h.1.1.2, h.1.2, h.2⟩
theorem isB_or {c : UInt8} (h : isB c = true) : c = 9 ∨ c = 10 ∨ c = 13 ∨ c = 32 := by
  simp [isB] at h
  rcases h with ((h | h) | h) | h <;> simp [h]
end Go.Abs
namespace Go.Abs
open Go
theorem scan_aw : scan [97, 61, 61, 33, 98, 32, 35, 32, 99] = ([⟨1, [97], 0, 0⟩, ⟨3, [61, 61], 0, 1⟩, ⟨3, [33], 0, 3⟩, ⟨1, [98], 0, 4⟩], 0, 0) := by rfl
theorem scanF_len (s : List UInt8) : ∀ (f k : Nat) (acc : List TkD), (scanF s f k acc).1.length ≤ acc.length + f
  | 0, k, acc => by simp [scanF]
  | f + 1, k, acc => by
    rw [scanF]
    split
    · split
      · have := scanF_len s f (k + 1) acc; omega
      · split
        · have := scanF_len s f (runF notLF s k) acc; omega
        · split
          · have := scanF_len s f (oneF s k).2.1.toNat (acc ++ [(oneF s k).1]); simp at this; omega
          · simp
    · simp
theorem scan_len (s : List UInt8) : (scan s).1.length ≤ 10000 := by
  unfold scan
  split
  · simp
  · have := scanF_len s (s.length + 1) 0 []; simp at this; omega
end Go.Abs
namespace Go.Abs
open Go
def dg : Nat → Nat → List UInt8
  | 0, _ => []
  | f + 1, n => if n = 0 then [] else dg f (n / 10) ++ [UInt8.ofNat (48 + n % 10)]
def decF (n : Int) : List UInt8 := if n ≤ 0 then [48] else dg 20 n.toNat
theorem dg_zero (f : Nat) : dg f 0 = [] := by cases f <;> simp [dg]
theorem dg_step (f n : Nat) (h : n ≠ 0) : dg (f + 1) n = dg f (n / 10) ++ [UInt8.ofNat (48 + n % 10)] := by rw [dg, if_neg h]
theorem dg_more : ∀ (f n : Nat), n < 10 ^ f → dg (f + 1) n = dg f n
  | 0, n, h => by
    have : n = 0 := by simpa using h
    subst this; rw [dg_zero, dg_zero]
  | f + 1, n, h => by
    by_cases h0 : n = 0
    · subst h0; rw [dg_zero, dg_zero]
    · rw [dg_step _ _ h0, dg_step _ _ h0, dg_more f (n / 10) (by rw [Nat.pow_succ] at h; omega)]
end Go.Abs
namespace Go.Abs
open Go
theorem dgD (n : Nat) : isD (UInt8.ofNat (48 + n % 10)) = true := by
  have h : n % 10 < 10 := Nat.mod_lt _ (by omega)
  unfold isD digitF
  simp
  omega
theorem dg_all : ∀ (f n : Nat) (c : UInt8), c ∈ dg f n → isD c = true
  | 0, _, c, h => by simp [dg] at h
  | f + 1, n, c, h => by
    by_cases h0 : n = 0
    · subst h0; rw [dg_zero] at h; simp at h
    · rw [dg_step _ _ h0, List.mem_append, List.mem_singleton] at h
      rcases h with h | rfl
      · exact dg_all f _ c h
      · exact dgD n
theorem valA_append : ∀ (l r : List UInt8) (a : Nat), valA (l ++ r) a = valA r (valA l a)
  | [], r, a => by simp [valA]
  | c :: l, r, a => by simp only [List.cons_append, valA]; exact valA_append l r _
theorem dg_val : ∀ (f n : Nat), n < 10 ^ f → valF (dg f n) = n
  | 0, n, h => by have : n = 0 := by simpa using h
                  subst this; rfl
  | f + 1, n, h => by
    by_cases h0 : n = 0
    · subst h0; rw [dg_zero]; rfl
    · have hv := dg_val f (n / 10) (by rw [Nat.pow_succ] at h; omega)
      unfold valF at *
      rw [dg_step _ _ h0, valA_append, hv]
      have hr : n % 10 < 10 := Nat.mod_lt _ (by omega)
      have : (UInt8.ofNat (48 + n % 10)).toNat = 48 + n % 10 := by simp; omega
      simp only [valA, this]
      omega
theorem dg_len : ∀ (f n : Nat), (dg f n).length ≤ f
  | 0, _ => by simp [dg]
  | f + 1, n => by
    rw [dg]
    split
    · simp
    · have := dg_len f (n / 10); simp; omega
theorem dg_head : ∀ (f n : Nat), n < 10 ^ f → n ≠ 0 → ∃ c r, dg f n = c :: r ∧ c ≠ 48 ∧ isD c = true
  | 0, n, h, h0 => by simp at h; omega
  | f + 1, n, h, h0 => by
    rw [dg_step _ _ h0]
    by_cases h1 : n / 10 = 0
    · rw [h1, dg_zero]
      refine ⟨_, [], rfl, ?_, dgD n⟩
      intro e
      have := congrArg UInt8.toNat e
      simp at this
      omega
    · obtain ⟨c, r, e, h2, h3⟩ := dg_head f (n / 10) (by rw [Nat.pow_succ] at h; omega) h1
      exact ⟨c, r ++ [_], by rw [e]; rfl, h2, h3⟩
end Go.Abs
namespace Go.Abs
open Go
theorem run_all (p : UInt8 → Bool) (d : List UInt8) (h : ∀ c ∈ d, p c = true) (k : Nat) (hk : k ≤ d.length) (r : List UInt8) (hr : ∀ c, r.head? = some c → p c = false) : runF p (d ++ r) k = d.length := by
  unfold runF
  rw [List.drop_append_of_le_length hk]
  have h1 : (d.drop k ++ r).takeWhile p = d.drop k := by
    rw [List.takeWhile_append_of_pos (fun c hc => h c (List.mem_of_mem_drop hc))]
    cases r with
    | nil => simp
    | cons c r => rw [List.takeWhile_cons, hr c rfl]; simp
  rw [h1]
  simp
  omega
theorem isD_notL {c : UInt8} (h : isD c = true) : isL c = false := by
  have := digit_le h
  unfold isL letterF
  simp
  omega
theorem isD_W {c : UInt8} (h : isD c = true) : isW c = true := by
  unfold isW
  rw [show digitF c.toNat = true from h]; simp
theorem isD_notB {c : UInt8} (h : isD c = true) : isB c = false ∧ c ≠ 35 := by
  have h1 := digit_le h
  constructor
  · have n1 : c ≠ 9 := fun e => by subst e; simp at h1
    have n2 : c ≠ 10 := fun e => by subst e; simp at h1
    have n3 : c ≠ 13 := fun e => by subst e; simp at h1
    have n4 : c ≠ 32 := fun e => by subst e; simp at h1
    simp [isB, n1, n2, n3, n4]
  · intro e; subst e; simp at h1
end Go.Abs
namespace Go.Abs
open Go
structure Num (d : List UInt8) : Prop where
  all : ∀ c ∈ d, isD c = true
  ne : d ≠ []
  lead : d.getD 0 0 = 48 → d.length = 1
theorem decF_num (n : Int) (h : n ≤ 9223372036854775807) : Num (decF n) ∧ (decF n).length ≤ 20 ∧ (valF (decF n) : Int) = imax n 0 := by
  unfold decF
  by_cases h0 : n ≤ 0
  · rw [if_pos h0]
    refine ⟨⟨by decide, by simp, by simp⟩, by simp, ?_⟩
    have : imax n 0 = 0 := by unfold imax; split <;> omega
    rw [this]; rfl
  · rw [if_neg h0]
    have hlt : n.toNat < 10 ^ 20 := by omega
    obtain ⟨c, r, e, h2, h3⟩ := dg_head 20 n.toNat hlt (by omega)
    refine ⟨⟨fun c hc => dg_all 20 _ c hc, by rw [e]; simp, fun h48 => by rw [e] at h48; exact absurd (by simpa using h48) h2⟩, dg_len 20 _, ?_⟩
    rw [dg_val 20 _ hlt]
    have : imax n 0 = n := by unfold imax; split <;> omega
    rw [this]; omega
theorem getD_mid (p d r : List UInt8) (h : d ≠ []) : (p ++ d ++ r).getD p.length 0 = d.getD 0 0 := by
  cases d with
  | nil => exact absurd rfl h
  | cons c t => simp [List.getD]
theorem num_end (p d r : List UInt8) (hd : Num d) (hr : ∀ c, r.head? = some c → isD c = false) : numEnd (p ++ d ++ r) p.length = p.length + d.length := by
  unfold numEnd
  rw [getD_mid p d r hd.ne]
  split
  · rename_i h; rw [hd.lead h]
  · have hpos : 0 < d.length := List.length_pos_iff.2 hd.ne
    unfold runF
    rw [List.append_assoc, List.drop_append, List.drop_eq_nil_of_le (by omega), List.nil_append, show p.length + 1 - p.length = 1 by omega]
    have h1 := run_all isD d hd.all 1 (by omega) r hr
    unfold runF at h1
    omega
theorem cut_mid (p d r : List UInt8) : cut (p ++ d ++ r) p.length (p.length + d.length) = d := by
  unfold cut
  rw [List.append_assoc, List.take_append, List.take_of_length_le (by omega), show p.length + d.length - p.length = d.length by omega, List.take_append, List.take_length, List.drop_append]
  simp
end Go.Abs
namespace Go.Abs
open Go
theorem num_first (p d r : List UInt8) (hd : Num d) : isD ((p ++ d ++ r).getD p.length 0) = true := by
  rw [getD_mid p d r hd.ne]
  cases d with
  | nil => exact absurd rfl hd.ne
  | cons c t => exact hd.all c (by simp)
theorem one_num (p d : List UInt8) (hd : Num d) (hv : valF d < 9223372036854775808) : oneF (p ++ d ++ []) p.length = (⟨2, [], valF d, p.length⟩, ((p.length + d.length : Nat) : Int), 0) := by
  have h1 := num_first p d [] hd
  have h2 := num_end p d [] hd (by simp)
  have h3 := cut_mid p d []
  have h4 : runF isW (p ++ d ++ []) (p.length + d.length) = p.length + d.length := runF_end _ _ _ (by simp)
  unfold oneF
  rw [isD_notL h1, if_neg (by simp), h1, if_pos rfl]
  unfold numF
  rw [h2, h3, h4, if_neg (by omega), if_pos hv]
theorem one_bad (p d r : List UInt8) (hd : Num d) (hr : ∀ c, r.head? = some c → isD c = false) (hw : ∃ c, r.head? = some c ∧ isW c = true) : oneF (p ++ d ++ r) p.length = (tk0, 0, 1) := by
  have h1 := num_first p d r hd
  have h2 := num_end p d r hd hr
  obtain ⟨c, hc, hcw⟩ := hw
  cases r with
  | nil => simp at hc
  | cons x r =>
    simp at hc
    subst hc
    have hlt : p.length + d.length < (p ++ d ++ x :: r).length := by simp
    have h4 := runF_step isW (p ++ d ++ x :: r) (p.length + d.length) hlt
    have h5 : (p ++ d ++ x :: r).getD (p.length + d.length) 0 = x := by
      simp [List.getD]
    rw [h5, hcw, if_pos rfl] at h4
    have h6 := runF_ge isW (p ++ d ++ x :: r) (p.length + d.length + 1)
    unfold oneF
    rw [isD_notL h1, if_neg (by simp), h1, if_pos rfl]
    unfold numF
    rw [h2, if_pos (by omega)]
end Go.Abs
namespace Go.Abs
open Go
theorem scanF_fin (s : List UInt8) (f a : Nat) (acc : List TkD) (h : s.length ≤ a) : scanF s f a acc = (acc, 0, 0) := by
  cases f with
  | zero => rfl
  | succ f => rw [scanF, if_neg (by omega)]
theorem scanF_one (s : List UInt8) (f a : Nat) (acc : List TkD) (h : a < s.length) (hd : isD (s.getD a 0) = true) : scanF s (f + 1) a acc = if (oneF s a).2.2 = 0 then scanF s f (oneF s a).2.1.toNat (acc ++ [(oneF s a).1]) else ([], (a : Int), (oneF s a).2.2) := by
  obtain ⟨h1, h2⟩ := isD_notB hd
  rw [scanF, if_pos h, if_neg (by rw [h1]; simp), if_neg h2]
theorem scan_num (d : List UInt8) (hd : Num d) (hl : d.length ≤ 100) (hv : valF d < 9223372036854775808) : scan d = ([⟨2, [], valF d, 0⟩], 0, 0) := by
  have h1 := one_num [] d hd hv
  have h2 := num_first [] d [] hd
  simp only [List.nil_append, List.append_nil, List.length_nil] at h1 h2
  have hpos : 0 < d.length := List.length_pos_iff.2 hd.ne
  unfold scan
  rw [if_neg (by omega), scanF_one d _ 0 [] hpos h2, h1]
  simp only [if_true]
  rw [scanF_fin _ _ _ _ (by simp)]
  rfl
theorem scan_zero (d : List UInt8) (hd : Num d) (hl : d.length ≤ 100) : (scan (48 :: d)).2.2 = 1 := by
  have hc : isD (d.getD 0 0) = true := by
    cases d with
    | nil => exact absurd rfl hd.ne
    | cons c t => exact hd.all c (by simp)
  have hpos : 0 < d.length := List.length_pos_iff.2 hd.ne
  have hne : numEnd (48 :: d) 0 = 1 := by unfold numEnd; simp
  have h5 : (48 :: d).getD 1 0 = d.getD 0 0 := by simp [List.getD]
  have h4 := runF_step isW (48 :: d) 1 (by simp; omega)
  rw [h5, isD_W hc, if_pos rfl] at h4
  have h6 := runF_ge isW (48 :: d) (1 + 1)
  have ho : oneF (48 :: d) 0 = (tk0, 0, 1) := by
    unfold oneF
    have e : (48 :: d).getD 0 0 = 48 := rfl
    rw [e, if_neg (by decide), if_pos (by decide)]
    unfold numF
    rw [hne, if_pos (by omega)]
  unfold scan
  rw [if_neg (by simp; omega), scanF_one (48 :: d) _ 0 [] (by simp) (show isD 48 = true by decide), ho]
  simp
end Go.Abs
namespace Go.Abs
open Go
theorem scan_bad (d r : List UInt8) (hd : Num d) (hl : d.length ≤ 100) (hrl : r.length ≤ 100) (hr : ∀ c, r.head? = some c → isD c = false) (hw : ∃ c, r.head? = some c ∧ isW c = true) : scan ([32] ++ d ++ r) = ([], 1, 1) := by
  have h1 := one_bad [32] d r hd hr hw
  have h2 := num_first [32] d r hd
  have hpos : 0 < d.length := List.length_pos_iff.2 hd.ne
  unfold scan
  rw [if_neg (by simp; omega)]
  have e0 : ([32] ++ d ++ r).getD 0 0 = 32 := rfl
  have hlen : 1 < ([32] ++ d ++ r).length := by simp; omega
  have hstep : ∀ f, scanF ([32] ++ d ++ r) (f + 1) 0 [] = scanF ([32] ++ d ++ r) f 1 [] := by
    intro f
    rw [scanF, if_pos (by omega), e0]
    rfl
  obtain ⟨g, hg⟩ : ∃ g, ([32] ++ d ++ r).length = g + 2 := ⟨([32] ++ d ++ r).length - 2, by omega⟩
  rw [hg]
  first | rw [hstep, scanF_one _ _ 1 [] hlen h2] | rw [hstep (g + 2), scanF_one _ _ 1 [] hlen h2]
  simp only [List.length_singleton] at h1
  rw [h1]
  simp
theorem scan_big : (scan [57, 50, 50, 51, 51, 55, 50, 48, 51, 54, 56, 53, 52, 55, 55, 53, 56, 48, 56]).2.2 = 3 := by decide +kernel
end Go.Abs
namespace Go.Abs
open Go
def SliceAt (M : Mem) (w : World) (sz : Nat) (xs : List (List PVal)) (v : Value) : Prop :=
  (v = .slice none 0 0 ∧ xs = []) ∨ ∃ b c, v = .slice (some ⟨b, 0, none⟩) xs.length c ∧ b < w.heap.size ∧ xs.length ≤ c ∧ ∀ i j, i < xs.length → j < sz → ∃ u, w.cell? ⟨b, i * sz + j, none⟩ = some u ∧ Rd M (pcell xs i j) u
theorem AC.ofRow {P : Program} {gl : Nat → Option (List PVal)} {f : FuncId} {sz : Nat} {xs : List (List PVal)} {ps : List PVal} {res : AVal}
    (h : ∀ (w : World) (M : Mem) (v0 : Value) (vs : List Value), SliceAt M w sz xs v0 → vs.length = ps.length → (∀ i, i < ps.length → Rd M (ps.getD i .nilptr) (vs.getD i undef)) → (∀ b i u, M b i = some u → w.cell? ⟨b, i, none⟩ = some u) →
      Calls P f (v0 :: vs).toArray w fun e w' => ∃ v, e = .returned v ∧ (∀ g D M', V g D M' res v) ∧ Ext w w') :
    AC P gl f (.row 0 xs.length :: ps.map .pv) [some (.row sz xs)] res [some (.row sz xs)] := by
  intro w M g vargs hR hG
  have hl : vargs.length = ps.length + 1 := by simpa using hR.size
  match vargs, hl with
  | v0 :: vs, hl =>
    have hvl : vs.length = ps.length := by simpa using hl
    have hob := hR.objs 0 (.row sz xs) rfl
    obtain ⟨hw, hn, hy⟩ := hob
    have h0 := hR.slots 0 (by simp)
    have h0' : V g (St.dom ⟨.row 0 xs.length :: ps.map .pv, [some (.row sz xs)]⟩) M (.row 0 xs.length) v0 := h0
    have hS : SliceAt M w sz xs v0 := by
      generalize hz : AVal.row 0 xs.length = z at h0'
      cases h0' with
      | row id n hd hnu =>
        cases hz
        obtain ⟨vals, T, hh, h1, h2, h3⟩ := hy hnu
        refine .inr ⟨_, _, rfl, (Array.getElem?_eq_some_iff.1 hh).1, h1, fun i j hi hj => ⟨_, ?_, h3 i j hi hj⟩⟩
        have hlt : i * sz + j < vals.size := by
          have h4 : (i + 1) * sz ≤ g.κ 0 * sz := Nat.mul_le_mul_right _ (by omega)
          rw [Nat.add_mul] at h4
          omega
        simp [World.cell?, hh, hlt]
      | rown id hd hnu =>
        cases hz' : xs with
        | nil => exact .inl ⟨rfl, rfl⟩
        | cons a r => rw [hz'] at hz; simp at hz
      | _ => cases hz
    refine Calls.mono (h w M v0 vs hS hvl (fun i hi => ?_) hR.sat) ?_
    · have := hR.slots (i + 1) (by simpa using hi)
      have e1 : St.slot ⟨.row 0 xs.length :: ps.map .pv, [some (.row sz xs)]⟩ (i + 1) = .pv (ps.getD i .nilptr) := by simp [St.slot, List.getD, hi]
      rw [e1] at this
      have e2 : (v0 :: vs).toArray.getD (i + 1) undef = vs.getD i undef := by simp [List.getD]
      rw [← e2]
      exact this.pv_inv
    · rintro e w' ⟨v, rfl, hv, hx⟩
      refine ⟨v, g, M, rfl, ⟨rfl, rfl, fun i hi => ?_, fun id o ho => ?_, hR.apart, hR.offM, fun b i u hu => ext_cell hx (hR.sat b i u hu), Mem.le_refl _, fun _ _ _ _ => rfl, hx.size, fun b hb _ => hx.block b hb, hR.own0, hx.os, hx.tape, hx.output⟩, fun id hid => Gh.agree_refl _ _⟩
      · have hi0 : i = 0 := by simpa using hi
        subst hi0
        exact hv _ _ _
      · have hid : id = 0 := by
          cases id with
          | zero => rfl
          | succ k => simp [St.obj] at ho
        subst hid
        have : o = .row sz xs := by simpa [St.obj] using ho.symm
        subst this
        refine ⟨hw, hn, fun hnu => ?_⟩
        obtain ⟨vals, T, hh, h1, h2, h3⟩ := hy hnu
        exact ⟨vals, T, (hx.block _ (Array.getElem?_eq_some_iff.1 hh).1).trans hh, h1, h2, h3⟩
end Go.Abs
namespace Go.Abs
open Go
inductive Sc (s : List UInt8) : Nat → List TkD → Prop
  | fin {k : Nat} : s.length ≤ k → Sc s k []
  | blank {k : Nat} {l : List TkD} : k < s.length → isB (s.getD k 0) = true → Sc s (k + 1) l → Sc s k l
  | hsh {k : Nat} {l : List TkD} : k < s.length → s.getD k 0 = 35 → Sc s (runF notLF s k) l → Sc s k l
  | tok {k e : Nat} {t : TkD} {l : List TkD} : k < s.length → ¬ (isB (s.getD k 0) = true) → ¬ s.getD k 0 = 35 → oneF s k = (t, (e : Int), 0) → Sc s e l → Sc s k (t :: l)

theorem hash_gt' (s : List UInt8) (k : Nat) (h : k < s.length) (hh : s.getD k 0 = 35) : k < runF notLF s k ∧ runF notLF s k ≤ s.length := by
  have h1 := runF_step notLF s k h
  have h2 : notLF (s.getD k 0) = true := by rw [hh]; rfl
  rw [h2, if_pos rfl] at h1
  have h3 := runF_ge notLF s (k + 1)
  exact ⟨by omega, runF_le notLF s k (by omega)⟩
theorem scanF_sc (s : List UInt8) : ∀ (f k : Nat) (acc : List TkD), s.length < k + f → (scanF s f k acc).2.2 = 0 → ∃ l, Sc s k l ∧ scanF s f k acc = (acc ++ l, 0, 0)
  | 0, k, acc, hf, _ => ⟨[], .fin (by omega), by simp [scanF]⟩
  | f + 1, k, acc, hf, h => by
    rw [scanF] at h ⊢
    by_cases hk : k < s.length
    · rw [if_pos hk] at h ⊢
      by_cases hb : isB (s.getD k 0) = true
      · rw [if_pos hb] at h ⊢
        obtain ⟨l, h1, h2⟩ := scanF_sc s f (k + 1) acc (by omega) h
        exact ⟨l, .blank hk hb h1, h2⟩
      · rw [if_neg hb] at h ⊢
        by_cases hh : s.getD k 0 = 35
        · rw [if_pos hh] at h ⊢
          have hg := hash_gt' s k hk hh
          obtain ⟨l, h1, h2⟩ := scanF_sc s f (runF notLF s k) acc (by omega) h
          exact ⟨l, .hsh hk hh h1, h2⟩
        · rw [if_neg hh] at h ⊢
          by_cases h0 : (oneF s k).2.2 = 0
          · rw [if_pos h0] at h ⊢
            obtain ⟨e, he, h1, h2⟩ := oneF_end s k hk h0
            have het : (oneF s k).2.1.toNat = e := by rw [he]; simp
            rw [het] at h ⊢
            obtain ⟨l, g1, g2⟩ := scanF_sc s f e (acc ++ [(oneF s k).1]) (by omega) h
            refine ⟨(oneF s k).1 :: l, .tok hk hb hh ?_ g1, by rw [g2]; simp⟩
            rw [← he, ← h0]
          · rw [if_neg h0] at h
            exact absurd h h0
    · rw [if_neg hk]
      exact ⟨[], .fin (by omega), by simp⟩
theorem scanF_err (s : List UInt8) : ∀ (f k : Nat) (acc : List TkD), (scanF s f k acc).2.2 ≠ 0 → (scanF s f k acc).1 = [] ∧ 0 ≤ (scanF s f k acc).2.1 ∧ (scanF s f k acc).2.1 ≤ s.length
  | 0, k, acc, h => by simp [scanF] at h
  | f + 1, k, acc, h => by
    rw [scanF] at h ⊢
    by_cases hk : k < s.length
    · rw [if_pos hk] at h ⊢
      by_cases hb : isB (s.getD k 0) = true
      · rw [if_pos hb] at h ⊢
        exact scanF_err s f _ _ h
      · rw [if_neg hb] at h ⊢
        by_cases hh : s.getD k 0 = 35
        · rw [if_pos hh] at h ⊢
          exact scanF_err s f _ _ h
        · rw [if_neg hh] at h ⊢
          by_cases h0 : (oneF s k).2.2 = 0
          · rw [if_pos h0] at h ⊢
            exact scanF_err s f _ _ h
          · rw [if_neg h0]
            exact ⟨rfl, by simp, by simp; omega⟩
    · rw [if_neg hk] at h
      simp at h
theorem Sc.scanF {s : List UInt8} {k : Nat} {l : List TkD} (h : Sc s k l) : ∀ (f : Nat) (acc : List TkD), s.length < k + f → Go.Abs.scanF s f k acc = (acc ++ l, 0, 0) := by
  induction h with
  | fin hk => intro f acc _; rw [scanF_fin s f _ acc hk]; simp
  | @blank k l hk hb _ ih =>
    intro f acc hf
    obtain ⟨g, rfl⟩ : ∃ g, f = g + 1 := ⟨f - 1, by omega⟩
    rw [Go.Abs.scanF, if_pos hk, if_pos hb, ih g acc (by omega)]
  | @hsh k l hk hh _ ih =>
    intro f acc hf
    obtain ⟨g, rfl⟩ : ∃ g, f = g + 1 := ⟨f - 1, by omega⟩
    have hg := hash_gt' s k hk hh
    have hb : ¬ (isB (s.getD k 0) = true) := by rw [hh]; decide
    rw [Go.Abs.scanF, if_pos hk, if_neg hb, if_pos hh, ih g acc (by omega)]
  | @tok k e t l hk hb hh ho _ ih =>
    intro f acc hf
    obtain ⟨g, rfl⟩ : ∃ g, f = g + 1 := ⟨f - 1, by omega⟩
    obtain ⟨e', he, h1, h2⟩ := oneF_end s k hk (by rw [ho])
    rw [ho] at he
    simp only at he
    rw [Go.Abs.scanF, if_pos hk, if_neg hb, if_neg hh, ho]
    simp only [if_true, Int.toNat_natCast]
    rw [ih g _ (by omega)]
    simp
theorem scan_sc (s : List UInt8) (h : (scan s).2.2 = 0) : s.length ≤ 4096 ∧ ∃ l, Sc s 0 l ∧ scan s = (l, 0, 0) := by
  unfold scan at h ⊢
  by_cases hl : s.length > 4096
  · rw [if_pos hl] at h; simp at h
  · rw [if_neg hl] at h ⊢
    obtain ⟨l, h1, h2⟩ := scanF_sc s (s.length + 1) 0 [] (by omega) h
    exact ⟨by omega, l, h1, by rw [h2]; simp⟩
theorem Sc.scan {s : List UInt8} {l : List TkD} (h : Sc s 0 l) (hs : s.length ≤ 4096) : Go.Abs.scan s = (l, 0, 0) := by
  unfold Go.Abs.scan
  rw [if_neg (by omega), h.scanF _ _ (by omega)]
  simp
theorem scan_err (s : List UInt8) (h : (scan s).2.2 ≠ 0) : (scan s).1 = [] ∧ 0 ≤ (scan s).2.1 ∧ (scan s).2.1 ≤ s.length := by
  unfold scan at h ⊢
  by_cases hl : s.length > 4096
  · rw [if_pos hl]; exact ⟨rfl, by simp, by simp⟩
  · rw [if_neg hl] at h ⊢
    exact scanF_err s _ _ _ h
end Go.Abs
namespace Go.Abs
open Go
structure Good (t : TkD) (w : List UInt8) : Prop where
  ne : w ≠ []
  kinds : (t.kind = 1 ∧ t.text = w ∧ t.value = 0 ∧ isL (w.getD 0 0) = true ∧ (∀ c ∈ w, isW c = true) ∧ w.length ≤ 16) ∨
    (t.kind = 2 ∧ t.text = [] ∧ t.value = valF w ∧ Num w ∧ valF w < 9223372036854775808) ∨
    (t.kind = 3 ∧ t.text = w ∧ t.value = 0 ∧ isL (w.getD 0 0) = false ∧ isD (w.getD 0 0) = false ∧
      ((w.length = 1 ∧ signF (w.getD 0 0).toNat 0 = 1) ∨ (w.length = 2 ∧ signF (w.getD 0 0).toNat (w.getD 1 0).toNat = 2)))
def nx (r : List UInt8) : Int := match r with
  | [] => 0
  | c :: _ => (c.toNat : Int)
def okNext (t : TkD) (w r : List UInt8) : Prop :=
  (t.kind ≠ 3 → ∀ c, r.head? = some c → isW c = false) ∧ (t.kind = 3 → w.length = 1 → signF (w.getD 0 0).toNat (nx r) = 1)
theorem nextB_nx (s : List UInt8) (a : Nat) : nextB s a = nx (s.drop (a + 1)) := by
  unfold nextB
  by_cases h : a + 1 < s.length
  · rw [if_pos h, List.drop_eq_getElem_cons h]
    simp [nx, List.getD, h]
  · rw [if_neg h, List.drop_eq_nil_of_le (by omega)]
    rfl
theorem sign_one {c n : Int} (h : signF c n = 1) (m : Int) (hm : m ≠ 61) : signF c m = 1 := by
  unfold signF at h ⊢
  have hm' : (m == 61) = false := by simpa using hm
  rw [hm']
  split
  · rfl
  · rename_i h1
    rw [if_neg h1] at h
    split
    · rfl
    · rename_i h2
      rw [if_neg h2] at h
      split at h <;> omega
theorem run_stop (p : UInt8 → Bool) (s : List UInt8) (a : Nat) : ∀ c, (s.drop (runF p s a)).head? = some c → p c = false := by
  intro c hc
  unfold runF at hc
  rw [← List.drop_drop] at hc
  generalize s.drop a = u at hc
  induction u with
  | nil => simp at hc
  | cons x u ih =>
    rw [List.takeWhile_cons] at hc
    by_cases hx : p x = true
    · rw [if_pos hx] at hc
      simp at hc
      exact ih (by simpa using hc)
    · rw [if_neg hx] at hc
      simp at hc
      subst hc
      simpa using hx
theorem run_cut (p : UInt8 → Bool) (s : List UInt8) (a : Nat) : ∀ c ∈ cut s a (runF p s a), p c = true := by
  intro c hc
  unfold cut runF at hc
  rw [List.drop_take, show a + ((s.drop a).takeWhile p).length - a = ((s.drop a).takeWhile p).length by omega] at hc
  generalize s.drop a = u at hc
  have h1 : u.take (u.takeWhile p).length = u.takeWhile p := by
    induction u with
    | nil => simp
    | cons x u ih =>
      rw [List.takeWhile_cons]
      by_cases hx : p x = true
      · rw [if_pos hx] at *
        simp only [List.length_cons, List.take_succ_cons]
        rw [List.takeWhile_cons, if_pos hx] at hc
        simp only [List.length_cons, List.take_succ_cons] at hc
        congr 1
        clear hc
        clear ih
        induction u with
        | nil => simp
        | cons y u ih2 =>
          rw [List.takeWhile_cons]
          by_cases hy : p y = true
          · rw [if_pos hy]; simp only [List.length_cons, List.take_succ_cons]; rw [ih2]
          · rw [if_neg hy]; simp
      · rw [if_neg hx]; simp
  rw [h1] at hc
  clear h1
  induction u with
  | nil => simp at hc
  | cons x u ih =>
    rw [List.takeWhile_cons] at hc
    by_cases hx : p x = true
    · rw [if_pos hx] at hc
      rcases List.mem_cons.1 hc with rfl | hc
      · exact hx
      · exact ih hc
    · rw [if_neg hx] at hc; simp at hc
theorem cut_get0 (s : List UInt8) (a e : Nat) (h : a < e) (he : e ≤ s.length) : (cut s a e).getD 0 0 = s.getD a 0 := by
  unfold cut
  simp [List.getD, List.getElem?_drop, List.getElem?_take, h]
theorem cut_get1 (s : List UInt8) (a e : Nat) (h : a + 1 < e) (he : e ≤ s.length) : (cut s a e).getD 1 0 = s.getD (a + 1) 0 := by
  unfold cut
  simp [List.getD, List.getElem?_drop, List.getElem?_take, h]
theorem one_good (s : List UInt8) (k e : Nat) (t : TkD) (hk : k < s.length) (h : oneF s k = (t, (e : Int), 0)) : Good t (cut s k e) ∧ t.pos = k ∧ k < e ∧ e ≤ s.length ∧ okNext t (cut s k e) (s.drop e) := by
  obtain ⟨e', he', hlt, hle⟩ := oneF_end s k hk (by rw [h])
  rw [h] at he'
  simp only [Int.ofNat_inj] at he'
  have hee : e = e' := by omega
  subst hee
  have hne := cut_ne s k e hlt hle
  have hg0 := cut_get0 s k e hlt hle
  have hcl := cut_len s k e hle
  unfold oneF at h
  by_cases hl : isL (s.getD k 0) = true
  · rw [if_pos hl] at h
    by_cases h16 : runF isW s k - k > 16
    · rw [if_pos h16] at h; simp at h
    · rw [if_neg h16] at h
      simp only [Prod.mk.injEq, Int.ofNat_inj, and_true] at h
      obtain ⟨rfl, h2⟩ := h
      have h2' : runF isW s k = e := by omega
      subst h2'
      refine ⟨⟨hne, .inl ⟨rfl, rfl, rfl, by rw [hg0]; exact hl, run_cut isW s k, by omega⟩⟩, rfl, hlt, hle, ?_, ?_⟩
      · intro _; exact run_stop isW s k
      · intro hc; simp at hc
  · rw [if_neg hl] at h
    by_cases hd : isD (s.getD k 0) = true
    · rw [if_pos hd] at h
      unfold numF at h
      have hnl := numEnd_le s k hk
      by_cases hw : runF isW s (numEnd s k) > numEnd s k
      · rw [if_pos hw] at h; simp at h
      · rw [if_neg hw] at h
        by_cases hv : valF (cut s k (numEnd s k)) < 9223372036854775808
        · rw [if_pos hv] at h
          simp only [Prod.mk.injEq, Int.ofNat_inj, and_true] at h
          obtain ⟨rfl, h2⟩ := h
          have h2' : numEnd s k = e := by omega
          have hstop := run_stop isW s (numEnd s k)
          have hge := runF_ge isW s (numEnd s k)
          rw [show runF isW s (numEnd s k) = numEnd s k by omega, h2'] at hstop
          rw [h2'] at hv hge hw ⊢
          refine ⟨⟨hne, .inr (.inl ⟨rfl, rfl, rfl, ⟨?_, hne, ?_⟩, hv⟩)⟩, rfl, hlt, hle, ?_, ?_⟩
          · unfold numEnd at h2'
            split at h2'
            · rw [← h2', cut_succ s k k hk (Nat.le_refl _), cut_self]; simpa using hd
            · have h3 := run_cut isD s k
              rw [runF_step isD s k hk, if_pos hd, h2'] at h3
              exact h3
          · intro h48
            rw [hg0] at h48
            unfold numEnd at h2'
            rw [if_pos h48] at h2'
            omega
          · intro _; exact hstop
          · intro hc; simp at hc
        · rw [if_neg hv] at h; simp at h
    · rw [if_neg hd] at h
      by_cases h0 : signF (s.getD k 0).toNat (nextB s k) = 0
      · rw [if_pos h0] at h; simp at h
      · rw [if_neg h0] at h
        have hs := signF_le (s.getD k 0).toNat (nextB s k)
        simp only [Prod.mk.injEq, and_true] at h
        obtain ⟨rfl, h2⟩ := h
        have h2' : k + (signF (s.getD k 0).toNat (nextB s k)).toNat = e := by omega
        rw [h2']
        have hl' : isL (s.getD k 0) = false := by simpa using hl
        have hd' : isD (s.getD k 0) = false := by simpa using hd
        by_cases h1 : signF (s.getD k 0).toNat (nextB s k) = 1
        · have he1 : e = k + 1 := by omega
          refine ⟨⟨hne, .inr (.inr ⟨rfl, rfl, rfl, by rw [hg0]; exact hl', by rw [hg0]; exact hd', .inl ⟨by omega, ?_⟩⟩)⟩, rfl, hlt, hle, ?_, ?_⟩
          · rw [hg0]; exact sign_one h1 0 (by omega)
          · intro hc; simp at hc
          · intro _ _
            rw [hg0, he1, ← nextB_nx]
            exact h1
        · have h22 : signF (s.getD k 0).toNat (nextB s k) = 2 := by omega
          have he1 : e = k + 2 := by omega
          have hg1 := cut_get1 s k e (by omega) hle
          refine ⟨⟨hne, .inr (.inr ⟨rfl, rfl, rfl, by rw [hg0]; exact hl', by rw [hg0]; exact hd', .inr ⟨by omega, ?_⟩⟩)⟩, rfl, hlt, hle, ?_, ?_⟩
          · rw [hg0, hg1]
            rw [← h22]
            unfold nextB
            rw [if_pos (by omega)]
          · intro hc; simp at hc
          · intro _ hc; omega
end Go.Abs
namespace Go.Abs
open Go
theorem head_getD (r : List UInt8) (p : List UInt8) (h : r ≠ []) : (p ++ r).getD p.length 0 = r.getD 0 0 := by
  cases r with
  | nil => exact absurd rfl h
  | cons c t => simp [List.getD]
theorem run_mid (q : UInt8 → Bool) (p w r : List UInt8) (hw : ∀ c ∈ w, q c = true) (hr : ∀ c, r.head? = some c → q c = false) : runF q (p ++ w ++ r) p.length = p.length + w.length := by
  have h1 := run_all q w hw 0 (by omega) r hr
  unfold runF at h1 ⊢
  rw [List.append_assoc, List.drop_append, List.drop_eq_nil_of_le (Nat.le_refl _), Nat.sub_self, List.nil_append]
  simp only [List.drop_zero] at h1 ⊢
  omega
theorem run_at (q : UInt8 → Bool) (p r : List UInt8) (hr : ∀ c, r.head? = some c → q c = false) : runF q (p ++ r) p.length = p.length := by
  unfold runF
  rw [List.drop_append, List.drop_eq_nil_of_le (Nat.le_refl _), Nat.sub_self, List.nil_append, List.drop_zero]
  cases r with
  | nil => simp
  | cons c t => rw [List.takeWhile_cons, hr c rfl]; simp
theorem good_one (t : TkD) (w p r : List UInt8) (hg : Good t w) (hn : okNext t w r) : oneF (p ++ w ++ r) p.length = ({ t with pos := p.length }, ((p.length + w.length : Nat) : Int), 0) := by
  obtain ⟨hne, hk⟩ := hg
  have h0 := getD_mid p w r hne
  have hcut := cut_mid p w r
  unfold oneF
  rw [h0]
  obtain ⟨kind, text, value, pos⟩ := t
  rcases hk with ⟨h1, h2, h3, h4, h5, h6⟩ | ⟨h1, h2, h3, h4, h5⟩ | ⟨h1, h2, h3, h4, h5, h6⟩
  · simp only at h1 h2 h3
    subst h1 h2 h3
    have hr := run_mid isW p text r h5 (hn.1 (by simp))
    rw [if_pos h4, hr, if_neg (by omega), hcut]
  · simp only at h1 h2 h3
    subst h1 h2 h3
    have hD : isD (w.getD 0 0) = true := by
      cases w with
      | nil => exact absurd rfl hne
      | cons c t => exact h4.all c (by simp)
    have hs := hn.1 (by simp)
    have hne2 := num_end p w r h4 (fun c hc => by
      have := hs c hc
      cases h : isD c with
      | false => rfl
      | true => rw [isD_W h] at this; exact absurd this (by simp))
    have hr := run_at isW (p ++ w) r hs
    rw [List.length_append] at hr
    rw [isD_notL hD, if_neg (by simp), if_pos hD]
    unfold numF
    rw [hne2, hcut, hr, if_neg (by omega), if_pos h5]
  · simp only at h1 h2 h3
    subst h1 h2 h3
    have hnb : nextB (p ++ text ++ r) p.length = nx ((text ++ r).drop 1) := by
      rw [nextB_nx, List.append_assoc, List.drop_append, List.drop_eq_nil_of_le (by omega), List.nil_append, show p.length + 1 - p.length = 1 by omega]
    rw [h4, h5, if_neg (by simp), if_neg (by simp), hnb]
    have key : signF (text.getD 0 0).toNat (nx ((text ++ r).drop 1)) = text.length := by
      rcases h6 with ⟨h7, h8⟩ | ⟨h7, h8⟩
      · match text, h7 with
        | [c], _ =>
          have := hn.2 rfl rfl
          simpa using this
      · match text, h7 with
        | [c, d], _ => simpa [nx] using h8
    rw [key]
    have hpos : 0 < text.length := List.length_pos_iff.2 hne
    rw [if_neg (by omega), Int.toNat_natCast, hcut]
    simp
def stopR (r : List UInt8) : Prop := ∀ c, r.head? = some c → isB c = true ∨ c = 35
theorem stopR_nil : stopR [] := by intro c h; simp at h
theorem stop_next (t : TkD) (w r : List UInt8) (hg : Good t w) (hr : stopR r) : okNext t w r := by
  refine ⟨fun _ c hc => ?_, fun h3 hl => ?_⟩
  · rcases hr c hc with h | h
    · rcases isB_or h with h | h | h | h <;> subst h <;> decide
    · subst h; decide
  · rcases hg.kinds with h | h | ⟨_, _, _, _, _, h6⟩
    · rw [h.1] at h3; omega
    · rw [h.1] at h3; omega
    · have h1 : signF (w.getD 0 0).toNat 0 = 1 := by
        rcases h6 with h6 | h6
        · exact h6.2
        · omega
      refine sign_one h1 _ ?_
      cases r with
      | nil => simp [nx]
      | cons c r =>
        rcases hr c rfl with h | h
        · rcases isB_or h with h | h | h | h <;> subst h <;> simp [nx]
        · subst h; simp [nx]
end Go.Abs
namespace Go.Abs
open Go
def strip (t : TkD) : TkD := { t with pos := 0 }
def Su (u : List UInt8) (l : List TkD) : Prop := ∀ p : List UInt8, ∃ l', Sc (p ++ u) p.length l' ∧ l'.map strip = l.map strip
theorem Su.nil : Su [] [] := fun p => ⟨[], .fin (by simp), rfl⟩
theorem Su.blank {c : UInt8} {u : List UInt8} {l : List TkD} (hc : isB c = true) (h : Su u l) : Su (c :: u) l := by
  intro p
  obtain ⟨l', h1, h2⟩ := h (p ++ [c])
  refine ⟨l', .blank (by simp) ?_ ?_, h2⟩
  · have : (p ++ c :: u).getD p.length 0 = c := by simp [List.getD]
    rw [this]; exact hc
  · simpa using h1
theorem Su.comment {x u : List UInt8} {l : List TkD} (hx : ∀ c ∈ x, notLF c = true) (h : Su (10 :: u) l) : Su (35 :: (x ++ 10 :: u)) l := by
  intro p
  obtain ⟨l', h1, h2⟩ := h (p ++ 35 :: x)
  have he : p ++ 35 :: (x ++ 10 :: u) = p ++ (35 :: x) ++ 10 :: u := by simp
  have hr := run_mid notLF p (35 :: x) (10 :: u) (fun c hc => by
    rcases List.mem_cons.1 hc with rfl | hc
    · rfl
    · exact hx c hc) (fun c hc => by simp at hc; subst hc; rfl)
  refine ⟨l', .hsh (by simp) ?_ ?_, h2⟩
  · simp [List.getD]
  · rw [he, hr]
    simpa using h1
theorem good_first {t : TkD} {w : List UInt8} (hg : Good t w) : ¬ (isB (w.getD 0 0) = true) ∧ ¬ w.getD 0 0 = 35 := by
  have key : ∀ c : UInt8, (isB c = true ∨ c = 35) → isL c = false ∧ isD c = false ∧ ∀ n, signF c.toNat n = 0 := by
    intro c h
    have hx : c = 9 ∨ c = 10 ∨ c = 13 ∨ c = 32 ∨ c = 35 := by
      rcases h with h | h
      · rcases isB_or h with h | h | h | h <;> simp [h]
      · simp [h]
    rcases hx with rfl | rfl | rfl | rfl | rfl <;> exact ⟨by decide, by decide, fun n => by simp [signF]⟩
  have main : ¬ (isB (w.getD 0 0) = true ∨ w.getD 0 0 = 35) := by
    intro h
    obtain ⟨h1, h2, h3⟩ := key _ h
    rcases hg.kinds with ⟨_, _, _, h4, _⟩ | ⟨_, _, _, h4, _⟩ | ⟨_, _, _, _, _, h4⟩
    · rw [h1] at h4; simp at h4
    · have : isD (w.getD 0 0) = true := by
        cases w with
        | nil => exact absurd rfl hg.ne
        | cons c t => exact h4.all c (by simp)
      rw [h2] at this; simp at this
    · rcases h4 with ⟨_, h4⟩ | ⟨_, h4⟩
      · rw [h3] at h4; omega
      · rw [h3] at h4; omega
  exact ⟨fun h => main (.inl h), fun h => main (.inr h)⟩
theorem Su.tok {t : TkD} {w u : List UInt8} {l : List TkD} (hg : Good t w) (hs : stopR u) (h : Su u l) : Su (w ++ u) (t :: l) := by
  intro p
  obtain ⟨l', h1, h2⟩ := h (p ++ w)
  have ho := good_one t w p u hg (stop_next t w u hg hs)
  have hf := good_first hg
  have h0 := getD_mid p w u hg.ne
  have hpos : 0 < w.length := List.length_pos_iff.2 hg.ne
  rw [List.append_assoc] at ho h0 h1
  rw [List.length_append] at h1
  refine ⟨{ t with pos := p.length } :: l', .tok (by simp; omega) (by rw [h0]; exact hf.1) (by rw [h0]; exact hf.2) ho h1, ?_⟩
  simp [h2, strip]
theorem Sc.good {s : List UInt8} {k : Nat} {l : List TkD} (h : Sc s k l) : ∀ t ∈ l, ∃ e : Nat, ∃ a : Nat, t.pos = a ∧ k ≤ a ∧ a < e ∧ e ≤ s.length ∧ Good t (cut s a e) := by
  induction h with
  | fin _ => intro t ht; simp at ht
  | blank hk hb _ ih =>
    intro t ht
    obtain ⟨e, a, h1, h2, h3⟩ := ih t ht
    exact ⟨e, a, h1, by omega, h3⟩
  | @hsh k l hk hh _ ih =>
    intro t ht
    obtain ⟨e, a, h1, h2, h3⟩ := ih t ht
    have := hash_gt' s k hk hh
    exact ⟨e, a, h1, by omega, h3⟩
  | @tok k e t l hk hb hh ho _ ih =>
    intro x hx
    obtain ⟨g1, g2, g3, g4, _⟩ := one_good s k e t hk ho
    rcases List.mem_cons.1 hx with rfl | hx
    · exact ⟨e, k, g2, by omega, g3, g4, g1⟩
    · obtain ⟨e', a, h1, h2, h3⟩ := ih x hx
      exact ⟨e', a, h1, by omega, h3⟩
theorem dg_back : ∀ (f : Nat) (d : List UInt8), (∀ c ∈ d, isD c = true) → (d.getD 0 0 ≠ 48) → d.length ≤ f → dg f (valF d) = d ∧ (d ≠ [] → 0 < valF d)
  | 0, d, hd, h0, hl => by
    have : d = [] := List.length_eq_zero_iff.1 (by omega)
    subst this
    exact ⟨rfl, fun h => absurd rfl h⟩
  | f + 1, d, hd, h0, hl => by
    by_cases hne : d = []
    · subst hne; exact ⟨dg_zero _, fun h => absurd rfl h⟩
    · obtain ⟨r, c, rfl⟩ : ∃ r c, d = r ++ [c] := ⟨d.dropLast, d.getLast hne, (List.dropLast_concat_getLast hne).symm⟩
      have hc := digit_le (hd c (by simp))
      have hv : valF (r ++ [c]) = valF r * 10 + (c.toNat - 48) := by
        unfold valF; rw [valA_append]; rfl
      by_cases hr : r = []
      · subst hr
        have hc48 : c ≠ 48 := by simpa using h0
        have hcn : c.toNat ≠ 48 := fun e => hc48 (UInt8.toNat.inj (by simpa using e))
        have hv1 : valF [c] = c.toNat - 48 := by simp [valF, valA]
        rw [List.nil_append, hv1, dg_step _ _ (by omega), show (c.toNat - 48) / 10 = 0 by omega, dg_zero, show 48 + (c.toNat - 48) % 10 = c.toNat by omega]
        exact ⟨by simp, fun _ => by omega⟩
      · have h0' : r.getD 0 0 ≠ 48 := by
          cases r with
          | nil => exact absurd rfl hr
          | cons x r => simpa using h0
        obtain ⟨ih1, ih2⟩ := dg_back f r (fun x hx => hd x (by simp [hx])) h0' (by simp at hl; omega)
        have hp := ih2 hr
        rw [hv, dg_step _ _ (by omega), show (valF r * 10 + (c.toNat - 48)) / 10 = valF r by omega, ih1, show 48 + (valF r * 10 + (c.toNat - 48)) % 10 = c.toNat by omega]
        exact ⟨by simp, fun _ => by omega⟩
theorem valA_low : ∀ (l : List UInt8) (acc : Nat), acc * 10 ^ l.length ≤ valA l acc
  | [], acc => by simp [valA]
  | c :: r, acc => by
    rw [valA_cons]
    refine Nat.le_trans ?_ (valA_low r _)
    rw [List.length_cons, Nat.pow_succ, Nat.mul_comm (10 ^ r.length) 10, ← Nat.mul_assoc]
    exact Nat.mul_le_mul_right _ (by omega)
theorem num_len {d : List UInt8} (hd : Num d) (hv : valF d < 9223372036854775808) : d.length ≤ 20 := by
  cases d with
  | nil => simp
  | cons c r =>
    by_cases h48 : c = 48
    · subst h48; have := hd.lead rfl; omega
    · have hc := digit_le (hd.all c (by simp))
      have hcn : c.toNat ≠ 48 := fun e => h48 (UInt8.toNat.inj (by simpa using e))
      have hlow := valA_low r (c.toNat - 48)
      have hvv : valF (c :: r) = valA r (c.toNat - 48) := by unfold valF; rw [valA_cons]; simp
      rw [hvv] at hv
      by_cases hl : r.length ≤ 18
      · simp; omega
      · exfalso
        have h1 : 10 ^ 19 ≤ 10 ^ r.length := Nat.pow_le_pow_right (by omega) (by omega)
        have h2 : 1 * 10 ^ r.length ≤ (c.toNat - 48) * 10 ^ r.length := Nat.mul_le_mul_right _ (by omega)
        have h3 : (10 : Nat) ^ 19 = 10000000000000000000 := by decide
        omega
theorem num_dec {d : List UInt8} (hd : Num d) (hv : valF d < 9223372036854775808) : decF (valF d) = d := by
  by_cases h48 : d.getD 0 0 = 48
  · have hl := hd.lead h48
    match d, hl with
    | [c], _ => simp at h48; subst h48; rfl
  · obtain ⟨h1, h2⟩ := dg_back 20 d hd.all h48 (num_len hd hv)
    have := h2 hd.ne
    unfold decF
    rw [if_neg (by omega), Int.toNat_natCast, h1]
def wordT (t : TkD) : List UInt8 := if t.kind = 1 ∨ t.kind = 3 then t.text else if t.kind = 2 then decF t.value else []
theorem Good.word {t : TkD} {w : List UInt8} (hg : Good t w) : wordT t = w := by
  unfold wordT
  rcases hg.kinds with ⟨h1, h2, _⟩ | ⟨h1, _, h3, h4, h5⟩ | ⟨h1, h2, _⟩
  · rw [if_pos (.inl h1), h2]
  · rw [if_neg (by omega), if_pos h1, h3, num_dec h4 h5]
  · rw [if_pos (.inr h1), h2]
end Go.Abs
namespace Go.Abs
open Go
theorem dec_dg : ∀ (f m : Nat), 0 < m → m < 10 ^ f → Lib.decDigits m = dg f m
  | 0, m, h0, h => by simp at h; omega
  | f + 1, m, h0, h => by
    rw [dg_step _ _ (by omega), Lib.decDigits]
    by_cases h9 : m < 10
    · rw [dif_pos h9, Nat.div_eq_of_lt h9, dg_zero, Nat.mod_eq_of_lt h9]; rfl
    · rw [dif_neg h9, dec_dg f (m / 10) (by omega) (by rw [Nat.pow_succ] at h; omega)]
theorem itoa_dec (v : Int) (h : v ≤ 9223372036854775807) : Lib.itoa (imax v 0) = decF v := by
  unfold decF Lib.itoa imax
  by_cases h0 : v ≤ 0
  · rw [if_pos h0]
    by_cases h1 : v < 0
    · simp [h1, Lib.decDigits]
    · have : v = 0 := by omega
      subst this
      simp [Lib.decDigits]
  · rw [if_neg h0, if_neg (by omega : ¬ v < 0)]
    rw [if_neg (by omega)]
    exact dec_dg 20 v.toNat (by omega) (by omega)
def printF (l : List TkD) : List UInt8 := Lib.join (l.map wordT) [32]
def rowP (l : List TkD) (k : Nat) : List (List PVal) := ((l.take k).map fun t => [PVal.str (wordT t)]) ++ List.replicate (l.length - k) [PVal.str []]
theorem rowP_zero (l : List TkD) : rowP l 0 = List.replicate l.length [PVal.str []] := by simp [rowP]
theorem rowP_len (l : List TkD) (k : Nat) (h : k ≤ l.length) : (rowP l k).length = l.length := by simp [rowP]; omega
theorem rowP_end (l : List TkD) : rowP l l.length = (l.map wordT).map fun s => [PVal.str s] := by simp [rowP]
theorem rowP_step (l : List TkD) (k : Nat) (h : k < l.length) : rowP l (k + 1) = (rowP l k).set k [.str (wordT (l.getD k tk0))] := by
  have h1 : l.length - k = (l.length - (k + 1)) + 1 := by omega
  have h2 : l.getD k tk0 = l[k] := by simp [List.getD, h]
  have hk : ((l.take k).map fun t => [PVal.str (wordT t)]).length = k := by simp; omega
  unfold rowP
  rw [List.set_append_right _ _ (by rw [hk]; omega), hk, Nat.sub_self, h1, List.replicate_succ, List.set_cons_zero, h2, List.take_succ_eq_append_getElem h, List.map_append, List.append_assoc]
  rfl
theorem rowP_same (l : List TkD) (k : Nat) (h : k < l.length) (hw : wordT (l.getD k tk0) = []) : rowP l (k + 1) = rowP l k := by
  rw [rowP_step l k h, hw]
  have hk : ((l.take k).map fun t => [PVal.str (wordT t)]).length = k := by simp; omega
  apply List.ext_getElem?
  intro i
  rw [List.getElem?_set]
  by_cases hi : k = i
  · subst hi
    rw [if_pos rfl, if_pos (by rw [rowP_len l k (by omega)]; exact h)]
    unfold rowP
    rw [List.getElem?_append_right (by rw [hk]; omega), hk, Nat.sub_self, List.getElem?_replicate, if_pos (by omega)]
  · rw [if_neg hi]
theorem rowP_get (l : List TkD) (k : Nat) (h : k < l.length) : (rowP l k).getD k [] = [.str []] := by
  have hk : ((l.take k).map fun t => [PVal.str (wordT t)]).length = k := by simp; omega
  unfold rowP
  rw [List.getD, List.getElem?_append_right (by rw [hk]; omega), hk, Nat.sub_self, List.getElem?_replicate, if_pos (by omega)]
  rfl
theorem rowP_put (l : List TkD) (k : Nat) (h : k < l.length) (w : List UInt8) (hw : wordT (l.getD k tk0) = w) : rowSet (rowP l k) k 0 [.str w] = rowP l (k + 1) := by
  rw [rowP_step l k h, hw, rowSet, rowP_get l k h]
  rfl
theorem lens_le (K : Nat) : ∀ xs : List (List UInt8), (∀ x ∈ xs, x.length ≤ K) → Lib.lens xs ≤ K * xs.length
  | [], _ => by simp [Lib.lens]
  | x :: r, h => by
    have h1 := lens_le K r (fun y hy => h y (by simp [hy]))
    have h2 := h x (by simp)
    have e : Lib.lens (x :: r) = x.length + Lib.lens r := by simp [Lib.lens]
    rw [e, List.length_cons, Nat.mul_succ]
    omega
theorem print_len (l : List TkD) (K : Nat) (h : ∀ t ∈ l, (wordT t).length ≤ K) : (printF l).length ≤ (K + 1) * l.length := by
  unfold printF
  cases l with
  | nil => simp [Lib.join_nil]
  | cons t r =>
    rw [List.map_cons, Lib.join_length]
    have := lens_le K ((t :: r).map wordT) (fun x hx => by
      obtain ⟨t', ht', rfl⟩ := List.mem_map.1 hx
      exact h t' ht')
    rw [List.map_cons] at this
    simp only [List.length_cons, List.length_map, List.length_nil] at this ⊢
    have e : (K + 1) * (r.length + 1) = K * (r.length + 1) + (r.length + 1) := by rw [Nat.add_mul, Nat.one_mul]
    omega
theorem print_one (t : TkD) : printF [t] = wordT t := by simp [printF, Lib.join_one]
theorem join_snoc (xs : List (List UInt8)) (x : List UInt8) (h : xs ≠ []) : Lib.join (xs ++ [x]) [32] = Lib.join xs [32] ++ 32 :: x := by
  cases xs with
  | nil => exact absurd rfl h
  | cons y r => rw [List.cons_append, Lib.join_cons, Lib.join_cons]; simp [Lib.joinTail]
theorem print_snoc (l : List TkD) (t : TkD) (h : l ≠ []) : printF (l ++ [t]) = printF l ++ 32 :: wordT t := by
  unfold printF
  rw [List.map_append, List.map_cons, List.map_nil, join_snoc _ _ (by simpa using h)]
theorem print_cons (t t' : TkD) (r : List TkD) : printF (t :: t' :: r) = wordT t ++ 32 :: printF (t' :: r) := by
  unfold printF
  rw [List.map_cons, List.map_cons, Lib.join_cons, Lib.join_cons]; simp [Lib.joinTail]
end Go.Abs
namespace Go.Abs
open Go
def Off (s : List UInt8) : Nat → List TkD → Prop
  | _, [] => True
  | k, t :: r => ∃ a : Nat, t.pos = a ∧ k ≤ a ∧ 0 < (wordT t).length ∧ a + (wordT t).length ≤ s.length ∧ cut s a (a + (wordT t).length) = wordT t ∧ Off s (a + (wordT t).length) r
theorem Off.mono {s : List UInt8} {k k' : Nat} {l : List TkD} (h : Off s k l) (hk : k' ≤ k) : Off s k' l := by
  cases l with
  | nil => trivial
  | cons t r => obtain ⟨a, h1, h2, h3⟩ := h; exact ⟨a, h1, by omega, h3⟩
theorem one_word {s : List UInt8} {k e : Nat} {t : TkD} (hk : k < s.length) (h : oneF s k = (t, (e : Int), 0)) : t.pos = k ∧ cut s k e = wordT t ∧ e = k + (wordT t).length ∧ k < e ∧ e ≤ s.length := by
  obtain ⟨hg, hp, h1, h2, _⟩ := one_good s k e t hk h
  have hw := hg.word
  have hl := cut_len s k e h2
  exact ⟨hp, hw.symm, by rw [hw, hl]; omega, h1, h2⟩
theorem Sc.off {s : List UInt8} {k : Nat} {l : List TkD} (h : Sc s k l) : Off s k l := by
  induction h with
  | fin _ => trivial
  | blank _ _ _ ih => exact ih.mono (by omega)
  | @hsh k l hk hh _ ih => exact ih.mono (by have := (hash_gt' s k hk hh).1; omega)
  | @tok k e t l hk hb hh ho _ ih =>
    obtain ⟨h1, h2, h3, h4, h5⟩ := one_word hk ho
    refine ⟨k, h1, Nat.le_refl _, by omega, by omega, by rw [← h3]; exact h2, by rw [← h3]; exact ih⟩
theorem Sc.len {s : List UInt8} {k : Nat} {l : List TkD} (h : Sc s k l) : l.length ≤ s.length - k := by
  induction h with
  | fin _ => simp
  | blank _ _ _ ih => omega
  | @hsh k l hk hh _ ih => have := (hash_gt' s k hk hh); omega
  | @tok k e t l hk hb hh ho _ ih =>
    obtain ⟨h1, h2, h3, h4, h5⟩ := one_word hk ho
    simp only [List.length_cons]; omega
theorem Sc.vals {s : List UInt8} {k : Nat} {l : List TkD} (h : Sc s k l) : ∀ t ∈ l, t.value ≤ 9223372036854775807 ∧ 0 < (wordT t).length ∧ (wordT t).length ≤ s.length ∧ Good t (wordT t) := by
  intro t ht
  obtain ⟨e, a, _, h2, h3, h4, hg⟩ := h.good t ht
  have hw := hg.word
  have hl := cut_len s a e h4
  refine ⟨?_, by rw [hw, hl]; omega, by rw [hw, hl]; omega, by rw [hw]; exact hg⟩
  rcases hg.kinds with ⟨_, _, h, _⟩ | ⟨_, _, h, _, h5⟩ | ⟨_, _, h, _⟩
  all_goals rw [h]
  all_goals omega
theorem Sc.print {s : List UInt8} {l : List TkD} (h : Sc s 0 l) (hs : s.length ≤ 4096) : (printF l).length ≤ 140737488355328 := by
  have h1 := print_len l 4096 (fun t ht => by have := (h.vals t ht).2.2.1; omega)
  have h2 := h.len
  have h3 : (4096 + 1) * l.length ≤ 4097 * 4096 := Nat.mul_le_mul (by omega) (by omega)
  omega
theorem Su.print : ∀ l : List TkD, (∀ t ∈ l, Good t (wordT t)) → Su (printF l) l
  | [], _ => Su.nil
  | [t], h => by
    have := Su.tok (h t (by simp)) stopR_nil Su.nil
    rw [print_one]; simpa using this
  | t :: t' :: r, h => by
    rw [print_cons]
    have h1 := Su.print (t' :: r) (fun x hx => h x (by simp at hx ⊢; exact .inr hx))
    exact Su.tok (h t (by simp)) (fun c hc => by simp at hc; subst hc; exact .inl rfl) (Su.blank rfl h1)
theorem Su.sc {u : List UInt8} {l : List TkD} (h : Su u l) : ∃ l', Sc u 0 l' ∧ l'.map strip = l.map strip := by
  obtain ⟨l', h1, h2⟩ := h []
  exact ⟨l', by simpa using h1, h2⟩
theorem strip_get {l m : List TkD} (h : m.map strip = l.map strip) : m.length = l.length ∧ ∀ k, k < l.length → (m.getD k tk0).kind = (l.getD k tk0).kind ∧ (m.getD k tk0).text = (l.getD k tk0).text ∧ (m.getD k tk0).value = (l.getD k tk0).value := by
  have hl : m.length = l.length := by have := congrArg List.length h; simpa using this
  refine ⟨hl, fun k hk => ?_⟩
  have h1 := congrArg (fun x => x[k]?) h
  simp only [List.getElem?_map, List.getElem?_eq_getElem hk, List.getElem?_eq_getElem (show k < m.length by omega), Option.map_some, Option.some.injEq] at h1
  have e1 : m.getD k tk0 = m[k] := by simp [List.getD, hl, hk]
  have e2 : l.getD k tk0 = l[k] := by simp [List.getD, hk]
  rw [e1, e2]
  simp only [strip, TkD.mk.injEq] at h1
  exact ⟨h1.1, h1.2.1, h1.2.2.1⟩
end Go.Abs
namespace Go.Abs
open Go Go.ChangeShapes Go.WideShapes Go.ChangeAt Go.RowKit

def memOf (W : World) : Mem := fun b i => W.cell? ⟨b, i, none⟩

structure Held (W W' : World) : Prop where
  os : W'.os = W.os
  output : W'.output = W.output
  size : W.heap.size ≤ W'.heap.size
  same : ∀ b, b < W.heap.size → W'.heap[b]? = W.heap[b]?

theorem law_runs {P : Program} {gl : Nat → Option (List PVal)} {f : FuncId} {W : World} (pvs : List PVal) (vargs : List Value) (hac : AC P gl f (pvs.map .pv) [] (.pv (.bool true)) [])
    (hgl : GOK ⟨fun _ => none, gl, fun _ => 0, 0⟩ (memOf W)) (hex : ∀ b cs, gl b = some cs → cs ≠ [] → ∃ vals T l, W.heap[b]? = some (.cells vals T l) ∧ vals.size = cs.length) (hlen : vargs.length = pvs.length) (hrd : ∀ i, i < pvs.length → Rd (memOf W) (pvs.getD i .nilptr) (vargs.getD i undef)) :
    Calls P f vargs.toArray W fun e W' => e = .returned (.bool true) ∧ Held W W' := by
  have hR : Rel ⟨W, memOf W, blocksOf ⟨fun _ => 0, fun _ => 0, fun _ => false⟩ []⟩ ⟨pvs.map .pv, []⟩ ⟨fun _ => 0, fun _ => 0, fun _ => false⟩ (memOf W) ⟨vargs.toArray, []⟩ W := by
    refine ⟨by simpa using hlen, rfl, fun i hi => ?_, ?_, ?_, ?_, fun b i u h => h, Mem.le_refl _, fun _ _ _ _ => rfl, Nat.le_refl _, fun _ _ _ => rfl, ?_, rfl, rfl, rfl⟩
    · simp only [List.length_map] at hi
      have h1 := hrd i hi
      have e1 : St.slot ⟨pvs.map .pv, []⟩ i = .pv (pvs.getD i .nilptr) := by simp [St.slot, List.getD, hi]
      have e2 : vargs.toArray.getD i undef = vargs.getD i undef := by simp [Array.getD, List.getD, hlen, hi]
      rw [e1]
      show V _ _ _ _ (vargs.toArray.getD i undef)
      rw [e2]
      exact .pv h1
    · intro id o h; simp [St.obj] at h
    · intro id id' o o' b h; simp [St.obj] at h
    · intro id o b h; simp [St.obj] at h
    · intro id o b h; simp [St.obj] at h
  refine (hac W (memOf W) _ vargs hR ⟨hgl, fun b cs hb hne => ⟨by rintro ⟨id, ob, h, _⟩; simp at h, hex b cs hb hne⟩⟩).mono fun e W' ⟨v, g', M', he, hR', _⟩ => ?_
  have hs := hR'.slots 0 (by simp)
  have hv : v = .bool true := by
    have h1 : V g' (St.dom ⟨[.pv (.bool true)], []⟩) M' (.pv (.bool true)) v := by simpa [St.slot, Array.getD] using hs
    cases h1 with
    | pv h => cases h; rfl
  have hB : ∀ b, ¬ blocksOf ⟨fun _ => 0, fun _ => 0, fun _ => false⟩ [] b := by rintro b ⟨id, ob, h, _⟩; simp at h
  exact ⟨by rw [he, hv], hR'.os, hR'.output, hR'.size0, fun b hb => hR'.same b hb (hB b)⟩

section
variable {H : Type} {enc : TypeId × Value → H} {P : Program}

theorem Held.sameAt {W W' : World} (h : Held W W') {p : MemPlace} (hp : p.block < W.heap.size) : W.sameAt W' p := by
  cases p with
  | cell b off => show W'.cell? _ = W.cell? _; simp only [World.cell?]; rw [h.same b hp]
  | map b => exact h.same b hp

theorem trodAll_stays (hl : laidOutB P = true) {W W' : World} (hh : Held W W') {sp' : Nat → Bool} : ∀ {ts : List TypeId} {vs : List Value} {ds : List (DataW H)} {ps : List MemPlace}, (∀ t ∈ ts, P.readableRec t = true ∧ t < P.types.size) →
    DataW.TrodAll enc P W 0 (fun _ => true) true ts vs ds ps → (∀ p ∈ ps, p.block < W.heap.size) → (∀ p ∈ ps, sp' p.block = true) → DataW.TrodAll enc P W' 0 sp' true ts vs ds ps
  | [], [], [], _, _, h, _, _ => h
  | [], [], _ :: _, _, _, h, _, _ => h.elim
  | [], _ :: _, _, _, _, h, _, _ => h.elim
  | _ :: _, [], _, _, _, h, _, _ => h.elim
  | _ :: _, _ :: _, [], _, _, h, _, _ => h.elim
  | t :: ts, v :: vs, d :: ds, ps, hr, ⟨p, q, h1, h2, he⟩, hlt, hsp => by
    subst he
    have hr1 := hr t (by simp)
    exact ⟨p, q, WideElems.Trod_stays hl hr1.1 hr1.2 h1 (fun x hx => hh.sameAt (hlt x (by simp [hx]))) (fun x hx => hsp x (by simp [hx])),
      trodAll_stays hl hh (fun t ht => hr t (by simp [ht])) h2 (fun x hx => hlt x (by simp [hx])) (fun x hx => hsp x (by simp [hx])), rfl⟩

theorem Held.keptBut {W W' : World} (h : Held W W') (may : MemPlace → Prop) : W.keptBut W' may := by
  refine ⟨h.os, h.output, fun i hi => ?_⟩
  rw [h.same i hi]
  split
  · rename_i h1 h2; rw [h1] at h2; cases h2; exact ⟨rfl, rfl, rfl, fun _ _ => rfl⟩
  · rename_i h1 h2; rw [h1] at h2; cases h2; exact .inr ⟨rfl, rfl⟩
  · rfl

theorem law_post {f : Func} {s : ChangeSpec} {fresh handsOn again : Bool} {W W' : World} {args : Array Value} {ds gs : List (DataW H)} {before : List MemPlace} {tb : TypeId}
    (hl : laidOutB P = true) (hr : ∀ t ∈ f.params.toList, P.readableRec t = true ∧ t < P.types.size) (hrt : f.resultTypes = #[tb]) (htb : P.underlying tb = some .bool)
    (hvars : s.vars = []) (hfn : ∀ ds : List (DataW H), ds.length = f.params.size → (s.fn H ds).results = [.lit (.bool true)] ∧ (s.fn H ds).args = ds ∧ (s.fn H ds).vars = [])
    (hW : DataW.Whole enc P f.params.toList s.vars false W args.toList ds gs before) (hh : Held W W') :
    s.post enc P f false fresh handsOn again W args (.bool true) W' := by
  have hlt := hW.lt
  have hW' := hW
  obtain ⟨p, q, hA, hV, rfl, hz, hn⟩ := hW
  rw [hvars] at hV
  obtain ⟨rfl, rfl⟩ := trodVars_none hV
  rw [List.append_nil] at hlt hz hn hW'
  have hdl : ds.length = f.params.size := by
    have : ∀ {ts : List TypeId} {vs : List Value} {ds : List (DataW H)} {ps : List MemPlace}, DataW.TrodAll enc P W 0 (fun _ => true) true ts vs ds ps → ds.length = ts.length := by
      intro ts
      induction ts with
      | nil => intro vs ds ps h; obtain ⟨_, rfl, _⟩ := trodAll_nil h; rfl
      | cons t ts ih =>
        intro vs ds ps h
        obtain ⟨_, _, _, _, _, _, _, rfl, _, _, h2⟩ := trodAll_cons h
        simp [ih h2]
    simpa using this hA
  obtain ⟨f1, f2, f3⟩ := hfn (ds ++ []) (by simpa using hdl)
  have hres : ∀ (b : Nat) (sp : Nat → Bool) (hd : Bool), DataW.TrodAll enc P W' b sp hd f.resultTypes.toList ((Value.bool true).resultList f.resultTypes.size) (s.fn H (ds ++ [])).results [] := fun b sp hd => by
    rw [f1, hrt]
    exact trodAll_cons_mk (shut_bool htb _) trodAll_mk0
  have hargs : ∀ sp : Nat → Bool, (∀ x ∈ p, sp x.block = true) → DataW.TrodAll enc P W' 0 sp true f.params.toList args.toList (s.fn H (ds ++ [])).args p := fun sp hsp => by
    rw [f2, List.append_nil]
    exact trodAll_stays hl hh hr hA hlt hsp
  have hvs : ∀ sp : Nat → Bool, DataW.TrodVars enc P W' sp s.vars (s.fn H (ds ++ [])).vars [] := fun sp => by rw [hvars, f3]; rfl
  refine ⟨ds, [], p, [], p, [], hW', hres _ _ _, hargs _ (fun x hx => by simpa using hlt x hx), hvs _, hh.keptBut _, fun _ => ?_⟩
  refine ⟨?_, _, _, ([] ++ p) ++ [], ⟨[] ++ p, [], trodAll_append (hargs _ (fun _ _ => rfl)) (hres _ _ _), hvs _, rfl, ?_, ?_⟩, ?_⟩
  · exact ok_one (by rw [hrt]) rfl (okWide_bool_mk htb _)
  · intro b off hp
    have hp' : MemPlace.cell b off ∈ p := by simpa using hp
    have := hz b off hp'
    rw [World.frozen?, hh.same b (hlt _ hp')]
    exact this
  · intro ha; cases ha
  · intro x hx _
    simpa using hx
end
end Go.Abs
namespace Go.Abs
open Go Go.ChangeShapes Go.WideShapes Go.ChangeAt Go.RowKit Go.Deep

section
variable {H : Type} {enc : TypeId × Value → H} {P : Program} {W : World} {spare : Nat → Bool} {held : Bool}

theorem addr_add (b off k : Nat) : (⟨b, off, none⟩ : Addr).add k = ⟨b, off + k, none⟩ := by
  unfold Addr.add
  split
  · rename_i h; subst h; rfl
  · rfl

theorem spot_none {base : Nat} {t e : TypeId} {a : Addr} {len cap : Nat} (ht : P.underlying t = some (.slice e)) (hv : Value.okWide P W .any base t (.slice (some a) len cap)) : a.spot = none := by
  simp only [Value.okWide, ht, Cell.okWide, Cell.ok] at hv
  exact hv.2.2.2.1

theorem open_vars {base : Nat} {t e : TypeId} {f0 f1 f2 : Field} {v : Value} {d : DataW H} {p : List MemPlace} (ht : P.underlying t = some (.slice e)) (he : P.underlying e = some (.struct #[f0, f1, f2])) (hC : P.cellsOf e = 3)
    (o0 : f0.offset = 0 ∧ P.cellsOf f0.type = 1) (o1 : f1.offset = 1 ∧ P.cellsOf f1.type = 1) (o2 : f2.offset = 2 ∧ P.cellsOf f2.type = 1)
    (h0 : P.underlying f0.type = some .string) (h1 : P.underlying f1.type = some (.int .i64)) (h2 : P.underlying f2.type = some (.int .i64))
    (hval : Value.okWide P W .any base t v) (h : DataW.Trod enc P W 0 spare held t v d p) : ∃ l : List VarD, Rd (memOf W) (.slice (l.map encVar)) v := by
  obtain ⟨a', len', cap', rfl⟩ := okWide_slice ht hval
  obtain ⟨fuel, hf⟩ := h
  rcases open_slice ht hf with ⟨hcs, _⟩ | ⟨a, len, cap, m, n, D, Pl, hcs, _, hlc, _, hm, _, hi⟩
  · simp [Value.cells] at hcs
    obtain ⟨rfl, rfl, rfl⟩ := hcs
    exact ⟨[], .nils⟩
  · simp [Value.cells] at hcs
    obtain ⟨rfl, rfl, rfl⟩ := hcs
    have hsp := spot_none ht hval
    obtain ⟨b, off, sp⟩ := a
    cases hsp
    have hml : len' ≤ m := by rw [hm]; split <;> omega
    have key : ∀ i, ∃ x : VarD, i < len' → memOf W b (off + i * 3 + 0) = some (.string ⟨x.name.toArray⟩) ∧ memOf W b (off + i * 3 + 1) = some (.int .i64 x.size) ∧ memOf W b (off + i * 3 + 2) = some (.int .i64 x.init) := by
      intro i
      by_cases hil : i < len'
      · obtain ⟨cs, hc, ht'⟩ := hi i (by omega)
        rw [hC] at hc
        obtain ⟨_, hcl, hat⟩ := World.cells?_some hc
        obtain ⟨xs, n', _, _, _, hxl, hfd⟩ := DataW.trod_struct he ht'
        match cs, hcl with
        | [c0, c1, c2], _ =>
          have e0 := hfd 0 f0 rfl
          have e1 := hfd 1 f1 rfl
          have e2 := hfd 2 f2 rfl
          rw [o0.1, o0.2] at e0
          rw [o1.1, o1.2] at e1
          rw [o2.1, o2.2] at e2
          have hx : xs.length = 3 := hxl
          match xs, hx with
          | [x0, x1, x2], _ =>
            obtain ⟨s, hs, _, _⟩ := DataW.trod_string h0 e0
            obtain ⟨z1, hz1, _, _⟩ := DataW.trod_int h1 e1
            obtain ⟨z2, hz2, _, _⟩ := DataW.trod_int h2 e2
            simp at hs hz1 hz2
            subst hs hz1 hz2
            have a0 := hat 0 (by omega)
            have a1 := hat 1 (by omega)
            have a2 := hat 2 (by omega)
            rw [addr_add, addr_add] at a0 a1 a2
            refine ⟨⟨s.data.toList, z1, z2⟩, fun _ => ⟨?_, ?_, ?_⟩⟩
            · simpa [memOf] using a0
            · simpa [memOf] using a1
            · simpa [memOf] using a2
      · exact ⟨⟨[], 0, 0⟩, fun h => absurd h hil⟩
    let g : Nat → VarD := fun i => Classical.choose (key i)
    have hg : ∀ i, i < len' → _ := fun i hi => Classical.choose_spec (key i) hi
    refine ⟨(List.range len').map g, ?_⟩
    have hlen : (((List.range len').map g).map encVar).length = len' := by simp
    have := Rd.slice (M := memOf W) (((List.range len').map g).map encVar) 3 b off cap' (fun i j => match j with | 0 => .string ⟨(g i).name.toArray⟩ | 1 => .int .i64 (g i).size | _ => .int .i64 (g i).init)
      (fun x hx => by simp at hx; obtain ⟨i, _, rfl⟩ := hx; rfl) (fun i j hi hj => ?_) (fun i j hi hj => ?_) (by rw [hlen]; exact hlc)
    · rw [hlen] at this; exact this
    · rw [hlen] at hi
      obtain ⟨g0, g1, g2⟩ := hg i hi
      match j, hj with
      | 0, _ => exact g0
      | 1, _ => exact g1
      | 2, _ => exact g2
    · rw [hlen] at hi
      have hc : pcell (((List.range len').map g).map encVar) i j = (encVar (g i)).getD j .nilptr := by simp [pcell, List.getD, hi]
      rw [hc]
      match j, hj with
      | 0, _ => exact .str _
      | 1, _ => exact .int _ _
      | 2, _ => exact .int _ _
end
end Go.Abs
namespace Go.Abs
open Go

section
variable (op value : Int) (name : List UInt8) (slot size : Int) (args : List Ex) (place val : Ex) (body els : List Sm)
theorem Ex.op_mk : (Ex.mk op value name slot size args).op = op := rfl
theorem Ex.value_mk : (Ex.mk op value name slot size args).value = value := rfl
theorem Ex.name_mk : (Ex.mk op value name slot size args).name = name := rfl
theorem Ex.slot_mk : (Ex.mk op value name slot size args).slot = slot := rfl
theorem Ex.size_mk : (Ex.mk op value name slot size args).size = size := rfl
theorem Ex.args_mk : (Ex.mk op value name slot size args).args = args := rfl
theorem Sm.kind_mk : (Sm.mk op name slot size place val body els).kind = op := rfl
theorem Sm.name_mk : (Sm.mk op name slot size place val body els).name = name := rfl
theorem Sm.slot_mk : (Sm.mk op name slot size place val body els).slot = slot := rfl
theorem Sm.size_mk : (Sm.mk op name slot size place val body els).size = size := rfl
theorem Sm.place_mk : (Sm.mk op name slot size place val body els).place = place := rfl
theorem Sm.value_mk : (Sm.mk op name slot size place val body els).value = val := rfl
theorem Sm.body_mk : (Sm.mk op name slot size place val body els).body = body := rfl
theorem Sm.els_mk : (Sm.mk op name slot size place val body els).els = els := rfl
end

structure Pl where
  name : List UInt8
  slot : Int
  size : Int
def encPl (p : Pl) : PVal × Bool × List PVal := (.str p.name, true, [.int .i64 p.slot, .int .i64 p.size])
def plFind (n : List UInt8) : List Pl → Option (Int × Int)
  | [] => none
  | p :: r => if n = p.name then some (p.slot, p.size) else plFind n r
def plSet (n : List UInt8) (a b : Int) : List Pl → List Pl
  | [] => [⟨n, a, b⟩]
  | p :: r => if n = p.name then ⟨n, a, b⟩ :: r else p :: plSet n a b r
theorem mfind_enc (n : List UInt8) : ∀ l : List Pl, mfind (.str n) (l.map encPl) = (plFind n l).map fun q => (true, [.int .i64 q.1, .int .i64 q.2])
  | [] => rfl
  | p :: r => by
    simp only [List.map_cons, mfind, plFind]
    by_cases h : n = p.name
    · subst h; simp [keyEq, encPl]
    · have : keyEq (.str n) (encPl p).1 = false := by simp [keyEq, encPl, h]
      rw [this, if_neg h, if_neg (by simp)]
      exact mfind_enc n r
theorem mset_enc (n : List UInt8) (a b : Int) : ∀ l : List Pl, mset (.str n) (true, [.int .i64 a, .int .i64 b]) (l.map encPl) = (plSet n a b l).map encPl
  | [] => rfl
  | p :: r => by
    simp only [List.map_cons, mset, plSet]
    by_cases h : n = p.name
    · subst h; simp [keyEq, encPl]
    · have : keyEq (.str n) (encPl p).1 = false := by simp [keyEq, encPl, h]
      rw [this, if_neg h, if_neg (by simp)]
      simp [mset_enc n a b r]

abbrev Fl := Bool × Bool
def findF (pl : List Pl) (n : List UInt8) (arr : Bool) (f : Fl) : (Int × Int) × Fl :=
  match plFind n pl with
  | none => ((0, 0), (true, f.2))
  | some q => (q, (f.1, f.2 || (arr != decide (q.2 > 0))))
def headQ (pl : List Pl) (op : Int) (n : List UInt8) (a b : Int) (f : Fl) (k1 k2 : Int) : (Int × Int) × Fl :=
  if op = k1 then findF pl n false f else if op = k2 then findF pl n true f else ((a, b), f)
mutual
def rsE (pl : List Pl) : Ex → Fl → Ex × Fl
  | .mk op v n a b args, f =>
    (.mk op v n (headQ pl op n a b f 2 3).1.1 (headQ pl op n a b f 2 3).1.2 (rsEs pl args (headQ pl op n a b f 2 3).2).1, (rsEs pl args (headQ pl op n a b f 2 3).2).2)
def rsEs (pl : List Pl) : List Ex → Fl → List Ex × Fl
  | [], f => ([], f)
  | e :: r, f => ((rsE pl e f).1 :: (rsEs pl r (rsE pl e f).2).1, (rsEs pl r (rsE pl e f).2).2)
end
theorem rsE_eq (pl : List Pl) (e : Ex) (f : Fl) : rsE pl e f = (.mk e.op e.value e.name (headQ pl e.op e.name e.slot e.size f 2 3).1.1 (headQ pl e.op e.name e.slot e.size f 2 3).1.2 (rsEs pl e.args (headQ pl e.op e.name e.slot e.size f 2 3).2).1, (rsEs pl e.args (headQ pl e.op e.name e.slot e.size f 2 3).2).2) := by
  cases e; simp [rsE, Ex.op, Ex.value, Ex.name, Ex.slot, Ex.size, Ex.args]
theorem rsEs_len (pl : List Pl) : ∀ (l : List Ex) (f : Fl), (rsEs pl l f).1.length = l.length
  | [], f => by simp [rsEs]
  | e :: r, f => by simp [rsEs, rsEs_len pl r]
theorem rsEs_snoc (pl : List Pl) : ∀ (l : List Ex) (x : Ex) (f : Fl), rsEs pl (l ++ [x]) f = ((rsEs pl l f).1 ++ [(rsE pl x (rsEs pl l f).2).1], (rsE pl x (rsEs pl l f).2).2)
  | [], x, f => by simp [rsEs]
  | e :: r, x, f => by simp [rsEs, rsEs_snoc pl r]
mutual
def rsS (pl : List Pl) : Sm → Fl → Sm × Fl
  | .mk k n a b p v body els, f =>
    let q := headQ pl k n a b f 1 2
    let p' := rsE pl p q.2
    let v' := rsE pl v p'.2
    let b' := rsSs pl body v'.2
    let e' := rsSs pl els b'.2
    (.mk k n q.1.1 q.1.2 p'.1 v'.1 b'.1 e'.1, e'.2)
def rsSs (pl : List Pl) : List Sm → Fl → List Sm × Fl
  | [], f => ([], f)
  | e :: r, f => ((rsS pl e f).1 :: (rsSs pl r (rsS pl e f).2).1, (rsSs pl r (rsS pl e f).2).2)
end
def rsQ (pl : List Pl) (s : Sm) (f : Fl) := headQ pl s.kind s.name s.slot s.size f 1 2
def rsP (pl : List Pl) (s : Sm) (f : Fl) := rsE pl s.place (rsQ pl s f).2
def rsV (pl : List Pl) (s : Sm) (f : Fl) := rsE pl s.value (rsP pl s f).2
def rsB (pl : List Pl) (s : Sm) (f : Fl) := rsSs pl s.body (rsV pl s f).2
def rsL (pl : List Pl) (s : Sm) (f : Fl) := rsSs pl s.els (rsB pl s f).2
theorem rsS_eq (pl : List Pl) (s : Sm) (f : Fl) : rsS pl s f = (.mk s.kind s.name (rsQ pl s f).1.1 (rsQ pl s f).1.2 (rsP pl s f).1 (rsV pl s f).1 (rsB pl s f).1 (rsL pl s f).1, (rsL pl s f).2) := by
  cases s; simp [rsS, rsL, rsB, rsV, rsP, rsQ, Sm.kind, Sm.name, Sm.slot, Sm.size, Sm.place, Sm.value, Sm.body, Sm.els]
theorem rsSs_len (pl : List Pl) : ∀ (l : List Sm) (f : Fl), (rsSs pl l f).1.length = l.length
  | [], f => by simp [rsSs]
  | e :: r, f => by simp [rsSs, rsSs_len pl r]
theorem rsSs_snoc (pl : List Pl) : ∀ (l : List Sm) (x : Sm) (f : Fl), rsSs pl (l ++ [x]) f = ((rsSs pl l f).1 ++ [(rsS pl x (rsSs pl l f).2).1], (rsS pl x (rsSs pl l f).2).2)
  | [], x, f => by simp [rsSs]
  | e :: r, x, f => by simp [rsSs, rsSs_snoc pl r]
theorem rsEs_take (pl : List Pl) (l : List Ex) (f : Fl) (k : Nat) (h : k < l.length) : rsEs pl (l.take (k + 1)) f = ((rsEs pl (l.take k) f).1 ++ [(rsE pl l[k] (rsEs pl (l.take k) f).2).1], (rsE pl l[k] (rsEs pl (l.take k) f).2).2) := by rw [List.take_succ_eq_append_getElem h, rsEs_snoc]
theorem rsSs_take (pl : List Pl) (l : List Sm) (f : Fl) (k : Nat) (h : k < l.length) : rsSs pl (l.take (k + 1)) f = ((rsSs pl (l.take k) f).1 ++ [(rsS pl l[k] (rsSs pl (l.take k) f).2).1], (rsS pl l[k] (rsSs pl (l.take k) f).2).2) := by rw [List.take_succ_eq_append_getElem h, rsSs_snoc]

def dupP : List Pl → List VarD → Option (List Pl)
  | es, [] => some es
  | es, v :: r => if (plFind v.name es).isSome then none else dupP (plSet v.name 0 0 es) r
def fillP : List Pl → List Int → List VarD → Option (List Pl × List Int)
  | es, xs, [] => some (es, xs)
  | es, xs, v :: r => if mx v.size 1 > 32 - xs.length then none else fillP (plSet v.name xs.length v.size es) (xs ++ [v.init] ++ List.replicate ((mx v.size 1).toNat - 1) 0) r
structure CdD where
  init : List Int
  start : List Sm
  message : List Sm
  tick : List Sm
  input : List Sm
def enc1 (n : Int) : List PVal := [.int .i64 n]
def cdA (c : CdD) : AVal := .agg [.pv (.slice (c.init.map enc1)), .pv (.slice (c.start.map encSm)), .pv (.slice (c.message.map encSm)), .pv (.slice (c.tick.map encSm)), .pv (.slice (c.input.map encSm))]
def cd0 : CdD := ⟨[], [], [], [], []⟩
def rs4 (pl : List Pl) (p : PgD) : (List Sm × List Sm × List Sm × List Sm) × Fl :=
  let a := rsSs pl p.start (false, false)
  let b := rsSs pl p.message a.2
  let c := rsSs pl p.tick b.2
  let d := rsSs pl p.input c.2
  ((a.1, b.1, c.1, d.1), d.2)
def finR (xs : List Int) (r : (List Sm × List Sm × List Sm × List Sm) × Fl) : CdD × Int :=
  if r.2.1 then (cd0, 2) else if r.2.2 then (cd0, 7) else (⟨xs, r.1.1, r.1.2.1, r.1.2.2.1, r.1.2.2.2⟩, 0)
def resolveF (p : PgD) : CdD × Int :=
  if checkF goodSFs p ≠ 0 then (cd0, checkF goodSFs p)
  else if p.vars.length > 16 then (cd0, 4)
  else match dupP [] p.vars with
    | none => (cd0, 2)
    | some es => match fillP es [] p.vars with
      | none => (cd0, 4)
      | some q => finR q.2 (rs4 q.1 p)
end Go.Abs
namespace Go.Abs
open Go
def wordsL : List UInt8 := [32, 118, 97, 114, 32, 97, 114, 114, 97, 121, 32, 111, 110, 32, 115, 116, 97, 114, 116, 32, 109, 101, 115, 115, 97, 103, 101, 32, 116, 105, 99, 107, 32, 105, 110, 112, 117, 116, 32, 105, 102, 32, 101, 108, 115, 101, 32, 119, 104, 105, 108, 101, 32, 115, 101, 110, 100, 32, 111, 117, 116, 112, 117, 116, 32, 115, 101, 108, 102, 32, 112, 114, 111, 99, 115, 32, 102, 114, 111, 109, 32, 118, 97, 108, 117, 101, 32]
theorem wordsL_len : wordsL.length = 87 := rfl
def resL : List (List UInt8) := [[118, 97, 114], [97, 114, 114, 97, 121], [111, 110], [115, 116, 97, 114, 116], [109, 101, 115, 115, 97, 103, 101], [116, 105, 99, 107], [105, 110, 112, 117, 116], [105, 102], [101, 108, 115, 101], [119, 104, 105, 108, 101], [115, 101, 110, 100], [111, 117, 116, 112, 117, 116], [115, 101, 108, 102], [112, 114, 111, 99, 115], [102, 114, 111, 109], [118, 97, 108, 117, 101]]
theorem resF_mem {s : List UInt8} (h : resF s = true) : s ∈ resL := by
  simp only [resF, Bool.or_eq_true, beq_iff_eq] at h
  simp only [resL, List.mem_cons, List.not_mem_nil, or_false]
  grind
def hitW (s : List UInt8) (i : Nat) : Bool := (wordsL.take (i + (s.length + 2))).drop i == 32 :: (s ++ [32])
theorem resL_hits : ∀ w ∈ resL, (List.range 87).any (fun i => decide (i + (w.length + 2) ≤ 87) && hitW w i) = true := by decide +kernel
theorem resW_miss {s : List UInt8} (h : ∀ i, i + (s.length + 2) ≤ 87 → hitW s i = false) : resF s = false := by
  cases hr : resF s with
  | false => rfl
  | true =>
    have := resL_hits s (resF_mem hr)
    rw [List.any_eq_true] at this
    obtain ⟨i, _, hi⟩ := this
    simp only [Bool.and_eq_true, decide_eq_true_eq] at hi
    rw [h i hi.1] at hi
    exact absurd hi.2 (by simp)
theorem words_ok : ∀ i < 87, (wordsL.drop (i + 1)).takeWhile (· != 32) = [] ∨ resF ((wordsL.drop (i + 1)).takeWhile (· != 32)) = true ∨ wordsL.getD i 0 ≠ 32 := by decide +kernel
theorem takeWhile_blank : ∀ (s r : List UInt8), (∀ c ∈ s, c ≠ 32) → (s ++ 32 :: r).takeWhile (· != 32) = s
  | [], r, _ => by simp
  | c :: s, r, h => by
    have h1 : c ≠ 32 := h c (by simp)
    simp [List.takeWhile_cons, h1, takeWhile_blank s r (fun x hx => h x (by simp [hx]))]
theorem resW_hit {s : List UInt8} (h0 : s ≠ []) (hb : ∀ c ∈ s, c ≠ 32) {i : Nat} (hi : i + (s.length + 2) ≤ 87) (hh : hitW s i = true) : resF s = true := by
  simp only [hitW, beq_iff_eq] at hh
  have hd : wordsL.drop i = 32 :: (s ++ 32 :: wordsL.drop (i + (s.length + 2))) := by
    have h1 : wordsL = wordsL.take (i + (s.length + 2)) ++ wordsL.drop (i + (s.length + 2)) := (List.take_append_drop _ _).symm
    have h2 : wordsL.drop i = (wordsL.take (i + (s.length + 2))).drop i ++ wordsL.drop (i + (s.length + 2)) := by
      conv => lhs; rw [h1]
      rw [List.drop_append_of_le_length (by rw [List.length_take, wordsL_len]; omega)]
    rw [h2, hh]; simp
  have hd1 : wordsL.drop (i + 1) = s ++ 32 :: wordsL.drop (i + (s.length + 2)) := by
    have : wordsL.drop (i + 1) = (wordsL.drop i).drop 1 := by rw [List.drop_drop]
    rw [this, hd]; rfl
  have hlt : i < 87 := by omega
  rcases words_ok i hlt with h | h | h
  · rw [hd1, takeWhile_blank s _ hb] at h; exact absurd h h0
  · rw [hd1, takeWhile_blank s _ hb] at h; exact h
  · exfalso; apply h
    have hw : i < wordsL.length := by rw [wordsL_len]; exact hlt
    have : (wordsL.drop i)[0]? = some 32 := by rw [hd]; rfl
    rw [List.getElem?_drop, Nat.add_zero] at this
    simp [List.getD, this]
theorem wordF_all (s : List UInt8) : (((wordF s 0 : Nat) : Int) == (s.length : Int)) = s.all isW := by
  rw [beq_natCast]
  unfold wordF
  simp only [List.drop_zero, Nat.zero_add]
  induction s with
  | nil => rfl
  | cons c r ih =>
    rw [List.takeWhile_cons]
    cases h : isW c
    · simp [h]
    · simp only [if_true, List.length_cons, List.all_cons, h, Bool.true_and]
      rw [← ih]
      simp
end Go.Abs
namespace Go.Abs
open Go
def lookupF (name : List UInt8) : Int → List VarD → Int × Int × Bool
  | _, [] => (0, 0, false)
  | first, v :: r => if v.name == name then (first, mx v.size 0, true)
    else if mx v.size 1 > 2147483648 - first then (0, 0, false) else lookupF name (first + mx v.size 1) r
def lookA (name : List UInt8) (l : List VarD) : AVal := .tup [.pv (.int .i64 (lookupF name 0 l).1), .pv (.int .i64 (lookupF name 0 l).2.1), .pv (.bool (lookupF name 0 l).2.2)]
theorem look8_one (first s : Int) (h0 : 0 ≤ first) (h1 : first ≤ 2147483648) : (first + imin (mx s 1) 2147483649 > 2147483648 ↔ mx s 1 > 2147483648 - first) ∧ (¬ mx s 1 > 2147483648 - first → imin (mx s 1) 2147483649 = mx s 1) ∧ 1 ≤ imin (mx s 1) 2147483649 ∧ imin (mx s 1) 2147483649 ≤ 2147483649 := by
  have := mx_r s 1
  generalize mx s 1 = m at *
  unfold imin
  split <;> omega
def modF (n m : Int) : Int := if n.tmod m < 0 then n.tmod m + m else n.tmod m
theorem modF_lt (n m : Int) (h : 0 < m) : 0 ≤ modF n m ∧ modF n m < m := by
  unfold modF
  have h1 := Int.tmod_lt_of_pos n h
  have h2 : -m < n.tmod m := by
    rcases Int.le_total 0 n with h | h'
    · have := Int.tmod_nonneg m h; omega
    · have h3 := Int.tmod_lt_of_pos (-n) h
      rw [Int.neg_tmod] at h3
      omega
  split <;> omega
def foundF (l : List VarD) (n : List UInt8) : Bool := (lookupF n 0 l).2.2
mutual
def namesE (l : List VarD) : Ex → Bool
  | .mk op _ n _ _ args => !((op == 2 || op == 3) && !foundF l n) && namesEs l args
def namesEs (l : List VarD) : List Ex → Bool
  | [] => true
  | e :: r => namesE l e && namesEs l r
end
theorem namesE_eq (l : List VarD) (e : Ex) : namesE l e = (!((e.op == 2 || e.op == 3) && !foundF l e.name) && namesEs l e.args) := by cases e; simp [namesE, Ex.op, Ex.name, Ex.args]
mutual
def declS (l : List VarD) : Sm → Bool
  | .mk k n _ _ p v b e => !((k == 1 || k == 2) && !foundF l n) && !(!namesE l p || !namesE l v || !declSs l b || !declSs l e)
def declSs (l : List VarD) : List Sm → Bool
  | [] => true
  | s :: r => declS l s && declSs l r
end
theorem declS_eq (l : List VarD) (s : Sm) : declS l s = (!((s.kind == 1 || s.kind == 2) && !foundF l s.name) && !(!namesE l s.place || !namesE l s.value || !declSs l s.body || !declSs l s.els)) := by cases s; simp [declS, Sm.kind, Sm.name, Sm.place, Sm.value, Sm.body, Sm.els]
def head3 (l : List VarD) (op : Int) (n : List UInt8) (a b : Int) (k1 k2 : Int) : (Int × Int) × Bool :=
  if (op == k1 || op == k2) = true then (((lookupF n 0 l).1, (lookupF n 0 l).2.1), (op == k2) == decide ((lookupF n 0 l).2.1 > 0)) else ((a, b), true)
mutual
def r3E (l : List VarD) : Ex → Ex × Bool
  | .mk op v n a b args => (.mk op v n (head3 l op n a b 2 3).1.1 (head3 l op n a b 2 3).1.2 (r3Es l args).1, (head3 l op n a b 2 3).2 && (r3Es l args).2)
def r3Es (l : List VarD) : List Ex → List Ex × Bool
  | [] => ([], true)
  | e :: r => ((r3E l e).1 :: (r3Es l r).1, (r3E l e).2 && (r3Es l r).2)
end
theorem r3E_eq (l : List VarD) (e : Ex) : r3E l e = (.mk e.op e.value e.name (head3 l e.op e.name e.slot e.size 2 3).1.1 (head3 l e.op e.name e.slot e.size 2 3).1.2 (r3Es l e.args).1, (head3 l e.op e.name e.slot e.size 2 3).2 && (r3Es l e.args).2) := by
  cases e; simp [r3E, Ex.op, Ex.value, Ex.name, Ex.slot, Ex.size, Ex.args]
theorem r3Es_len (l : List VarD) : ∀ x : List Ex, (r3Es l x).1.length = x.length
  | [] => by simp [r3Es]
  | e :: r => by simp [r3Es, r3Es_len l r]
theorem r3Es_snoc (l : List VarD) (x : Ex) : ∀ r : List Ex, r3Es l (r ++ [x]) = ((r3Es l r).1 ++ [(r3E l x).1], (r3Es l r).2 && (r3E l x).2)
  | [] => by simp [r3Es]
  | e :: r => by simp [r3Es, r3Es_snoc l x r, Bool.and_assoc]
theorem r3Es_take (l : List VarD) (x : List Ex) (k : Nat) (h : k < x.length) : r3Es l (x.take (k + 1)) = ((r3Es l (x.take k)).1 ++ [(r3E l x[k]).1], (r3Es l (x.take k)).2 && (r3E l x[k]).2) := by
  rw [List.take_succ_eq_append_getElem h, r3Es_snoc]
mutual
def r3S (l : List VarD) : Sm → Sm × Bool
  | .mk k n a b p v body els => (.mk k n (head3 l k n a b 1 2).1.1 (head3 l k n a b 1 2).1.2 (r3E l p).1 (r3E l v).1 (r3Ss l body).1 (r3Ss l els).1,
      (head3 l k n a b 1 2).2 && ((r3E l p).2 && (r3E l v).2 && (r3Ss l body).2 && (r3Ss l els).2))
def r3Ss (l : List VarD) : List Sm → List Sm × Bool
  | [] => ([], true)
  | s :: r => ((r3S l s).1 :: (r3Ss l r).1, (r3S l s).2 && (r3Ss l r).2)
end
theorem r3S_eq (l : List VarD) (s : Sm) : r3S l s = (.mk s.kind s.name (head3 l s.kind s.name s.slot s.size 1 2).1.1 (head3 l s.kind s.name s.slot s.size 1 2).1.2 (r3E l s.place).1 (r3E l s.value).1 (r3Ss l s.body).1 (r3Ss l s.els).1,
      (head3 l s.kind s.name s.slot s.size 1 2).2 && ((r3E l s.place).2 && (r3E l s.value).2 && (r3Ss l s.body).2 && (r3Ss l s.els).2)) := by
  cases s; simp [r3S, Sm.kind, Sm.name, Sm.slot, Sm.size, Sm.place, Sm.value, Sm.body, Sm.els]
theorem r3Ss_len (l : List VarD) : ∀ x : List Sm, (r3Ss l x).1.length = x.length
  | [] => by simp [r3Ss]
  | e :: r => by simp [r3Ss, r3Ss_len l r]
theorem r3Ss_snoc (l : List VarD) (x : Sm) : ∀ r : List Sm, r3Ss l (r ++ [x]) = ((r3Ss l r).1 ++ [(r3S l x).1], (r3Ss l r).2 && (r3S l x).2)
  | [] => by simp [r3Ss]
  | e :: r => by simp [r3Ss, r3Ss_snoc l x r, Bool.and_assoc]
theorem r3Ss_take (l : List VarD) (x : List Sm) (k : Nat) (h : k < x.length) : r3Ss l (x.take (k + 1)) = ((r3Ss l (x.take k)).1 ++ [(r3S l x[k]).1], (r3Ss l (x.take k)).2 && (r3S l x[k]).2) := by
  rw [List.take_succ_eq_append_getElem h, r3Ss_snoc]
end Go.Abs
namespace Go.Abs
open Go
def dup3 : List VarD → Bool
  | [] => false
  | v :: r => r.any (fun x => x.name == v.name) || dup3 r
theorem dup3_of : ∀ (l : List VarD) (i j : Nat) (a b : VarD), i < j → l[i]? = some a → l[j]? = some b → a.name = b.name → dup3 l = true
  | [], i, j, a, b, _, h, _, _ => by simp at h
  | v :: r, 0, 0, a, b, h, _, _, _ => by omega
  | v :: r, 0, j + 1, a, b, _, h1, h2, h => by
    simp at h1 h2
    subst h1
    have : b ∈ r := List.mem_of_getElem? h2
    simp only [dup3, Bool.or_eq_true, List.any_eq_true, beq_iff_eq]
    exact .inl ⟨b, this, h.symm⟩
  | v :: r, i + 1, 0, a, b, h, _, _, _ => by omega
  | v :: r, i + 1, j + 1, a, b, hlt, h1, h2, h => by
    simp at h1 h2
    simp only [dup3, dup3_of r i j a b (by omega) h1 h2 h, Bool.or_true]
theorem dup3_false : ∀ (l : List VarD), (∀ (i j : Nat) (a b : VarD), i < j → l[i]? = some a → l[j]? = some b → a.name ≠ b.name) → dup3 l = false
  | [], _ => rfl
  | v :: r, h => by
    have h2 := dup3_false r (fun i j a b hij ha hb => h (i + 1) (j + 1) a b (by omega) (by simpa using ha) (by simpa using hb))
    simp only [dup3, h2, Bool.or_false]
    cases hc : r.any (fun x => x.name == v.name) with
    | false => rfl
    | true =>
      rw [List.any_eq_true] at hc
      obtain ⟨x, hx, he⟩ := hc
      obtain ⟨k, hk, hke⟩ := List.mem_iff_getElem.1 hx
      exact absurd (show v.name = x.name by simpa using (beq_iff_eq.1 he).symm) (h 0 (k + 1) v x (by omega) (by simp) (by simp [hk, hke]))
def cells3 (v : VarD) : Int := imin (mx v.size 1) 2147483649
theorem cells3_pos (v : VarD) : 1 ≤ cells3 v ∧ cells3 v ≤ 2147483649 := by
  unfold cells3 imin mx imax
  split <;> split <;> omega
def sum3 : Int → List VarD → Option Int
  | n, [] => some n
  | n, v :: r => if n + cells3 v > 32 then none else sum3 (n + cells3 v) r
def one3 (v : VarD) : List Int := v.init :: List.replicate (v.size.toNat - 1) 0
def init3 : List VarD → List Int
  | [] => []
  | v :: r => one3 v ++ init3 r
theorem init3_append : ∀ l r : List VarD, init3 (l ++ r) = init3 l ++ init3 r
  | [], r => by simp [init3]
  | v :: l, r => by simp [init3, init3_append l r]
theorem one3_len (v : VarD) : ((one3 v).length : Int) = mx v.size 1 := by
  unfold one3 mx imax
  simp only [List.length_cons, List.length_replicate]
  split <;> omega
theorem cells3_small (v : VarD) (h : cells3 v ≤ 32) : cells3 v = mx v.size 1 := by
  unfold cells3 imin at *
  split <;> split at h <;> omega
theorem sum3_len : ∀ (l : List VarD) (n m : Int), 0 ≤ n → sum3 n l = some m → n + (init3 l).length = m ∧ m ≤ mx n 32
  | [], n, m, _, h => by simp [sum3] at h; subst h; simp [init3, mx, imax]; split <;> omega
  | v :: r, n, m, h0, h => by
    rw [sum3] at h
    split at h
    · cases h
    · rename_i hle
      have h5 := cells3_pos v
      have h4 := cells3_small v (by omega)
      obtain ⟨h1, h2⟩ := sum3_len r _ m (by omega) h
      have h3 := one3_len v
      simp only [init3, List.length_append]
      have h6 : mx (n + cells3 v) 32 = 32 := by unfold mx imax; split <;> omega
      have h7 : 32 ≤ mx n 32 := by unfold mx imax; split <;> omega
      constructor <;> omega
def resolve3F (p : PgD) : CdD × Int :=
  if checkF goodSFs p ≠ 0 then (cd0, checkF goodSFs p)
  else if p.vars.length > 16 then (cd0, 4)
  else if dup3 p.vars = true then (cd0, 2)
  else if sum3 0 p.vars = none then (cd0, 4)
  else if (!declSs p.vars p.start || !declSs p.vars p.message || !declSs p.vars p.tick || !declSs p.vars p.input) = true then (cd0, 2)
  else if (!(r3Ss p.vars p.start).2 || !(r3Ss p.vars p.message).2 || !(r3Ss p.vars p.tick).2 || !(r3Ss p.vars p.input).2) = true then (cd0, 7)
  else (⟨init3 p.vars, (r3Ss p.vars p.start).1, (r3Ss p.vars p.message).1, (r3Ss p.vars p.tick).1, (r3Ss p.vars p.input).1⟩, 0)
end Go.Abs
namespace Go.Abs
open Go

def plOk (l : List VarD) (pl : List Pl) : Prop := ∀ n, plFind n pl = if (lookupF n 0 l).2.2 then some ((lookupF n 0 l).1, (lookupF n 0 l).2.1) else none
theorem lookupF_miss (n : List UInt8) : ∀ (l : List VarD) (f : Int), (lookupF n f l).2.2 = false → (lookupF n f l).1 = 0 ∧ (lookupF n f l).2.1 = 0
  | [], f, _ => ⟨rfl, rfl⟩
  | v :: r, f, h => by
    rw [lookupF] at h ⊢
    split at h
    · simp at h
    · rename_i h1
      rw [if_neg h1]
      split at h
      · rename_i h2; rw [if_pos h2]; exact ⟨rfl, rfl⟩
      · rename_i h2; rw [if_neg h2]; exact lookupF_miss n r _ h

theorem findF_ok {l : List VarD} {pl : List Pl} (h : plOk l pl) (n : List UInt8) (arr : Bool) (f : Fl) :
    findF pl n arr f = (((lookupF n 0 l).1, (lookupF n 0 l).2.1), (f.1 || !foundF l n, f.2 || (foundF l n && (arr != decide ((lookupF n 0 l).2.1 > 0))))) := by
  unfold findF foundF
  rw [h n]
  cases hf : (lookupF n 0 l).2.2
  · obtain ⟨h1, h2⟩ := lookupF_miss n l 0 hf
    simp [h1, h2]
  · simp
theorem headQ_ok {l : List VarD} {pl : List Pl} (h : plOk l pl) (op : Int) (n : List UInt8) (a b : Int) (f : Fl) (k1 k2 : Int) (hk : k1 ≠ k2) :
    (headQ pl op n a b f k1 k2).1 = (head3 l op n a b k1 k2).1 ∧ (headQ pl op n a b f k1 k2).2.1 = (f.1 || ((op == k1 || op == k2) && !foundF l n)) ∧
    (((op == k1 || op == k2) && !foundF l n) = false → (headQ pl op n a b f k1 k2).2.2 = (f.2 || !(head3 l op n a b k1 k2).2)) := by
  unfold headQ head3
  by_cases h1 : op = k1
  · subst h1
    rw [if_pos rfl, findF_ok h]
    have h2 : (op == k2) = false := by simpa using hk
    simp [h2]
    intro hf; simp [hf]
    try (cases decide (0 < (lookupF n 0 l).2.1) <;> rfl)
  · have h1' : (op == k1) = false := by simpa using h1
    rw [if_neg h1]
    by_cases h2 : op = k2
    · subst h2
      rw [if_pos rfl, findF_ok h]
      simp [h1']
      intro hf; simp [hf]
      try (cases decide (0 < (lookupF n 0 l).2.1) <;> rfl)
    · have h2' : (op == k2) = false := by simpa using h2
      rw [if_neg h2]
      simp [h1', h2']

structure RelR (l : List VarD) (α : Type) (r : α × Fl) (f : Fl) (d : Bool) (q : α × Bool) : Prop where
  val : r.1 = q.1
  nm : r.2.1 = (f.1 || !d)
  sh : d = true → r.2.2 = (f.2 || !q.2)

mutual
theorem rsE_ok {l : List VarD} {pl : List Pl} (h : plOk l pl) : ∀ (e : Ex) (f : Fl), RelR l Ex (rsE pl e f) f (namesE l e) (r3E l e)
  | .mk op v n a b args, f => by
    obtain ⟨h1, h2, h3⟩ := headQ_ok h op n a b f 2 3 (by decide)
    obtain ⟨g1, g2, g3⟩ := rsEs_ok h args (headQ pl op n a b f 2 3).2
    refine ⟨?_, ?_, ?_⟩
    · simp only [rsE, r3E, h1, g1]
    · simp only [rsE, namesE, g2, h2]
      cases f.1 <;> cases ((op == 2 || op == 3) && !foundF l n) <;> cases namesEs l args <;> rfl
    · intro hn
      simp only [namesE, Bool.and_eq_true, Bool.not_eq_true'] at hn
      simp only [rsE, r3E, g3 hn.2, h3 hn.1]
      cases f.2 <;> cases (head3 l op n a b 2 3).2 <;> cases (r3Es l args).2 <;> rfl
theorem rsEs_ok {l : List VarD} {pl : List Pl} (h : plOk l pl) : ∀ (e : List Ex) (f : Fl), RelR l (List Ex) (rsEs pl e f) f (namesEs l e) (r3Es l e)
  | [], f => ⟨by simp [rsEs, r3Es], by simp [rsEs, namesEs], by simp [rsEs, r3Es]⟩
  | e :: r, f => by
    obtain ⟨h1, h2, h3⟩ := rsE_ok h e f
    obtain ⟨g1, g2, g3⟩ := rsEs_ok h r (rsE pl e f).2
    refine ⟨?_, ?_, ?_⟩
    · simp only [rsEs, r3Es, h1, g1]
    · simp only [rsEs, namesEs, g2, h2]
      cases f.1 <;> cases namesE l e <;> cases namesEs l r <;> rfl
    · intro hn
      simp only [namesEs, Bool.and_eq_true] at hn
      simp only [rsEs, r3Es, g3 hn.2, h3 hn.1]
      cases f.2 <;> cases (r3E l e).2 <;> cases (r3Es l r).2 <;> rfl
end
mutual
theorem rsS_ok {l : List VarD} {pl : List Pl} (h : plOk l pl) : ∀ (s : Sm) (f : Fl), RelR l Sm (rsS pl s f) f (declS l s) (r3S l s)
  | .mk k n a b p v body els, f => by
    obtain ⟨h1, h2, h3⟩ := headQ_ok h k n a b f 1 2 (by decide)
    obtain ⟨p1, p2, p3⟩ := rsE_ok h p (headQ pl k n a b f 1 2).2
    obtain ⟨v1, v2, v3⟩ := rsE_ok h v (rsE pl p (headQ pl k n a b f 1 2).2).2
    obtain ⟨b1, b2, b3⟩ := rsSs_ok h body (rsE pl v (rsE pl p (headQ pl k n a b f 1 2).2).2).2
    obtain ⟨e1, e2, e3⟩ := rsSs_ok h els (rsSs pl body (rsE pl v (rsE pl p (headQ pl k n a b f 1 2).2).2).2).2
    refine ⟨?_, ?_, ?_⟩
    · simp only [rsS, r3S, h1, p1, v1, b1, e1]
    · simp only [rsS, declS, e2, b2, v2, p2, h2]
      cases f.1 <;> cases ((k == 1 || k == 2) && !foundF l n) <;> cases namesE l p <;> cases namesE l v <;> cases declSs l body <;> cases declSs l els <;> rfl
    · intro hn
      simp only [declS, Bool.and_eq_true, Bool.not_eq_true', Bool.or_eq_false_iff, Bool.not_eq_false'] at hn
      obtain ⟨hn0, ⟨⟨hnp, hnv⟩, hnb⟩, hne⟩ := hn
      simp only [rsS, r3S, e3 hne, b3 hnb, v3 hnv, p3 hnp, h3 hn0]
      cases f.2 <;> cases (head3 l k n a b 1 2).2 <;> cases (r3E l p).2 <;> cases (r3E l v).2 <;> cases (r3Ss l body).2 <;> cases (r3Ss l els).2 <;> rfl
theorem rsSs_ok {l : List VarD} {pl : List Pl} (h : plOk l pl) : ∀ (s : List Sm) (f : Fl), RelR l (List Sm) (rsSs pl s f) f (declSs l s) (r3Ss l s)
  | [], f => ⟨by simp [rsSs, r3Ss], by simp [rsSs, declSs], by simp [rsSs, r3Ss]⟩
  | e :: r, f => by
    obtain ⟨h1, h2, h3⟩ := rsS_ok h e f
    obtain ⟨g1, g2, g3⟩ := rsSs_ok h r (rsS pl e f).2
    refine ⟨?_, ?_, ?_⟩
    · simp only [rsSs, r3Ss, h1, g1]
    · simp only [rsSs, declSs, g2, h2]
      cases f.1 <;> cases declS l e <;> cases declSs l r <;> rfl
    · intro hn
      simp only [declSs, Bool.and_eq_true] at hn
      simp only [rsSs, r3Ss, g3 hn.2, h3 hn.1]
      cases f.2 <;> cases (r3S l e).2 <;> cases (r3Ss l r).2 <;> rfl
end

theorem rs4_ok {l : List VarD} {pl : List Pl} (h : plOk l pl) (p : PgD) (xs : List Int) : finR xs (rs4 pl p) =
    if (!declSs l p.start || !declSs l p.message || !declSs l p.tick || !declSs l p.input) = true then (cd0, 2)
    else if (!(r3Ss l p.start).2 || !(r3Ss l p.message).2 || !(r3Ss l p.tick).2 || !(r3Ss l p.input).2) = true then (cd0, 7)
    else (⟨xs, (r3Ss l p.start).1, (r3Ss l p.message).1, (r3Ss l p.tick).1, (r3Ss l p.input).1⟩, 0) := by
  obtain ⟨a1, a2, a3⟩ := rsSs_ok h p.start (false, false)
  obtain ⟨b1, b2, b3⟩ := rsSs_ok h p.message (rsSs pl p.start (false, false)).2
  obtain ⟨c1, c2, c3⟩ := rsSs_ok h p.tick (rsSs pl p.message (rsSs pl p.start (false, false)).2).2
  obtain ⟨d1, d2, d3⟩ := rsSs_ok h p.input (rsSs pl p.tick (rsSs pl p.message (rsSs pl p.start (false, false)).2).2).2
  unfold finR rs4
  dsimp only
  have hnm : (rsSs pl p.input (rsSs pl p.tick (rsSs pl p.message (rsSs pl p.start (false, false)).2).2).2).2.1 = (!declSs l p.start || !declSs l p.message || !declSs l p.tick || !declSs l p.input) := by
    rw [d2, c2, b2, a2]; rfl
  rw [hnm]
  split
  · rfl
  · rename_i hn
    simp only [Bool.or_eq_true, Bool.not_eq_true', not_or, Bool.not_eq_false] at hn
    obtain ⟨⟨⟨n1, n2⟩, n3⟩, n4⟩ := hn
    have hsh : (rsSs pl p.input (rsSs pl p.tick (rsSs pl p.message (rsSs pl p.start (false, false)).2).2).2).2.2 = (!(r3Ss l p.start).2 || !(r3Ss l p.message).2 || !(r3Ss l p.tick).2 || !(r3Ss l p.input).2) := by
      rw [d3 n4, c3 n3, b3 n2, a3 n1]; rfl
    rw [hsh, a1, b1, c1, d1]
end Go.Abs
namespace Go.Abs
open Go
theorem plFind_set (n m : List UInt8) (a b : Int) : ∀ l : List Pl, plFind n (plSet m a b l) = if n = m then some (a, b) else plFind n l
  | [] => by simp [plSet, plFind]
  | p :: r => by
    have ih := plFind_set n m a b r
    rw [plSet]
    by_cases h : m = p.name
    · rw [if_pos h]
      by_cases h2 : n = m
      · simp [plFind, h2]
      · have : ¬ n = p.name := fun e => h2 (e.trans h.symm)
        simp [plFind, h2, this]
    · rw [if_neg h]
      by_cases h2 : n = p.name
      · have : ¬ n = m := fun e => h (e.symm.trans h2)
        simp [plFind, h2] at *
        simp [h, Ne.symm] at *
      · simp [plFind, h2, ih]
theorem dupP_none : ∀ (l : List VarD) (es : List Pl), (dupP es l = none ↔ (l.any (fun v => (plFind v.name es).isSome) = true ∨ dup3 l = true))
  | [], es => by simp [dupP, dup3]
  | v :: r, es => by
    rw [dupP]
    by_cases h : (plFind v.name es).isSome = true
    · rw [if_pos h]; simp [h]
    · rw [if_neg h, dupP_none r]
      simp only [List.any_cons, dup3, plFind_set, Bool.or_eq_true]
      constructor
      · rintro (h1 | h1)
        · rw [List.any_eq_true] at h1
          obtain ⟨x, hx, hs⟩ := h1
          by_cases hxv : x.name = v.name
          · right; left; rw [List.any_eq_true]; exact ⟨x, hx, by simpa using hxv⟩
          · rw [if_neg hxv] at hs
            left; right; rw [List.any_eq_true]; exact ⟨x, hx, hs⟩
        · right; right; exact h1
      · rintro ((h1 | h1) | (h1 | h1))
        · exact absurd h1 h
        · rw [List.any_eq_true] at h1
          obtain ⟨x, hx, hs⟩ := h1
          left; rw [List.any_eq_true]; refine ⟨x, hx, ?_⟩
          split
          · rfl
          · exact hs
        · rw [List.any_eq_true] at h1
          obtain ⟨x, hx, hs⟩ := h1
          left; rw [List.any_eq_true]; refine ⟨x, hx, ?_⟩
          rw [if_pos (by simpa using hs)]; rfl
        · right; exact h1
theorem dupP_find (n : List UInt8) : ∀ (l : List VarD) (es es' : List Pl), dupP es l = some es' → (∀ v ∈ l, v.name ≠ n) → plFind n es' = plFind n es
  | [], es, es', h, _ => by simp [dupP] at h; rw [h]
  | v :: r, es, es', h, hn => by
    rw [dupP] at h
    split at h
    · cases h
    · rw [dupP_find n r _ es' h (fun x hx => hn x (by simp [hx])), plFind_set, if_neg (fun e => hn v (by simp) e.symm)]
def lkF (n : List UInt8) : Int → List VarD → Option (Int × Int)
  | _, [] => none
  | f, v :: r => if v.name = n then some (f, v.size) else lkF n (f + mx v.size 1) r
theorem lkF_none (n : List UInt8) : ∀ (l : List VarD) (f : Int), (∀ v ∈ l, v.name ≠ n) → lkF n f l = none
  | [], f, _ => rfl
  | v :: r, f, h => by rw [lkF, if_neg (h v (by simp))]; exact lkF_none n r _ (fun x hx => h x (by simp [hx]))
theorem lkF_some (n : List UInt8) : ∀ (l : List VarD) (f : Int), lkF n f l = none → ∀ v ∈ l, v.name ≠ n
  | [], f, _, v, hv => by simp at hv
  | v :: r, f, h, x, hx => by
    rw [lkF] at h
    split at h
    · cases h
    · rename_i hne
      rcases List.mem_cons.1 hx with rfl | hx
      · exact hne
      · exact lkF_some n r _ h x hx
theorem one3_eq (v : VarD) : [v.init] ++ List.replicate ((mx v.size 1).toNat - 1) 0 = one3 v := by
  unfold one3
  have : (mx v.size 1).toNat - 1 = v.size.toNat - 1 := by unfold mx imax; split <;> omega
  rw [this]; rfl
theorem fill_step (n : Int) (v : VarD) (h0 : 0 ≤ n) : (mx v.size 1 > 32 - n ↔ n + cells3 v > 32) := by
  unfold cells3 imin
  split <;> omega
theorem fillP_sum : ∀ (l : List VarD) (es : List Pl) (xs : List Int), (fillP es xs l = none ↔ sum3 xs.length l = none) ∧ ∀ q, fillP es xs l = some q → q.2 = xs ++ init3 l
  | [], es, xs => by simp [fillP, sum3, init3]
  | v :: r, es, xs => by
    rw [fillP, sum3]
    have hs := fill_step xs.length v (by omega)
    by_cases h : mx v.size 1 > 32 - (xs.length : Int)
    · rw [if_pos h, if_pos (hs.1 h)]; simp
    · have h' : ¬ (xs.length : Int) + cells3 v > 32 := fun e => h (hs.2 e)
      rw [if_neg h, if_neg h']
      have hc := cells3_small v (by omega)
      have h1 := one3_len v
      have ih := fillP_sum r (plSet v.name xs.length v.size es) (xs ++ [v.init] ++ List.replicate ((mx v.size 1).toNat - 1) 0)
      rw [List.append_assoc, one3_eq] at ih ⊢
      have hl : ((xs ++ one3 v).length : Int) = xs.length + cells3 v := by rw [List.length_append, hc, ← h1]; omega
      rw [hl] at ih
      refine ⟨ih.1, fun q hq => ?_⟩
      rw [ih.2 q hq, init3, List.append_assoc]
theorem fillP_find (n : List UInt8) : ∀ (l : List VarD) (es : List Pl) (xs : List Int) (q : List Pl × List Int), dup3 l = false → fillP es xs l = some q → plFind n q.1 = (lkF n xs.length l).or (plFind n es)
  | [], es, xs, q, _, h => by simp [fillP] at h; rw [← h]; simp [lkF]
  | v :: r, es, xs, q, hd, h => by
    rw [fillP] at h
    split at h
    · cases h
    · rename_i hle
      simp only [dup3, Bool.or_eq_false_iff] at hd
      have hl : (((xs ++ [v.init] ++ List.replicate ((mx v.size 1).toNat - 1) 0).length : Nat) : Int) = xs.length + mx v.size 1 := by
        rw [List.append_assoc, one3_eq, List.length_append, ← one3_len v]; omega
      have ih := fillP_find n r _ _ q hd.2 h
      rw [hl, plFind_set] at ih
      rw [ih, lkF]
      by_cases hv : v.name = n
      · subst hv
        have : ∀ x ∈ r, x.name ≠ v.name := fun x hx e => by
          have := hd.1
          rw [List.any_eq_false] at this
          exact this x hx (by simpa using e)
        rw [lkF_none _ r _ this]; simp
      · rw [if_neg hv, if_neg (fun e => hv e.symm)]
theorem lookupF_lk (n : List UInt8) : ∀ (l : List VarD) (f : Int), 0 ≤ f → sum3 f l ≠ none → (∀ v ∈ l, 0 ≤ v.size) → lookupF n f l = match lkF n f l with | some q => (q.1, q.2, true) | none => (0, 0, false)
  | [], f, _, _, _ => rfl
  | v :: r, f, h0, hs, hp => by
    rw [sum3] at hs
    split at hs
    · exact absurd rfl hs
    · rename_i hle
      have hc0 := cells3_pos v
      have hc := cells3_small v (by omega)
      rw [lookupF, lkF]
      by_cases hv : v.name = n
      · have h1 := hp v (by simp)
        have h2 : mx v.size 0 = v.size := by unfold mx imax; split <;> omega
        simp [hv, h2]
      · have : (v.name == n) = false := by simpa using hv
        rw [this, if_neg (by simp), if_neg (by omega), if_neg hv]
        rw [hc] at hs
        exact lookupF_lk n r _ (by omega) hs (fun x hx => hp x (by simp [hx]))
theorem plOk_of {l : List VarD} {es : List Pl} {q : List Pl × List Int} (hd : dup3 l = false) (he : dupP [] l = some es) (hf : fillP es [] l = some q) (hp : ∀ v ∈ l, 0 ≤ v.size) : plOk l q.1 := by
  intro n
  have hs : sum3 0 l ≠ none := fun h => by
    have := (fillP_sum l es []).1.2 (by simpa using h)
    rw [this] at hf; cases hf
  have h1 := fillP_find n l es [] q hd hf
  have h2 := lookupF_lk n l 0 (by omega) hs hp
  rw [h1, h2]
  simp only [List.length_nil]
  rw [show ((0 : Nat) : Int) = 0 from rfl]
  cases hk : lkF n 0 l with
  | some z => simp
  | none =>
    have := dupP_find n l [] es he (lkF_some n l 0 hk)
    simp [this, plFind]
theorem resolve_same (p : PgD) : resolveF p = resolve3F p := by
  unfold resolveF resolve3F
  by_cases h1 : checkF goodSFs p ≠ 0
  · rw [if_pos h1, if_pos h1]
  · rw [if_neg h1, if_neg h1]
    by_cases h2 : p.vars.length > 16
    · rw [if_pos h2, if_pos h2]
    · rw [if_neg h2, if_neg h2]
      have hp : ∀ v ∈ p.vars, 0 ≤ v.size := by
        intro v hv
        have h3 : checkF goodSFs p = 0 := by simpa using h1
        unfold checkF at h3
        split at h3
        · cases h3
        · split at h3
          · cases h3
          · rename_i hany
            have : goodVarF v = true := by
              cases hg : goodVarF v with
              | true => rfl
              | false => exact absurd (List.any_eq_true.2 ⟨v, hv, by simp [hg]⟩) hany
            unfold goodVarF at this
            grind
      have hdn := dupP_none p.vars []
      have h0 : p.vars.any (fun v => (plFind v.name []).isSome) = false := by simp [plFind]
      rw [h0] at hdn
      cases hd : dup3 p.vars with
      | true =>
        have : dupP [] p.vars = none := hdn.2 (.inr hd)
        rw [this]; simp
      | false =>
        cases he : dupP [] p.vars with
        | none => have := hdn.1 he; rw [hd] at this; simp at this
        | some es =>
          have hfs := fillP_sum p.vars es []
          rw [if_neg (by simp)]
          dsimp only
          cases hf : fillP es [] p.vars with
          | none =>
            have := hfs.1.1 hf
            rw [if_pos (by simpa using this)]
          | some q =>
            have hs : ¬ sum3 0 p.vars = none := fun h => by
              have := hfs.1.2 (by simpa using h)
              rw [this] at hf; cases hf
            rw [if_neg hs]
            dsimp only
            rw [rs4_ok (plOk_of hd he hf hp) p q.2, hfs.2 q hf]
            rfl
end Go.Abs
namespace Go.Abs
open Go
def encB (x : UInt8) : List PVal := [.int .u8 (x.toNat : Int)]
def cObj (xs : List UInt8) (a : Nat) : Option AObj := some (.cells [.pv (.slice (xs.map encB)), .pv (.int .i64 a)])
def nxt (xs : List UInt8) (a : Nat) (n : Int) : Int × Nat := if a < xs.length then (((xs.getD a 0).toNat : Int).tmod n, a + 1) else (0, a)
theorem nxt_lt (xs : List UInt8) (a : Nat) (n : Int) (h : 0 < n) : 0 ≤ (nxt xs a n).1 ∧ (nxt xs a n).1 < n := by
  unfold nxt
  split
  · exact ⟨Int.tmod_nonneg _ (by omega), Int.tmod_lt_of_pos _ h⟩
  · exact ⟨Int.le_refl _, h⟩
theorem nxt_le (xs : List UInt8) (a : Nat) (n : Int) (h : a ≤ xs.length) : (nxt xs a n).2 ≤ xs.length := by unfold nxt; split <;> simp <;> omega

def exL (op value : Int) (name : List UInt8) (args : List Ex) : Ex := .mk op value name 0 0 args
def scal (i : Int) : List UInt8 := if i = 0 then [120] else if i = 1 then [121] else [122]
def arrN (i : Int) : List UInt8 := if i = 0 then [97] else [98]
def opN (i : Int) : Int := if i = 0 then 4 else if i = 1 then 5 else 6
def kF (small : Bool) (k m : Int) : Int := if (small && decide (k ≥ m)) = true then k - m else k
def exprStep (xs : List UInt8) (rec : Nat → Ex × Nat) (small : Bool) (a : Nat) : Ex × Nat :=
  if kF small (nxt xs a 12).1 8 < 2 then (exL 1 (nxt xs (nxt xs a 12).2 5).1 [] [], (nxt xs (nxt xs a 12).2 5).2)
  else if kF small (nxt xs a 12).1 8 < 4 then (exL 2 0 (scal (nxt xs (nxt xs a 12).2 3).1) [], (nxt xs (nxt xs a 12).2 3).2)
  else if kF small (nxt xs a 12).1 8 = 4 then (exL 7 0 [] [], (nxt xs a 12).2)
  else if kF small (nxt xs a 12).1 8 = 5 then (exL (opN (nxt xs (nxt xs a 12).2 3).1) 0 [] [], (nxt xs (nxt xs a 12).2 3).2)
  else if kF small (nxt xs a 12).1 8 = 6 ∨ small = true then (exL 1 (1 + (nxt xs (nxt xs a 12).2 200).1) [] [], (nxt xs (nxt xs a 12).2 200).2)
  else if kF small (nxt xs a 12).1 8 = 7 then (exL 3 0 (arrN (nxt xs (nxt xs a 12).2 2).1) [(rec (nxt xs (nxt xs a 12).2 2).2).1], (rec (nxt xs (nxt xs a 12).2 2).2).2)
  else if kF small (nxt xs a 12).1 8 = 8 then (exL (8 + (nxt xs (nxt xs a 12).2 2).1) 0 [] [(rec (nxt xs (nxt xs a 12).2 2).2).1], (rec (nxt xs (nxt xs a 12).2 2).2).2)
  else (exL (10 + (nxt xs (rec (nxt xs a 12).2).2 13).1) 0 [] [(rec (nxt xs a 12).2).1, (rec (nxt xs (rec (nxt xs a 12).2).2 13).2).1], (rec (nxt xs (rec (nxt xs a 12).2).2 13).2).2)
def exprF (xs : List UInt8) : Nat → Nat → Ex × Nat
  | 0, a => exprStep xs (fun a => (exL 0 0 [] [], a)) true a
  | d + 1, a => exprStep xs (exprF xs d) (decide (d + 1 ≤ 1)) a
theorem exprStep_le (xs : List UInt8) (rec : Nat → Ex × Nat) (small : Bool) (a : Nat) (ha : a ≤ xs.length) (hr : ∀ a ≤ xs.length, (rec a).2 ≤ xs.length) : (exprStep xs rec small a).2 ≤ xs.length := by
  have h0 := nxt_le xs a 12 ha
  unfold exprStep
  repeat' split
  all_goals first | exact nxt_le _ _ _ h0 | exact h0 | exact hr _ (nxt_le _ _ _ h0) | exact hr _ (nxt_le _ _ _ (hr _ h0))
theorem exprF_le (xs : List UInt8) : ∀ (d a : Nat), a ≤ xs.length → (exprF xs d a).2 ≤ xs.length
  | 0, a, h => exprStep_le xs _ _ a h (fun a h => h)
  | d + 1, a, h => exprStep_le xs _ _ a h (fun a h => exprF_le xs d a h)

def smL (kind : Int) (name : List UInt8) (place value : Ex) (body els : List Sm) : Sm := .mk kind name 0 0 place value body els
def ex0 : Ex := .mk 0 0 [] 0 0 []
def stmtStep (xs : List UInt8) (rec : Int → Nat → List Sm × Nat) (small : Bool) (a : Nat) : Sm × Nat :=
  let q := nxt xs a 10
  if kF small q.1 7 < 3 then (smL 1 (scal (nxt xs q.2 3).1) ex0 (exprF xs 3 (nxt xs q.2 3).2).1 [] [], (exprF xs 3 (nxt xs q.2 3).2).2)
  else if kF small q.1 7 = 3 then (smL 2 (arrN (nxt xs q.2 2).1) (exprF xs 2 (nxt xs q.2 2).2).1 (exprF xs 2 (exprF xs 2 (nxt xs q.2 2).2).2).1 [] [], (exprF xs 2 (exprF xs 2 (nxt xs q.2 2).2).2).2)
  else if kF small q.1 7 < 6 then (smL 5 [] (exprF xs 2 q.2).1 (exprF xs 2 (exprF xs 2 q.2).2).1 [] [], (exprF xs 2 (exprF xs 2 q.2).2).2)
  else if kF small q.1 7 = 6 then (smL 6 [] ex0 (exprF xs 2 q.2).1 [] [], (exprF xs 2 q.2).2)
  else if kF small q.1 7 < 9 then (smL 3 [] ex0 (exprF xs 2 q.2).1 (rec 2 (exprF xs 2 q.2).2).1 (rec 1 (rec 2 (exprF xs 2 q.2).2).2).1, (rec 1 (rec 2 (exprF xs 2 q.2).2).2).2)
  else (smL 4 [] ex0 (exprF xs 2 q.2).1 (rec 2 (exprF xs 2 q.2).2).1 [], (rec 2 (exprF xs 2 q.2).2).2)
def stmtsLoop (xs : List UInt8) (rec : Int → Nat → List Sm × Nat) (small : Bool) : Nat → Nat → List Sm × Nat
  | 0, a => ([], a)
  | n + 1, a => ((stmtStep xs rec small a).1 :: (stmtsLoop xs rec small n (stmtStep xs rec small a).2).1, (stmtsLoop xs rec small n (stmtStep xs rec small a).2).2)
def stmtsTop (xs : List UInt8) (rec : Int → Nat → List Sm × Nat) (small : Bool) (most : Int) (a : Nat) : List Sm × Nat :=
  stmtsLoop xs rec small (nxt xs a (most + 1)).1.toNat (nxt xs a (most + 1)).2
def stmtsF (xs : List UInt8) : Nat → Int → Nat → List Sm × Nat
  | 0, most, a => stmtsTop xs (fun _ a => ([], a)) true most a
  | d + 1, most, a => stmtsTop xs (stmtsF xs d) (decide (d + 1 ≤ 1)) most a
theorem stmtStep_le (xs : List UInt8) (rec : Int → Nat → List Sm × Nat) (small : Bool) (a : Nat) (ha : a ≤ xs.length) (hr : ∀ m a, a ≤ xs.length → (rec m a).2 ≤ xs.length) : (stmtStep xs rec small a).2 ≤ xs.length := by
  have h0 := nxt_le xs a 10 ha
  unfold stmtStep
  dsimp only
  repeat' split
  all_goals dsimp only
  all_goals first | exact exprF_le _ _ _ (nxt_le _ _ _ h0) | exact exprF_le _ _ _ (exprF_le _ _ _ (nxt_le _ _ _ h0)) | exact exprF_le _ _ _ (exprF_le _ _ _ h0) | exact exprF_le _ _ _ h0 | exact hr _ _ (hr _ _ (exprF_le _ _ _ h0)) | exact hr _ _ (exprF_le _ _ _ h0)
theorem stmtsLoop_le (xs : List UInt8) (rec : Int → Nat → List Sm × Nat) (small : Bool) (hr : ∀ m a, a ≤ xs.length → (rec m a).2 ≤ xs.length) : ∀ (n a : Nat), a ≤ xs.length → (stmtsLoop xs rec small n a).2 ≤ xs.length
  | 0, a, h => h
  | n + 1, a, h => stmtsLoop_le xs rec small hr n _ (stmtStep_le xs rec small a h hr)
theorem stmtsF_le (xs : List UInt8) : ∀ (d : Nat) (m : Int) (a : Nat), a ≤ xs.length → (stmtsF xs d m a).2 ≤ xs.length
  | 0, m, a, h => stmtsLoop_le xs _ _ (fun _ _ h => h) _ _ (nxt_le _ _ _ h)
  | d + 1, m, a, h => stmtsLoop_le xs _ _ (fun m a h => stmtsF_le xs d m a h) _ _ (nxt_le _ _ _ h)
def eB : Nat → Nat
  | 0 => 1
  | d + 1 => 1 + 2 * eB d
theorem exprStep_sz (xs : List UInt8) (rec : Nat → Ex × Nat) (small : Bool) (a B : Nat) (hr : ∀ a, szE (rec a).1 ≤ B) : szE (exprStep xs rec small a).1 ≤ 1 + 2 * B := by
  have h := fun a => hr a
  unfold exprStep
  repeat' split
  all_goals simp only [exL, szE, szEs]
  all_goals try omega
  · have := h (nxt xs (nxt xs a 12).2 2).2; omega
  · have := h (nxt xs (nxt xs a 12).2 2).2; omega
  · have := h (nxt xs a 12).2; have := h (nxt xs (rec (nxt xs a 12).2).2 13).2; omega
theorem exprF_sz (xs : List UInt8) : ∀ (d a : Nat), szE (exprF xs d a).1 ≤ 1 + 2 * eB d
  | 0, a => exprStep_sz xs _ _ a 1 (fun a => by simp [exL, szE, szEs])
  | d + 1, a => exprStep_sz xs _ _ a _ (fun a => by have := exprF_sz xs d a; simp only [eB] at *; omega)
def sB : Nat → Nat
  | 0 => 100
  | d + 1 => 100 + 3 * sB d
theorem stmtStep_sz (xs : List UInt8) (rec : Int → Nat → List Sm × Nat) (small : Bool) (a B : Nat) (h2 : ∀ a, szSs (rec 2 a).1 ≤ 2 * B) (h1 : ∀ a, szSs (rec 1 a).1 ≤ B) : szS (stmtStep xs rec small a).1 ≤ 100 + 3 * B := by
  have e2 := fun a => exprF_sz xs 2 a
  have e3 := fun a => exprF_sz xs 3 a
  simp only [eB] at e2 e3
  unfold stmtStep
  dsimp only
  repeat' split
  all_goals simp only [smL, szS, szSs, ex0, szE, szEs]
  · have := e3 (nxt xs (nxt xs a 10).2 3).2; omega
  · have := e2 (nxt xs (nxt xs a 10).2 2).2; have := e2 (exprF xs 2 (nxt xs (nxt xs a 10).2 2).2).2; omega
  · have := e2 (nxt xs a 10).2; have := e2 (exprF xs 2 (nxt xs a 10).2).2; omega
  · have := e2 (nxt xs a 10).2; omega
  · have := e2 (nxt xs a 10).2; have := h2 (exprF xs 2 (nxt xs a 10).2).2; have := h1 (rec 2 (exprF xs 2 (nxt xs a 10).2).2).2; omega
  · have := e2 (nxt xs a 10).2; have := h2 (exprF xs 2 (nxt xs a 10).2).2; omega
theorem stmtsLoop_sz (xs : List UInt8) (rec : Int → Nat → List Sm × Nat) (small : Bool) (B : Nat) (h : ∀ a, szS (stmtStep xs rec small a).1 ≤ B) : ∀ (n a : Nat), szSs (stmtsLoop xs rec small n a).1 ≤ n * B
  | 0, a => by simp [stmtsLoop, szSs]
  | n + 1, a => by
    have h1 := h a
    have h2 := stmtsLoop_sz xs rec small B h n (stmtStep xs rec small a).2
    simp only [stmtsLoop, szSs]
    rw [Nat.succ_mul]; omega
theorem stmtsTop_sz (xs : List UInt8) (rec : Int → Nat → List Sm × Nat) (small : Bool) (B : Nat) (h : ∀ a, szS (stmtStep xs rec small a).1 ≤ B) (most : Nat) (a : Nat) : szSs (stmtsTop xs rec small most a).1 ≤ most * B := by
  unfold stmtsTop
  have h1 := nxt_lt xs a ((most : Int) + 1) (by omega)
  refine Nat.le_trans (stmtsLoop_sz xs rec small B h _ _) (Nat.mul_le_mul_right _ (by omega))
theorem stmtsF_sz (xs : List UInt8) : ∀ (d : Nat) (most : Nat) (a : Nat), szSs (stmtsF xs d most a).1 ≤ most * sB (d + 1)
  | 0, most, a => stmtsTop_sz xs _ _ _ (fun a => Nat.le_trans (stmtStep_sz xs _ _ a 0 (fun _ => by simp [szSs]) (fun _ => by simp [szSs])) (by simp [sB])) most a
  | d + 1, most, a => stmtsTop_sz xs _ _ _ (fun a => Nat.le_trans (stmtStep_sz xs _ _ a (sB (d + 1)) (fun a => stmtsF_sz xs d 2 a) (fun a => by have := stmtsF_sz xs d 1 a; simpa using this)) (by simp [sB])) most a
end Go.Abs
namespace Go.Abs
open Go Go.ChangeShapes Go.WideShapes Go.ChangeAt Go.RowKit Go.Deep
section
variable {H : Type} {enc : TypeId × Value → H} {P : Program} {W : World} {spare : Nat → Bool} {held : Bool}
theorem open_bytes {base : Nat} {t e : TypeId} {v : Value} {d : DataW H} {p : List MemPlace} (ht : P.underlying t = some (.slice e)) (he : P.underlying e = some (.int .u8)) (hC : P.cellsOf e = 1)
    (hval : Value.okWide P W .any base t v) (h : DataW.Trod enc P W 0 spare held t v d p) : ∃ l : List UInt8, Rd (memOf W) (.slice (l.map encB)) v := by
  obtain ⟨a', len', cap', rfl⟩ := okWide_slice ht hval
  obtain ⟨fuel, hf⟩ := h
  rcases Go.ChangeShapes.open_ints ht he hC hf with ⟨hcs, _⟩ | ⟨a, len, cap, zs, hcs, _, hlc, _, hzl, _, hcell, hwf⟩
  · simp [Value.cells] at hcs
    obtain ⟨rfl, rfl, rfl⟩ := hcs
    exact ⟨[], .nils⟩
  · simp [Value.cells] at hcs
    obtain ⟨rfl, rfl, rfl⟩ := hcs
    have hsp := spot_none ht hval
    obtain ⟨b, off, sp⟩ := a
    cases hsp
    have hml : len' ≤ zs.length := by rw [hzl]; split <;> omega
    have hz : ∀ i, i < zs.length → ∃ u : UInt8, zs.getD i 0 = (u.toNat : Int) := fun i hi => by
      have hm : zs.getD i 0 ∈ zs := by simp [List.getD, hi]
      have := hwf _ hm
      have hr : 0 ≤ zs.getD i 0 ∧ zs.getD i 0 ≤ 255 := by simpa [Lit.wf, IntKind.min, IntKind.max, IntKind.bits, IntKind.signed] using this
      refine ⟨UInt8.ofNat (zs.getD i 0).toNat, ?_⟩
      rw [UInt8.toNat_ofNat']
      omega
    let g : Nat → UInt8 := fun i => if h : i < zs.length then Classical.choose (hz i h) else 0
    have hg : ∀ i, i < zs.length → zs.getD i 0 = ((g i).toNat : Int) := fun i hi => by
      have := Classical.choose_spec (hz i hi)
      simp only [g, hi, dif_pos]; exact this
    refine ⟨(List.range len').map g, ?_⟩
    have hlen : (((List.range len').map g).map encB).length = len' := by simp
    have := Rd.slice (M := memOf W) (((List.range len').map g).map encB) 1 b off cap' (fun i _ => .int .u8 (((g i).toNat : Nat) : Int))
      (fun x hx => by simp at hx; obtain ⟨i, _, rfl⟩ := hx; rfl) (fun i j hi hj => ?_) (fun i j hi hj => ?_) (by rw [hlen]; exact hlc)
    · rw [hlen] at this; exact this
    · rw [hlen] at hi
      have hj0 : j = 0 := by omega
      subst hj0
      have hc := hcell i (by omega)
      rw [addr_add] at hc
      rw [hg i (by omega)] at hc
      simpa [memOf] using hc
    · rw [hlen] at hi
      have hj0 : j = 0 := by omega
      subst hj0
      have hc : pcell (((List.range len').map g).map encB) i 0 = .int .u8 (((g i).toNat : Nat) : Int) := by simp [pcell, List.getD, hi, encB]
      rw [hc]
      exact .int _ _
end
end Go.Abs
namespace Go.Abs
open Go
theorem table_cell {H : Type} {enc : TypeId × Value → H} {P : Program} {w : World} {base : Nat} {spare : Nat → Bool} {held : Bool} {fuel : Nat} {t e : TypeId} {cs : List Value} {ps : List MemPlace} {n : Nat} {ds : List (List UInt8)}
    (ht : P.underlying t = some (.array n e)) (he : P.underlying e = some .string) (hC : P.cellsOf e = 1)
    (h : DataW.trod enc P w base spare held fuel t cs = some (.agg (ds.map fun s => .lit (.string s)), ps)) (i : Nat) (hi : i < ds.length) : cs[i]? = some (.string ⟨(ds.getD i []).toArray⟩) := by
  obtain ⟨xs, m, _, hx, _, hn, hel⟩ := DataW.trod_array ht h
  simp only [Prod.mk.injEq, DataW.agg.injEq] at hx
  have hlen : ds.length = xs.length := by have := congrArg List.length hx.1; simpa using this
  have h1 := hel i (by omega)
  rw [hC, List.getElem?_eq_getElem (by omega)] at h1
  obtain ⟨s, e1, e2, _⟩ := DataW.trod_string he h1
  have h2 : (ds.map fun s => (DataW.lit (.string s) : DataW H))[i]? = (xs.map (fun x => x.fst))[i]? := by rw [hx.1]
  rw [List.getElem?_map, List.getElem?_map, List.getElem?_eq_getElem hi, List.getElem?_eq_getElem (by omega : i < xs.length)] at h2
  simp only [Option.map_some, Option.some.injEq] at h2
  rw [e2] at h2
  simp only [DataW.lit.injEq, Lit.string.injEq] at h2
  have h3 : ds.getD i [] = s.data.toList := by simp [List.getD, hi, h2]
  rw [h3]
  have h4 : cs[i]? = some (.string s) := by
    have := congrArg (fun l => l[0]?) e1
    simpa using this
  rw [h4]
end Go.Abs
namespace Go.Abs
open Go
theorem table_int {H : Type} {enc : TypeId × Value → H} {P : Program} {w : World} {base : Nat} {spare : Nat → Bool} {held : Bool} {fuel : Nat} {t e : TypeId} {cs : List Value} {ps : List MemPlace} {n : Nat} {k : IntKind} {ds : List Int}
    (ht : P.underlying t = some (.array n e)) (he : P.underlying e = some (.int k)) (hC : P.cellsOf e = 1)
    (h : DataW.trod enc P w base spare held fuel t cs = some (.agg (ds.map fun s => .lit (.int k s)), ps)) (i : Nat) (hi : i < ds.length) : cs[i]? = some (.int k (ds.getD i 0)) := by
  obtain ⟨xs, m, _, hx, _, hn, hel⟩ := DataW.trod_array ht h
  simp only [Prod.mk.injEq, DataW.agg.injEq] at hx
  have hlen : ds.length = xs.length := by have := congrArg List.length hx.1; simpa using this
  have h1 := hel i (by omega)
  rw [hC, List.getElem?_eq_getElem (by omega)] at h1
  obtain ⟨s, e1, e2, _⟩ := DataW.trod_int he h1
  have h2 : (ds.map fun s => (DataW.lit (.int k s) : DataW H))[i]? = (xs.map (fun x => x.fst))[i]? := by rw [hx.1]
  rw [List.getElem?_map, List.getElem?_map, List.getElem?_eq_getElem hi, List.getElem?_eq_getElem (by omega : i < xs.length)] at h2
  simp only [Option.map_some, Option.some.injEq] at h2
  rw [e2] at h2
  simp only [DataW.lit.injEq, Lit.int.injEq] at h2
  have h3 : ds.getD i 0 = s := by simp [List.getD, hi, h2]
  rw [h3]
  have h4 : cs[i]? = some (.int k s) := by
    have := congrArg (fun l => l[0]?) e1
    simpa using this
  rw [h4]
theorem iface_cell {H : Type} {enc : TypeId × Value → H} {P : Program} {w : World} {base : Nat} {spare : Nat → Bool} {held : Bool} {fuel : Nat} {t : TypeId} {cs : List Value} {ps : List MemPlace} {ms : Array (String × TypeId)} {nm : String} {d : DataW H}
    (ht : P.underlying t = some (.interface ms)) (h : DataW.trod enc P w base spare held fuel t cs = some (.iface nm d, ps)) : ∃ u v, cs[0]? = some (.iface u v) := by
  cases fuel with
  | zero => simp [DataW.trod] at h
  | succ f =>
    unfold DataW.trod at h
    rw [ht] at h
    split at h <;> simp_all
theorem var_block {P : Program} {W : World} {name : String} {b : Nat} {cs : Array Value} (hg : P.globalNamed name = some b) (hv : W.var? P name = some cs) : ∃ T l, W.heap[b]? = some (.cells cs T l) := by
  unfold World.var? at hv
  rw [hg] at hv
  simp only [Option.bind_some] at hv
  split at hv
  · rename_i cs' T l h
    cases hv
    exact ⟨T, l, h⟩
  · cases hv
theorem table_size {H : Type} {enc : TypeId × Value → H} {P : Program} {w : World} {base : Nat} {spare : Nat → Bool} {held : Bool} {fuel : Nat} {t e : TypeId} {cs : Array Value} {x : DataW H × List MemPlace} {n m : Nat}
    (ht : P.underlying t = some (.array n e)) (hC : P.cellsOf t = m) (h : DataW.trod enc P w base spare held fuel t cs.toList = some x) : cs.size = m := by
  obtain ⟨_, _, _, _, hl, _⟩ := DataW.trod_array ht h
  simpa [hC] using hl
theorem iface_size {H : Type} {enc : TypeId × Value → H} {P : Program} {w : World} {base : Nat} {spare : Nat → Bool} {held : Bool} {fuel : Nat} {t : TypeId} {cs : Array Value} {ps : List MemPlace} {ms : Array (String × TypeId)} {nm : String} {d : DataW H}
    (ht : P.underlying t = some (.interface ms)) (h : DataW.trod enc P w base spare held fuel t cs.toList = some (.iface nm d, ps)) : cs.size = 1 := by
  rw [← Array.length_toList]
  generalize cs.toList = l at *
  cases fuel with
  | zero => simp [DataW.trod] at h
  | succ f =>
    unfold DataW.trod at h
    rw [ht] at h
    split at h <;> simp_all
end Go.Abs
namespace Go.Abs
open Go Go.ChangeShapes Go.WideShapes Go.ChangeAt Go.RowKit Go.Deep
section
variable {H : Type} {enc : TypeId × Value → H} {P : Program} {W : World} {spare : Nat → Bool} {held : Bool}
def tkDat {H : Type} (t : TkD) : DataW H := .agg [.lit (.int .i64 t.kind), .lit (.string t.text), .lit (.int .i64 t.value), .lit (.int .i64 t.pos)]
theorem open_toks {base : Nat} {t e : TypeId} {f0 f1 f2 f3 : Field} {v : Value} {d : DataW H} {p : List MemPlace} (ht : P.underlying t = some (.slice e)) (he : P.underlying e = some (.struct #[f0, f1, f2, f3])) (hC : P.cellsOf e = 4)
    (o0 : f0.offset = 0 ∧ P.cellsOf f0.type = 1) (o1 : f1.offset = 1 ∧ P.cellsOf f1.type = 1) (o2 : f2.offset = 2 ∧ P.cellsOf f2.type = 1) (o3 : f3.offset = 3 ∧ P.cellsOf f3.type = 1)
    (h0 : P.underlying f0.type = some (.int .i64)) (h1 : P.underlying f1.type = some .string) (h2 : P.underlying f2.type = some (.int .i64)) (h3 : P.underlying f3.type = some (.int .i64))
    (hval : Value.okWide P W .any base t v) (h : DataW.Trod enc P W 0 spare held t v d p) :
    ∃ l : List TkD, Rd (memOf W) (.slice (l.map encTk)) v ∧ ∀ t ∈ l, t.value ≤ 9223372036854775807 ∧ ∃ els sp, d = .slice els sp ∧ tkDat t ∈ els := by
  obtain ⟨a', len', cap', rfl⟩ := okWide_slice ht hval
  obtain ⟨fuel, hf⟩ := h
  rcases open_slice ht hf with ⟨hcs, _⟩ | ⟨a, len, cap, m, n, D, Pl, hcs, _, hlc, _, hm, hd, hi⟩
  · simp [Value.cells] at hcs
    obtain ⟨rfl, rfl, rfl⟩ := hcs
    exact ⟨[], .nils, fun t ht => by cases ht⟩
  · simp [Value.cells] at hcs
    obtain ⟨rfl, rfl, rfl⟩ := hcs
    have hsp := spot_none ht hval
    obtain ⟨b, off, sp⟩ := a
    cases hsp
    have hml : len' ≤ m := by rw [hm]; split <;> omega
    have hd1 := congrArg Prod.fst hd
    have key : ∀ i, ∃ x : TkD, i < len' → (memOf W b (off + i * 4 + 0) = some (.int .i64 x.kind) ∧ memOf W b (off + i * 4 + 1) = some (.string ⟨x.text.toArray⟩) ∧ memOf W b (off + i * 4 + 2) = some (.int .i64 x.value) ∧ memOf W b (off + i * 4 + 3) = some (.int .i64 x.pos)) ∧ x.value ≤ 9223372036854775807 ∧ D i = tkDat x := by
      intro i
      by_cases hil : i < len'
      · obtain ⟨cs, hc, ht'⟩ := hi i (by omega)
        rw [hC] at hc
        obtain ⟨_, hcl, hat⟩ := World.cells?_some hc
        obtain ⟨xs, n', _, hx1, _, hxl, hfd⟩ := DataW.trod_struct he ht'
        match cs, hcl with
        | [c0, c1, c2, c3], _ =>
          have e0 := hfd 0 f0 rfl
          have e1 := hfd 1 f1 rfl
          have e2 := hfd 2 f2 rfl
          have e3 := hfd 3 f3 rfl
          rw [o0.1, o0.2] at e0
          rw [o1.1, o1.2] at e1
          rw [o2.1, o2.2] at e2
          rw [o3.1, o3.2] at e3
          have hx : xs.length = 4 := hxl
          match xs, hx with
          | [x0, x1, x2, x3], _ =>
            obtain ⟨z0, hz0, hy0, _⟩ := DataW.trod_int h0 e0
            obtain ⟨s, hs, hy1, _⟩ := DataW.trod_string h1 e1
            obtain ⟨z2, hz2, hy2, hwf⟩ := DataW.trod_int h2 e2
            obtain ⟨z3, hz3, hy3, _⟩ := DataW.trod_int h3 e3
            simp at hs hz0 hz2 hz3
            subst hs hz0 hz2 hz3
            subst hy0 hy1 hy2 hy3
            have a0 := hat 0 (by omega)
            have a1 := hat 1 (by omega)
            have a2 := hat 2 (by omega)
            have a3 := hat 3 (by omega)
            rw [addr_add, addr_add] at a0 a1 a2 a3
            have hw : -9223372036854775808 ≤ z2 ∧ z2 ≤ 9223372036854775807 := by simpa [Lit.wf, IntKind.min, IntKind.max, IntKind.bits, IntKind.signed] using hwf
            refine ⟨⟨z0, s.data.toList, z2, z3⟩, fun _ => ⟨⟨?_, ?_, ?_, ?_⟩, hw.2, ?_⟩⟩
            · simpa [memOf] using a0
            · simpa [memOf] using a1
            · simpa [memOf] using a2
            · simpa [memOf] using a3
            · have := congrArg Prod.fst hx1
              simpa [tkDat] using this
      · exact ⟨⟨0, [], 0, 0⟩, fun h => absurd h hil⟩
    let g : Nat → TkD := fun i => Classical.choose (key i)
    have hg : ∀ i, i < len' → _ := fun i hi => Classical.choose_spec (key i) hi
    refine ⟨(List.range len').map g, ?_, fun t ht => ?_⟩
    · have hlen : (((List.range len').map g).map encTk).length = len' := by simp
      have := Rd.slice (M := memOf W) (((List.range len').map g).map encTk) 4 b off cap' (fun i j => match j with | 0 => .int .i64 (g i).kind | 1 => .string ⟨(g i).text.toArray⟩ | 2 => .int .i64 (g i).value | _ => .int .i64 (g i).pos)
        (fun x hx => by simp at hx; obtain ⟨i, _, rfl⟩ := hx; rfl) (fun i j hi hj => ?_) (fun i j hi hj => ?_) (by rw [hlen]; exact hlc)
      · rw [hlen] at this; exact this
      · rw [hlen] at hi
        obtain ⟨⟨g0, g1, g2, g3⟩, _⟩ := hg i hi
        match j, hj with
        | 0, _ => exact g0
        | 1, _ => exact g1
        | 2, _ => exact g2
        | 3, _ => exact g3
      · rw [hlen] at hi
        have hc : pcell (((List.range len').map g).map encTk) i j = (encTk (g i)).getD j .nilptr := by simp [pcell, List.getD, hi]
        rw [hc]
        match j, hj with
        | 0, _ => exact .int _ _
        | 1, _ => exact .str _
        | 2, _ => exact .int _ _
        | 3, _ => exact .int _ _
    · rw [List.mem_map] at ht
      obtain ⟨i, hi', rfl⟩ := ht
      have hil := List.mem_range.1 hi'
      obtain ⟨_, h5, h6⟩ := hg i hil
      refine ⟨h5, _, _, hd1, ?_⟩
      show tkDat (g i) ∈ _
      rw [← h6]
      exact List.mem_map_of_mem hi'
end
end Go.Abs
