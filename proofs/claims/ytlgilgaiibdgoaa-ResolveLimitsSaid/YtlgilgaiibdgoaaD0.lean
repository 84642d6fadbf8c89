/- The data of the program: declarations, expressions, statements; how they read. No condition. -/
import Derived.Test.YtlgilgaiibdgoaaAbs21
set_option linter.unusedSimpArgs false
set_option linter.unusedVariables false
namespace Go.Abs
open Go

structure VarD where
  name : List UInt8
  size : Int
  init : Int
def encVar (v : VarD) : List PVal := [.str v.name, .int .i64 v.size, .int .i64 v.init]
theorem encVar_length (v : VarD) : (encVar v).length = 3 := rfl

inductive Ex where
  | mk (op value : Int) (name : List UInt8) (slot size : Int) (args : List Ex)
def Ex.op : Ex → Int | .mk a _ _ _ _ _ => a
def Ex.value : Ex → Int | .mk _ a _ _ _ _ => a
def Ex.name : Ex → List UInt8 | .mk _ _ a _ _ _ => a
def Ex.slot : Ex → Int | .mk _ _ _ a _ _ => a
def Ex.size : Ex → Int | .mk _ _ _ _ a _ => a
def Ex.args : Ex → List Ex | .mk _ _ _ _ _ a => a
mutual
def encEx : Ex → List PVal
  | .mk op value name slot size args => [.int .i64 op, .int .i64 value, .str name, .int .i64 slot, .int .i64 size, .slice (encExs args)]
def encExs : List Ex → List (List PVal)
  | [] => []
  | e :: r => encEx e :: encExs r
end
theorem encExs_map : ∀ l : List Ex, encExs l = l.map encEx
  | [] => by simp [encExs]
  | e :: r => by simp [encExs, encExs_map r]
theorem encEx_eq (e : Ex) : encEx e = [.int .i64 e.op, .int .i64 e.value, .str e.name, .int .i64 e.slot, .int .i64 e.size, .slice (e.args.map encEx)] := by
  cases e; simp [encEx, encExs_map, Ex.op, Ex.value, Ex.name, Ex.slot, Ex.size, Ex.args]
theorem encEx_length (e : Ex) : (encEx e).length = 6 := by rw [encEx_eq]; rfl

inductive Sm where
  | mk (kind : Int) (name : List UInt8) (slot size : Int) (place value : Ex) (body els : List Sm)
def Sm.kind : Sm → Int | .mk a _ _ _ _ _ _ _ => a
def Sm.name : Sm → List UInt8 | .mk _ a _ _ _ _ _ _ => a
def Sm.slot : Sm → Int | .mk _ _ a _ _ _ _ _ => a
def Sm.size : Sm → Int | .mk _ _ _ a _ _ _ _ => a
def Sm.place : Sm → Ex | .mk _ _ _ _ a _ _ _ => a
def Sm.value : Sm → Ex | .mk _ _ _ _ _ a _ _ => a
def Sm.body : Sm → List Sm | .mk _ _ _ _ _ _ a _ => a
def Sm.els : Sm → List Sm | .mk _ _ _ _ _ _ _ a => a
mutual
def encSm : Sm → List PVal
  | .mk kind name slot size place value body els => [.int .i64 kind, .str name, .int .i64 slot, .int .i64 size] ++ encEx place ++ encEx value ++ [.slice (encSms body), .slice (encSms els)]
def encSms : List Sm → List (List PVal)
  | [] => []
  | e :: r => encSm e :: encSms r
end
theorem encSms_map : ∀ l : List Sm, encSms l = l.map encSm
  | [] => by simp [encSms]
  | e :: r => by simp [encSms, encSms_map r]
/-- The eighteen cells of a statement. -/
theorem encSm_eq (s : Sm) : encSm s = [.int .i64 s.kind, .str s.name, .int .i64 s.slot, .int .i64 s.size,
    .int .i64 s.place.op, .int .i64 s.place.value, .str s.place.name, .int .i64 s.place.slot, .int .i64 s.place.size, .slice (s.place.args.map encEx),
    .int .i64 s.value.op, .int .i64 s.value.value, .str s.value.name, .int .i64 s.value.slot, .int .i64 s.value.size, .slice (s.value.args.map encEx),
    .slice (s.body.map encSm), .slice (s.els.map encSm)] := by
  cases s; simp [encSm, encSms_map, encEx_eq, Sm.kind, Sm.name, Sm.slot, Sm.size, Sm.place, Sm.value, Sm.body, Sm.els]
theorem encSm_length (s : Sm) : (encSm s).length = 18 := by rw [encSm_eq]; rfl

abbrev mx := imax
mutual
def szE : Ex → Nat
  | .mk _ _ _ _ _ args => 1 + szEs args
def szEs : List Ex → Nat
  | [] => 0
  | e :: r => szE e + szEs r
end
theorem szE_eq (e : Ex) : szE e = 1 + szEs e.args := by cases e; rfl
theorem szE_pos (e : Ex) : 1 ≤ szE e := by rw [szE_eq]; omega
theorem szEs_len : ∀ l : List Ex, l.length ≤ szEs l
  | [] => by simp
  | e :: r => by have := szEs_len r; have := szE_pos e; simp only [szEs, List.length_cons]; omega
theorem szEs_mem : ∀ (l : List Ex) (e : Ex), e ∈ l → szE e ≤ szEs l
  | [], _, h => by cases h
  | x :: r, e, h => by
    simp only [szEs]
    rcases List.mem_cons.1 h with rfl | h
    · omega
    · have := szEs_mem r e h; omega
mutual
def szS : Sm → Nat
  | .mk _ _ _ _ place value body els => 1 + szE place + szE value + szSs body + szSs els
def szSs : List Sm → Nat
  | [] => 0
  | e :: r => szS e + szSs r
end
theorem szS_eq (s : Sm) : szS s = 1 + szE s.place + szE s.value + szSs s.body + szSs s.els := by cases s; rfl
theorem szS_pos (s : Sm) : 1 ≤ szS s := by rw [szS_eq]; omega
theorem szSs_len : ∀ l : List Sm, l.length ≤ szSs l
  | [] => by simp
  | e :: r => by have := szSs_len r; have := szS_pos e; simp only [szSs, List.length_cons]; omega
theorem szSs_mem : ∀ (l : List Sm) (e : Sm), e ∈ l → szS e ≤ szSs l
  | [], _, h => by cases h
  | x :: r, e, h => by
    simp only [szSs]
    rcases List.mem_cons.1 h with rfl | h
    · omega
    · have := szSs_mem r e h; omega
mutual
def depE : Ex → Int
  | .mk _ _ _ _ _ args => 1 + depEs 0 args
def depEs : Int → List Ex → Int
  | d, [] => d
  | d, e :: r => depEs (mx d (depE e)) r
end
theorem depE_eq (e : Ex) : depE e = 1 + depEs 0 e.args := by cases e; rfl
mutual
theorem depE_pos : ∀ e : Ex, 1 ≤ depE e
  | .mk _ _ _ _ _ args => by simp only [depE]; have := depEs_le 0 args; omega
theorem depEs_le : ∀ (d : Int) (l : List Ex), d ≤ depEs d l
  | d, [] => by simp [depEs]
  | d, e :: r => by
    have h1 := depEs_le (mx d (depE e)) r
    have h2 : d ≤ mx d (depE e) := by unfold mx imax; split <;> omega
    simp only [depEs]; omega
end
theorem depEs_mem : ∀ (l : List Ex) (d : Int) (e : Ex), e ∈ l → depE e ≤ depEs d l
  | [], _, _, h => by cases h
  | x :: r, d, e, h => by
    simp only [depEs]
    rcases List.mem_cons.1 h with rfl | h
    · have h1 := depEs_le (mx d (depE e)) r
      have h2 : depE e ≤ mx d (depE e) := by unfold mx imax; split <;> omega
      omega
    · exact depEs_mem r _ e h
theorem depEs_snoc (x : Ex) : ∀ (l : List Ex) (d : Int), depEs d (l ++ [x]) = mx (depEs d l) (depE x)
  | [], d => by simp [depEs]
  | e :: r, d => by simp only [List.cons_append, depEs]; exact depEs_snoc x r _
mutual
def depS : Sm → Int
  | .mk _ _ _ _ place value body els => 1 + mx (mx (mx (depE place) (depE value)) (depSs 0 body)) (depSs 0 els)
def depSs : Int → List Sm → Int
  | d, [] => d
  | d, s :: r => depSs (mx d (depS s)) r
end
theorem depS_eq (s : Sm) : depS s = 1 + mx (mx (mx (depE s.place) (depE s.value)) (depSs 0 s.body)) (depSs 0 s.els) := by cases s; rfl
theorem depSs_snoc (x : Sm) : ∀ (l : List Sm) (d : Int), depSs d (l ++ [x]) = mx (depSs d l) (depS x)
  | [], d => by simp [depSs]
  | e :: r, d => by simp only [List.cons_append, depSs]; exact depSs_snoc x r _
theorem mx_l (x y : Int) : x ≤ mx x y := by unfold mx imax; split <;> omega
theorem mx_r (x y : Int) : y ≤ mx x y := by unfold mx imax; split <;> omega
theorem depSs_le : ∀ (l : List Sm) (d : Int), d ≤ depSs d l
  | [], d => by simp [depSs]
  | s :: r, d => by
    have h1 := depSs_le r (mx d (depS s))
    have h2 := mx_l d (depS s)
    simp only [depSs]; omega
theorem depS_pos (s : Sm) : 1 ≤ depS s := by
  rw [depS_eq]
  have h1 := depE_pos s.place
  have h2 := mx_l (depE s.place) (depE s.value)
  have h3 := mx_l (mx (depE s.place) (depE s.value)) (depSs 0 s.body)
  have h4 := mx_l (mx (mx (depE s.place) (depE s.value)) (depSs 0 s.body)) (depSs 0 s.els)
  omega
theorem depSs_mem : ∀ (l : List Sm) (d : Int) (e : Sm), e ∈ l → depS e ≤ depSs d l
  | [], _, _, h => by cases h
  | x :: r, d, e, h => by
    simp only [depSs]
    rcases List.mem_cons.1 h with rfl | h
    · have h1 := depSs_le r (mx d (depS e))
      have h2 := mx_r d (depS e)
      omega
    · exact depSs_mem r _ e h
mutual
theorem depE_sz : ∀ e : Ex, depE e ≤ szE e
  | .mk _ _ _ _ _ args => by simp only [depE, szE]; have := depEs_sz 0 args; unfold mx imax at this; split at this <;> omega
theorem depEs_sz : ∀ (d : Int) (l : List Ex), depEs d l ≤ mx d (szEs l)
  | d, [] => by simp only [depEs, szEs]; exact mx_l _ _
  | d, e :: r => by
    have h1 := depEs_sz (mx d (depE e)) r
    have h2 := depE_sz e
    simp only [depEs, szEs]
    unfold mx imax at *
    split at h1 <;> split at h1 <;> split <;> omega
end
mutual
theorem depS_sz : ∀ s : Sm, depS s ≤ szS s
  | .mk _ _ _ _ place value body els => by
    have h1 := depE_sz place
    have h2 := depE_sz value
    have h3 := depSs_sz 0 body
    have h4 := depSs_sz 0 els
    have p1 := szE_pos place
    simp only [depS, szS]
    generalize depE place = a at *
    generalize depE value = b at *
    generalize depSs 0 body = c at *
    generalize depSs 0 els = d at *
    unfold mx imax at *
    split at h3 <;> split at h4 <;> (repeat' split) <;> omega
theorem depSs_sz : ∀ (d : Int) (l : List Sm), depSs d l ≤ mx d (szSs l)
  | d, [] => by simp only [depSs, szSs]; exact mx_l _ _
  | d, e :: r => by
    have h1 := depSs_sz (mx d (depS e)) r
    have h2 := depS_sz e
    simp only [depSs, szSs]
    generalize depSs (mx d (depS e)) r = q at *
    unfold mx imax at *
    split at h1 <;> split at h1 <;> split <;> omega
end
end Go.Abs
