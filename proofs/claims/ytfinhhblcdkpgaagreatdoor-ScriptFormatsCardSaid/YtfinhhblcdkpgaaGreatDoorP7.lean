/- A part of the walk (Tryz_P7): its theorems have no condition beyond what they state. -/
import Derived.Test.YtfinhhblcdkpgaaGreatDoorP6
import Derived.Test.YtfinhhblcdkpgaaGreatDoorLib3
set_option maxRecDepth 100000
set_option maxHeartbeats 64000000
set_option linter.unusedSimpArgs false
set_option linter.unusedVariables false
set_option linter.defProp false
namespace Go.Proofs.YtfinhhblcdkpgaaGreatDoor
open Go Go.Abs Go.RowKit
theorem zrO (l:List TkD) (n m k:Nat) (hl:l.length≤100000) (hk:k≤l.length)
  (hB:∀ k,k≤l.length→(exF l m (.bin 0) k).isOut=false→zlO 199 [.pv (.int .i64 0)] l n k (exF l m (.bin 0) k))
  (ho:(exF l (m+1) .prim k).isOut=false):zlO 204 [] l n k (exF l (m+1) .prim k):=by
 rw [znZ] at ho ⊢
 by_cases h0:zed l k=true
 ·rw [if_pos h0]
  cases hr:nmF l 0 k with
  |ok v k'=>exact zum l n k k' v hl h0 hr
  |bad k'=>exact zrM l n k k' hl h0 hr
  |out=>have:=zgy (l:=l) (z:=0) (k:=k);rw [hr] at this;cases this
 rw [if_neg h0] at ho ⊢
 replace h0:zed l k=false:=by simpa using h0
 by_cases e0:isT l k [115,101,108,102]=true
 ·rw [if_pos e0];exact zxa l n k hl h0 e0
 rw [if_neg e0] at ho ⊢
 replace e0:isT l k [115,101,108,102]=false:=by simpa using e0
 by_cases e1:isT l k [112,114,111,99,115]=true
 ·rw [if_pos e1];exact zxb l n k hl h0 e0 e1
 rw [if_neg e1] at ho ⊢
 replace e1:isT l k [112,114,111,99,115]=false:=by simpa using e1
 by_cases e2:isT l k [102,114,111,109]=true
 ·rw [if_pos e2];exact zxc l n k hl h0 e0 e1 e2
 rw [if_neg e2] at ho ⊢
 replace e2:isT l k [102,114,111,109]=false:=by simpa using e2
 by_cases e3:isT l k [118,97,108,117,101]=true
 ·rw [if_pos e3];exact zxd l n k hl h0 e0 e1 e2 e3
 rw [if_neg e3] at ho ⊢
 replace e3:isT l k [118,97,108,117,101]=false:=by simpa using e3
 by_cases e4:isT l k [40]=true
 ·rw [if_pos e4] at ho ⊢
  have hlt:=zaC e4 (by simp)
  have h1:(exF l m (.bin 0) (k+1)).isOut=false:=by
   cases hr:exF l m (.bin 0) (k+1) with
   |out=>rw [hr] at ho;cases ho
   |_=>rfl
  exact zun l n k _ hl h0 e0 e1 e2 e3 e4 (hB (k+1) (by omega) h1) ((zcR m (.bin 0) (k+1) (by omega)).2 rfl) h1
 rw [if_neg e4] at ho ⊢
 replace e4:isT l k [40]=false:=by simpa using e4
 cases hr:zff l k with
 |out=>have:=zdW (l:=l) (k:=k);rw [hr] at this;cases this
 |bad k'=>exact zpn l n k k' hl hk h0 e0 e1 e2 e3 e4 hr
 |ok nm k1=>
  rw [hr] at ho
  simp only [PR.bind] at ho ⊢
  by_cases e5:isT l k1 [91]=true
  ·rw [if_pos e5] at ho ⊢
   have hlt:=zaC e5 (by simp)
   have h1:(exF l m (.bin 0) (k1+1)).isOut=false:=by
    cases hr:exF l m (.bin 0) (k1+1) with
    |out=>rw [hr] at ho;cases ho
    |_=>rfl
   exact zuo l n k k1 nm _ hl h0 e0 e1 e2 e3 e4 hr e5 (hB (k1+1) (by omega) h1) ((zcR m (.bin 0) (k1+1) (by omega)).2 rfl) h1
  ·rw [if_neg e5]
   exact zrN l n k k1 nm hl h0 e0 e1 e2 e3 e4 hr (by simpa using e5)
theorem zlP (l:List TkD) (n:Nat) (hl:l.length≤100000):∀ m j,j≤m →
  (∀ lv k,lv≤5→k≤l.length→(exF l j (.bin lv) k).isOut=false→zlO 199 [.pv (.int .i64 lv)] l n k (exF l j (.bin lv) k)) ∧
  (∀ k,k≤l.length→(exF l j .un k).isOut=false→zlO 201 [] l n k (exF l j .un k)) ∧
  (∀ k,k≤l.length→(exF l j .prim k).isOut=false→zlO 204 [] l n k (exF l j .prim k))
 |0,j,hj=>by
  have:j=0:=by omega
  subst this
  exact ⟨fun _ _ _ _ h=>(by cases h),fun _ _ h=>(by cases h),fun _ _ h=>(by cases h)⟩
 |m+1,j,hj=>by
  have ih:=zlP l n hl m
  by_cases hjm:j≤m
  ·exact ih j hjm
  ·have:j=m+1:=by omega
   subst this
   obtain ⟨i1,i2,i3⟩:=ih m (Nat.le_refl _)
   exact ⟨fun lv k h1 h2 h3=>zmX l n m lv k hl h2 h1 (fun j hj=>(ih j hj).1) i2 h3,
    fun k h2 h3=>zpm l n m k hl h2 i2 i3 h3,
    fun k h2 h3=>zrO l n m k hl h2 (fun k h=>i1 0 k (by omega) h) h3⟩
theorem zol (l:List TkD) (n k:Nat) (hl:l.length≤100000) (hk:k≤l.length):zlO 199 [.pv (.int .i64 0)] l n k (zbZ l k):=
 (zlP l n hl _ _ (Nat.le_refl _)).1 0 k (by omega) hk (zdX hk)
def ziB {α:Type} (enc:α→AVal) (f:FuncId) (args:List AVal) (l:List TkD) (n k:Nat):PR α→Prop
 |.ok e k'=>AC Tryz.prog gl f (.ref 0 0::args) (psO l n k) (enc e) (psO l n k')
 |.bad k'=>AP Tryz.prog gl f (.ref 0 0::args) (psO l n k) (fv l n k') (psO l n k')
 |.out=>True
def zFC {α:Type} (enc:α→AVal) (site:Nat→Nat) (nobj:Nat) (rs:List ResultVar) (l:List TkD) (n:Nat):PR α→Exit→St→Prop
 |.ok e k'=>zwc (zbB site nobj) 1 (zaJ (zbB site nobj) 1 rs (enc e) (psO l n k'))
 |.bad k'=>zbT 1 (fv l n k') (psO l n k')
 |.out=>fun _ _=>True
theorem zkK {α:Type} (enc:α→AVal) {f:FuncId} {code:Code} (site:Nat→Nat) (nobj:Nat) {nt:Nat} {rs:List ResultVar} (hF:FI Tryz.prog f code nt rs) {args:List AVal} {l:List TkD} {n k:Nat} {r:PR α}
  (h:VC Tryz.prog (zbB site nobj) 1 code ⟨(AVal.ref 0 0::args)++List.replicate (nt - (AVal.ref 0 0::args).length) .junk,psO l n k++List.replicate (nobj - (psO l n k).length) none⟩ (zFC enc site nobj rs l n r)) (hargs:(AVal.ref 0 0::args).length≤nt:=by simp) (hobjs:(psO l n k).length≤nobj:=by simp) (hr:r.isOut=false:=by assumption):ziB enc f args l n k r:=by
 cases r with
 |ok e k'=>exact zg0 site nobj hF h hargs hobjs
 |bad k'=>exact zbr site nobj hF h hargs hobjs
 |out=>cases hr
end Go.Proofs.YtfinhhblcdkpgaaGreatDoor
