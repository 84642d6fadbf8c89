/- A part of the walk (Tryz_R2): its theorems have no condition beyond what they state. -/
import Derived.Test.YtfinhhblcdkpgaaGreatDoorR1
import Derived.Test.YtfinhhblcdkpgaaGreatDoorLib3
set_option maxRecDepth 100000
set_option maxHeartbeats 64000000
set_option linter.unusedSimpArgs false
set_option linter.unusedVariables false
set_option linter.defProp false
namespace Go.Proofs.YtfinhhblcdkpgaaGreatDoor
open Go Go.Abs Go.RowKit
theorem ziG (lv:Nat) (s:List UInt8) (h:lv≤4):AC Tryz.prog gl 189 [.pv (.str s),.pv (.int .i64 lv)] [] (.pv (.int .i64 (opF lv s:Nat))) []:=by
 have:lv=0∨lv=1∨lv=2∨lv=3∨lv=4:=by omega
 rcases this with rfl|rfl|rfl|rfl|rfl
 all_goals
  refine zap (fun _=>0) 0 zFO ?_
  repeat' first|refine Va zE6 ?_|(with_reducible first|refine SB.c ?_ ?_<;>intro _|exact zad)|with_reducible refine zac ?_|omega
  all_goals first|(subst_vars;rfl)|(simp_all [opF];done)|skip
def spF (s:List UInt8):Int:=if s=[115,101,108,102] then 4 else if s=[112,114,111,99,115] then 5 else if s=[102,114,111,109] then 6 else if s=[118,97,108,117,101] then 7 else 0
theorem zrn (s:List UInt8):AC Tryz.prog gl 200 [.pv (.str s)] [] (.pv (.int .i64 (spF s))) []:=by
 refine zap (fun _=>0) 0 zFR ?_
 repeat' first|refine Va zE8 ?_|(with_reducible first|refine SB.c ?_ ?_<;>intro _|exact zad)|with_reducible refine zac ?_|omega
 all_goals first|(subst_vars;rfl)|(simp_all [spF];done)|skip
def zhE (f:FuncId) (args:List AVal) (l:List TkD) (n k:Nat):PR Ex→Prop
 |.ok e k'=>AC Tryz.prog gl f (.ref 0 0::args) (okO l n k) (exA e) (okO l n k')
 |.bad k'=>∃ e,AC Tryz.prog gl f (.ref 0 0::args) (okO l n k) (exA e) (flO l n k' (zar l n k'))
 |.out=>True
theorem zwK (l:List TkD) (n k:Nat) (b:Int):AC Tryz.prog gl 198 [.ref 0 0] (flO l n k b) (exA exZ) (flO l n k b):=by
 have cF:=zmf l n k b
 refine zax (fun d=>if d=2 then 1 else if d=3 then 2 else if d=5 then 3 else 4) 5 zhq ?_
 repeat' first|refine Va (fA2 @kz zdp) ?_|(with_reducible first|refine SB.c ?_ ?_<;>intro _|exact zad)|refine dC1 zbH cF ?_|with_reducible refine zac ?_|omega
 (refine zay.mk [0] ?_ ?_<;>simp [kwr,zdp,exZ,zjr])
theorem ztU (l:List TkD) (n k:Nat) (b:Int):AC Tryz.prog gl 188 [.ref 0 0] (flO l n k b) (exA exZ) (flO l n k b):=by
 have c1:=zfQ l n k b [45]
 have c2:=zfQ l n k b [33]
 have c3:=zwK l n k b
 rw [exZ,zjr] at *
 refine zax (fun _=>1) 2 zod ?_
 repeat' first|refine Va (fA2 @kz zgF) ?_|(with_reducible first|refine SB.c ?_ ?_<;>intro _|exact zad)|refine dC1 zal c1 ?_|refine dC1 zal c2 ?_|refine dC1 zjk c3 ?_|with_reducible refine zac ?_|omega
 (refine zay.mk [0] ?_ ?_<;>simp [kwr,zgF])
theorem ztV (l:List TkD) (n k:Nat) (b:Int):∀ (d lv:Nat),lv+d=5→AC Tryz.prog gl 167 [.ref 0 0,.pv (.int .i64 lv)] (flO l n k b) (exA exZ) (flO l n k b)
 |0,lv,h=>by
  have:lv=5:=by omega
  subst this
  have c3:=ztU l n k b
  rw [exZ,zjr] at *
  refine zax (fun d=>if d=4 then 1 else 2) 3 zoc ?_
  repeat' first|refine Va (fA2 @kz zdy) ?_|(with_reducible first|refine SB.c ?_ ?_<;>intro _|exact zad)|refine dC1 zdZ c3 ?_|with_reducible refine zac ?_|omega
  (refine zay.mk [0] ?_ ?_<;>simp [kwr,zdy])
 |d+1,lv,h=>by
  have c3:=ztV l n k b d (lv+1) (by omega)
  have hw:=zaQ lv (by omega)
  have h4:¬ (lv:Int) > 4:=by omega
  rw [exZ,zjr] at *
  refine zax (fun d=>if d=4 then 1 else 2) 3 zoc ?_
  repeat' first|refine Va (fA4 @kz zdy hw h4) ?_|(with_reducible first|refine SB.c ?_ ?_<;>intro _|exact zad)|refine dC1 zak c3 ?_|with_reducible refine zac ?_|omega
  refine zaI (ι:=Unit) (fun _=>⟨(.ref 0 0::.pv (.int .i64 lv)::.junk::.junk::.ref 1 0::.ref 2 0::jl 84 []),[some (flC l n k b),some (.cells [.pv (.int .i64 0),.pv (.int .i64 0),.pv (.str []),.pv (.int .i64 0),.pv (.int .i64 0),.snil]),some (.cells [.pv (.int .i64 0),.pv (.int .i64 0),.pv (.str []),.pv (.int .i64 0),.pv (.int .i64 0),.snil])]⟩) (fun _=>0) () WFn ?_
  intro _
  repeat' first|refine Va zdy ?_|(with_reducible first|refine SB.c ?_ ?_<;>intro _|exact zad)|with_reducible refine zac ?_|omega
  (refine zay.mk [0] ?_ ?_<;>simp [kwr,zdy])
theorem zoQ (l:List TkD) (n m k:Nat) (hT:zbI l) (hl:l.length≤100000) (hk:k≤l.length)
  (hU:∀ k,k≤l.length→(exF l m .un k).isOut=false→zhE 188 [] l n k (exF l m .un k))
  (hP:∀ k,k≤l.length→(exF l m .prim k).isOut=false→zhE 198 [] l n k (exF l m .prim k))
  (ho:(exF l (m+1) .un k).isOut=false):zhE 188 [] l n k (exF l (m+1) .un k):=by
 rw [ztj] at ho ⊢
 have cA:=zco l n k [45] hT rfl
 have cB:=zco l n k [33] hT rfl
 have hw:=zaQ k (by omega)
 by_cases h1:isT l k [45]=true
 ·have hlt:=zau h1 (by simp)
  rw [h1] at cA
  rw [if_pos h1] at ho ⊢
  have c:=hU (k+1) (by omega)
  cases hr:exF l m .un (k+1) with
  |ok e k'=>
   rw [hr] at c
   have c1:AC _ _ _ _ _ _ _:=c rfl
   show AC _ _ _ _ _ _ _
   refine zax (fun _=>1) 2 zod ?_
   repeat' first|refine Va (fA5 @kz zgF @exA.eq_1 @kA hw) ?_|(with_reducible first|refine SB.c ?_ ?_<;>intro _|exact zad)|refine dC1 zal cA ?_|refine dC1 zdZ c1 ?_|with_reducible refine zac ?_|omega
   (refine zay.mk [0] ?_ ?_<;>simp [kwr,zgF,exU,exA,Ex.op,Ex.value,Ex.name,Ex.slot,Ex.size,Ex.args,zbC,zaC])
  |bad k'=>
   rw [hr] at c
   obtain ⟨e,c1⟩:=c rfl
   refine ⟨exU 8 e,?_⟩
   refine zax (fun _=>1) 2 zod ?_
   repeat' first|refine Va (fA5 @kz zgF @exA.eq_1 @kA hw) ?_|(with_reducible first|refine SB.c ?_ ?_<;>intro _|exact zad)|refine dC1 zal cA ?_|refine dC1 zdZ c1 ?_|with_reducible refine zac ?_|omega
   (refine zay.mk [0] ?_ ?_<;>simp [kwr,zgF,exU,exA,Ex.op,Ex.value,Ex.name,Ex.slot,Ex.size,Ex.args,zbC,zaC])
  |out=>rw [hr] at ho;cases ho
 ·rw [show isT l k [45]=false by simpa using h1] at cA
  rw [if_neg h1] at ho ⊢
  by_cases h2:isT l k [33]=true
  ·have hlt:=zau h2 (by simp)
   rw [h2] at cB
   rw [if_pos h2] at ho ⊢
   have c:=hU (k+1) (by omega)
   cases hr:exF l m .un (k+1) with
   |ok e k'=>
    rw [hr] at c
    have c1:AC _ _ _ _ _ _ _:=c rfl
    show AC _ _ _ _ _ _ _
    refine zax (fun _=>1) 2 zod ?_
    repeat' first|refine Va (fA5 @kz zgF @exA.eq_1 @kA hw) ?_|(with_reducible first|refine SB.c ?_ ?_<;>intro _|exact zad)|refine dC1 zal cA ?_|refine dC1 zal cB ?_|refine dC1 zdZ c1 ?_|with_reducible refine zac ?_|omega
    (refine zay.mk [0] ?_ ?_<;>simp [kwr,zgF,exU,exA,Ex.op,Ex.value,Ex.name,Ex.slot,Ex.size,Ex.args,zbC,zaC])
   |bad k'=>
    rw [hr] at c
    obtain ⟨e,c1⟩:=c rfl
    refine ⟨exU 9 e,?_⟩
    refine zax (fun _=>1) 2 zod ?_
    repeat' first|refine Va (fA5 @kz zgF @exA.eq_1 @kA hw) ?_|(with_reducible first|refine SB.c ?_ ?_<;>intro _|exact zad)|refine dC1 zal cA ?_|refine dC1 zal cB ?_|refine dC1 zdZ c1 ?_|with_reducible refine zac ?_|omega
    (refine zay.mk [0] ?_ ?_<;>simp [kwr,zgF,exU,exA,Ex.op,Ex.value,Ex.name,Ex.slot,Ex.size,Ex.args,zbC,zaC])
   |out=>rw [hr] at ho;cases ho
  ·rw [show isT l k [33]=false by simpa using h2] at cB
   rw [if_neg h2] at ho ⊢
   have c:=hP k hk ho
   cases hr:exF l m .prim k with
   |ok e k'=>
    rw [hr] at c
    have c1:AC _ _ _ _ _ _ _:=c
    show AC _ _ _ _ _ _ _
    refine zax (fun _=>1) 2 zod ?_
    repeat' first|refine Va (fA4 @kz zgF @exA.eq_1 @kA) ?_|(with_reducible first|refine SB.c ?_ ?_<;>intro _|exact zad)|refine dC1 zal cA ?_|refine dC1 zal cB ?_|refine dC1 zjk c1 ?_|with_reducible refine zac ?_|omega
    (refine zay.mk [0] ?_ ?_<;>simp [kwr,zgF,exA,zb7,zbq])
   |bad k'=>
    rw [hr] at c
    obtain ⟨e,c1⟩:=c
    refine ⟨e,?_⟩
    refine zax (fun _=>1) 2 zod ?_
    repeat' first|refine Va (fA4 @kz zgF @exA.eq_1 @kA) ?_|(with_reducible first|refine SB.c ?_ ?_<;>intro _|exact zad)|refine dC1 zal cA ?_|refine dC1 zal cB ?_|refine dC1 zjk c1 ?_|with_reducible refine zac ?_|omega
    (refine zay.mk [0] ?_ ?_<;>simp [kwr,zgF,exA,zb7,zbq])
   |out=>rw [hr] at ho;cases ho
theorem zzE {l:List TkD} {m k:Nat} (hT:zbI l) (hk:k<l.length) (h:(l.getD k tk0).kind=1) (hs:spF (l.getD k tk0).text > 0):exF l (m+1) .prim k=.ok (exK (spF (l.getD k tk0).text)) (k+1):=by
 rw [zpJ hT hk h]
 unfold spF at hs ⊢
 repeat' split
 all_goals simp_all
theorem zzF {l:List TkD} {m k:Nat} (hT:zbI l) (hk:k<l.length) (h:(l.getD k tk0).kind=1) (hs:¬ spF (l.getD k tk0).text > 0):exF l (m+1) .prim k=(zdz l k).bind fun nm k1=>if isT l k1 [91] then (exF l m (.bin 0) (k1+1)).bind fun e k'=>(zaU l [93] k').bind fun _ k2=>.ok (exI nm e) k2 else .ok (exN nm) k1:=by
 rw [zpJ hT hk h]
 unfold spF at hs
 repeat' split at hs
 all_goals simp_all
theorem zro (l:List TkD) (n m k:Nat) (hT:zbI l) (hl:l.length≤100000) (hk:k≤l.length)
  (hB:∀ k,k≤l.length→(exF l m (.bin 0) k).isOut=false→zhE 167 [.pv (.int .i64 0)] l n k (exF l m (.bin 0) k))
  (ho:(exF l (m+1) .prim k).isOut=false):zhE 198 [] l n k (exF l (m+1) .prim k):=by
 have cF:=zfR l n k
 have hw:=zaQ k (by omega)
 by_cases hlt:k<l.length
 rotate_left
 ·have h':(k:Int)≥l.length:=by omega
  rw [zwh hlt]
  refine ⟨exZ,?_⟩
  refine zax (fun d=>if d=2 then 1 else if d=3 then 2 else if d=5 then 3 else 4) 5 zhq ?_
  repeat' first|refine Va (fA3 @kz zdp h') ?_|(with_reducible first|refine SB.c ?_ ?_<;>intro _|exact zad)|refine dC1 zbH cF ?_|with_reducible refine zac ?_|omega
  (refine zay.mk [0] ?_ ?_<;>simp [kwr,zdp,exZ,zjr])
 have h':¬ (k:Int)≥l.length:=by omega
 have h2':(k:Int)<l.length:=by omega
 have hg:=zeW l k hlt
 have hTk:=hT k hlt
 rcases hTk.k with hk1|hk1|hk1
 ·-- a word
  have cS:=zrn (l.getD k tk0).text
  by_cases hsp:spF (l.getD k tk0).text > 0
  ·rw [zzE hT hlt hk1 hsp]
   rw [hk1] at hg
   generalize spF (l.getD k tk0).text=op at *
   generalize (l.getD k tk0).text=tx at *
   show AC _ _ _ _ _ _ _
   refine zax (fun d=>if d=2 then 1 else if d=3 then 2 else if d=5 then 3 else 4) 5 zhq ?_
   repeat' first|refine Va (fA7 zdp hlt h' h2' hg hsp hw) ?_|(with_reducible first|refine SB.c ?_ ?_<;>intro _|exact zad)|refine CK.d0 zeu cS ?_|with_reducible refine zac ?_|omega
   (refine zay.mk [0] ?_ ?_<;>simp [kwr,zdp,zjr])
  ·rw [zzF hT hlt hk1 hsp] at ho ⊢
   rw [hk1] at hg
   cases hr:zdz l k with
   |out=>have:=zdL (l:=l) (k:=k);rw [hr] at this;cases this
   |bad k'=>
    have cN:=zhe l n k k' hr
    have cG:=zfQ l n k' (zar l n k') [91]
    refine ⟨exN [],?_⟩
    generalize spF (l.getD k tk0).text=op at *
    refine zax (fun d=>if d=2 then 1 else if d=3 then 2 else if d=5 then 3 else 4) 5 zhq ?_
    repeat' first|refine Va (fA7 @kz zdp hlt h' h2' hg hsp) ?_|(with_reducible first|refine SB.c ?_ ?_<;>intro _|exact zad)|refine CK.d0 zeu cS ?_|refine dC1 zaG cN ?_|refine dC1 zal cG ?_|with_reducible refine zac ?_|omega
    (refine zay.mk [0] ?_ ?_<;>simp [kwr,zdp,zy1])
   |ok nm k1=>
    rw [hr] at ho
    simp only [PR.bind] at ho ⊢
    have cN:=zhd l n k k1 nm hr (by omega)
    have le1:k1≤l.length:=by have:=za6 (l:=l) hk;rw [hr] at this;exact this.2
    have cG:=zco l n k1 [91] hT rfl
    by_cases h3:isT l k1 [91]=true
    ·rw [if_pos h3] at ho ⊢
     rw [h3] at cG
     have hlt1:=zau h3 (by simp)
     have hx1:zaU l [91] k1=.ok () (k1+1):=by unfold zaU;rw [if_pos h3]
     have cT:=zbd l n k1 (k1+1) _ hT rfl (by omega) hx1
     cases hr2:exF l m (.bin 0) (k1+1) with
     |out=>rw [hr2] at ho;cases ho
     |bad k'=>
      have q:=hB (k1+1) (by omega) (by rw [hr2];rfl)
      rw [hr2] at q
      obtain ⟨e,q1⟩:=q
      have cE:=zaN l n k' (zar l n k') [93]
      refine ⟨exI nm e,?_⟩
      generalize spF (l.getD k tk0).text=op at *
      refine zax (fun d=>if d=2 then 1 else if d=3 then 2 else if d=5 then 3 else 4) 5 zhq ?_
      repeat' first|refine Va (fA9 @kz zdp @exA.eq_1 @kA hlt h' h2' hg hsp) ?_|(with_reducible first|refine SB.c ?_ ?_<;>intro _|exact zad)|refine CK.d0 zeu cS ?_|refine dC1 zaG cN ?_|refine dC1 zal cG ?_|refine dC1 zae cT ?_|refine dC1 zak q1 ?_|refine dC1 zae cE ?_|with_reducible refine zac ?_|omega
      (refine zay.mk [0] ?_ ?_<;>simp [kwr,zdp,exI,exA,Ex.op,Ex.value,Ex.name,Ex.slot,Ex.size,Ex.args,zbC,zaC])
     |ok e k'=>
      have q:=hB (k1+1) (by omega) (by rw [hr2];rfl)
      rw [hr2] at q
      have q1:AC _ _ _ _ _ _ _:=q
      have hp':k1+1<k'∧k'≤l.length:=by have:=(zcq (l:=l) m (.bin 0) (k1+1) (by omega)).2 rfl;rw [hr2] at this;exact this
      rw [hr2] at ho
      simp only [PR.bind] at ho ⊢
      cases hx:zaU l [93] k' with
      |out=>have:=zbt (l:=l) (s:=[93]) (k:=k');rw [hx] at this;cases this
      |bad k2=>
       have cE:=zbh l n k' k2 _ hT rfl hx
       refine ⟨exI nm e,?_⟩
       generalize spF (l.getD k tk0).text=op at *
       refine zax (fun d=>if d=2 then 1 else if d=3 then 2 else if d=5 then 3 else 4) 5 zhq ?_
       repeat' first|refine Va (fA9 @kz zdp @exA.eq_1 @kA hlt h' h2' hg hsp) ?_|(with_reducible first|refine SB.c ?_ ?_<;>intro _|exact zad)|refine CK.d0 zeu cS ?_|refine dC1 zaG cN ?_|refine dC1 zal cG ?_|refine dC1 zae cT ?_|refine dC1 zak q1 ?_|refine dC1 zae cE ?_|with_reducible refine zac ?_|omega
       (refine zay.mk [0] ?_ ?_<;>simp [kwr,zdp,exI,exA,Ex.op,Ex.value,Ex.name,Ex.slot,Ex.size,Ex.args,zbC,zaC])
      |ok u k2=>
       have cE:=zbd l n k' k2 _ hT rfl (by omega) hx
       show AC _ _ _ _ _ _ _
       generalize spF (l.getD k tk0).text=op at *
       refine zax (fun d=>if d=2 then 1 else if d=3 then 2 else if d=5 then 3 else 4) 5 zhq ?_
       repeat' first|refine Va (fA9 @kz zdp @exA.eq_1 @kA hlt h' h2' hg hsp) ?_|(with_reducible first|refine SB.c ?_ ?_<;>intro _|exact zad)|refine CK.d0 zeu cS ?_|refine dC1 zaG cN ?_|refine dC1 zal cG ?_|refine dC1 zae cT ?_|refine dC1 zak q1 ?_|refine dC1 zae cE ?_|with_reducible refine zac ?_|omega
       (refine zay.mk [0] ?_ ?_<;>simp [kwr,zdp,exI,exA,Ex.op,Ex.value,Ex.name,Ex.slot,Ex.size,Ex.args,zbC,zaC])
    ·rw [if_neg h3]
     rw [show isT l k1 [91]=false by simpa using h3] at cG
     show AC _ _ _ _ _ _ _
     generalize spF (l.getD k tk0).text=op at *
     refine zax (fun d=>if d=2 then 1 else if d=3 then 2 else if d=5 then 3 else 4) 5 zhq ?_
     repeat' first|refine Va (fA7 @kz zdp hlt h' h2' hg hsp) ?_|(with_reducible first|refine SB.c ?_ ?_<;>intro _|exact zad)|refine CK.d0 zeu cS ?_|refine dC1 zaG cN ?_|refine dC1 zal cG ?_|with_reducible refine zac ?_|omega
     (refine zay.mk [0] ?_ ?_<;>simp [kwr,zdp,zy1])
 ·-- a number
  rw [zwi hT hlt hk1]
  rw [hk1] at hg
  show AC _ _ _ _ _ _ _
  refine zax (fun d=>if d=2 then 1 else if d=3 then 2 else if d=5 then 3 else 4) 5 zhq ?_
  repeat' first|refine Va (fA6 zdp hlt h' h2' hg hw) ?_|(with_reducible first|refine SB.c ?_ ?_<;>intro _|exact zad)|with_reducible refine zac ?_|omega
  (refine zay.mk [0] ?_ ?_<;>simp [kwr,zdp,zCi])
 ·-- a sign
  by_cases hp:isT l k [40]=true
  ·rw [zqZ hT hlt hk1 hp] at ho ⊢
   rw [hk1] at hg
   have ht:((l.getD k tk0).text==[40])=true:=by rw [←zf9 hlt];exact hp
   cases hr2:exF l m (.bin 0) (k+1) with
   |out=>rw [hr2] at ho;cases ho
   |bad k'=>
    have q:=hB (k+1) (by omega) (by rw [hr2];rfl)
    rw [hr2] at q
    obtain ⟨e,q1⟩:=q
    have cE:=zaN l n k' (zar l n k') [41]
    refine ⟨e,?_⟩
    refine zax (fun d=>if d=2 then 1 else if d=3 then 2 else if d=5 then 3 else 4) 5 zhq ?_
    repeat' first|refine Va (zj4 @kz zdp @exA.eq_1 @kA hlt h' h2' hg ht hw) ?_|(with_reducible first|refine SB.c ?_ ?_<;>intro _|exact zad)|refine dC1 zak q1 ?_|refine dC1 zae cE ?_|with_reducible refine zac ?_|omega
    (refine zay.mk [0] ?_ ?_<;>simp [kwr,zdp,exA,zb7,zbq])
   |ok e k'=>
    have q:=hB (k+1) (by omega) (by rw [hr2];rfl)
    rw [hr2] at q
    have q1:AC _ _ _ _ _ _ _:=q
    have hp':k+1<k'∧k'≤l.length:=by have:=(zcq (l:=l) m (.bin 0) (k+1) (by omega)).2 rfl;rw [hr2] at this;exact this
    rw [hr2] at ho
    simp only [PR.bind] at ho ⊢
    cases hx:zaU l [41] k' with
    |out=>have:=zbt (l:=l) (s:=[41]) (k:=k');rw [hx] at this;cases this
    |bad k2=>
     have cE:=zbh l n k' k2 _ hT rfl hx
     refine ⟨e,?_⟩
     refine zax (fun d=>if d=2 then 1 else if d=3 then 2 else if d=5 then 3 else 4) 5 zhq ?_
     repeat' first|refine Va (zj4 @kz zdp @exA.eq_1 @kA hlt h' h2' hg ht hw) ?_|(with_reducible first|refine SB.c ?_ ?_<;>intro _|exact zad)|refine dC1 zak q1 ?_|refine dC1 zae cE ?_|with_reducible refine zac ?_|omega
     (refine zay.mk [0] ?_ ?_<;>simp [kwr,zdp,exA,zb7,zbq])
    |ok u k2=>
     have cE:=zbd l n k' k2 _ hT rfl (by omega) hx
     show AC _ _ _ _ _ _ _
     refine zax (fun d=>if d=2 then 1 else if d=3 then 2 else if d=5 then 3 else 4) 5 zhq ?_
     repeat' first|refine Va (zj4 @kz zdp @exA.eq_1 @kA hlt h' h2' hg ht hw) ?_|(with_reducible first|refine SB.c ?_ ?_<;>intro _|exact zad)|refine dC1 zak q1 ?_|refine dC1 zae cE ?_|with_reducible refine zac ?_|omega
     (refine zay.mk [0] ?_ ?_<;>simp [kwr,zdp,exA,zb7,zbq])
  ·replace hp:isT l k [40]=false:=by simpa using hp
   rw [zqY hT hlt hk1 hp]
   rw [hk1] at hg
   have ht:((l.getD k tk0).text==[40])=false:=by rw [←zf9 hlt];exact hp
   refine ⟨exZ,?_⟩
   refine zax (fun d=>if d=2 then 1 else if d=3 then 2 else if d=5 then 3 else 4) 5 zhq ?_
   repeat' first|refine Va (fA7 @kz zdp hlt h' h2' hg ht) ?_|(with_reducible first|refine SB.c ?_ ?_<;>intro _|exact zad)|refine dC1 zbH cF ?_|with_reducible refine zac ?_|omega
   (refine zay.mk [0] ?_ ?_<;>simp [kwr,zdp,exZ,zjr])
end Go.Proofs.YtfinhhblcdkpgaaGreatDoor
