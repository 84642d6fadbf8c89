/- A part of the walk (Tryz_R1): its theorems have no condition beyond what they state. -/
import Derived.Test.YtfinhhblcdkpgaaGreatDoorLib2
import Derived.Test.YtfinhhblcdkpgaaGreatDoorN9
import Derived.Test.YtfinhhblcdkpgaaGreatDoorLib3
set_option maxRecDepth 100000
set_option maxHeartbeats 64000000
set_option linter.unusedSimpArgs false
set_option linter.unusedVariables false
namespace Go.Proofs.YtfinhhblcdkpgaaGreatDoor
open Go Go.Abs Go.RowKit
abbrev okC (l:List TkD) (n k:Nat):AObj:=.cells [.pv (.slice (l.map zfA)),.pv (.int .i64 k),.pv (.int .i64 n),.pv (.int .i64 0),.pv (.bool true)]
abbrev flC (l:List TkD) (n k:Nat) (b:Int):AObj:=.cells [.pv (.slice (l.map zfA)),.pv (.int .i64 k),.pv (.int .i64 n),.pv (.int .i64 b),.pv (.bool false)]
abbrev okO (l:List TkD) (n k:Nat):List (Option AObj):=[some (okC l n k)]
abbrev flO (l:List TkD) (n k:Nat) (b:Int):List (Option AObj):=[some (flC l n k b)]
theorem zfb (l:List TkD) (k:Nat) (h:k<l.length):(l.map zfA).getD k []=[.int .i64 (l.getD k tk0).kind,.str (l.getD k tk0).text,.int .i64 (l.getD k tk0).value,.int .i64 (l.getD k tk0).pos]:=by
 simp [List.getD,h,zfA]
theorem zyz (k:Nat) (h:k≤1000000):IntKind.i64.wrap (((k+1:Nat):Int) - 1)=(k:Int):=by rw [zay _ (by omega) (by omega)];omega
theorem zcy (l:List TkD) (n k:Nat) (s:List UInt8) (hT:zbQ l) (hs:zmj s=true):AC Tryz.prog gl 140 [.ref 0 0,.pv (.str s)] (okO l n k) (.pv (.bool (isT l k s))) (okO l n k):=by
 refine zat (fun _=>0) 1 zDw ?_
 by_cases h:k<l.length
 ·have h':(k:Int)<l.length:=by omega
  have hg:=zfb l k h
  have ht:=zuB hT h hs
  by_cases hk:(l.getD k tk0).kind=3
  ·have e:((l.getD k tk0).kind==3)=true:=by simpa using hk
   rw [e,Bool.true_and] at ht
   rw [←ht]
   refine Wk1 (fA5 zni h h' hg e) ?_
   (refine zax.mk [0] ?_ ?_<;>simp [kwr,zni])
  ·have e:((l.getD k tk0).kind==3)=false:=by simpa using hk
   rw [e,Bool.false_and] at ht
   rw [←ht]
   refine Wk1 (fA5 zni h h' hg e) ?_
   (refine zax.mk [0] ?_ ?_<;>simp [kwr,zni])
 ·have h':¬ (k:Int)<l.length:=by omega
  rw [zuA h (zxr hs)]
  refine Wk1 (fA3 zni h h') ?_
  (refine zax.mk [0] ?_ ?_<;>simp [kwr,zni])
theorem zgb (l:List TkD) (n k:Nat) (b:Int) (s:List UInt8):AC Tryz.prog gl 140 [.ref 0 0,.pv (.str s)] (flO l n k b) (.pv (.bool false)) (flO l n k b):=by
 refine zat (fun _=>0) 1 zDw ?_
 refine Wk1 zni ?_
 (refine zax.mk [0] ?_ ?_<;>simp [kwr,zni])
theorem zq7 (l:List TkD) (n k:Nat) (s:List UInt8) (hT:zbQ l) (hs:zmk s=true):AC Tryz.prog gl 143 [.ref 0 0,.pv (.str s)] (okO l n k) (.pv (.bool (isT l k s))) (okO l n k):=by
 refine zat (fun _=>0) 1 zDx ?_
 by_cases h:k<l.length
 ·have h':(k:Int)<l.length:=by omega
  have hg:=zfb l k h
  have ht:=zuC hT h hs
  by_cases hk:(l.getD k tk0).kind=1
  ·have e:((l.getD k tk0).kind==1)=true:=by simpa using hk
   rw [e,Bool.true_and] at ht
   rw [←ht]
   refine Wk1 (fA5 znj h h' hg e) ?_
   (refine zax.mk [0] ?_ ?_<;>simp [kwr,znj])
  ·have e:((l.getD k tk0).kind==1)=false:=by simpa using hk
   rw [e,Bool.false_and] at ht
   rw [←ht]
   refine Wk1 (fA5 znj h h' hg e) ?_
   (refine zax.mk [0] ?_ ?_<;>simp [kwr,znj])
 ·have h':¬ (k:Int)<l.length:=by omega
  rw [zuA h (zxs hs)]
  refine Wk1 (fA3 znj h h') ?_
  (refine zax.mk [0] ?_ ?_<;>simp [kwr,znj])
theorem zxV (l:List TkD) (n k:Nat) (b:Int) (s:List UInt8):AC Tryz.prog gl 143 [.ref 0 0,.pv (.str s)] (flO l n k b) (.pv (.bool false)) (flO l n k b):=by
 refine zat (fun _=>0) 1 zDx ?_
 refine Wk1 znj ?_
 (refine zax.mk [0] ?_ ?_<;>simp [kwr,znj])
theorem zgc (l:List TkD) (n k:Nat):AC Tryz.prog gl 107 [.ref 0 0] (okO l n k) (.tup []) (flO l n k (zar l n k)):=by
 unfold zar
 refine zat (fun _=>0) 1 zDs ?_
 by_cases h:k<l.length
 ·have h':(k:Int)<l.length:=by omega
  have hg:=zfb l k h
  rw [if_pos h]
  refine Wk1 (fA4 zrG h h' hg) ?_
  (refine zax.mk [0] ?_ ?_<;>simp [kwr,zrG])
 ·have h':¬ (k:Int)<l.length:=by omega
  rw [if_neg h]
  refine Wk1 (fA3 zrG h h') ?_
  (refine zax.mk [0] ?_ ?_<;>simp [kwr,zrG])
theorem zmK (l:List TkD) (n k:Nat) (b:Int):AC Tryz.prog gl 107 [.ref 0 0] (flO l n k b) (.tup []) (flO l n k b):=by
 refine zat (fun _=>0) 1 zDs ?_
 refine Wk1 zrG ?_
 (refine zax.mk [0] ?_ ?_<;>simp [kwr,zrG])
theorem zbh (l:List TkD) (n k k':Nat) (s:List UInt8) (hT:zbQ l) (hs:zmj s=true) (hk:k≤1000000) (h:zaW l s k=.ok () k'):AC Tryz.prog gl 141 [.ref 0 0,.pv (.str s)] (okO l n k) (.tup []) (okO l n k'):=by
 unfold zaW at h
 split at h
 ·rename_i e
  cases h
  have c:=zcy l n k s hT hs
  rw [e] at c
  have hw:=zaP k (by omega)
  refine zat (fun _=>0) 1 zAb ?_
  refine Wk1 (fA4 @kz zrI hw (cX [0] [] zan c)) ?_
  (refine zax.mk [0] ?_ ?_<;>simp [kwr,zrI])
 ·cases h
theorem zbn (l:List TkD) (n k k':Nat) (s:List UInt8) (hT:zbQ l) (hs:zmj s=true) (h:zaW l s k=.bad k'):AC Tryz.prog gl 141 [.ref 0 0,.pv (.str s)] (okO l n k) (.tup []) (flO l n k' (zar l n k')):=by
 unfold zaW at h
 split at h
 ·cases h
 ·rename_i e
  cases h
  have c:=zcy l n k s hT hs
  rw [show isT l k s=false by simpa using e] at c
  have cF:=zgc l n k
  refine zat (fun _=>0) 1 zAb ?_
  refine Wk1 (fA4 @kz zrI (cX [0] [] zan c) (cX [0] [] zbN cF)) ?_
  (refine zax.mk [0] ?_ ?_<;>simp [kwr,zrI])
theorem zaR (l:List TkD) (n k:Nat) (b:Int) (s:List UInt8):AC Tryz.prog gl 141 [.ref 0 0,.pv (.str s)] (flO l n k b) (.tup []) (flO l n k b):=by
 have c:=zgb l n k b s
 have cF:=zmK l n k b
 refine zat (fun _=>0) 1 zAb ?_
 refine Wk1 (fA4 @kz zrI (cX [0] [] zan c) (cX [0] [] zbN cF)) ?_
 (refine zax.mk [0] ?_ ?_<;>simp [kwr,zrI])
theorem zdy (l:List TkD) (n k:Nat) (s:List UInt8) (hT:zbQ l) (hs:zmk s=true) (hk:k≤1000000) (h:isT l k s=true):AC Tryz.prog gl 106 [.ref 0 0,.pv (.str s)] (okO l n k) (.pv (.bool true)) (okO l n (k+1)):=by
 have c:=zq7 l n k s hT hs
 rw [h] at c
 have hw:=zaP k (by omega)
 refine zat (fun _=>0) 1 zAa ?_
 refine Wk1 (fA4 @kz zrF hw (cX [0] [] zjM c)) ?_
 (refine zax.mk [0] ?_ ?_<;>simp [kwr,zrF])
theorem zbo (l:List TkD) (n k:Nat) (s:List UInt8) (hT:zbQ l) (hs:zmk s=true) (h:isT l k s=false):AC Tryz.prog gl 106 [.ref 0 0,.pv (.str s)] (okO l n k) (.pv (.bool false)) (okO l n k):=by
 have c:=zq7 l n k s hT hs
 rw [h] at c
 refine zat (fun _=>0) 1 zAa ?_
 refine Wk1 (fA3 @kz zrF (cX [0] [] zjM c)) ?_
 (refine zax.mk [0] ?_ ?_<;>simp [kwr,zrF])
theorem zje (l:List TkD) (n k:Nat) (b:Int) (s:List UInt8):AC Tryz.prog gl 106 [.ref 0 0,.pv (.str s)] (flO l n k b) (.pv (.bool false)) (flO l n k b):=by
 have c:=zxV l n k b s
 refine zat (fun _=>0) 1 zAa ?_
 refine Wk1 (fA3 @kz zrF (cX [0] [] zjM c)) ?_
 (refine zax.mk [0] ?_ ?_<;>simp [kwr,zrF])
theorem zhM (l:List TkD) (n k k':Nat) (nm:List UInt8) (h:zdM l k=.ok nm k') (hl:l.length≤1000000):AC Tryz.prog gl 139 [.ref 0 0] (okO l n k) (.pv (.str nm)) (okO l n k'):=by
 unfold zdM at h
 split at h
 ·rename_i hc
  obtain ⟨h1,h2,h3⟩:=hc
  cases h
  have cV:=zfK (l.getD k tk0).text
  rw [h3] at cV
  have hg:=zfb l k h1
  rw [h2] at hg
  generalize (l.getD k tk0).text=tx at *
  have hk':(k:Int)<l.length:=by omega
  have hk2:¬ (k:Int)≥l.length:=by omega
  have hw:=zaP k (by omega)
  have hm:=zyz k (by omega)
  refine zat (fun _=>0) 1 zDv ?_
  refine Wk1 (fA8 znh h1 hk' hk2 hg hw hm (CE.mk zfY cV)) ?_
  (refine zax.mk [0] ?_ ?_<;>simp [kwr,znh])
 ·cases h
theorem zhN (l:List TkD) (n k k':Nat) (h:zdM l k=.bad k'):AC Tryz.prog gl 139 [.ref 0 0] (okO l n k) (.pv (.str [])) (flO l n k' (zar l n k')):=by
 unfold zdM at h
 split at h
 ·cases h
 ·rename_i hc
  cases h
  have cF:=zgc l n k
  refine zat (fun _=>0) 1 zDv ?_
  by_cases h1:k<l.length
  ·have hk':(k:Int)<l.length:=by omega
   have hk2:¬ (k:Int)≥l.length:=by omega
   have hg:=zfb l k h1
   have cV:=zfK (l.getD k tk0).text
   by_cases h2:(l.getD k tk0).kind=1
   ·have h3:zdG (l.getD k tk0).text=false:=by
     cases hv:zdG (l.getD k tk0).text with
     |false=>rfl
     |true=>exact absurd ⟨h1,h2,hv⟩ hc
    rw [h3] at cV
    rw [h2] at hg
    generalize (l.getD k tk0).text=tx at *
    refine Wk1 (fA8 @kz znh h1 hk' hk2 hg (CE.mk zfY cV) (cX [0] [] zbN cF)) ?_
    (refine zax.mk [0] ?_ ?_<;>simp [kwr,znh])
   ·have h2':((l.getD k tk0).kind != 1)=true:=by simpa using h2
    refine Wk1 (fA9 @kz znh h1 hk' hk2 hg h2' (CE.mk zfY cV) (cX [0] [] zbN cF)) ?_
    (refine zax.mk [0] ?_ ?_<;>simp [kwr,znh])
  ·have hk2:(k:Int)≥l.length:=by omega
   refine Wk1 (fA4 @kz znh hk2 (cX [0] [] zbN cF)) ?_
   (refine zax.mk [0] ?_ ?_<;>simp [kwr,znh])
theorem zpx (l:List TkD) (n k k':Nat) (z v:Int) (h:nmF l z k=.ok v k') (hl:l.length≤1000000):AC Tryz.prog gl 142 [.ref 0 0,.pv (.int .i64 z)] (okO l n k) (.pv (.int .i64 v)) (okO l n k'):=by
 unfold nmF at h
 split at h
 ·rename_i hc
  obtain ⟨h1,h2,h3⟩:=hc
  cases h
  have hg:=zfb l k h1
  rw [h2] at hg
  generalize (l.getD k tk0).value=tv at *
  have hlt:¬ tv<z:=by omega
  have hk':(k:Int)<l.length:=by omega
  have hk2:¬ (k:Int)≥l.length:=by omega
  have hw:=zaP k (by omega)
  have hm:=zyz k (by omega)
  refine zat (fun _=>0) 1 zAc ?_
  refine Wk1 (fA8 zkQ h1 hk' hk2 hg hw hm hlt) ?_
  (refine zax.mk [0] ?_ ?_<;>simp [kwr,zkQ])
 ·cases h
theorem zmL (l:List TkD) (n k k':Nat) (z:Int) (h:nmF l z k=.bad k'):AC Tryz.prog gl 142 [.ref 0 0,.pv (.int .i64 z)] (okO l n k) (.pv (.int .i64 0)) (flO l n k' (zar l n k')):=by
 unfold nmF at h
 split at h
 ·cases h
 ·rename_i hc
  cases h
  have cF:=zgc l n k
  refine zat (fun _=>0) 1 zAc ?_
  by_cases h1:k<l.length
  ·have hk':(k:Int)<l.length:=by omega
   have hk2:¬ (k:Int)≥l.length:=by omega
   have hg:=zfb l k h1
   by_cases h2:(l.getD k tk0).kind=2
   ·have h3:(l.getD k tk0).value<z:=by
     rcases Int.lt_or_le (l.getD k tk0).value z with h|h
     ·exact h
     ·exact absurd ⟨h1,h2,h⟩ hc
    rw [h2] at hg
    refine Wk1 (fA8 @kz zkQ h1 hk' hk2 hg h3 (cX [0] [] zbN cF)) ?_
    (refine zax.mk [0] ?_ ?_<;>simp [kwr,zkQ])
   ·have h2':((l.getD k tk0).kind != 2)=true:=by simpa using h2
    refine Wk1 (fA8 @kz zkQ h1 hk' hk2 hg h2' (cX [0] [] zbN cF)) ?_
    (refine zax.mk [0] ?_ ?_<;>simp [kwr,zkQ])
  ·have hk2:(k:Int)≥l.length:=by omega
   refine Wk1 (fA4 @kz zkQ hk2 (cX [0] [] zbN cF)) ?_
   (refine zax.mk [0] ?_ ?_<;>simp [kwr,zkQ])
theorem zva (l:List TkD) (n k:Nat) (b z:Int):AC Tryz.prog gl 142 [.ref 0 0,.pv (.int .i64 z)] (flO l n k b) (.pv (.int .i64 0)) (flO l n k b):=by
 have cF:=zmK l n k b
 refine zat (fun _=>0) 1 zAc ?_
 refine Wk1 (fA3 @kz zkQ (cX [0] [] zbN cF)) ?_
 (refine zax.mk [0] ?_ ?_<;>simp [kwr,zkQ])
theorem zjf (lv:Nat) (s:List UInt8) (h:lv≤4):AC Tryz.prog gl 189 [.pv (.str s),.pv (.int .i64 lv)] [] (.pv (.int .i64 (opF lv s:Nat))) []:=by
 have:lv=0∨lv=1∨lv=2∨lv=3∨lv=4:=by omega
 rcases this with rfl|rfl|rfl|rfl|rfl
 all_goals
  refine zas (fun _=>0) 0 zHr ?_
  repeat' first|refine Va zGL ?_|(with_reducible first|refine SB.c ?_ ?_<;>intro _|exact zak)|with_reducible refine zaj ?_|omega
  all_goals first|(subst_vars;rfl)|(simp_all [opF];done)|skip
def spF (s:List UInt8):Int:=if s=[115,101,108,102] then 4 else if s=[112,114,111,99,115] then 5 else if s=[102,114,111,109] then 6 else if s=[118,97,108,117,101] then 7 else 0
theorem zsr (s:List UInt8):AC Tryz.prog gl 200 [.pv (.str s)] [] (.pv (.int .i64 (spF s))) []:=by
 refine zas (fun _=>0) 0 zHu ?_
 repeat' first|refine Va zGN ?_|(with_reducible first|refine SB.c ?_ ?_<;>intro _|exact zak)|with_reducible refine zaj ?_|omega
 all_goals first|(subst_vars;rfl)|(simp_all [spF];done)|skip
def zil (f:FuncId) (args:List AVal) (l:List TkD) (n k:Nat):PR Ex→Prop
 |.ok e k'=>AC Tryz.prog gl f (.ref 0 0::args) (okO l n k) (exA e) (okO l n k')
 |.bad k'=>∃ e,AC Tryz.prog gl f (.ref 0 0::args) (okO l n k) (exA e) (flO l n k' (zar l n k'))
 |.out=>True
theorem zxW (l:List TkD) (n k:Nat) (b:Int):AC Tryz.prog gl 198 [.ref 0 0] (flO l n k b) (exA exZ) (flO l n k b):=by
 have cF:=zmK l n k b
 refine zat (fun d=>if d=2 then 1 else if d=3 then 2 else if d=5 then 3 else 4) 5 zh2 ?_
 refine Wk1 (fA3 @kz zdC (cX [0] [] zbN cF)) ?_
 (refine zax.mk [0] ?_ ?_<;>simp [kwr,zdC,exZ,zjX])
theorem zvb (l:List TkD) (n k:Nat) (b:Int):AC Tryz.prog gl 188 [.ref 0 0] (flO l n k b) (exA exZ) (flO l n k b):=by
 have c1:=zgb l n k b [45]
 have c2:=zgb l n k b [33]
 have c3:=zxW l n k b
 rw [exZ,zjX] at *
 refine zat (fun _=>1) 2 zoM ?_
 repeat' first|refine Va (fA2 @kz zhb) ?_|(with_reducible first|refine SB.c ?_ ?_<;>intro _|exact zak)|refine dC1 zan c1 ?_|refine dC1 zan c2 ?_|refine dC1 zjQ c3 ?_|with_reducible refine zaj ?_|omega
 (refine zax.mk [0] ?_ ?_<;>simp [kwr,zhb])
theorem zvc (l:List TkD) (n k:Nat) (b:Int):∀ (d lv:Nat),lv+d=5→AC Tryz.prog gl 167 [.ref 0 0,.pv (.int .i64 lv)] (flO l n k b) (exA exZ) (flO l n k b)
 |0,lv,h=>by
  have:lv=5:=by omega
  subst this
  have c3:=zvb l n k b
  rw [exZ,zjX] at *
  refine zat (fun d=>if d=4 then 1 else 2) 3 zoL ?_
  refine Wk1 (fA3 @kz zdL (cX [0] [] zd9 c3)) ?_
  (refine zax.mk [0] ?_ ?_<;>simp [kwr,zdL])
 |d+1,lv,h=>by
  have c3:=zvc l n k b d (lv+1) (by omega)
  have hw:=zaP lv (by omega)
  have h4:¬ (lv:Int) > 4:=by omega
  rw [exZ,zjX] at *
  refine zat (fun d=>if d=4 then 1 else 2) 3 zoL ?_
  refine Wk1 (fA5 @kz zdL hw h4 (cX [0] [] zam c3)) ?_
  refine zaK (ι:=Unit) (fun _=>⟨(.ref 0 0::.pv (.int .i64 lv)::.junk::.junk::.ref 1 0::.ref 2 0::jl 84 []),[some (flC l n k b),some (.cells [.pv (.int .i64 0),.pv (.int .i64 0),.pv (.str []),.pv (.int .i64 0),.pv (.int .i64 0),.snil]),some (.cells [.pv (.int .i64 0),.pv (.int .i64 0),.pv (.str []),.pv (.int .i64 0),.pv (.int .i64 0),.snil])]⟩) (fun _=>0) () WFn ?_
  intro _
  refine Wk1 zdL ?_
  (refine zax.mk [0] ?_ ?_<;>simp [kwr,zdL])
theorem zpy (l:List TkD) (n m k:Nat) (hT:zbQ l) (hl:l.length≤100000) (hk:k≤l.length)
  (hU:∀ k,k≤l.length→(exF l m .un k).isOut=false→zil 188 [] l n k (exF l m .un k))
  (hP:∀ k,k≤l.length→(exF l m .prim k).isOut=false→zil 198 [] l n k (exF l m .prim k))
  (ho:(exF l (m+1) .un k).isOut=false):zil 188 [] l n k (exF l (m+1) .un k):=by
 rw [zux] at ho ⊢
 have cA:=zcy l n k [45] hT rfl
 have cB:=zcy l n k [33] hT rfl
 have hw:=zaP k (by omega)
 by_cases h1:isT l k [45]=true
 ·have hlt:=zaw h1 (by simp)
  rw [h1] at cA
  rw [if_pos h1] at ho ⊢
  have c:=hU (k+1) (by omega)
  cases hr:exF l m .un (k+1) with
  |ok e k'=>
   rw [hr] at c
   have c1:AC _ _ _ _ _ _ _:=c rfl
   show AC _ _ _ _ _ _ _
   refine zat (fun _=>1) 2 zoM ?_
   refine Wk1 (fA7 @kz zhb @exA.eq_1 @kA hw (cX [0] [] zan cA) (cX [0] [] zd9 c1)) ?_
   (refine zax.mk [0] ?_ ?_<;>simp [kwr,zhb,exU,exA,Ex.op,Ex.value,Ex.name,Ex.slot,Ex.size,Ex.args,zaQ,zaz])
  |bad k'=>
   rw [hr] at c
   obtain ⟨e,c1⟩:=c rfl
   refine ⟨exU 8 e,?_⟩
   refine zat (fun _=>1) 2 zoM ?_
   refine Wk1 (fA7 @kz zhb @exA.eq_1 @kA hw (cX [0] [] zan cA) (cX [0] [] zd9 c1)) ?_
   (refine zax.mk [0] ?_ ?_<;>simp [kwr,zhb,exU,exA,Ex.op,Ex.value,Ex.name,Ex.slot,Ex.size,Ex.args,zaQ,zaz])
  |out=>rw [hr] at ho;cases ho
 ·rw [show isT l k [45]=false by simpa using h1] at cA
  rw [if_neg h1] at ho ⊢
  by_cases h2:isT l k [33]=true
  ·have hlt:=zaw h2 (by simp)
   rw [h2] at cB
   rw [if_pos h2] at ho ⊢
   have c:=hU (k+1) (by omega)
   cases hr:exF l m .un (k+1) with
   |ok e k'=>
    rw [hr] at c
    have c1:AC _ _ _ _ _ _ _:=c rfl
    show AC _ _ _ _ _ _ _
    refine zat (fun _=>1) 2 zoM ?_
    repeat' first|refine Va (fA5 @kz zhb @exA.eq_1 @kA hw) ?_|(with_reducible first|refine SB.c ?_ ?_<;>intro _|exact zak)|refine dC1 zan cA ?_|refine dC1 zan cB ?_|refine dC1 zd9 c1 ?_|with_reducible refine zaj ?_|omega
    (refine zax.mk [0] ?_ ?_<;>simp [kwr,zhb,exU,exA,Ex.op,Ex.value,Ex.name,Ex.slot,Ex.size,Ex.args,zaQ,zaz])
   |bad k'=>
    rw [hr] at c
    obtain ⟨e,c1⟩:=c rfl
    refine ⟨exU 9 e,?_⟩
    refine zat (fun _=>1) 2 zoM ?_
    repeat' first|refine Va (fA5 @kz zhb @exA.eq_1 @kA hw) ?_|(with_reducible first|refine SB.c ?_ ?_<;>intro _|exact zak)|refine dC1 zan cA ?_|refine dC1 zan cB ?_|refine dC1 zd9 c1 ?_|with_reducible refine zaj ?_|omega
    (refine zax.mk [0] ?_ ?_<;>simp [kwr,zhb,exU,exA,Ex.op,Ex.value,Ex.name,Ex.slot,Ex.size,Ex.args,zaQ,zaz])
   |out=>rw [hr] at ho;cases ho
  ·rw [show isT l k [33]=false by simpa using h2] at cB
   rw [if_neg h2] at ho ⊢
   have c:=hP k hk ho
   cases hr:exF l m .prim k with
   |ok e k'=>
    rw [hr] at c
    have c1:AC _ _ _ _ _ _ _:=c
    show AC _ _ _ _ _ _ _
    refine zat (fun _=>1) 2 zoM ?_
    repeat' first|refine Va (fA4 @kz zhb @exA.eq_1 @kA) ?_|(with_reducible first|refine SB.c ?_ ?_<;>intro _|exact zak)|refine dC1 zan cA ?_|refine dC1 zan cB ?_|refine dC1 zjQ c1 ?_|with_reducible refine zaj ?_|omega
    (refine zax.mk [0] ?_ ?_<;>simp [kwr,zhb,exA,zch,zbx])
   |bad k'=>
    rw [hr] at c
    obtain ⟨e,c1⟩:=c
    refine ⟨e,?_⟩
    refine zat (fun _=>1) 2 zoM ?_
    repeat' first|refine Va (fA4 @kz zhb @exA.eq_1 @kA) ?_|(with_reducible first|refine SB.c ?_ ?_<;>intro _|exact zak)|refine dC1 zan cA ?_|refine dC1 zan cB ?_|refine dC1 zjQ c1 ?_|with_reducible refine zaj ?_|omega
    (refine zax.mk [0] ?_ ?_<;>simp [kwr,zhb,exA,zch,zbx])
   |out=>rw [hr] at ho;cases ho
end Go.Proofs.YtfinhhblcdkpgaaGreatDoor
