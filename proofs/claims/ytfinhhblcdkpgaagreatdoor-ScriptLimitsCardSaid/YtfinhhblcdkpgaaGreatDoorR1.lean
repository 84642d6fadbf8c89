/- A part of the walk (Tryz_R1): its theorems have no condition beyond what they state. -/
import Derived.Test.YtfinhhblcdkpgaaGreatDoorN9
import Derived.Test.YtfinhhblcdkpgaaGreatDoorLib3
set_option maxRecDepth 100000
set_option maxHeartbeats 64000000
set_option linter.unusedSimpArgs false
set_option linter.unusedVariables false
set_option linter.defProp false
namespace Go.Proofs.YtfinhhblcdkpgaaGreatDoor
open Go Go.Abs Go.RowKit
abbrev okC (l:List TkD) (n k:Nat):AObj:=.cells [.pv (.slice (l.map zfk)),.pv (.int .i64 k),.pv (.int .i64 n),.pv (.int .i64 0),.pv (.bool true)]
abbrev flC (l:List TkD) (n k:Nat) (b:Int):AObj:=.cells [.pv (.slice (l.map zfk)),.pv (.int .i64 k),.pv (.int .i64 n),.pv (.int .i64 b),.pv (.bool false)]
abbrev okO (l:List TkD) (n k:Nat):List (Option AObj):=[some (okC l n k)]
abbrev flO (l:List TkD) (n k:Nat) (b:Int):List (Option AObj):=[some (flC l n k b)]
theorem zeW (l:List TkD) (k:Nat) (h:k<l.length):(l.map zfk).getD k []=[.int .i64 (l.getD k tk0).kind,.str (l.getD k tk0).text,.int .i64 (l.getD k tk0).value,.int .i64 (l.getD k tk0).pos]:=by
 simp [List.getD,h,zfk]
theorem zxj (k:Nat) (h:k≤1000000):IntKind.i64.wrap (((k+1:Nat):Int) - 1)=(k:Int):=by rw [zaS _ (by omega) (by omega)];omega
theorem zco (l:List TkD) (n k:Nat) (s:List UInt8) (hT:zbI l) (hs:zlS s=true):AC Tryz.prog gl 140 [.ref 0 0,.pv (.str s)] (okO l n k) (.pv (.bool (isT l k s))) (okO l n k):=by
 refine zax (fun _=>0) 1 zB8 ?_
 by_cases h:k<l.length
 ·have h':(k:Int)<l.length:=by omega
  have hg:=zeW l k h
  have ht:=ztn hT h hs
  by_cases hk:(l.getD k tk0).kind=3
  ·have e:((l.getD k tk0).kind==3)=true:=by simpa using hk
   rw [e,Bool.true_and] at ht
   rw [←ht]
   repeat' first|refine Va (fA5 zmO h h' hg e) ?_|(with_reducible first|refine SB.c ?_ ?_<;>intro _|exact zad)|with_reducible refine zac ?_|omega
   (refine zay.mk [0] ?_ ?_<;>simp [kwr,zmO])
  ·have e:((l.getD k tk0).kind==3)=false:=by simpa using hk
   rw [e,Bool.false_and] at ht
   rw [←ht]
   repeat' first|refine Va (fA5 zmO h h' hg e) ?_|(with_reducible first|refine SB.c ?_ ?_<;>intro _|exact zad)|with_reducible refine zac ?_|omega
   (refine zay.mk [0] ?_ ?_<;>simp [kwr,zmO])
 ·have h':¬ (k:Int)<l.length:=by omega
  rw [ztm h (zwf hs)]
  repeat' first|refine Va (fA3 zmO h h') ?_|(with_reducible first|refine SB.c ?_ ?_<;>intro _|exact zad)|with_reducible refine zac ?_|omega
  (refine zay.mk [0] ?_ ?_<;>simp [kwr,zmO])
theorem zfQ (l:List TkD) (n k:Nat) (b:Int) (s:List UInt8):AC Tryz.prog gl 140 [.ref 0 0,.pv (.str s)] (flO l n k b) (.pv (.bool false)) (flO l n k b):=by
 refine zax (fun _=>0) 1 zB8 ?_
 repeat' first|refine Va zmO ?_|(with_reducible first|refine SB.c ?_ ?_<;>intro _|exact zad)|with_reducible refine zac ?_|omega
 (refine zay.mk [0] ?_ ?_<;>simp [kwr,zmO])
theorem zp7 (l:List TkD) (n k:Nat) (s:List UInt8) (hT:zbI l) (hs:zlT s=true):AC Tryz.prog gl 143 [.ref 0 0,.pv (.str s)] (okO l n k) (.pv (.bool (isT l k s))) (okO l n k):=by
 refine zax (fun _=>0) 1 zB9 ?_
 by_cases h:k<l.length
 ·have h':(k:Int)<l.length:=by omega
  have hg:=zeW l k h
  have ht:=zto hT h hs
  by_cases hk:(l.getD k tk0).kind=1
  ·have e:((l.getD k tk0).kind==1)=true:=by simpa using hk
   rw [e,Bool.true_and] at ht
   rw [←ht]
   repeat' first|refine Va (fA5 zmP h h' hg e) ?_|(with_reducible first|refine SB.c ?_ ?_<;>intro _|exact zad)|with_reducible refine zac ?_|omega
   (refine zay.mk [0] ?_ ?_<;>simp [kwr,zmP])
  ·have e:((l.getD k tk0).kind==1)=false:=by simpa using hk
   rw [e,Bool.false_and] at ht
   rw [←ht]
   repeat' first|refine Va (fA5 zmP h h' hg e) ?_|(with_reducible first|refine SB.c ?_ ?_<;>intro _|exact zad)|with_reducible refine zac ?_|omega
   (refine zay.mk [0] ?_ ?_<;>simp [kwr,zmP])
 ·have h':¬ (k:Int)<l.length:=by omega
  rw [ztm h (zwg hs)]
  repeat' first|refine Va (fA3 zmP h h') ?_|(with_reducible first|refine SB.c ?_ ?_<;>intro _|exact zad)|with_reducible refine zac ?_|omega
  (refine zay.mk [0] ?_ ?_<;>simp [kwr,zmP])
theorem zwJ (l:List TkD) (n k:Nat) (b:Int) (s:List UInt8):AC Tryz.prog gl 143 [.ref 0 0,.pv (.str s)] (flO l n k b) (.pv (.bool false)) (flO l n k b):=by
 refine zax (fun _=>0) 1 zB9 ?_
 repeat' first|refine Va zmP ?_|(with_reducible first|refine SB.c ?_ ?_<;>intro _|exact zad)|with_reducible refine zac ?_|omega
 (refine zay.mk [0] ?_ ?_<;>simp [kwr,zmP])
theorem zfR (l:List TkD) (n k:Nat):AC Tryz.prog gl 107 [.ref 0 0] (okO l n k) (.tup []) (flO l n k (zar l n k)):=by
 unfold zar
 refine zax (fun _=>0) 1 zB5 ?_
 by_cases h:k<l.length
 ·have h':(k:Int)<l.length:=by omega
  have hg:=zeW l k h
  rw [if_pos h]
  repeat' first|refine Va (fA4 zqH h h' hg) ?_|(with_reducible first|refine SB.c ?_ ?_<;>intro _|exact zad)|with_reducible refine zac ?_|omega
  (refine zay.mk [0] ?_ ?_<;>simp [kwr,zqH])
 ·have h':¬ (k:Int)<l.length:=by omega
  rw [if_neg h]
  repeat' first|refine Va (fA3 zqH h h') ?_|(with_reducible first|refine SB.c ?_ ?_<;>intro _|exact zad)|with_reducible refine zac ?_|omega
  (refine zay.mk [0] ?_ ?_<;>simp [kwr,zqH])
theorem zmf (l:List TkD) (n k:Nat) (b:Int):AC Tryz.prog gl 107 [.ref 0 0] (flO l n k b) (.tup []) (flO l n k b):=by
 refine zax (fun _=>0) 1 zB5 ?_
 repeat' first|refine Va zqH ?_|(with_reducible first|refine SB.c ?_ ?_<;>intro _|exact zad)|with_reducible refine zac ?_|omega
 (refine zay.mk [0] ?_ ?_<;>simp [kwr,zqH])
theorem zbd (l:List TkD) (n k k':Nat) (s:List UInt8) (hT:zbI l) (hs:zlS s=true) (hk:k≤1000000) (h:zaU l s k=.ok () k'):AC Tryz.prog gl 141 [.ref 0 0,.pv (.str s)] (okO l n k) (.tup []) (okO l n k'):=by
 unfold zaU at h
 split at h
 ·rename_i e
  cases h
  have c:=zco l n k s hT hs
  rw [e] at c
  have hw:=zaQ k (by omega)
  refine zax (fun _=>0) 1 zyW ?_
  repeat' first|refine Va (fA3 @kz zqJ hw) ?_|(with_reducible first|refine SB.c ?_ ?_<;>intro _|exact zad)|refine dC1 zal c ?_|with_reducible refine zac ?_|omega
  (refine zay.mk [0] ?_ ?_<;>simp [kwr,zqJ])
 ·cases h
theorem zbh (l:List TkD) (n k k':Nat) (s:List UInt8) (hT:zbI l) (hs:zlS s=true) (h:zaU l s k=.bad k'):AC Tryz.prog gl 141 [.ref 0 0,.pv (.str s)] (okO l n k) (.tup []) (flO l n k' (zar l n k')):=by
 unfold zaU at h
 split at h
 ·cases h
 ·rename_i e
  cases h
  have c:=zco l n k s hT hs
  rw [show isT l k s=false by simpa using e] at c
  have cF:=zfR l n k
  refine zax (fun _=>0) 1 zyW ?_
  repeat' first|refine Va (fA2 @kz zqJ) ?_|(with_reducible first|refine SB.c ?_ ?_<;>intro _|exact zad)|refine dC1 zal c ?_|refine dC1 zbH cF ?_|with_reducible refine zac ?_|omega
  (refine zay.mk [0] ?_ ?_<;>simp [kwr,zqJ])
theorem zaN (l:List TkD) (n k:Nat) (b:Int) (s:List UInt8):AC Tryz.prog gl 141 [.ref 0 0,.pv (.str s)] (flO l n k b) (.tup []) (flO l n k b):=by
 have c:=zfQ l n k b s
 have cF:=zmf l n k b
 refine zax (fun _=>0) 1 zyW ?_
 repeat' first|refine Va (fA2 @kz zqJ) ?_|(with_reducible first|refine SB.c ?_ ?_<;>intro _|exact zad)|refine dC1 zal c ?_|refine dC1 zbH cF ?_|with_reducible refine zac ?_|omega
 (refine zay.mk [0] ?_ ?_<;>simp [kwr,zqJ])
theorem zdl (l:List TkD) (n k:Nat) (s:List UInt8) (hT:zbI l) (hs:zlT s=true) (hk:k≤1000000) (h:isT l k s=true):AC Tryz.prog gl 106 [.ref 0 0,.pv (.str s)] (okO l n k) (.pv (.bool true)) (okO l n (k+1)):=by
 have c:=zp7 l n k s hT hs
 rw [h] at c
 have hw:=zaQ k (by omega)
 refine zax (fun _=>0) 1 zyV ?_
 repeat' first|refine Va (fA3 @kz zqG hw) ?_|(with_reducible first|refine SB.c ?_ ?_<;>intro _|exact zad)|refine dC1 zjg c ?_|with_reducible refine zac ?_|omega
 (refine zay.mk [0] ?_ ?_<;>simp [kwr,zqG])
theorem zbi (l:List TkD) (n k:Nat) (s:List UInt8) (hT:zbI l) (hs:zlT s=true) (h:isT l k s=false):AC Tryz.prog gl 106 [.ref 0 0,.pv (.str s)] (okO l n k) (.pv (.bool false)) (okO l n k):=by
 have c:=zp7 l n k s hT hs
 rw [h] at c
 refine zax (fun _=>0) 1 zyV ?_
 repeat' first|refine Va (fA2 @kz zqG) ?_|(with_reducible first|refine SB.c ?_ ?_<;>intro _|exact zad)|refine dC1 zjg c ?_|with_reducible refine zac ?_|omega
 (refine zay.mk [0] ?_ ?_<;>simp [kwr,zqG])
theorem ziF (l:List TkD) (n k:Nat) (b:Int) (s:List UInt8):AC Tryz.prog gl 106 [.ref 0 0,.pv (.str s)] (flO l n k b) (.pv (.bool false)) (flO l n k b):=by
 have c:=zwJ l n k b s
 refine zax (fun _=>0) 1 zyV ?_
 repeat' first|refine Va (fA2 @kz zqG) ?_|(with_reducible first|refine SB.c ?_ ?_<;>intro _|exact zad)|refine dC1 zjg c ?_|with_reducible refine zac ?_|omega
 (refine zay.mk [0] ?_ ?_<;>simp [kwr,zqG])
theorem zhd (l:List TkD) (n k k':Nat) (nm:List UInt8) (h:zdz l k=.ok nm k') (hl:l.length≤1000000):AC Tryz.prog gl 139 [.ref 0 0] (okO l n k) (.pv (.str nm)) (okO l n k'):=by
 unfold zdz at h
 split at h
 ·rename_i hc
  obtain ⟨h1,h2,h3⟩:=hc
  cases h
  have cV:=zfu (l.getD k tk0).text
  rw [h3] at cV
  have hg:=zeW l k h1
  rw [h2] at hg
  generalize (l.getD k tk0).text=tx at *
  have hk':(k:Int)<l.length:=by omega
  have hk2:¬ (k:Int)≥l.length:=by omega
  have hw:=zaQ k (by omega)
  have hm:=zxj k (by omega)
  refine zax (fun _=>0) 1 zB7 ?_
  repeat' first|refine Va (fA7 zmN h1 hk' hk2 hg hw hm) ?_|(with_reducible first|refine SB.c ?_ ?_<;>intro _|exact zad)|refine CK.d0 zfF cV ?_|with_reducible refine zac ?_|omega
  (refine zay.mk [0] ?_ ?_<;>simp [kwr,zmN])
 ·cases h
theorem zhe (l:List TkD) (n k k':Nat) (h:zdz l k=.bad k'):AC Tryz.prog gl 139 [.ref 0 0] (okO l n k) (.pv (.str [])) (flO l n k' (zar l n k')):=by
 unfold zdz at h
 split at h
 ·cases h
 ·rename_i hc
  cases h
  have cF:=zfR l n k
  refine zax (fun _=>0) 1 zB7 ?_
  by_cases h1:k<l.length
  ·have hk':(k:Int)<l.length:=by omega
   have hk2:¬ (k:Int)≥l.length:=by omega
   have hg:=zeW l k h1
   have cV:=zfu (l.getD k tk0).text
   by_cases h2:(l.getD k tk0).kind=1
   ·have h3:zd0 (l.getD k tk0).text=false:=by
     cases hv:zd0 (l.getD k tk0).text with
     |false=>rfl
     |true=>exact absurd ⟨h1,h2,hv⟩ hc
    rw [h3] at cV
    rw [h2] at hg
    generalize (l.getD k tk0).text=tx at *
    repeat' first|refine Va (fA6 @kz zmN h1 hk' hk2 hg) ?_|(with_reducible first|refine SB.c ?_ ?_<;>intro _|exact zad)|refine CK.d0 zfF cV ?_|refine dC1 zbH cF ?_|with_reducible refine zac ?_|omega
    (refine zay.mk [0] ?_ ?_<;>simp [kwr,zmN])
   ·have h2':((l.getD k tk0).kind != 1)=true:=by simpa using h2
    repeat' first|refine Va (fA7 @kz zmN h1 hk' hk2 hg h2') ?_|(with_reducible first|refine SB.c ?_ ?_<;>intro _|exact zad)|refine CK.d0 zfF cV ?_|refine dC1 zbH cF ?_|with_reducible refine zac ?_|omega
    (refine zay.mk [0] ?_ ?_<;>simp [kwr,zmN])
  ·have hk2:(k:Int)≥l.length:=by omega
   repeat' first|refine Va (fA3 @kz zmN hk2) ?_|(with_reducible first|refine SB.c ?_ ?_<;>intro _|exact zad)|refine dC1 zbH cF ?_|with_reducible refine zac ?_|omega
   (refine zay.mk [0] ?_ ?_<;>simp [kwr,zmN])
theorem zoP (l:List TkD) (n k k':Nat) (z v:Int) (h:nmF l z k=.ok v k') (hl:l.length≤1000000):AC Tryz.prog gl 142 [.ref 0 0,.pv (.int .i64 z)] (okO l n k) (.pv (.int .i64 v)) (okO l n k'):=by
 unfold nmF at h
 split at h
 ·rename_i hc
  obtain ⟨h1,h2,h3⟩:=hc
  cases h
  have hg:=zeW l k h1
  rw [h2] at hg
  generalize (l.getD k tk0).value=tv at *
  have hlt:¬ tv<z:=by omega
  have hk':(k:Int)<l.length:=by omega
  have hk2:¬ (k:Int)≥l.length:=by omega
  have hw:=zaQ k (by omega)
  have hm:=zxj k (by omega)
  refine zax (fun _=>0) 1 zyX ?_
  repeat' first|refine Va (fA8 zki h1 hk' hk2 hg hw hm hlt) ?_|(with_reducible first|refine SB.c ?_ ?_<;>intro _|exact zad)|with_reducible refine zac ?_|omega
  (refine zay.mk [0] ?_ ?_<;>simp [kwr,zki])
 ·cases h
theorem zmg (l:List TkD) (n k k':Nat) (z:Int) (h:nmF l z k=.bad k'):AC Tryz.prog gl 142 [.ref 0 0,.pv (.int .i64 z)] (okO l n k) (.pv (.int .i64 0)) (flO l n k' (zar l n k')):=by
 unfold nmF at h
 split at h
 ·cases h
 ·rename_i hc
  cases h
  have cF:=zfR l n k
  refine zax (fun _=>0) 1 zyX ?_
  by_cases h1:k<l.length
  ·have hk':(k:Int)<l.length:=by omega
   have hk2:¬ (k:Int)≥l.length:=by omega
   have hg:=zeW l k h1
   by_cases h2:(l.getD k tk0).kind=2
   ·have h3:(l.getD k tk0).value<z:=by
     rcases Int.lt_or_le (l.getD k tk0).value z with h|h
     ·exact h
     ·exact absurd ⟨h1,h2,h⟩ hc
    rw [h2] at hg
    repeat' first|refine Va (fA7 @kz zki h1 hk' hk2 hg h3) ?_|(with_reducible first|refine SB.c ?_ ?_<;>intro _|exact zad)|refine dC1 zbH cF ?_|with_reducible refine zac ?_|omega
    (refine zay.mk [0] ?_ ?_<;>simp [kwr,zki])
   ·have h2':((l.getD k tk0).kind != 2)=true:=by simpa using h2
    repeat' first|refine Va (fA7 @kz zki h1 hk' hk2 hg h2') ?_|(with_reducible first|refine SB.c ?_ ?_<;>intro _|exact zad)|refine dC1 zbH cF ?_|with_reducible refine zac ?_|omega
    (refine zay.mk [0] ?_ ?_<;>simp [kwr,zki])
  ·have hk2:(k:Int)≥l.length:=by omega
   repeat' first|refine Va (fA3 @kz zki hk2) ?_|(with_reducible first|refine SB.c ?_ ?_<;>intro _|exact zad)|refine dC1 zbH cF ?_|with_reducible refine zac ?_|omega
   (refine zay.mk [0] ?_ ?_<;>simp [kwr,zki])
theorem ztT (l:List TkD) (n k:Nat) (b z:Int):AC Tryz.prog gl 142 [.ref 0 0,.pv (.int .i64 z)] (flO l n k b) (.pv (.int .i64 0)) (flO l n k b):=by
 have cF:=zmf l n k b
 refine zax (fun _=>0) 1 zyX ?_
 repeat' first|refine Va (fA2 @kz zki) ?_|(with_reducible first|refine SB.c ?_ ?_<;>intro _|exact zad)|refine dC1 zbH cF ?_|with_reducible refine zac ?_|omega
 (refine zay.mk [0] ?_ ?_<;>simp [kwr,zki])
end Go.Proofs.YtfinhhblcdkpgaaGreatDoor
