/- A part of the walk (Tryz_P1): its theorems have no condition beyond what they state. -/
import Derived.Test.YtfinhhblcdkpgaaGreatDoorN9
import Derived.Test.YtfinhhblcdkpgaaGreatDoorLib3
set_option maxRecDepth 100000
set_option maxHeartbeats 64000000
set_option linter.unusedSimpArgs false
set_option linter.unusedVariables false
set_option linter.defProp false
namespace Go.Proofs.YtfinhhblcdkpgaaGreatDoor
open Go Go.Abs Go.RowKit
abbrev psC (l:List TkD) (n k:Nat):AObj:=.cells [.pv (.slice (l.map zfk)),.pv (.int .i64 k),.pv (.int .i64 n)]
abbrev psO (l:List TkD) (n k:Nat):List (Option AObj):=[some (psC l n k)]
def fv (l:List TkD) (n k:Nat):Value:=.iface 213 (.agg #[.int .i64 (zar l n k)])
theorem zf1 (l:List TkD) (k:Nat) (h:k<l.length):(l.map zfk).getD k []=[.int .i64 (l.getD k tk0).kind,.str (l.getD k tk0).text,.int .i64 (l.getD k tk0).value,.int .i64 (l.getD k tk0).pos]:=by
 simp [List.getD,h,zfk]
theorem zoH (l:List TkD) (n k:Nat):AC Tryz.prog gl 196 [.ref 0 0] (psO l n k) (.pv (.str (zbF l k))) (psO l n k):=by
 refine zax (fun _=>0) 1 zFQ ?_
 by_cases h:k<l.length
 ·have h':(k:Int)<l.length:=by omega
  have hg:=zf1 l k h
  have hp:zbF l k=(l.getD k tk0).text:=by unfold zbF;rw [if_pos h]
  rw [hp]
  repeat' first|refine Va (fA4 zvE h h' hg) ?_|(with_reducible first|refine SB.c ?_ ?_<;>intro _|exact zad)|with_reducible refine zac ?_|omega
  (refine zay.mk [0] ?_ ?_<;>simp [kwr,zvE])
 ·have h':¬ (k:Int)<l.length:=by omega
  have hp:zbF l k=[]:=by unfold zbF;rw [if_neg h]
  rw [hp]
  repeat' first|refine Va (fA3 zvE h h') ?_|(with_reducible first|refine SB.c ?_ ?_<;>intro _|exact zad)|with_reducible refine zac ?_|omega
  (refine zay.mk [0] ?_ ?_<;>simp [kwr,zvE])
theorem za3 (l:List TkD) (n k:Nat) (s:List UInt8) (h:isT l k s=true) (hk:k≤1000000):AC Tryz.prog gl 182 [.ref 0 0,.pv (.str s)] (psO l n k) (.pv (.bool true)) (psO l n (k+1)):=by
 have cP:=zoH l n k
 have e:(zbF l k==s)=true:=h
 have hw:=zaQ k (by omega)
 refine zax (fun _=>0) 1 zCb ?_
 repeat' first|refine Va (fA4 @kz zvD e hw) ?_|(with_reducible first|refine SB.c ?_ ?_<;>intro _|exact zad)|refine dC1 zgU cP ?_|with_reducible refine zac ?_|omega
 (refine zay.mk [0] ?_ ?_<;>simp [kwr,zvD])
theorem zao (l:List TkD) (n k:Nat) (s:List UInt8) (h:isT l k s=false):AC Tryz.prog gl 182 [.ref 0 0,.pv (.str s)] (psO l n k) (.pv (.bool false)) (psO l n k):=by
 have cP:=zoH l n k
 have e:(zbF l k==s)=false:=h
 refine zax (fun _=>0) 1 zCb ?_
 repeat' first|refine Va (fA3 @kz zvD e) ?_|(with_reducible first|refine SB.c ?_ ?_<;>intro _|exact zad)|refine dC1 zgU cP ?_|with_reducible refine zac ?_|omega
 (refine zay.mk [0] ?_ ?_<;>simp [kwr,zvD])
theorem zl9 (l:List TkD) (n k:Nat):AP Tryz.prog gl 187 [.ref 0 0] (psO l n k) (fv l n k) (psO l n k):=by
 unfold fv zar
 refine zbO (fun _=>0) 1 zFN ?_
 by_cases h:k<l.length
 ·have h':(k:Int)<l.length:=by omega
  have hg:=zf1 l k h
  rw [if_pos h]
  repeat' first|refine Va (fA4 zB3 h h' hg) ?_|(with_reducible first|refine SB.c ?_ ?_<;>intro _|exact zad|refine fun (_:List AVal)=>?_)|with_reducible refine zac ?_|omega
  (refine zci.mk [0] ?_<;>simp [kwt])
 ·have h':¬ (k:Int)<l.length:=by omega
  rw [if_neg h]
  repeat' first|refine Va (fA3 zB3 h h') ?_|(with_reducible first|refine SB.c ?_ ?_<;>intro _|exact zad|refine fun (_:List AVal)=>?_)|with_reducible refine zac ?_|omega
  (refine zci.mk [0] ?_<;>simp [kwt])
theorem zbe (l:List TkD) (n k k':Nat) (s:List UInt8) (h:zaU l s k=.ok () k') (hk:k≤1000000):AC Tryz.prog gl 185 [.ref 0 0,.pv (.str s)] (psO l n k) (.tup []) (psO l n k'):=by
 unfold zaU at h
 split at h
 ·rename_i e
  cases h
  have cA:=za3 l n k s e hk
  refine zax (fun _=>0) 1 zCe ?_
  repeat' first|refine Va (fA2 @kz zyT) ?_|(with_reducible first|refine SB.c ?_ ?_<;>intro _|exact zad)|refine dC1 zaa cA ?_|with_reducible refine zac ?_|omega
  (refine zay.mk [0] ?_ ?_<;>simp [kwr,zyT])
 ·cases h
theorem za2 (l:List TkD) (n k k':Nat) (s:List UInt8) (h:zaU l s k=.bad k'):AP Tryz.prog gl 185 [.ref 0 0,.pv (.str s)] (psO l n k) (fv l n k') (psO l n k'):=by
 unfold zaU at h
 split at h
 ·cases h
 ·rename_i e
  cases h
  have cA:=zao l n k s (by simpa using e)
  have cF:=zl9 l n k
  refine zbO (fun _=>0) 1 zCe ?_
  repeat' first|refine Va (fA2 @kz zyT) ?_|(with_reducible first|refine SB.c ?_ ?_<;>intro _|exact zad|refine fun (_:List AVal)=>?_)|refine dC1 zaa cA ?_|refine CK.dp [0] [] zdq cF ?_|with_reducible refine zac ?_|omega
  (refine zci.mk [0] ?_<;>simp [kwt])
theorem zCF (k:Nat) (h:k≤1000000):IntKind.i64.wrap (((k+1:Nat):Int) - 1)=(k:Int):=by rw [zaS _ (by omega) (by omega)];omega
theorem zhC (l:List TkD) (n k k':Nat) (nm:List UInt8) (h:zdz l k=.ok nm k') (hl:l.length≤1000000):AC Tryz.prog gl 183 [.ref 0 0] (psO l n k) (.pv (.str nm)) (psO l n k'):=by
 unfold zdz at h
 split at h
 ·rename_i hc
  obtain ⟨h1,h2,h3⟩:=hc
  cases h
  have cV:=ziz (l.getD k tk0).text
  rw [h3] at cV
  have hg:=zf1 l k h1
  rw [h2] at hg
  generalize (l.getD k tk0).text=tx at *
  have hk':(k:Int)<l.length:=by omega
  have hne:((k:Int)==l.length)=false:=by simp;omega
  have hw:=zaQ k (by omega)
  have hm:=zCF k (by omega)
  refine zax (fun _=>0) 1 zCc ?_
  repeat' first|refine Va (fA7 zsC h1 hk' hne hg hw hm) ?_|(with_reducible first|refine SB.c ?_ ?_<;>intro _|exact zad)|refine CK.d0 zgL cV ?_|with_reducible refine zac ?_|omega
  (refine zay.mk [0] ?_ ?_<;>simp [kwr,zsC])
 ·cases h
theorem ziB (l:List TkD) (n k k':Nat) (h:zdz l k=.bad k') (hk:k≤l.length):AP Tryz.prog gl 183 [.ref 0 0] (psO l n k) (fv l n k') (psO l n k'):=by
 unfold zdz at h
 split at h
 ·cases h
 ·rename_i hc
  cases h
  have cF:=zl9 l n k
  refine zbO (fun _=>0) 1 zCc ?_
  by_cases h1:k<l.length
  ·have hk':(k:Int)<l.length:=by omega
   have hne:((k:Int)==l.length)=false:=by simp;omega
   have hg:=zf1 l k h1
   have cV:=ziz (l.getD k tk0).text
   by_cases h2:(l.getD k tk0).kind=1
   ·have h3:zd0 (l.getD k tk0).text=false:=by
     cases hv:zd0 (l.getD k tk0).text with
     |false=>rfl
     |true=>exact absurd ⟨h1,h2,hv⟩ hc
    rw [h3] at cV
    rw [h2] at hg
    generalize (l.getD k tk0).text=tx at *
    repeat' first|refine Va (fA6 @kz zsC h1 hk' hne hg) ?_|(with_reducible first|refine SB.c ?_ ?_<;>intro _|exact zad|refine fun (_:List AVal)=>?_)|refine CK.d0 zgL cV ?_|refine CK.dp [0] [] zdq cF ?_|with_reducible refine zac ?_|omega
    (refine zci.mk [0] ?_<;>simp [kwt])
   ·have h2':((l.getD k tk0).kind != 1)=true:=by simpa using h2
    repeat' first|refine Va (fA7 @kz zsC h1 hk' hne hg h2') ?_|(with_reducible first|refine SB.c ?_ ?_<;>intro _|exact zad|refine fun (_:List AVal)=>?_)|refine CK.d0 zgL cV ?_|refine CK.dp [0] [] zdq cF ?_|with_reducible refine zac ?_|omega
    (refine zci.mk [0] ?_<;>simp [kwt])
  ·have he:k=l.length:=by omega
   have hne:((k:Int)==l.length)=true:=by simp;omega
   repeat' first|refine Va (fA3 @kz zsC hne) ?_|(with_reducible first|refine SB.c ?_ ?_<;>intro _|exact zad|refine fun (_:List AVal)=>?_)|refine CK.dp [0] [] zdq cF ?_|with_reducible refine zac ?_|omega
   (refine zci.mk [0] ?_<;>simp [kwt])
theorem zhb (l:List TkD) (n k k':Nat) (z v:Int) (h:nmF l z k=.ok v k') (hl:l.length≤1000000):AC Tryz.prog gl 184 [.ref 0 0,.pv (.int .i64 z)] (psO l n k) (.pv (.int .i64 v)) (psO l n k'):=by
 unfold nmF at h
 split at h
 ·rename_i hc
  obtain ⟨h1,h2,h3⟩:=hc
  cases h
  have hg:=zf1 l k h1
  rw [h2] at hg
  generalize (l.getD k tk0).value=tv at *
  have hlt:¬ tv<z:=by omega
  have hk':(k:Int)<l.length:=by omega
  have hne:((k:Int)==l.length)=false:=by simp;omega
  have hw:=zaQ k (by omega)
  have hm:=zCF k (by omega)
  refine zax (fun _=>0) 1 zCd ?_
  repeat' first|refine Va (fA8 zsD h1 hk' hne hg hw hm hlt) ?_|(with_reducible first|refine SB.c ?_ ?_<;>intro _|exact zad)|with_reducible refine zac ?_|omega
  (refine zay.mk [0] ?_ ?_<;>simp [kwr,zsD])
 ·cases h
theorem zfP (l:List TkD) (n k k':Nat) (z:Int) (h:nmF l z k=.bad k') (hk:k≤l.length):AP Tryz.prog gl 184 [.ref 0 0,.pv (.int .i64 z)] (psO l n k) (fv l n k') (psO l n k'):=by
 unfold nmF at h
 split at h
 ·cases h
 ·rename_i hc
  cases h
  have cF:=zl9 l n k
  refine zbO (fun _=>0) 1 zCd ?_
  by_cases h1:k<l.length
  ·have hk':(k:Int)<l.length:=by omega
   have hne:((k:Int)==l.length)=false:=by simp;omega
   have hg:=zf1 l k h1
   by_cases h2:(l.getD k tk0).kind=2
   ·have h3:(l.getD k tk0).value<z:=by
     rcases Int.lt_or_le (l.getD k tk0).value z with h|h
     ·exact h
     ·exact absurd ⟨h1,h2,h⟩ hc
    rw [h2] at hg
    repeat' first|refine Va (fA7 @kz zsD h1 hk' hne hg h3) ?_|(with_reducible first|refine SB.c ?_ ?_<;>intro _|exact zad|refine fun (_:List AVal)=>?_)|refine CK.dp [0] [] zdq cF ?_|with_reducible refine zac ?_|omega
    (refine zci.mk [0] ?_<;>simp [kwt])
   ·have h2':((l.getD k tk0).kind != 2)=true:=by simpa using h2
    repeat' first|refine Va (fA7 @kz zsD h1 hk' hne hg h2') ?_|(with_reducible first|refine SB.c ?_ ?_<;>intro _|exact zad|refine fun (_:List AVal)=>?_)|refine CK.dp [0] [] zdq cF ?_|with_reducible refine zac ?_|omega
    (refine zci.mk [0] ?_<;>simp [kwt])
  ·have he:k=l.length:=by omega
   have hne:((k:Int)==l.length)=true:=by simp;omega
   repeat' first|refine Va (fA3 @kz zsD hne) ?_|(with_reducible first|refine SB.c ?_ ?_<;>intro _|exact zad|refine fun (_:List AVal)=>?_)|refine CK.dp [0] [] zdq cF ?_|with_reducible refine zac ?_|omega
   (refine zci.mk [0] ?_<;>simp [kwt])
theorem zra (op:Nat) (h1:10≤op) (h2:op≤22):AC Tryz.prog gl 205 [.pv (.int .i64 op)] [] (.pv (.int .i64 (lvF op:Nat))) []:=by
 have:op=10∨op=11∨op=12∨op=13∨op=14∨op=15∨op=16∨op=17∨op=18∨op=19∨op=20∨op=21∨op=22:=by omega
 rcases this with rfl|rfl|rfl|rfl|rfl|rfl|rfl|rfl|rfl|rfl|rfl|rfl|rfl
 all_goals
  refine zap (fun _=>0) 0 zFU ?_
  simp -implicitDefEqProofs +contextual (maxSteps:=9000000) only [kx,↓ky,zE9,simprocAttr]
  try rfl
theorem ztG (op:Nat) (h1:8≤op) (h2:op≤22):AC Tryz.prog gl 190 [.pv (.int .i64 op)] [] (.pv (.str (sgF op))) []:=by
 have:op=8∨op=9∨op=10∨op=11∨op=12∨op=13∨op=14∨op=15∨op=16∨op=17∨op=18∨op=19∨op=20∨op=21∨op=22:=by omega
 rcases this with rfl|rfl|rfl|rfl|rfl|rfl|rfl|rfl|rfl|rfl|rfl|rfl|rfl|rfl|rfl
 all_goals
  refine zap (fun _=>0) 0 zFP ?_
  simp -implicitDefEqProofs +contextual (maxSteps:=9000000) only [kx,↓ky,zE7,simprocAttr]
  try rfl
theorem zoI (lv:Nat) (s:List UInt8):AC Tryz.prog gl 203 [.pv (.int .i64 lv),.pv (.str s)] [] (.pv (.int .i64 (opF lv s:Nat))) []:=by
 refine zap (fun _=>0) 0 zFT ?_
 simp -implicitDefEqProofs +contextual (maxSteps:=9000000) only [kx,↓ky,zsE,simprocAttr]
 refine zaI (ι:={k:Nat // 10≤k∧k≤23∧∀ j,10≤j→j<k→¬ (lvF j=lv∧sgF j=s)}) (fun i=>⟨(.pv (.int .i64 lv)::.pv (.str s)::.junk::.junk::.pv (.int .i64 0)::.pv (.int .i64 i.1)::jl 15 []),[]⟩) (fun i=>23 - i.1) ⟨10,by omega,by omega,fun j _ _=>by omega⟩ WFn ?_
 rintro ⟨k,h1,h2,h3⟩
 by_cases hlt:k≤22
 ·have hlt':(k:Int)≤22:=by omega
  have cL:=zra k h1 hlt
  have cS:=ztG k (by omega) hlt
  have hw:=zaQ k (by omega)
  by_cases ha:lvF k=lv
  ·have ha':(((lvF k:Nat):Int)==(lv:Int))=true:=by simp [ha]
   by_cases hb:sgF k=s
   ·have hb':(sgF k==s)=true:=by simp [hb]
    have he:opF lv s=k:=by rw [←ha,←hb];exact zCh k h1 hlt
    rw [he]
    repeat' first|refine Va (fA4 zsE hlt' ha' hb') ?_|(with_reducible first|refine SB.c ?_ ?_<;>intro _|exact zad)|refine CK.d0 zjl cL ?_|refine CK.d0 zjj cS ?_|with_reducible refine zac ?_|omega
   ·have hb':(sgF k==s)=false:=by simpa using hb
    repeat' first|refine Va (fA5 zsE hlt' ha' hb' hw) ?_|(with_reducible first|refine SB.c ?_ ?_<;>intro _|exact zad)|refine CK.d0 zjl cL ?_|refine CK.d0 zjj cS ?_|with_reducible refine zac ?_|omega
    exact ⟨⟨k+1,by omega,by omega,fun j j1 j2=>by
     by_cases hj:j=k
     ·subst hj;exact fun h=>hb h.2
     ·exact h3 j j1 (by omega)⟩,WFn,by simp;omega⟩
  ·have ha':(((lvF k:Nat):Int)==(lv:Int))=false:=by simp;omega
   repeat' first|refine Va (fA4 zsE hlt' ha' hw) ?_|(with_reducible first|refine SB.c ?_ ?_<;>intro _|exact zad)|refine CK.d0 zjl cL ?_|refine CK.d0 zjj cS ?_|with_reducible refine zac ?_|omega
   exact ⟨⟨k+1,by omega,by omega,fun j j1 j2=>by
    by_cases hj:j=k
    ·subst hj;exact fun h=>ha h.1
    ·exact h3 j j1 (by omega)⟩,WFn,by simp;omega⟩
 ·have hlt':¬ (k:Int)≤22:=by omega
  have he:opF lv s=0:=by
   by_cases h0:opF lv s=0
   ·exact h0
   ·obtain ⟨a1,a2,a3,a4⟩:=zw7 h0
    exact absurd ⟨a3,a4⟩ (h3 _ a1 (by omega))
  rw [he]
  repeat' first|refine Va (fA2 zsE hlt') ?_|(with_reducible first|refine SB.c ?_ ?_<;>intro _|exact zad)|with_reducible refine zac ?_|omega
def nxK (l:List TkD) (lv k:Nat):Nat:=if opF lv (zbF l k)=0 then k else k+1
theorem ztH (l:List TkD) (n lv k:Nat) (hk:k≤1000000):AC Tryz.prog gl 202 [.ref 0 0,.ref 1 0] [some (.cells [.pv (.int .i64 lv)]),some (.cells [.ref 2 0]),some (psC l n k)] (.pv (.int .i64 (opF lv (zbF l k):Nat)))
  [some (.cells [.pv (.int .i64 lv)]),some (.cells [.ref 2 0]),some (psC l n (nxK l lv k))]:=by
 have cP:=zoH l n k
 have cO:=zoI lv (zbF l k)
 have hw:=zaQ k (by omega)
 unfold nxK
 generalize hop:opF lv (zbF l k)=op at *
 refine zax (fun _=>0) 3 zFS ?_
 by_cases h:op=0
 ·subst h
  repeat' first|refine Va (fA2 @kz zvF) ?_|(with_reducible first|refine SB.c ?_ ?_<;>intro _|exact zad)|refine CK.dx [2] [] zgU cP ?_|refine CK.d0 zm1 cO ?_|with_reducible refine zac ?_|omega
  (refine zay.mk [0,1,2] ?_ ?_<;>simp [kwr,zvF])
 ·have h':((op:Int) != 0)=true:=by simp;omega
  rw [if_neg h]
  repeat' first|refine Va (fA4 @kz zvF h' hw) ?_|(with_reducible first|refine SB.c ?_ ?_<;>intro _|exact zad)|refine CK.dx [2] [] zgU cP ?_|refine CK.d0 zm1 cO ?_|with_reducible refine zac ?_|omega
  (refine zay.mk [0,1,2] ?_ ?_<;>simp [kwr,zvF])
def znv (f:FuncId) (args:List AVal) (l:List TkD) (n k:Nat):PR Ex→Prop
 |.ok e k'=>AC Tryz.prog gl f (.ref 0 0::args) (psO l n k) (exA e) (psO l n k')
 |.bad k'=>AP Tryz.prog gl f (.ref 0 0::args) (psO l n k) (fv l n k') (psO l n k')
 |.out=>True
theorem zrb (l:List TkD) (n m k:Nat) (hl:l.length≤100000) (hk:k≤l.length)
  (hU:∀ k,k≤l.length→(exF l m .un k).isOut=false→znv 201 [] l n k (exF l m .un k))
  (hP:∀ k,k≤l.length→(exF l m .prim k).isOut=false→znv 204 [] l n k (exF l m .prim k))
  (ho:(exF l (m+1) .un k).isOut=false):znv 201 [] l n k (exF l (m+1) .un k):=by
 rw [ztj] at ho ⊢
 by_cases h1:isT l k [45]=true
 ·have cA:=za3 l n k _ h1 (by omega)
  have hlt:=zau h1 (by simp)
  rw [if_pos h1] at ho ⊢
  have c:=hU (k+1) (by omega)
  cases hr:exF l m .un (k+1) with
  |ok e k'=>
   rw [hr] at c
   have c1:AC _ _ _ _ _ _ _:=c rfl
   show AC _ _ _ _ _ _ _
   refine zax (fun _=>1) 2 zqN ?_
   repeat' first|refine Va (fA4 @kz zly @exA.eq_1 @kA) ?_|(with_reducible first|refine SB.c ?_ ?_<;>intro _|exact zad)|refine dC1 zaa cA ?_|refine dC1 zev c1 ?_|with_reducible refine zac ?_|omega
   (refine zay.mk [0] ?_ ?_<;>simp [kwr,zly,exU,exA,Ex.op,Ex.value,Ex.name,Ex.slot,Ex.size,Ex.args,zbC,zaC])
  |bad k'=>
   rw [hr] at c
   have c1:AP _ _ _ _ _ _ _:=c rfl
   show AP _ _ _ _ _ _ _
   refine zbO (fun _=>1) 2 zqN ?_
   repeat' first|refine Va (fA4 @kz zly @exA.eq_1 @kA) ?_|(with_reducible first|refine SB.c ?_ ?_<;>intro _|exact zad|refine fun (_:List AVal)=>?_)|refine dC1 zaa cA ?_|refine CK.dp [0] [] zev c1 ?_|with_reducible refine zac ?_|omega
   (refine zci.mk [0] ?_<;>simp [kwt])
  |out=>rw [hr] at ho;cases ho
 ·have cA:=zao l n k _ (by simpa using h1)
  rw [if_neg h1] at ho ⊢
  by_cases h2:isT l k [33]=true
  ·have cB:=za3 l n k _ h2 (by omega)
   have hlt:=zau h2 (by simp)
   rw [if_pos h2] at ho ⊢
   have c:=hU (k+1) (by omega)
   cases hr:exF l m .un (k+1) with
   |ok e k'=>
    rw [hr] at c
    have c1:AC _ _ _ _ _ _ _:=c rfl
    show AC _ _ _ _ _ _ _
    refine zax (fun _=>1) 2 zqN ?_
    repeat' first|refine Va (fA4 @kz zly @exA.eq_1 @kA) ?_|(with_reducible first|refine SB.c ?_ ?_<;>intro _|exact zad)|refine dC1 zaa cA ?_|refine dC1 zaa cB ?_|refine dC1 zev c1 ?_|with_reducible refine zac ?_|omega
    (refine zay.mk [0] ?_ ?_<;>simp [kwr,zly,exU,exA,Ex.op,Ex.value,Ex.name,Ex.slot,Ex.size,Ex.args,zbC,zaC])
   |bad k'=>
    rw [hr] at c
    have c1:AP _ _ _ _ _ _ _:=c rfl
    show AP _ _ _ _ _ _ _
    refine zbO (fun _=>1) 2 zqN ?_
    repeat' first|refine Va (fA4 @kz zly @exA.eq_1 @kA) ?_|(with_reducible first|refine SB.c ?_ ?_<;>intro _|exact zad|refine fun (_:List AVal)=>?_)|refine dC1 zaa cA ?_|refine dC1 zaa cB ?_|refine CK.dp [0] [] zev c1 ?_|with_reducible refine zac ?_|omega
    (refine zci.mk [0] ?_<;>simp [kwt])
   |out=>rw [hr] at ho;cases ho
  ·have cB:=zao l n k _ (by simpa using h2)
   rw [if_neg h2] at ho ⊢
   have c:=hP k hk ho
   cases hr:exF l m .prim k with
   |ok e k'=>
    rw [hr] at c
    have c1:AC _ _ _ _ _ _ _:=c
    show AC _ _ _ _ _ _ _
    refine zax (fun _=>1) 2 zqN ?_
    repeat' first|refine Va (fA4 @kz zly @exA.eq_1 @kA) ?_|(with_reducible first|refine SB.c ?_ ?_<;>intro _|exact zad)|refine dC1 zaa cA ?_|refine dC1 zaa cB ?_|refine dC1 zm2 c1 ?_|with_reducible refine zac ?_|omega
    (refine zay.mk [0] ?_ ?_<;>simp [kwr,zly,exA,zb7,zbq])
   |bad k'=>
    rw [hr] at c
    have c1:AP _ _ _ _ _ _ _:=c
    show AP _ _ _ _ _ _ _
    refine zbO (fun _=>1) 2 zqN ?_
    repeat' first|refine Va (fA4 @kz zly @exA.eq_1 @kA) ?_|(with_reducible first|refine SB.c ?_ ?_<;>intro _|exact zad|refine fun (_:List AVal)=>?_)|refine dC1 zaa cA ?_|refine dC1 zaa cB ?_|refine CK.dp [0] [] zm2 c1 ?_|with_reducible refine zac ?_|omega
    (refine zci.mk [0] ?_<;>simp [kwt])
   |out=>rw [hr] at ho;cases ho
end Go.Proofs.YtfinhhblcdkpgaaGreatDoor
