/- A part of the walk (Tryz_P2): its theorems have no condition beyond what they state. -/
import Derived.Test.YtfinhhblcdkpgaaGreatDoorP1
import Derived.Test.YtfinhhblcdkpgaaGreatDoorLib3
set_option maxRecDepth 100000
set_option maxHeartbeats 64000000
set_option linter.unusedSimpArgs false
set_option linter.unusedVariables false
set_option linter.defProp false
namespace Go.Proofs.YtfinhhblcdkpgaaGreatDoor
open Go Go.Abs Go.RowKit
theorem zzZ (k:Nat) (h:k≤1000000):IntKind.i64.wrap (((k+1:Nat):Int) - 1)=(k:Int):=by rw [zat _ (by omega) (by omega)];omega
theorem zgC (l:List TkD) (n k k':Nat) (nm:List UInt8) (h:zff l k=.ok nm k') (hl:l.length≤1000000):AC Tryz.prog gl 183 [.ref 0 0] (psO l n k) (.pv (.str nm)) (psO l n k'):=by
 unfold zff at h
 split at h
 ·rename_i hc
  obtain ⟨h1,h2,h3⟩:=hc
  cases h
  have cV:=zhl (l.getD k tk0).text
  rw [h3] at cV
  have hg:=ze9 l k h1
  rw [h2] at hg
  generalize (l.getD k tk0).text=tx at *
  have hk':(k:Int)<l.length:=by omega
  have hne:((k:Int)==l.length)=false:=by simp;omega
  have hw:=zbc k (by omega)
  have hm:=zzZ k (by omega)
  refine zay (fun _=>0) 1 zzF ?_
  (repeat' (first|refine Va (fA7 zqM h1 hk' hne hg hw hm) ?_|(with_reducible first|refine SB.c ?_ ?_<;>intro _|exact zac)|refine CK.d0 zfY cV ?_|with_reducible refine zab ?_|omega))
  (refine zaJ.mk [0] ?_ ?_<;>simp [kwr,zqM])
 ·cases h
theorem zhm (l:List TkD) (n k k':Nat) (h:zff l k=.bad k') (hk:k≤l.length):AP Tryz.prog gl 183 [.ref 0 0] (psO l n k) (fv l n k') (psO l n k'):=by
 unfold zff at h
 split at h
 ·cases h
 ·rename_i hc
  cases h
  have cF:=zkE l n k
  refine zbr (fun _=>0) 1 zzF ?_
  by_cases h1:k<l.length
  ·have hk':(k:Int)<l.length:=by omega
   have hne:((k:Int)==l.length)=false:=by simp;omega
   have hg:=ze9 l k h1
   have cV:=zhl (l.getD k tk0).text
   by_cases h2:(l.getD k tk0).kind=1
   ·have h3:zdj (l.getD k tk0).text=false:=by
     cases hv:zdj (l.getD k tk0).text with
     |false=>rfl
     |true=>exact absurd ⟨h1,h2,hv⟩ hc
    rw [h3] at cV
    rw [h2] at hg
    generalize (l.getD k tk0).text=tx at *
    (repeat' (first|refine Va (fA6 @kz zqM h1 hk' hne hg) ?_|(with_reducible first|refine SB.c ?_ ?_<;>intro _|exact zac|refine fun (_:List AVal)=>?_)|refine CK.d0 zfY cV ?_|refine CK.dp [0] [] zcN cF ?_|with_reducible refine zab ?_|omega))
    (refine zbT.mk [0] ?_<;>simp [kwt])
   ·have h2':((l.getD k tk0).kind != 1)=true:=by simpa using h2
    (repeat' (first|refine Va (fA7 @kz zqM h1 hk' hne hg h2') ?_|(with_reducible first|refine SB.c ?_ ?_<;>intro _|exact zac|refine fun (_:List AVal)=>?_)|refine CK.d0 zfY cV ?_|refine CK.dp [0] [] zcN cF ?_|with_reducible refine zab ?_|omega))
    (refine zbT.mk [0] ?_<;>simp [kwt])
  ·have he:k=l.length:=by omega
   have hne:((k:Int)==l.length)=true:=by simp;omega
   (repeat' (first|refine Va (fA3 @kz zqM hne) ?_|(with_reducible first|refine SB.c ?_ ?_<;>intro _|exact zac|refine fun (_:List AVal)=>?_)|refine CK.dp [0] [] zcN cF ?_|with_reducible refine zab ?_|omega))
   (refine zbT.mk [0] ?_<;>simp [kwt])
theorem zgd (l:List TkD) (n k k':Nat) (z v:Int) (h:nmF l z k=.ok v k') (hl:l.length≤1000000):AC Tryz.prog gl 184 [.ref 0 0,.pv (.int .i64 z)] (psO l n k) (.pv (.int .i64 v)) (psO l n k'):=by
 unfold nmF at h
 split at h
 ·rename_i hc
  obtain ⟨h1,h2,h3⟩:=hc
  cases h
  have hg:=ze9 l k h1
  rw [h2] at hg
  generalize (l.getD k tk0).value=tv at *
  have hlt:¬ tv<z:=by omega
  have hk':(k:Int)<l.length:=by omega
  have hne:((k:Int)==l.length)=false:=by simp;omega
  have hw:=zbc k (by omega)
  have hm:=zzZ k (by omega)
  refine zay (fun _=>0) 1 zzG ?_
  (repeat' (first|refine Va (fA8 zqN h1 hk' hne hg hw hm hlt) ?_|(with_reducible first|refine SB.c ?_ ?_<;>intro _|exact zac)|with_reducible refine zab ?_|omega))
  (refine zaJ.mk [0] ?_ ?_<;>simp [kwr,zqN])
 ·cases h
theorem ze2 (l:List TkD) (n k k':Nat) (z:Int) (h:nmF l z k=.bad k') (hk:k≤l.length):AP Tryz.prog gl 184 [.ref 0 0,.pv (.int .i64 z)] (psO l n k) (fv l n k') (psO l n k'):=by
 unfold nmF at h
 split at h
 ·cases h
 ·rename_i hc
  cases h
  have cF:=zkE l n k
  refine zbr (fun _=>0) 1 zzG ?_
  by_cases h1:k<l.length
  ·have hk':(k:Int)<l.length:=by omega
   have hne:((k:Int)==l.length)=false:=by simp;omega
   have hg:=ze9 l k h1
   by_cases h2:(l.getD k tk0).kind=2
   ·have h3:(l.getD k tk0).value<z:=by
     rcases Int.lt_or_le (l.getD k tk0).value z with h|h
     ·exact h
     ·exact absurd ⟨h1,h2,h⟩ hc
    rw [h2] at hg
    (repeat' (first|refine Va (fA7 @kz zqN h1 hk' hne hg h3) ?_|(with_reducible first|refine SB.c ?_ ?_<;>intro _|exact zac|refine fun (_:List AVal)=>?_)|refine CK.dp [0] [] zcN cF ?_|with_reducible refine zab ?_|omega))
    (refine zbT.mk [0] ?_<;>simp [kwt])
   ·have h2':((l.getD k tk0).kind != 2)=true:=by simpa using h2
    (repeat' (first|refine Va (fA7 @kz zqN h1 hk' hne hg h2') ?_|(with_reducible first|refine SB.c ?_ ?_<;>intro _|exact zac|refine fun (_:List AVal)=>?_)|refine CK.dp [0] [] zcN cF ?_|with_reducible refine zab ?_|omega))
    (refine zbT.mk [0] ?_<;>simp [kwt])
  ·have he:k=l.length:=by omega
   have hne:((k:Int)==l.length)=true:=by simp;omega
   (repeat' (first|refine Va (fA3 @kz zqN hne) ?_|(with_reducible first|refine SB.c ?_ ?_<;>intro _|exact zac|refine fun (_:List AVal)=>?_)|refine CK.dp [0] [] zcN cF ?_|with_reducible refine zab ?_|omega))
   (refine zbT.mk [0] ?_<;>simp [kwt])
theorem zpe (op:Nat) (h1:10≤op) (h2:op≤22):AC Tryz.prog gl 205 [.pv (.int .i64 op)] [] (.pv (.int .i64 (lvF op:Nat))) []:=by
 have:op=10∨op=11∨op=12∨op=13∨op=14∨op=15∨op=16∨op=17∨op=18∨op=19∨op=20∨op=21∨op=22:=by omega
 rcases this with rfl|rfl|rfl|rfl|rfl|rfl|rfl|rfl|rfl|rfl|rfl|rfl|rfl
 all_goals
  refine zam (fun _=>0) 0 zC5 ?_
  simp -implicitDefEqProofs +contextual (maxSteps:=9000000) only [kx,↓ky,zCu,simprocAttr]
  try rfl
theorem zis (op:Nat) (h1:8≤op) (h2:op≤22):AC Tryz.prog gl 190 [.pv (.int .i64 op)] [] (.pv (.str (sgF op))) []:=by
 have:op=8∨op=9∨op=10∨op=11∨op=12∨op=13∨op=14∨op=15∨op=16∨op=17∨op=18∨op=19∨op=20∨op=21∨op=22:=by omega
 rcases this with rfl|rfl|rfl|rfl|rfl|rfl|rfl|rfl|rfl|rfl|rfl|rfl|rfl|rfl|rfl
 all_goals
  refine zam (fun _=>0) 0 zC1 ?_
  simp -implicitDefEqProofs +contextual (maxSteps:=9000000) only [kx,↓ky,zCt,simprocAttr]
  try rfl
theorem zmQ (lv:Nat) (s:List UInt8):AC Tryz.prog gl 203 [.pv (.int .i64 lv),.pv (.str s)] [] (.pv (.int .i64 (opF lv s:Nat))) []:=by
 refine zam (fun _=>0) 0 zC4 ?_
 simp -implicitDefEqProofs +contextual (maxSteps:=9000000) only [kx,↓ky,zqO,simprocAttr]
 refine za6 (ι:={k:Nat // 10≤k∧k≤23∧∀ j,10≤j→j<k→¬ (lvF j=lv∧sgF j=s)}) (fun i=>⟨(.pv (.int .i64 lv)::.pv (.str s)::.junk::.junk::.pv (.int .i64 0)::.pv (.int .i64 i.1)::jl 15 []),[]⟩) (fun i=>23 - i.1) ⟨10,by omega,by omega,fun j _ _=>by omega⟩ WFn ?_
 rintro ⟨k,h1,h2,h3⟩
 by_cases hlt:k≤22
 ·have hlt':(k:Int)≤22:=by omega
  have cL:=zpe k h1 hlt
  have cS:=zis k (by omega) hlt
  have hw:=zbc k (by omega)
  by_cases ha:lvF k=lv
  ·have ha':(((lvF k:Nat):Int)==(lv:Int))=true:=by simp [ha]
   by_cases hb:sgF k=s
   ·have hb':(sgF k==s)=true:=by simp [hb]
    have he:opF lv s=k:=by rw [←ha,←hb];exact zzL k h1 hlt
    rw [he]
    (repeat' (first|refine Va (fA4 zqO hlt' ha' hb') ?_|(with_reducible first|refine SB.c ?_ ?_<;>intro _|exact zac)|refine CK.d0 zh2 cL ?_|refine CK.d0 zey cS ?_|with_reducible refine zab ?_|omega))
   ·have hb':(sgF k==s)=false:=by simpa using hb
    (repeat' (first|refine Va (fA5 zqO hlt' ha' hb' hw) ?_|(with_reducible first|refine SB.c ?_ ?_<;>intro _|exact zac)|refine CK.d0 zh2 cL ?_|refine CK.d0 zey cS ?_|with_reducible refine zab ?_|omega))
    exact ⟨⟨k+1,by omega,by omega,fun j j1 j2=>by
     by_cases hj:j=k
     ·subst hj;exact fun h=>hb h.2
     ·exact h3 j j1 (by omega)⟩,WFn,by simp;omega⟩
  ·have ha':(((lvF k:Nat):Int)==(lv:Int))=false:=by simp;omega
   (repeat' (first|refine Va (fA4 zqO hlt' ha' hw) ?_|(with_reducible first|refine SB.c ?_ ?_<;>intro _|exact zac)|refine CK.d0 zh2 cL ?_|refine CK.d0 zey cS ?_|with_reducible refine zab ?_|omega))
   exact ⟨⟨k+1,by omega,by omega,fun j j1 j2=>by
    by_cases hj:j=k
    ·subst hj;exact fun h=>ha h.1
    ·exact h3 j j1 (by omega)⟩,WFn,by simp;omega⟩
 ·have hlt':¬ (k:Int)≤22:=by omega
  have he:opF lv s=0:=by
   by_cases h0:opF lv s=0
   ·exact h0
   ·obtain ⟨a1,a2,a3,a4⟩:=zzM h0
    exact absurd ⟨a3,a4⟩ (h3 _ a1 (by omega))
  rw [he]
  (repeat' (first|refine Va (fA2 zqO hlt') ?_|(with_reducible first|refine SB.c ?_ ?_<;>intro _|exact zac)|with_reducible refine zab ?_|omega))
def nxK (l:List TkD) (lv k:Nat):Nat:=if opF lv (zds l k)=0 then k else k+1
theorem zrC (l:List TkD) (n lv k:Nat) (hk:k≤1000000):AC Tryz.prog gl 202 [.ref 0 0,.ref 1 0] [some (.cells [.pv (.int .i64 lv)]),some (.cells [.ref 2 0]),some (psC l n k)] (.pv (.int .i64 (opF lv (zds l k):Nat)))
  [some (.cells [.pv (.int .i64 lv)]),some (.cells [.ref 2 0]),some (psC l n (nxK l lv k))]:=by
 have cP:=zmP l n k
 have cO:=zmQ lv (zds l k)
 have hw:=zbc k (by omega)
 unfold nxK
 generalize hop:opF lv (zds l k)=op at *
 refine zay (fun _=>0) 3 zC3 ?_
 by_cases h:op=0
 ·subst h
  (repeat' (first|refine Va (fA2 @kz ztG) ?_|(with_reducible first|refine SB.c ?_ ?_<;>intro _|exact zac)|refine CK.dx [2] [] zf2 cP ?_|refine CK.d0 zlu cO ?_|with_reducible refine zab ?_|omega))
  (refine zaJ.mk [0,1,2] ?_ ?_<;>simp [kwr,ztG])
 ·have h':((op:Int) != 0)=true:=by simp;omega
  rw [if_neg h]
  (repeat' (first|refine Va (fA4 @kz ztG h' hw) ?_|(with_reducible first|refine SB.c ?_ ?_<;>intro _|exact zac)|refine CK.dx [2] [] zf2 cP ?_|refine CK.d0 zlu cO ?_|with_reducible refine zab ?_|omega))
  (refine zaJ.mk [0,1,2] ?_ ?_<;>simp [kwr,ztG])
end Go.Proofs.YtfinhhblcdkpgaaGreatDoor
