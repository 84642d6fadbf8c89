/- A part of the walk (Tryz_P3): its theorems have no condition beyond what they state. -/
import Derived.Test.YtfinhhblcdkpgaaGreatDoorP2
import Derived.Test.YtfinhhblcdkpgaaGreatDoorLib3
set_option maxRecDepth 100000
set_option maxHeartbeats 64000000
set_option linter.unusedSimpArgs false
set_option linter.unusedVariables false
set_option linter.defProp false
namespace Go.Proofs.YtfinhhblcdkpgaaGreatDoor
open Go Go.Abs Go.RowKit
theorem zp4 (op:Nat) (h1:10≤op) (h2:op≤22):AC Tryz.prog gl 205 [.pv (.int .i64 op)] [] (.pv (.int .i64 (lvF op:Nat))) []:=by
 have:op=10∨op=11∨op=12∨op=13∨op=14∨op=15∨op=16∨op=17∨op=18∨op=19∨op=20∨op=21∨op=22:=by omega
 rcases this with rfl|rfl|rfl|rfl|rfl|rfl|rfl|rfl|rfl|rfl|rfl|rfl|rfl
 all_goals
  refine zaK (fun _=>0) 0 zEG ?_
  simp -implicitDefEqProofs +contextual (maxSteps:=9000000) only [kx,↓ky,zEa,simprocAttr]
  try rfl
theorem zix (op:Nat) (h1:8≤op) (h2:op≤22):AC Tryz.prog gl 190 [.pv (.int .i64 op)] [] (.pv (.str (sgF op))) []:=by
 have:op=8∨op=9∨op=10∨op=11∨op=12∨op=13∨op=14∨op=15∨op=16∨op=17∨op=18∨op=19∨op=20∨op=21∨op=22:=by omega
 rcases this with rfl|rfl|rfl|rfl|rfl|rfl|rfl|rfl|rfl|rfl|rfl|rfl|rfl|rfl|rfl
 all_goals
  refine zaK (fun _=>0) 0 zEC ?_
  simp -implicitDefEqProofs +contextual (maxSteps:=9000000) only [kx,↓ky,zD9,simprocAttr]
  try rfl
theorem znu (lv:Nat) (s:List UInt8):AC Tryz.prog gl 203 [.pv (.int .i64 lv),.pv (.str s)] [] (.pv (.int .i64 (opF lv s:Nat))) []:=by
 refine zaK (fun _=>0) 0 zEF ?_
 simp -implicitDefEqProofs +contextual (maxSteps:=9000000) only [kx,↓ky,zrF,simprocAttr]
 refine zbx (ι:={k:Nat // 10≤k∧k≤23∧∀ j,10≤j→j<k→¬ (lvF j=lv∧sgF j=s)}) (fun i=>⟨(.pv (.int .i64 lv)::.pv (.str s)::.junk::.junk::.pv (.int .i64 0)::.pv (.int .i64 i.1)::jl 15 []),[]⟩) (fun i=>23 - i.1) ⟨10,by omega,by omega,fun j _ _=>by omega⟩ WFn ?_
 rintro ⟨k,h1,h2,h3⟩
 by_cases hlt:k≤22
 ·have hlt':(k:Int)≤22:=by omega
  have cL:=zp4 k h1 hlt
  have cS:=zix k (by omega) hlt
  have hw:=zbu k (by omega)
  by_cases ha:lvF k=lv
  ·have ha':(((lvF k:Nat):Int)==(lv:Int))=true:=by simp [ha]
   by_cases hb:sgF k=s
   ·have hb':(sgF k==s)=true:=by simp [hb]
    have he:opF lv s=k:=by rw [←ha,←hb];exact zwa k h1 hlt
    rw [he]
    (repeat' (first|refine Va (fA4 zrF hlt' ha' hb') ?_|(with_reducible first|refine SB.c ?_ ?_<;>intro _|exact zad)|refine CK.d0 zh4 cL ?_|refine CK.d0 zeM cS ?_|with_reducible refine zac ?_|omega))
   ·have hb':(sgF k==s)=false:=by simpa using hb
    (repeat' (first|refine Va (fA5 zrF hlt' ha' hb' hw) ?_|(with_reducible first|refine SB.c ?_ ?_<;>intro _|exact zad)|refine CK.d0 zh4 cL ?_|refine CK.d0 zeM cS ?_|with_reducible refine zac ?_|omega))
    exact ⟨⟨k+1,by omega,by omega,fun j j1 j2=>by
     by_cases hj:j=k
     ·subst hj;exact fun h=>hb h.2
     ·exact h3 j j1 (by omega)⟩,WFn,by simp;omega⟩
  ·have ha':(((lvF k:Nat):Int)==(lv:Int))=false:=by simp;omega
   (repeat' (first|refine Va (fA4 zrF hlt' ha' hw) ?_|(with_reducible first|refine SB.c ?_ ?_<;>intro _|exact zad)|refine CK.d0 zh4 cL ?_|refine CK.d0 zeM cS ?_|with_reducible refine zac ?_|omega))
   exact ⟨⟨k+1,by omega,by omega,fun j j1 j2=>by
    by_cases hj:j=k
    ·subst hj;exact fun h=>ha h.1
    ·exact h3 j j1 (by omega)⟩,WFn,by simp;omega⟩
 ·have hlt':¬ (k:Int)≤22:=by omega
  have he:opF lv s=0:=by
   by_cases h0:opF lv s=0
   ·exact h0
   ·obtain ⟨a1,a2,a3,a4⟩:=zBk h0
    exact absurd ⟨a3,a4⟩ (h3 _ a1 (by omega))
  rw [he]
  (repeat' (first|refine Va (fA2 zrF hlt') ?_|(with_reducible first|refine SB.c ?_ ?_<;>intro _|exact zad)|with_reducible refine zac ?_|omega))
def nxK (l:List TkD) (lv k:Nat):Nat:=if opF lv (zce l k)=0 then k else k+1
theorem zsz (l:List TkD) (n lv k:Nat) (hk:k≤1000000):AC Tryz.prog gl 202 [.ref 0 0,.ref 1 0] [some (.cells [.pv (.int .i64 lv)]),some (.cells [.ref 2 0]),some (psC l n k)] (.pv (.int .i64 (opF lv (zce l k):Nat)))
  [some (.cells [.pv (.int .i64 lv)]),some (.cells [.ref 2 0]),some (psC l n (nxK l lv k))]:=by
 have cP:=znt l n k
 have cO:=znu lv (zce l k)
 have hw:=zbu k (by omega)
 unfold nxK
 generalize hop:opF lv (zce l k)=op at *
 refine zax (fun _=>0) 3 zEE ?_
 by_cases h:op=0
 ·subst h
  (repeat' (first|refine Va (fA2 @kz zuS) ?_|(with_reducible first|refine SB.c ?_ ?_<;>intro _|exact zad)|refine CK.dx [2] [] zf9 cP ?_|refine CK.d0 zlV cO ?_|with_reducible refine zac ?_|omega))
  (refine zaI.mk [0,1,2] ?_ ?_<;>simp [kwr,zuS])
 ·have h':((op:Int) != 0)=true:=by simp;omega
  rw [if_neg h]
  (repeat' (first|refine Va (fA4 @kz zuS h' hw) ?_|(with_reducible first|refine SB.c ?_ ?_<;>intro _|exact zad)|refine CK.dx [2] [] zf9 cP ?_|refine CK.d0 zlV cO ?_|with_reducible refine zac ?_|omega))
  (refine zaI.mk [0,1,2] ?_ ?_<;>simp [kwr,zuS])
end Go.Proofs.YtfinhhblcdkpgaaGreatDoor
