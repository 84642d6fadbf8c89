/- A part of the walk (Tryz_P3): its theorems have no condition beyond what they state. -/
import Derived.Test.YtfinhhblcdkpgaaGreatDoorLib2
import Derived.Test.YtfinhhblcdkpgaaGreatDoorP2
import Derived.Test.YtfinhhblcdkpgaaGreatDoorLib3
set_option maxRecDepth 100000
set_option maxHeartbeats 64000000
set_option linter.unusedSimpArgs false
set_option linter.unusedVariables false
namespace Go.Proofs.YtfinhhblcdkpgaaGreatDoor
open Go Go.Abs Go.RowKit
theorem zr8 (op:Nat) (h1:10≤op) (h2:op≤22):AC Tryz.prog gl 205 [.pv (.int .i64 op)] [] (.pv (.int .i64 (lvF op:Nat))) []:=by
 have:op=10∨op=11∨op=12∨op=13∨op=14∨op=15∨op=16∨op=17∨op=18∨op=19∨op=20∨op=21∨op=22:=by omega
 rcases this with rfl|rfl|rfl|rfl|rfl|rfl|rfl|rfl|rfl|rfl|rfl|rfl|rfl
 all_goals
  refine zas (fun _=>0) 0 zHx ?_
  simp -implicitDefEqProofs +contextual (maxSteps:=9000000) only [kx,↓ky,zGO,simprocAttr]
  try rfl
theorem zuO (op:Nat) (h1:8≤op) (h2:op≤22):AC Tryz.prog gl 190 [.pv (.int .i64 op)] [] (.pv (.str (sgF op))) []:=by
 have:op=8∨op=9∨op=10∨op=11∨op=12∨op=13∨op=14∨op=15∨op=16∨op=17∨op=18∨op=19∨op=20∨op=21∨op=22:=by omega
 rcases this with rfl|rfl|rfl|rfl|rfl|rfl|rfl|rfl|rfl|rfl|rfl|rfl|rfl|rfl|rfl
 all_goals
  refine zas (fun _=>0) 0 zHs ?_
  simp -implicitDefEqProofs +contextual (maxSteps:=9000000) only [kx,↓ky,zGM,simprocAttr]
  try rfl
theorem zpe (lv:Nat) (s:List UInt8):AC Tryz.prog gl 203 [.pv (.int .i64 lv),.pv (.str s)] [] (.pv (.int .i64 (opF lv s:Nat))) []:=by
 refine zas (fun _=>0) 0 zHw ?_
 simp -implicitDefEqProofs +contextual (maxSteps:=9000000) only [kx,↓ky,ztM,simprocAttr]
 refine zaK (ι:={k:Nat // 10≤k∧k≤23∧∀ j,10≤j→j<k→¬ (lvF j=lv∧sgF j=s)}) (fun i=>⟨(.pv (.int .i64 lv)::.pv (.str s)::.junk::.junk::.pv (.int .i64 0)::.pv (.int .i64 i.1)::jl 15 []),[]⟩) (fun i=>23 - i.1) ⟨10,by omega,by omega,fun j _ _=>by omega⟩ WFn ?_
 rintro ⟨k,h1,h2,h3⟩
 by_cases hlt:k≤22
 ·have hlt':(k:Int)≤22:=by omega
  have cL:=zr8 k h1 hlt
  have cS:=zuO k (by omega) hlt
  have hw:=zaP k (by omega)
  by_cases ha:lvF k=lv
  ·have ha':(((lvF k:Nat):Int)==(lv:Int))=true:=by simp [ha]
   by_cases hb:sgF k=s
   ·have hb':(sgF k==s)=true:=by simp [hb]
    have he:opF lv s=k:=by rw [←ha,←hb];exact zDF k h1 hlt
    rw [he]
    refine Wk0 (fA6 ztM hlt' ha' hb' (CE.mk zjR cL) (CE.mk zjP cS))
   ·have hb':(sgF k==s)=false:=by simpa using hb
    refine Wk1 (fA7 ztM hlt' ha' hb' hw (CE.mk zjR cL) (CE.mk zjP cS)) ?_
    exact ⟨⟨k+1,by omega,by omega,fun j j1 j2=>by
     by_cases hj:j=k
     ·subst hj;exact fun h=>hb h.2
     ·exact h3 j j1 (by omega)⟩,WFn,by simp;omega⟩
  ·have ha':(((lvF k:Nat):Int)==(lv:Int))=false:=by simp;omega
   refine Wk1 (fA6 ztM hlt' ha' hw (CE.mk zjR cL) (CE.mk zjP cS)) ?_
   exact ⟨⟨k+1,by omega,by omega,fun j j1 j2=>by
    by_cases hj:j=k
    ·subst hj;exact fun h=>ha h.1
    ·exact h3 j j1 (by omega)⟩,WFn,by simp;omega⟩
 ·have hlt':¬ (k:Int)≤22:=by omega
  have he:opF lv s=0:=by
   by_cases h0:opF lv s=0
   ·exact h0
   ·obtain ⟨a1,a2,a3,a4⟩:=zym h0
    exact absurd ⟨a3,a4⟩ (h3 _ a1 (by omega))
  rw [he]
  refine Wk0 (fA2 ztM hlt')
def nxK (l:List TkD) (lv k:Nat):Nat:=if opF lv (zbK l k)=0 then k else k+1
theorem zuP (l:List TkD) (n lv k:Nat) (hk:k≤1000000):AC Tryz.prog gl 202 [.ref 0 0,.ref 1 0] [some (.cells [.pv (.int .i64 lv)]),some (.cells [.ref 2 0]),some (psC l n k)] (.pv (.int .i64 (opF lv (zbK l k):Nat)))
  [some (.cells [.pv (.int .i64 lv)]),some (.cells [.ref 2 0]),some (psC l n (nxK l lv k))]:=by
 have cP:=zpd l n k
 have cO:=zpe lv (zbK l k)
 have hw:=zaP k (by omega)
 unfold nxK
 generalize hop:opF lv (zbK l k)=op at *
 refine zat (fun _=>0) 3 zHv ?_
 by_cases h:op=0
 ·subst h
  refine Wk1 (fA4 @kz zwQ (cX [2] [] zhr cP) (CE.mk znx cO)) ?_
  (refine zax.mk [0,1,2] ?_ ?_<;>simp [kwr,zwQ])
 ·have h':((op:Int) != 0)=true:=by simp;omega
  rw [if_neg h]
  refine Wk1 (fA6 @kz zwQ h' hw (cX [2] [] zhr cP) (CE.mk znx cO)) ?_
  (refine zax.mk [0,1,2] ?_ ?_<;>simp [kwr,zwQ])
def znV (f:FuncId) (args:List AVal) (l:List TkD) (n k:Nat):PR Ex→Prop
 |.ok e k'=>AC Tryz.prog gl f (.ref 0 0::args) (psO l n k) (exA e) (psO l n k')
 |.bad k'=>AP Tryz.prog gl f (.ref 0 0::args) (psO l n k) (fv l n k') (psO l n k')
 |.out=>True
theorem zr9 (l:List TkD) (n m k:Nat) (hl:l.length≤100000) (hk:k≤l.length)
  (hU:∀ k,k≤l.length→(exF l m .un k).isOut=false→znV 201 [] l n k (exF l m .un k))
  (hP:∀ k,k≤l.length→(exF l m .prim k).isOut=false→znV 204 [] l n k (exF l m .prim k))
  (ho:(exF l (m+1) .un k).isOut=false):znV 201 [] l n k (exF l (m+1) .un k):=by
 rw [zux] at ho ⊢
 by_cases h1:isT l k [45]=true
 ·have cA:=za3 l n k _ h1 (by omega)
  have hlt:=zaw h1 (by simp)
  rw [if_pos h1] at ho ⊢
  have c:=hU (k+1) (by omega)
  cases hr:exF l m .un (k+1) with
  |ok e k'=>
   rw [hr] at c
   have c1:AC _ _ _ _ _ _ _:=c rfl
   show AC _ _ _ _ _ _ _
   refine zat (fun _=>1) 2 zrL ?_
   refine Wk1 (fA6 @kz zlX @exA.eq_1 @kA (cX [0] [] zaa cA) (cX [0] [] zeK c1)) ?_
   (refine zax.mk [0] ?_ ?_<;>simp [kwr,zlX,exU,exA,Ex.op,Ex.value,Ex.name,Ex.slot,Ex.size,Ex.args,zaQ,zaz])
  |bad k'=>
   rw [hr] at c
   have c1:AP _ _ _ _ _ _ _:=c rfl
   show AP _ _ _ _ _ _ _
   refine zbY (fun _=>1) 2 zrL ?_
   repeat' first|refine Va (fA4 @kz zlX @exA.eq_1 @kA) ?_|(with_reducible first|refine SB.c ?_ ?_<;>intro _|exact zak|refine fun (_:List AVal)=>?_)|refine dC1 zaa cA ?_|refine CK.dp [0] [] zeK c1 ?_|with_reducible refine zaj ?_|omega
   (refine zct.mk [0] ?_<;>simp [kwt])
  |out=>rw [hr] at ho;cases ho
 ·have cA:=zap l n k _ (by simpa using h1)
  rw [if_neg h1] at ho ⊢
  by_cases h2:isT l k [33]=true
  ·have cB:=za3 l n k _ h2 (by omega)
   have hlt:=zaw h2 (by simp)
   rw [if_pos h2] at ho ⊢
   have c:=hU (k+1) (by omega)
   cases hr:exF l m .un (k+1) with
   |ok e k'=>
    rw [hr] at c
    have c1:AC _ _ _ _ _ _ _:=c rfl
    show AC _ _ _ _ _ _ _
    refine zat (fun _=>1) 2 zrL ?_
    repeat' first|refine Va (fA4 @kz zlX @exA.eq_1 @kA) ?_|(with_reducible first|refine SB.c ?_ ?_<;>intro _|exact zak)|refine dC1 zaa cA ?_|refine dC1 zaa cB ?_|refine dC1 zeK c1 ?_|with_reducible refine zaj ?_|omega
    (refine zax.mk [0] ?_ ?_<;>simp [kwr,zlX,exU,exA,Ex.op,Ex.value,Ex.name,Ex.slot,Ex.size,Ex.args,zaQ,zaz])
   |bad k'=>
    rw [hr] at c
    have c1:AP _ _ _ _ _ _ _:=c rfl
    show AP _ _ _ _ _ _ _
    refine zbY (fun _=>1) 2 zrL ?_
    repeat' first|refine Va (fA4 @kz zlX @exA.eq_1 @kA) ?_|(with_reducible first|refine SB.c ?_ ?_<;>intro _|exact zak|refine fun (_:List AVal)=>?_)|refine dC1 zaa cA ?_|refine dC1 zaa cB ?_|refine CK.dp [0] [] zeK c1 ?_|with_reducible refine zaj ?_|omega
    (refine zct.mk [0] ?_<;>simp [kwt])
   |out=>rw [hr] at ho;cases ho
  ·have cB:=zap l n k _ (by simpa using h2)
   rw [if_neg h2] at ho ⊢
   have c:=hP k hk ho
   cases hr:exF l m .prim k with
   |ok e k'=>
    rw [hr] at c
    have c1:AC _ _ _ _ _ _ _:=c
    show AC _ _ _ _ _ _ _
    refine zat (fun _=>1) 2 zrL ?_
    repeat' first|refine Va (fA4 @kz zlX @exA.eq_1 @kA) ?_|(with_reducible first|refine SB.c ?_ ?_<;>intro _|exact zak)|refine dC1 zaa cA ?_|refine dC1 zaa cB ?_|refine dC1 zny c1 ?_|with_reducible refine zaj ?_|omega
    (refine zax.mk [0] ?_ ?_<;>simp [kwr,zlX,exA,zch,zbx])
   |bad k'=>
    rw [hr] at c
    have c1:AP _ _ _ _ _ _ _:=c
    show AP _ _ _ _ _ _ _
    refine zbY (fun _=>1) 2 zrL ?_
    repeat' first|refine Va (fA4 @kz zlX @exA.eq_1 @kA) ?_|(with_reducible first|refine SB.c ?_ ?_<;>intro _|exact zak|refine fun (_:List AVal)=>?_)|refine dC1 zaa cA ?_|refine dC1 zaa cB ?_|refine CK.dp [0] [] zny c1 ?_|with_reducible refine zaj ?_|omega
    (refine zct.mk [0] ?_<;>simp [kwt])
   |out=>rw [hr] at ho;cases ho
end Go.Proofs.YtfinhhblcdkpgaaGreatDoor
