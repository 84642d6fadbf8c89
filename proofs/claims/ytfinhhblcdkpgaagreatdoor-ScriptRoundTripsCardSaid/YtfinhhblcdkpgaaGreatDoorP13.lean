/- A part of the walk (Tryz_P13): its theorems have no condition beyond what they state. -/
import Derived.Test.YtfinhhblcdkpgaaGreatDoorP12
set_option maxRecDepth 100000
set_option maxHeartbeats 64000000
set_option linter.unusedSimpArgs false
set_option linter.unusedVariables false
set_option linter.defProp false
namespace Go.Proofs.YtfinhhblcdkpgaaGreatDoor
open Go Go.Abs Go.RowKit
theorem zqj (l:List TkD) (n k:Nat) (b:Bool) (a:Int):AD Tryz.prog gl 161 [.ref 0 0,.ref 1 0,.ref 2 0] [some (.cells [.snil,.snil,.snil,.snil,.snil]),some (.cells [.pv (.bool b)]),some (.cells [.pv (.int .i64 a)])] (.panicking (zi2 (fv l n k))) (.panicking [{ v:=fv l n k,recovered:=true }])
  [some (.cells [.snil,.snil,.snil,.snil,.snil]),some (.cells [.pv (.bool false)]),some (.cells [.pv (.int .i64 (zgW l n k))])]:=by
 refine zyA (fun _=>3) 4 Tryz.func161 rfl Tryz.ntmps161 Tryz.results161 (.found (fv l n k) (.pv (.ifc 213 true [.int .i64 (zgW l n k)])) rfl) (by simp) (by simp) (by decide) ?_
 (repeat' (first|refine Va zpQ ?_|(with_reducible first|refine SB.c ?_ ?_<;>intro _|exact zad)|with_reducible refine zac ?_|omega))
 (refine zaI.mk [0,1,2] ?_ ?_<;>simp [kwr,zpQ])
def pg0:PgD:=⟨[],[],[],[],[]⟩
def zyB (l:List TkD) (n:Nat):PR PgD→AVal
 |.ok p _=>.tup [pgA p,.pv (.int .i64 0),.pv (.bool true)]
 |.bad k=>.tup [pgA pg0,.pv (.int .i64 (zgW l n k)),.pv (.bool false)]
 |.out=>.junk
structure HL (l:List TkD) (R:PR PgD) where
 j:Nat
 p:PgD
 z:Seen
 k:Nat
 hk:k≤l.length
 h:zhd l j p z k=R
theorem zvz (l:List TkD) (n:Nat) (hl:l.length≤100000) (hv:∀ k,(l.getD k tk0).value≤9223372036854775807):AC Tryz.prog gl 124 [.pv (.slice (l.map zkG)),.pv (.int .i64 n)] [] (zyB l n (zja l)) []:=by
 have ho:=zma (l:=l)
 unfold zja at ho ⊢
 have cD:=zsP l n (l.length+1) 0 hl (by omega) hv (zhr _ _ 0 (by omega) (by omega))
 have hon:=zir (l:=l) (l.length+1) [] 0 (by omega)
 refine zBH (pin:=3) (σ1:=⟨(.pv (.slice (l.map zkG))::.pv (.int .i64 n)::.junk::.junk::.ref 0 0::.ref 1 0::.ref 2 0::jl 23 []),[some (.cells [.snil,.snil,.snil,.snil,.snil]),some (.cells [.pv (.int .i64 0)]),some (.cells [.pv (.bool false)]),none,none]⟩) (cs:=[.ref 0 0,.ref 2 0,.ref 1 0]) (fun d=>if d=4 then 0 else if d=5 then 1 else if d=6 then 2 else if d=13 then 3 else 4) 5 Tryz.func124 rfl Tryz.ntmps124 (by rw [Tryz.results124]) (by simp) zrO ?_ rfl (by simp) (by simp) ?_
 ·(repeat' (first|refine Va zkw ?_|(with_reducible first|refine SB.c ?_ ?_<;>intro _|exact zad|refine fun (_:List AVal)=>?_)|with_reducible refine zac ?_|omega))
 cases r0:zia l (l.length+1) [] 0 with
 |out=>rw [r0] at ho;cases ho
 |bad k'=>
  rw [r0] at cD
  have q:AP _ _ _ _ _ _ _:=cD
  (repeat' (first|refine Va (fA2 @kz zkw) ?_|(with_reducible first|refine SB.c ?_ ?_<;>intro _|exact zad|refine fun (_:List AVal)=>?_)|refine CK.dp [3] [] zlQ q ?_|with_reducible refine zac ?_|omega))
  refine ⟨.panicking (zi2 (fv l n k')),_,[.ref 0 0,.ref 1 0,.ref 2 0],_,[0,2,1],_,.inr ⟨_,rfl,rfl⟩,rfl,zqj l n k' false 0,rfl,rfl,rfl,(by simp [zbI,zas,zao]),(by decide),(by simp [zbJ]),(by simp),?_⟩
  simp -implicitDefEqProofs +contextual (maxSteps:=9000000) only [kx,↓ky,zkw,simprocAttr,kz,zyB,PR.bind,pgA,pg0]
 |ok vs k1=>
  rw [r0] at cD ho hon
  have q:AC _ _ _ _ _ _ _:=cD
  have hk1:0≤k1∧k1≤l.length:=hon
  simp only [PR.bind] at ho ⊢
  generalize hR:zhd l (l.length+1) ⟨vs,[],[],[],[]⟩ ⟨false,false,false,false⟩ k1=R at *
  (repeat' (first|refine Va (fA3 @kz zkw @vsA.eq_1) ?_|(with_reducible first|refine SB.c ?_ ?_<;>intro _|exact zad|refine fun (_:List AVal)=>?_)|refine CK.dx [3] [] zlQ q ?_|with_reducible refine zac ?_|omega))
  refine zbx (ι:={i:HL l R // i.j≤l.length+1}) (fun i=>⟨(jl 4 (.ref 0 0::.ref 1 0::.ref 2 0::.ref 3 0::.ref 4 0::jl 21 [])),[some (pgC i.1.p),some (.cells [.pv (.int .i64 0)]),some (.cells [.pv (.bool false)]),some (psC l n i.1.k),some (seC i.1.z)]⟩) (fun i=>i.1.j) ⟨⟨l.length+1,⟨vs,[],[],[],[]⟩,⟨false,false,false,false⟩,k1,hk1.2,hR⟩,Nat.le_refl _⟩ (zbU.nz.trans (WFe (by simp [kwf,St.nz,nzL,zi4,nzO,nz]) (by simp [kwf,St.nz,nzL,zi4,nzO,nz]))) ?_
  rintro ⟨⟨j,p,z,k,hk,hi⟩,hj⟩
  replace hj:j≤l.length+1:=hj
  cases j with
  |zero=>
   exfalso
   rw [←hi] at ho
   cases ho
  |succ j=>
   rw [zmb] at hi
   by_cases hlt:k<l.length
   ·have hlt':(k:Int)<l.length:=by omega
    rw [if_pos hlt] at hi
    have c:=znB l n k p z hl hk
    have hpa:=zmc l p z k hk
    have hou:=zoM l p z k hk
    cases r1:ztu l p z k with
    |out=>rw [r1] at hou;cases hou
    |bad k'=>
     rw [r1] at c hi
     have c1:AP _ _ _ _ _ _ _:=c
     replace hi:PR.bad k'=R:=hi
     subst hi
     (repeat' (first|refine Va (fA3 @kz zkw hlt') ?_|(with_reducible first|refine SB.c ?_ ?_<;>intro _|exact zad|refine fun (_:List AVal)=>?_)|refine CK.dp [3,0,4] [] zlR c1 ?_|with_reducible refine zac ?_|omega))
     refine ⟨.panicking (zi2 (fv l n k')),_,[.ref 0 0,.ref 1 0,.ref 2 0],_,[0,2,1],_,.inr ⟨_,rfl,rfl⟩,rfl,zsQ l n k' p false 0,rfl,rfl,rfl,(by simp [zbI,zas,zao]),(by decide),(by simp [zbJ]),(by simp),?_⟩
     simp -implicitDefEqProofs +contextual (maxSteps:=9000000) only [kx,↓ky,zkw,simprocAttr,kz,zyB,pgA,pg0]
    |ok w k2=>
     rw [r1] at c hi hpa
     have c1:AC _ _ _ _ _ _ _:=c
     have hp2:k<k2∧k2≤l.length:=hpa
     replace hi:zhd l j w.1 w.2 k2=R:=hi
     (repeat' (first|refine Va (fA3 @kz zkw hlt') ?_|(with_reducible first|refine SB.c ?_ ?_<;>intro _|exact zad|refine fun (_:List AVal)=>?_)|refine CK.dx [3,0,4] [] zlR c1 ?_|with_reducible refine zac ?_|omega))
     exact ⟨⟨⟨j,w.1,w.2,k2,hp2.2,hi⟩,by show j≤l.length+1;omega⟩,WFn,by show j<j+1;omega⟩
   ·have hlt':¬ (k:Int)<l.length:=by omega
    rw [if_neg hlt] at hi
    subst hi
    (repeat' (first|refine Va (fA2 zkw hlt') ?_|(with_reducible first|refine SB.c ?_ ?_<;>intro _|exact zad|refine fun (_:List AVal)=>?_)|with_reducible refine zac ?_|omega))
    refine ⟨.returning,.returning,[.ref 0 0,.ref 1 0,.ref 2 0],_,[0,2,1],_,.inl ⟨.inl rfl,rfl⟩,rfl,zqi p true 0,rfl,rfl,rfl,(by simp [zbI,zas,zao]),(by decide),(by simp [zbJ]),(by simp),?_⟩
    simp -implicitDefEqProofs +contextual (maxSteps:=9000000) only [kx,↓ky,zkw,simprocAttr,kz,zyB,pgA]
end Go.Proofs.YtfinhhblcdkpgaaGreatDoor
