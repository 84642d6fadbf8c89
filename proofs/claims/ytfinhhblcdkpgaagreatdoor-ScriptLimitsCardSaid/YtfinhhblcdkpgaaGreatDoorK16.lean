/- A part of the walk (Tryz_P13): its theorems have no condition beyond what they state. -/
import Derived.Test.YtfinhhblcdkpgaaGreatDoorP12
import Derived.Test.YtfinhhblcdkpgaaGreatDoorK34
import Derived.Test.YtfinhhblcdkpgaaGreatDoorN12
import Derived.Test.YtfinhhblcdkpgaaGreatDoorLib3
import Derived.Test.YtfinhhblcdkpgaaGreatDoorN9a
import Derived.Test.YtfinhhblcdkpgaaGreatDoorK11
import Derived.Test.YtfinhhblcdkpgaaGreatDoorLib4
set_option maxRecDepth 100000
set_option maxHeartbeats 64000000
set_option linter.unusedSimpArgs false
set_option linter.unusedVariables false
set_option linter.defProp false
namespace Go.Proofs.YtfinhhblcdkpgaaGreatDoor
open Go Go.Abs Go.RowKit
theorem zrh (l:List TkD) (n k:Nat) (b:Bool) (a:Int):AD Tryz.prog gl 161 [.ref 0 0,.ref 1 0,.ref 2 0] [some (.cells [.snil,.snil,.snil,.snil,.snil]),some (.cells [.pv (.bool b)]),some (.cells [.pv (.int .i64 a)])] (.panicking (zke (fv l n k))) (.panicking [{ v:=fv l n k,recovered:=true }])
  [some (.cells [.snil,.snil,.snil,.snil,.snil]),some (.cells [.pv (.bool false)]),some (.cells [.pv (.int .i64 (zar l n k))])]:=by
 refine zzw (fun _=>3) 4 Tryz.func161 rfl Tryz.ntmps161 Tryz.results161 (.found (fv l n k) (.pv (.ifc 213 true [.int .i64 (zar l n k)])) rfl) (by simp) (by simp) (by decide) ?_
 repeat' first|refine Va zqK ?_|(with_reducible first|refine SB.c ?_ ?_<;>intro _|exact zad)|with_reducible refine zac ?_|omega
 (refine zay.mk [0,1,2] ?_ ?_<;>simp [kwr,zqK])
def pg0:PgD:=⟨[],[],[],[],[]⟩
def zzx (l:List TkD) (n:Nat):PR PgD→AVal
 |.ok p _=>.tup [pgA p,.pv (.int .i64 0),.pv (.bool true)]
 |.bad k=>.tup [pgA pg0,.pv (.int .i64 (zar l n k)),.pv (.bool false)]
 |.out=>.junk
structure HL (l:List TkD) (R:PR PgD) where
 j:Nat
 p:PgD
 z:Seen
 k:Nat
 hk:k≤l.length
 h:zip l j p z k=R
theorem zwE (l:List TkD) (n:Nat) (hl:l.length≤100000) (hv:∀ k,(l.getD k tk0).value≤9223372036854775807):AC Tryz.prog gl 124 [.pv (.slice (l.map zfk)),.pv (.int .i64 n)] [] (zzx l n (zjp l)) []:=by
 have ho:=zg4 (l:=l)
 unfold zjp at ho ⊢
 have cD:=ztP l n (l.length+1) 0 hl (by omega) hv (zg3 _ _ 0 (by omega) (by omega))
 have hon:=zhA (l:=l) (l.length+1) [] 0 (by omega)
 refine zCJ (pin:=3) (σ1:=⟨(.pv (.slice (l.map zfk))::.pv (.int .i64 n)::.junk::.junk::.ref 0 0::.ref 1 0::.ref 2 0::jl 23 []),[some (.cells [.snil,.snil,.snil,.snil,.snil]),some (.cells [.pv (.int .i64 0)]),some (.cells [.pv (.bool false)]),none,none]⟩) (cs:=[.ref 0 0,.ref 2 0,.ref 1 0]) (fun d=>if d=4 then 0 else if d=5 then 1 else if d=6 then 2 else if d=13 then 3 else 4) 5 Tryz.func124 rfl Tryz.ntmps124 (by rw [Tryz.results124]) (by simp) zsM ?_ rfl (by simp) (by simp) ?_
 ·repeat' first|refine Va zlw ?_|(with_reducible first|refine SB.c ?_ ?_<;>intro _|exact zad|refine fun (_:List AVal)=>?_)|with_reducible refine zac ?_|omega
 cases r0:zhM l (l.length+1) [] 0 with
 |out=>rw [r0] at ho;cases ho
 |bad k'=>
  rw [r0] at cD
  have q:AP _ _ _ _ _ _ _:=cD
  repeat' first|refine Va (fA2 @kz zlw) ?_|(with_reducible first|refine SB.c ?_ ?_<;>intro _|exact zad|refine fun (_:List AVal)=>?_)|refine CK.dp [3] [] zmW q ?_|with_reducible refine zac ?_|omega
  refine ⟨.panicking (zke (fv l n k')),_,[.ref 0 0,.ref 1 0,.ref 2 0],_,[0,2,1],_,.inr ⟨_,rfl,rfl⟩,rfl,zrh l n k' false 0,rfl,rfl,rfl,(by simp [zbX,zaz,zaw]),(by decide),(by simp [zbs]),(by simp),?_⟩
  simp -implicitDefEqProofs +contextual (maxSteps:=9000000) only [kx,↓ky,zlw,simprocAttr,kz,zzx,PR.bind,pgA,pg0]
 |ok vs k1=>
  rw [r0] at cD ho hon
  have q:AC _ _ _ _ _ _ _:=cD
  have hk1:0≤k1∧k1≤l.length:=hon
  simp only [PR.bind] at ho ⊢
  generalize hR:zip l (l.length+1) ⟨vs,[],[],[],[]⟩ ⟨false,false,false,false⟩ k1=R at *
  repeat' first|refine Va (fA3 @kz zlw @vsA.eq_1) ?_|(with_reducible first|refine SB.c ?_ ?_<;>intro _|exact zad|refine fun (_:List AVal)=>?_)|refine CK.dx [3] [] zmW q ?_|with_reducible refine zac ?_|omega
  refine zaI (ι:={i:HL l R // i.j≤l.length+1}) (fun i=>⟨(jl 4 (.ref 0 0::.ref 1 0::.ref 2 0::.ref 3 0::.ref 4 0::jl 21 [])),[some (pgC i.1.p),some (.cells [.pv (.int .i64 0)]),some (.cells [.pv (.bool false)]),some (psC l n i.1.k),some (seC i.1.z)]⟩) (fun i=>i.1.j) ⟨⟨l.length+1,⟨vs,[],[],[],[]⟩,⟨false,false,false,false⟩,k1,hk1.2,hR⟩,Nat.le_refl _⟩ (za0.nz.trans (WFe (by simp [kwf,St.nz,nzL,zbS,nzO,nz]) (by simp [kwf,St.nz,nzL,zbS,nzO,nz]))) ?_
  rintro ⟨⟨j,p,z,k,hk,hi⟩,hj⟩
  replace hj:j≤l.length+1:=hj
  cases j with
  |zero=>
   exfalso
   rw [←hi] at ho
   cases ho
  |succ j=>
   rw [zjA] at hi
   by_cases hlt:k<l.length
   ·have hlt':(k:Int)<l.length:=by omega
    rw [if_pos hlt] at hi
    have c:=zoK l n k p z hl hk
    have hpa:=znp l p z k hk
    have hou:=zpI l p z k hk
    cases r1:zov l p z k with
    |out=>rw [r1] at hou;cases hou
    |bad k'=>
     rw [r1] at c hi
     have c1:AP _ _ _ _ _ _ _:=c
     replace hi:PR.bad k'=R:=hi
     subst hi
     repeat' first|refine Va (fA3 @kz zlw hlt') ?_|(with_reducible first|refine SB.c ?_ ?_<;>intro _|exact zad|refine fun (_:List AVal)=>?_)|refine CK.dp [3,0,4] [] zmX c1 ?_|with_reducible refine zac ?_|omega
     refine ⟨.panicking (zke (fv l n k')),_,[.ref 0 0,.ref 1 0,.ref 2 0],_,[0,2,1],_,.inr ⟨_,rfl,rfl⟩,rfl,ztQ l n k' p false 0,rfl,rfl,rfl,(by simp [zbX,zaz,zaw]),(by decide),(by simp [zbs]),(by simp),?_⟩
     simp -implicitDefEqProofs +contextual (maxSteps:=9000000) only [kx,↓ky,zlw,simprocAttr,kz,zzx,pgA,pg0]
    |ok w k2=>
     rw [r1] at c hi hpa
     have c1:AC _ _ _ _ _ _ _:=c
     have hp2:k<k2∧k2≤l.length:=hpa
     replace hi:zip l j w.1 w.2 k2=R:=hi
     repeat' first|refine Va (fA3 @kz zlw hlt') ?_|(with_reducible first|refine SB.c ?_ ?_<;>intro _|exact zad|refine fun (_:List AVal)=>?_)|refine CK.dx [3,0,4] [] zmX c1 ?_|with_reducible refine zac ?_|omega
     exact ⟨⟨⟨j,w.1,w.2,k2,hp2.2,hi⟩,by show j≤l.length+1;omega⟩,WFn,by show j<j+1;omega⟩
   ·have hlt':¬ (k:Int)<l.length:=by omega
    rw [if_neg hlt] at hi
    subst hi
    repeat' first|refine Va (fA2 zlw hlt') ?_|(with_reducible first|refine SB.c ?_ ?_<;>intro _|exact zad|refine fun (_:List AVal)=>?_)|with_reducible refine zac ?_|omega
    refine ⟨.returning,.returning,[.ref 0 0,.ref 1 0,.ref 2 0],_,[0,2,1],_,.inl ⟨.inl rfl,rfl⟩,rfl,zrg p true 0,rfl,rfl,rfl,(by simp [zbX,zaz,zaw]),(by decide),(by simp [zbs]),(by simp),?_⟩
    simp -implicitDefEqProofs +contextual (maxSteps:=9000000) only [kx,↓ky,zlw,simprocAttr,kz,zzx,pgA]
def rP (r:PgD × Int × Int):AVal:=.tup [pgA r.1,.pv (.int .i64 r.2.1),.pv (.int .i64 r.2.2)]
theorem zwF (s:List UInt8):AC Tryz.prog gl 90 [.pv (.str s)] [] (rP (zgq s)) []:=by
 have cS:=zza s
 unfold zgq rP
 by_cases h0:(zgX s).2.2=0
 rotate_left
 ·rw [if_pos h0]
  have e1:=(zpw s h0).1
  have h0':((zgX s).2.2 != 0)=true:=by simpa using h0
  generalize zgX s=r at *
  obtain ⟨l,a,e⟩:=r
  simp only at e1 h0' h0
  subst e1
  refine zbw (fun d=>if d=2 then 0 else 1) 2 zDm ?_
  repeat' first|refine Va (fA3 zw5 @rS.eq_1 h0') ?_|(with_reducible first|refine SB.c ?_ ?_<;>intro _|exact zad)|refine CK.d0 zgR cS ?_|with_reducible refine zac ?_|omega
  refine ⟨_,za0.nz,?_⟩
  simp only [St.nz,nzL,zbS,nzO,nz]
  (refine zay.mk [0] ?_ ?_<;>simp [kwr,zw5,pgA,pg0,pgZ])
 ·rw [if_neg (by simpa using h0)]
  obtain ⟨hs,l,hSc,e⟩:=zoj s h0
  rw [e] at cS ⊢
  have hl:l.length≤100000:=by have:=hSc.len;omega
  have cP:=zwE l s.length hl (zts hSc)
  have ho:=zg4 (l:=l)
  simp only
  cases hr:zjp l with
  |out=>rw [hr] at ho;cases ho
  |bad k=>
   rw [hr] at cP
   refine zbw (fun d=>if d=2 then 0 else 1) 2 zDm ?_
   repeat' first|simp -implicitDefEqProofs +contextual (maxSteps:=9000000) only [kx,↓ky,zw5,simprocAttr,rS,zzx,pgA]|(with_reducible first|refine SB.c ?_ ?_<;>intro _|exact zad)|refine CK.d0 zgR cS ?_|refine CK.d0 zje cP ?_|with_reducible refine zac ?_|omega
   refine ⟨_,za0.nz,?_⟩
   simp only [St.nz,nzL,zbS,nzO,nz]
   (refine zay.mk [0] ?_ ?_<;>simp [kwr,zw5,pgA,pg0,pgZ])
  |ok p k=>
   rw [hr] at cP
   have hsz:=zlV hr
   have cD:=zl1 p (by omega)
   simp only
   by_cases hd:zuf p > 16
   ·rw [if_pos hd]
    unfold pgA at cD
    refine zbw (fun d=>if d=2 then 0 else 1) 2 zDm ?_
    repeat' first|simp -implicitDefEqProofs +contextual (maxSteps:=9000000) only [kx,↓ky,zw5,simprocAttr,rS,zzx,pgA,hd]|(with_reducible first|refine SB.c ?_ ?_<;>intro _|exact zad)|refine CK.d0 zgR cS ?_|refine CK.d0 zje cP ?_|refine CK.d0 zgJ cD ?_|with_reducible refine zac ?_|omega
    refine ⟨_,za0.nz,?_⟩
    simp only [St.nz,nzL,zbS,nzO,nz]
    (refine zay.mk [0] ?_ ?_<;>simp [kwr,zw5,pgA,pg0,pgZ])
   ·rw [if_neg hd]
    unfold pgA at cD
    refine zbw (fun d=>if d=2 then 0 else 1) 2 zDm ?_
    repeat' first|simp -implicitDefEqProofs +contextual (maxSteps:=9000000) only [kx,↓ky,zw5,simprocAttr,rS,zzx,pgA,hd]|(with_reducible first|refine SB.c ?_ ?_<;>intro _|exact zad)|refine CK.d0 zgR cS ?_|refine CK.d0 zje cP ?_|refine CK.d0 zgJ cD ?_|with_reducible refine zac ?_|omega
    refine ⟨_,za0.nz,?_⟩
    simp only [St.nz,nzL,zbS,nzO,nz]
    (refine zay.mk [0] ?_ ?_<;>simp [kwr,zw5,pgA,pg0,pgZ])
abbrev rdP (ls:List (List UInt8)) (torn:Bool) (k:Nat) (cs:List CdD) (p f:Int) (xs:List StD):List (Option AObj):=
 [some (.cells [.pv (.slice (ls.map ze0)),.pv (.bool torn),.pv (.int .i64 k),.row 3 cs.length,.pv (.int .i64 p),.pv (.int .i64 f),.row 2 xs.length]),some .dead,some (.row 4 (xs.map zcw)),some (.row 5 (cs.map zgr))]
abbrev zri:List (Option AObj):=[some .dead,some .dead,some .dead]
def zjR (ls:List (List UInt8)) (torn:Bool) (k:Nat) (cs:List CdD) (p f:Int) (xs:List StD):AVal × List (Option AObj):=
 if 5≤cs.length then (.tup [.pv (.int .i64 k),.pv (.int .i64 4)],zri)
 else match zbV (ls.drop k) [] with
  |none=>(.tup [.pv (.int .i64 ((ls.length+1:Nat):Int)),.pv (.int .i64 1)],zri)
  |some (b,r)=>if (zd7 b).2≠0 then (.tup [.pv (.int .i64 k),.pv (.int .i64 (zd7 b).2)],zri)
   else (.tup [.pv (.int .i64 0),.pv (.int .i64 0)],rdP ls torn (ls.length - r.length) (cs++[(zd7 b).1]) p f xs)
theorem zkW {ls:List (List UInt8)} {torn:Bool} {k:Nat} {cs:List CdD} {p f:Int} {xs:List StD} (h:5≤cs.length):zjR ls torn k cs p f xs=(.tup [.pv (.int .i64 k),.pv (.int .i64 4)],zri):=by unfold zjR;rw [if_pos h]
theorem zkX {ls:List (List UInt8)} {torn:Bool} {k:Nat} {cs:List CdD} {p f:Int} {xs:List StD} (h:¬ 5≤cs.length) (hc:zbV (ls.drop k) []=none):zjR ls torn k cs p f xs=(.tup [.pv (.int .i64 ((ls.length+1:Nat):Int)),.pv (.int .i64 1)],zri):=by
 unfold zjR;rw [if_neg h,hc]
theorem zjS {ls:List (List UInt8)} {torn:Bool} {k:Nat} {cs:List CdD} {p f:Int} {xs:List StD} {b:List UInt8} {r:List (List UInt8)} (h:¬ 5≤cs.length) (hc:zbV (ls.drop k) []=some (b,r)) (he:(zd7 b).2≠0):zjR ls torn k cs p f xs=(.tup [.pv (.int .i64 k),.pv (.int .i64 (zd7 b).2)],zri):=by
 unfold zjR;rw [if_neg h,hc];dsimp only;rw [if_pos he]
theorem zpY {ls:List (List UInt8)} {torn:Bool} {k:Nat} {cs:List CdD} {p f:Int} {xs:List StD} {b:List UInt8} {r:List (List UInt8)} (h:¬ 5≤cs.length) (hc:zbV (ls.drop k) []=some (b,r)) (he:(zd7 b).2=0):zjR ls torn k cs p f xs=(.tup [.pv (.int .i64 0),.pv (.int .i64 0)],rdP ls torn (ls.length - r.length) (cs++[(zd7 b).1]) p f xs):=by
 unfold zjR;rw [if_neg h,hc];dsimp only;rw [if_neg (by simpa using he)]
theorem zrj (ls:List (List UInt8)) (torn:Bool) (k:Nat) (cs:List CdD) (p f:Int) (xs:List StD) (hk:k≤ls.length) (hl:ls.length≤1000000) (hcs:cs.length≤5) (hb:zkn (ls.drop k)≤1000000) :
  AC Tryz.prog gl 62 [.ref 0 0] (rdO ls torn k cs p f xs) (zjR ls torn k cs p f xs).1 (zjR ls torn k cs p f xs).2:=by
 generalize hG:zjR ls torn k cs p f xs=G
 by_cases h5:5≤cs.length
 ·have h5':(cs.length:Int)≥5:=by omega
  have:=zkW (ls:=ls) (torn:=torn) (k:=k) (p:=p) (f:=f) (xs:=xs) h5
  rw [hG] at this
  subst this
  refine zax (fun d=>if d=5 then 3 else if d=8 then 7 else if d=11 then 8 else 9) 10 zGt ?_
  repeat' first|refine Va (fA2 zrx h5') ?_|(with_reducible first|refine SB.c ?_ ?_<;>intro _|exact zad)|with_reducible refine zac ?_|omega
  (refine zay.mk [0,1,2] ?_ ?_<;>simp [kwr,zrx])
 have h5':¬ (cs.length:Int)≥5:=by omega
 refine zax (fun d=>if d=5 then 3 else if d=8 then 7 else if d=11 then 8 else 9) 10 zGt ?_
 repeat' first|refine Va (fA2 zrx h5') ?_|(with_reducible first|refine SB.c ?_ ?_<;>intro _|exact zad)|with_reducible refine zac ?_|omega
 refine zaI (ι:=PcI ls k) (fun i=>⟨(.ref 0 0::jl 3 (.pv (.int .i64 k)::.ref 3 0::jl 65 [])),(rdO ls torn i.k cs p f xs)++[bH 4 i.b.length,bB i.b,none,none,none,none,none]⟩) (fun i=>ls.length - i.k) ⟨k,[],hk,rfl,by simpa using hb⟩ WFn ?_
 intro i
 have cN:=zjE ls torn i.k cs p f xs (by have:=i.hk;omega) (by omega)
 by_cases hlt:i.k<ls.length
 ·rw [decide_eq_true hlt] at cN
  have hbn:=i.hb
  rw [i.line hlt,zb5] at hbn
  by_cases he:ls.getD i.k []=[101,110,100]
  ·have hfin:=i.fin hlt he
   rw [he] at cN
   have cS:=zte i.b
   have cP:=zwF i.b
   have hsz:=zox i.b
   have hbf:zd7 i.b=if (zgq i.b).2.2≠0 then (cd0,(zgq i.b).2.2) else zbp (zgq i.b).1:=rfl
   have cR:=zq9 (zgq i.b).1 hsz
   have hlen:ls.length - (ls.drop (i.k+1)).length=i.k+1:=by simp;omega
   unfold rP at cP
   unfold pgA at cP cR
   unfold cdA at cR
   generalize zgq i.b=pr at *
   by_cases hp0:pr.2.2=0
   ·rw [if_neg (by simpa using hp0)] at hbf
    have hp0':(pr.2.2 != 0)=false:=by simpa using hp0
    by_cases hr0:(zbp pr.1).2=0
    ·have hr0':((zbp pr.1).2 != 0)=false:=by simpa using hr0
     have:=zpY (torn:=torn) (p:=p) (f:=f) (xs:=xs) h5 hfin (by rw [hbf];exact hr0)
     rw [hG,hbf,hlen] at this
     subst this
     generalize zbp pr.1=rr at *
     have hrm:=zc8 (cs.length+1) 120 (by omega)
     repeat' first|refine Va (fA5 @kz zrx hp0' hr0' hrm) ?_|(with_reducible first|refine SB.c ?_ ?_<;>intro _|exact zad)|refine CK.dx [0,1,2] [] zbo cN ?_|refine CK.dx [3,4] [] zia cS ?_|refine CK.d0 zlD cP ?_|refine CK.d0 zpi cR ?_|with_reducible refine zac ?_|omega
     (refine zay.mk [0,1,2,9] ?_ ?_<;>simp [kwr,zrx,zgr])
    ·have hr0':((zbp pr.1).2 != 0)=true:=by simpa using hr0
     have:=zjS (torn:=torn) (p:=p) (f:=f) (xs:=xs) h5 hfin (by rw [hbf];exact hr0)
     rw [hG,hbf] at this
     subst this
     generalize zbp pr.1=rr at *
     repeat' first|refine Va (fA4 @kz zrx hp0' hr0') ?_|(with_reducible first|refine SB.c ?_ ?_<;>intro _|exact zad)|refine CK.dx [0,1,2] [] zbo cN ?_|refine CK.dx [3,4] [] zia cS ?_|refine CK.d0 zlD cP ?_|refine CK.d0 zpi cR ?_|with_reducible refine zac ?_|omega
     (refine zay.mk [0,1,2] ?_ ?_<;>simp [kwr,zrx])
   ·have hp0':(pr.2.2 != 0)=true:=by simpa using hp0
    rw [if_pos (by simpa using hp0)] at hbf
    have:=zjS (torn:=torn) (p:=p) (f:=f) (xs:=xs) h5 hfin (by rw [hbf];exact hp0)
    rw [hG,hbf] at this
    subst this
    repeat' first|refine Va (fA3 @kz zrx hp0') ?_|(with_reducible first|refine SB.c ?_ ?_<;>intro _|exact zad)|refine CK.dx [0,1,2] [] zbo cN ?_|refine CK.dx [3,4] [] zia cS ?_|refine CK.d0 zlD cP ?_|with_reducible refine zac ?_|omega
    (refine zay.mk [0,1,2] ?_ ?_<;>simp [kwr,zrx])
  ·have he':(ls.getD i.k []==[101,110,100])=false:=by simpa using he
   have cW:=znj i.b (ls.getD i.k []) (by omega)
   have cB:=zCu (i.b++ls.getD i.k []) 10 (by rw [List.length_append];omega)
   simp only [UInt8.reduceToNat,Int.cast_ofNat_Int] at cB
   have hn:=PcI.next i hlt he
   have e1:(i.next hlt he).k=i.k+1:=rfl
   have e2:(i.next hlt he).b=i.b++(ls.getD i.k []++[10]):=rfl
   repeat' first|refine Va (fA3 @kz zrx he') ?_|(with_reducible first|refine SB.c ?_ ?_<;>intro _|exact zad)|refine CK.dx [0,1,2] [] zbo cN ?_|refine CK.dx [3,4] [5] zgI cW ?_|refine CK.dx [3,5] [6] zvT cB ?_|with_reducible refine zac ?_|omega
   exact ⟨i.next hlt he,(WMe [0,1,2,3,6,5,5,7,8,9] (by simp [kwt,e1,e2,List.append_assoc]) (by simp [kwt,e1,e2,List.append_assoc])),by show _ - (i.next hlt he).k<_;rw [e1];omega⟩
 ·rw [decide_eq_false hlt] at cN
  have hkl:i.k=ls.length:=by have:=i.hk;omega
  have:=zkX (torn:=torn) (p:=p) (f:=f) (xs:=xs) h5 (i.out hlt)
  rw [hG] at this
  subst this
  rw [hkl] at cN
  repeat' first|refine Va (fA3 @kz zrx hkl) ?_|(with_reducible first|refine SB.c ?_ ?_<;>intro _|exact zad)|refine CK.dx [0,1,2] [] zbo cN ?_|with_reducible refine zac ?_|omega
  (refine zay.mk [0,1,2] ?_ ?_<;>simp [kwr,zrx])
end Go.Proofs.YtfinhhblcdkpgaaGreatDoor
