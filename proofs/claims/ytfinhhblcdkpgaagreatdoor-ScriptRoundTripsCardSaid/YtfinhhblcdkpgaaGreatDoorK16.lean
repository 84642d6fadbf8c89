/- The reader of a script: the program of a process. No condition. -/
import Derived.Test.YtfinhhblcdkpgaaGreatDoorK15
import Derived.Test.YtfinhhblcdkpgaaGreatDoorK11
import Derived.Test.YtfinhhblcdkpgaaGreatDoorS3
import Derived.Test.YtfinhhblcdkpgaaGreatDoorLib3
set_option maxRecDepth 100000
set_option maxHeartbeats 64000000
set_option linter.unusedSimpArgs false
set_option linter.unusedVariables false
set_option linter.defProp false
namespace Go.Proofs.YtfinhhblcdkpgaaGreatDoor
open Go Go.Abs Go.RowKit
abbrev rdP (ls:List (List UInt8)) (torn:Bool) (k:Nat) (cs:List CdD) (p f:Int) (xs:List StD):List (Option AObj):=
 [some (.cells [.pv (.slice (ls.map zwg)),.pv (.bool torn),.pv (.int .i64 k),.row 3 cs.length,.pv (.int .i64 p),.pv (.int .i64 f),.row 2 xs.length]),some .dead,some (.row 4 (xs.map zcE)),some (.row 5 (cs.map zyo))]
abbrev zqk:List (Option AObj):=[some .dead,some .dead,some .dead]
def ziG (ls:List (List UInt8)) (torn:Bool) (k:Nat) (cs:List CdD) (p f:Int) (xs:List StD):AVal × List (Option AObj):=
 if 5≤cs.length then (.tup [.pv (.int .i64 k),.pv (.int .i64 4)],zqk)
 else match zbt (ls.drop k) [] with
  |none=>(.tup [.pv (.int .i64 ((ls.length+1:Nat):Int)),.pv (.int .i64 1)],zqk)
  |some (b,r)=>if (zdF b).2≠0 then (.tup [.pv (.int .i64 k),.pv (.int .i64 (zdF b).2)],zqk)
   else (.tup [.pv (.int .i64 0),.pv (.int .i64 0)],rdP ls torn (ls.length - r.length) (cs++[(zdF b).1]) p f xs)
theorem zjS {ls:List (List UInt8)} {torn:Bool} {k:Nat} {cs:List CdD} {p f:Int} {xs:List StD} (h:5≤cs.length):ziG ls torn k cs p f xs=(.tup [.pv (.int .i64 k),.pv (.int .i64 4)],zqk):=by unfold ziG;rw [if_pos h]
theorem zjT {ls:List (List UInt8)} {torn:Bool} {k:Nat} {cs:List CdD} {p f:Int} {xs:List StD} (h:¬ 5≤cs.length) (hc:zbt (ls.drop k) []=none):ziG ls torn k cs p f xs=(.tup [.pv (.int .i64 ((ls.length+1:Nat):Int)),.pv (.int .i64 1)],zqk):=by
 unfold ziG;rw [if_neg h,hc]
theorem ziH {ls:List (List UInt8)} {torn:Bool} {k:Nat} {cs:List CdD} {p f:Int} {xs:List StD} {b:List UInt8} {r:List (List UInt8)} (h:¬ 5≤cs.length) (hc:zbt (ls.drop k) []=some (b,r)) (he:(zdF b).2≠0):ziG ls torn k cs p f xs=(.tup [.pv (.int .i64 k),.pv (.int .i64 (zdF b).2)],zqk):=by
 unfold ziG;rw [if_neg h,hc];dsimp only;rw [if_pos he]
theorem zo7 {ls:List (List UInt8)} {torn:Bool} {k:Nat} {cs:List CdD} {p f:Int} {xs:List StD} {b:List UInt8} {r:List (List UInt8)} (h:¬ 5≤cs.length) (hc:zbt (ls.drop k) []=some (b,r)) (he:(zdF b).2=0):ziG ls torn k cs p f xs=(.tup [.pv (.int .i64 0),.pv (.int .i64 0)],rdP ls torn (ls.length - r.length) (cs++[(zdF b).1]) p f xs):=by
 unfold ziG;rw [if_neg h,hc];dsimp only;rw [if_neg (by simpa using he)]
theorem zql (ls:List (List UInt8)) (torn:Bool) (k:Nat) (cs:List CdD) (p f:Int) (xs:List StD) (hk:k≤ls.length) (hl:ls.length≤1000000) (hcs:cs.length≤5) (hb:zlm (ls.drop k)≤1000000) :
  AC Tryz.prog gl 62 [.ref 0 0] (rdO ls torn k cs p f xs) (ziG ls torn k cs p f xs).1 (ziG ls torn k cs p f xs).2:=by
 generalize hG:ziG ls torn k cs p f xs=G
 by_cases h5:5≤cs.length
 ·have h5':(cs.length:Int)≥5:=by omega
  have:=zjS (ls:=ls) (torn:=torn) (k:=k) (p:=p) (f:=f) (xs:=xs) h5
  rw [hG] at this
  subst this
  refine zax (fun d=>if d=5 then 3 else if d=8 then 7 else if d=11 then 8 else 9) 10 zFr ?_
  (repeat' (first|refine Va (fA2 zqt h5') ?_|(with_reducible first|refine SB.c ?_ ?_<;>intro _|exact zad)|with_reducible refine zac ?_|omega))
  (refine zaI.mk [0,1,2] ?_ ?_<;>simp [kwr,zqt])
 have h5':¬ (cs.length:Int)≥5:=by omega
 refine zax (fun d=>if d=5 then 3 else if d=8 then 7 else if d=11 then 8 else 9) 10 zFr ?_
 (repeat' (first|refine Va (fA2 zqt h5') ?_|(with_reducible first|refine SB.c ?_ ?_<;>intro _|exact zad)|with_reducible refine zac ?_|omega))
 refine zbx (ι:=PcI ls k) (fun i=>⟨(.ref 0 0::jl 3 (.pv (.int .i64 k)::.ref 3 0::jl 65 [])),(rdO ls torn i.k cs p f xs)++[bH 4 i.b.length,bB i.b,none,none,none,none,none]⟩) (fun i=>ls.length - i.k) ⟨k,[],hk,rfl,by simpa using hb⟩ WFn ?_
 intro i
 have cN:=ziu ls torn i.k cs p f xs (by have:=i.hk;omega) (by omega)
 by_cases hlt:i.k<ls.length
 ·rw [decide_eq_true hlt] at cN
  have hbn:=i.hb
  rw [i.line hlt,zch] at hbn
  by_cases he:ls.getD i.k []=[101,110,100]
  ·have hfin:=i.fin hlt he
   rw [he] at cN
   have cS:=zsm i.b
   have cP:=zvA i.b
   have hsz:=zsu i.b
   have hbf:zdF i.b=if (zmN i.b).2.2≠0 then (cd0,(zmN i.b).2.2) else zaR (zmN i.b).1:=rfl
   have cR:=zjR (zmN i.b).1 hsz
   have hlen:ls.length - (ls.drop (i.k+1)).length=i.k+1:=by simp;omega
   unfold rP at cP
   unfold pgA at cP cR
   unfold cdA at cR
   generalize zmN i.b=pr at *
   by_cases hp0:pr.2.2=0
   ·rw [if_neg (by simpa using hp0)] at hbf
    have hp0':(pr.2.2 != 0)=false:=by simpa using hp0
    by_cases hr0:(zaR pr.1).2=0
    ·have hr0':((zaR pr.1).2 != 0)=false:=by simpa using hr0
     have:=zo7 (torn:=torn) (p:=p) (f:=f) (xs:=xs) h5 hfin (by rw [hbf];exact hr0)
     rw [hG,hbf,hlen] at this
     subst this
     generalize zaR pr.1=rr at *
     have hrm:=zfj (cs.length+1) 120 (by omega)
     (repeat' (first|refine Va (fA5 @kz zqt hp0' hr0' hrm) ?_|(with_reducible first|refine SB.c ?_ ?_<;>intro _|exact zad)|refine CK.dx [0,1,2] [] zba cN ?_|refine CK.dx [3,4] [] zhi cS ?_|refine CK.d0 zkC cP ?_|refine CK.d0 zkA cR ?_|with_reducible refine zac ?_|omega))
     (refine zaI.mk [0,1,2,9] ?_ ?_<;>simp [kwr,zqt,zyo])
    ·have hr0':((zaR pr.1).2 != 0)=true:=by simpa using hr0
     have:=ziH (torn:=torn) (p:=p) (f:=f) (xs:=xs) h5 hfin (by rw [hbf];exact hr0)
     rw [hG,hbf] at this
     subst this
     generalize zaR pr.1=rr at *
     (repeat' (first|refine Va (fA4 @kz zqt hp0' hr0') ?_|(with_reducible first|refine SB.c ?_ ?_<;>intro _|exact zad)|refine CK.dx [0,1,2] [] zba cN ?_|refine CK.dx [3,4] [] zhi cS ?_|refine CK.d0 zkC cP ?_|refine CK.d0 zkA cR ?_|with_reducible refine zac ?_|omega))
     (refine zaI.mk [0,1,2] ?_ ?_<;>simp [kwr,zqt])
   ·have hp0':(pr.2.2 != 0)=true:=by simpa using hp0
    rw [if_pos (by simpa using hp0)] at hbf
    have:=ziH (torn:=torn) (p:=p) (f:=f) (xs:=xs) h5 hfin (by rw [hbf];exact hp0)
    rw [hG,hbf] at this
    subst this
    (repeat' (first|refine Va (fA3 @kz zqt hp0') ?_|(with_reducible first|refine SB.c ?_ ?_<;>intro _|exact zad)|refine CK.dx [0,1,2] [] zba cN ?_|refine CK.dx [3,4] [] zhi cS ?_|refine CK.d0 zkC cP ?_|with_reducible refine zac ?_|omega))
    (refine zaI.mk [0,1,2] ?_ ?_<;>simp [kwr,zqt])
  ·have he':(ls.getD i.k []==[101,110,100])=false:=by simpa using he
   have cW:=zl7 i.b (ls.getD i.k []) (by omega)
   have cB:=zBv (i.b++ls.getD i.k []) 10 (by rw [List.length_append];omega)
   simp only [UInt8.reduceToNat,Int.cast_ofNat_Int] at cB
   have hn:=PcI.next i hlt he
   have e1:(i.next hlt he).k=i.k+1:=rfl
   have e2:(i.next hlt he).b=i.b++(ls.getD i.k []++[10]):=rfl
   (repeat' (first|refine Va (fA3 @kz zqt he') ?_|(with_reducible first|refine SB.c ?_ ?_<;>intro _|exact zad)|refine CK.dx [0,1,2] [] zba cN ?_|refine CK.dx [3,4] [5] zf5 cW ?_|refine CK.dx [3,5] [6] zu0 cB ?_|with_reducible refine zac ?_|omega))
   exact ⟨i.next hlt he,(WMe [0,1,2,3,6,5,5,7,8,9] (by simp [kwt,e1,e2,List.append_assoc]) (by simp [kwt,e1,e2,List.append_assoc])),by show _ - (i.next hlt he).k<_;rw [e1];omega⟩
 ·rw [decide_eq_false hlt] at cN
  have hkl:i.k=ls.length:=by have:=i.hk;omega
  have:=zjT (torn:=torn) (p:=p) (f:=f) (xs:=xs) h5 (i.out hlt)
  rw [hG] at this
  subst this
  rw [hkl] at cN
  (repeat' (first|refine Va (fA3 @kz zqt hkl) ?_|(with_reducible first|refine SB.c ?_ ?_<;>intro _|exact zad)|refine CK.dx [0,1,2] [] zba cN ?_|with_reducible refine zac ?_|omega))
  (refine zaI.mk [0,1,2] ?_ ?_<;>simp [kwr,zqt])
end Go.Proofs.YtfinhhblcdkpgaaGreatDoor
