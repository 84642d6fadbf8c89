/- The reader of a script: the program of a process. No condition. -/
import Derived.Test.YtfinhhblcdkpgaaGreatDoorK15
import Derived.Test.YtfinhhblcdkpgaaGreatDoorK11
import Derived.Test.YtfinhhblcdkpgaaGreatDoorS3
import Derived.Test.YtfinhhblcdkpgaaGreatDoorLib3
set_option maxRecDepth 100000
set_option maxHeartbeats 64000000
set_option linter.unusedSimpArgs false
set_option linter.unusedVariables false
set_option linter.defProp false
namespace Go.Proofs.YtfinhhblcdkpgaaGreatDoor
open Go Go.Abs Go.RowKit
abbrev rdP (ls:List (List UInt8)) (torn:Bool) (k:Nat) (cs:List CdD) (p f:Int) (xs:List StD):List (Option AObj):=
 [some (.cells [.pv (.slice (ls.map zu1)),.pv (.bool torn),.pv (.int .i64 k),.row 3 cs.length,.pv (.int .i64 p),.pv (.int .i64 f),.row 2 xs.length]),some .dead,some (.row 4 (xs.map za7)),some (.row 5 (cs.map zw2))]
abbrev zps:List (Option AObj):=[some .dead,some .dead,some .dead]
def ziD (ls:List (List UInt8)) (torn:Bool) (k:Nat) (cs:List CdD) (p f:Int) (xs:List StD):AVal × List (Option AObj):=
 if 5≤cs.length then (.tup [.pv (.int .i64 k),.pv (.int .i64 4)],zps)
 else match zbR (ls.drop k) [] with
  |none=>(.tup [.pv (.int .i64 ((ls.length+1:Nat):Int)),.pv (.int .i64 1)],zps)
  |some (b,r)=>if (zee b).2≠0 then (.tup [.pv (.int .i64 k),.pv (.int .i64 (zee b).2)],zps)
   else (.tup [.pv (.int .i64 0),.pv (.int .i64 0)],rdP ls torn (ls.length - r.length) (cs++[(zee b).1]) p f xs)
theorem zjF {ls:List (List UInt8)} {torn:Bool} {k:Nat} {cs:List CdD} {p f:Int} {xs:List StD} (h:5≤cs.length):ziD ls torn k cs p f xs=(.tup [.pv (.int .i64 k),.pv (.int .i64 4)],zps):=by unfold ziD;rw [if_pos h]
theorem zjG {ls:List (List UInt8)} {torn:Bool} {k:Nat} {cs:List CdD} {p f:Int} {xs:List StD} (h:¬ 5≤cs.length) (hc:zbR (ls.drop k) []=none):ziD ls torn k cs p f xs=(.tup [.pv (.int .i64 ((ls.length+1:Nat):Int)),.pv (.int .i64 1)],zps):=by
 unfold ziD;rw [if_neg h,hc]
theorem ziE {ls:List (List UInt8)} {torn:Bool} {k:Nat} {cs:List CdD} {p f:Int} {xs:List StD} {b:List UInt8} {r:List (List UInt8)} (h:¬ 5≤cs.length) (hc:zbR (ls.drop k) []=some (b,r)) (he:(zee b).2≠0):ziD ls torn k cs p f xs=(.tup [.pv (.int .i64 k),.pv (.int .i64 (zee b).2)],zps):=by
 unfold ziD;rw [if_neg h,hc];dsimp only;rw [if_pos he]
theorem zon {ls:List (List UInt8)} {torn:Bool} {k:Nat} {cs:List CdD} {p f:Int} {xs:List StD} {b:List UInt8} {r:List (List UInt8)} (h:¬ 5≤cs.length) (hc:zbR (ls.drop k) []=some (b,r)) (he:(zee b).2=0):ziD ls torn k cs p f xs=(.tup [.pv (.int .i64 0),.pv (.int .i64 0)],rdP ls torn (ls.length - r.length) (cs++[(zee b).1]) p f xs):=by
 unfold ziD;rw [if_neg h,hc];dsimp only;rw [if_neg (by simpa using he)]
theorem zpt (ls:List (List UInt8)) (torn:Bool) (k:Nat) (cs:List CdD) (p f:Int) (xs:List StD) (hk:k≤ls.length) (hl:ls.length≤1000000) (hcs:cs.length≤5) (hb:zkT (ls.drop k)≤1000000) :
  AC Tryz.prog gl 62 [.ref 0 0] (rdO ls torn k cs p f xs) (ziD ls torn k cs p f xs).1 (ziD ls torn k cs p f xs).2:=by
 generalize hG:ziD ls torn k cs p f xs=G
 by_cases h5:5≤cs.length
 ·have h5':(cs.length:Int)≥5:=by omega
  have:=zjF (ls:=ls) (torn:=torn) (k:=k) (p:=p) (f:=f) (xs:=xs) h5
  rw [hG] at this
  subst this
  refine zay (fun d=>if d=5 then 3 else if d=8 then 7 else if d=11 then 8 else 9) 10 zDQ ?_
  (repeat' (first|refine Va (fA2 zpD h5') ?_|(with_reducible first|refine SB.c ?_ ?_<;>intro _|exact zac)|with_reducible refine zab ?_|omega))
  (refine zaJ.mk [0,1,2] ?_ ?_<;>simp [kwr,zpD])
 have h5':¬ (cs.length:Int)≥5:=by omega
 refine zay (fun d=>if d=5 then 3 else if d=8 then 7 else if d=11 then 8 else 9) 10 zDQ ?_
 (repeat' (first|refine Va (fA2 zpD h5') ?_|(with_reducible first|refine SB.c ?_ ?_<;>intro _|exact zac)|with_reducible refine zab ?_|omega))
 refine za6 (ι:=PcI ls k) (fun i=>⟨(.ref 0 0::jl 3 (.pv (.int .i64 k)::.ref 3 0::jl 65 [])),(rdO ls torn i.k cs p f xs)++[bH 4 i.b.length,bB i.b,none,none,none,none,none]⟩) (fun i=>ls.length - i.k) ⟨k,[],hk,rfl,by simpa using hb⟩ WFn ?_
 intro i
 have cN:=zio ls torn i.k cs p f xs (by have:=i.hk;omega) (by omega)
 by_cases hlt:i.k<ls.length
 ·rw [decide_eq_true hlt] at cN
  have hbn:=i.hb
  rw [i.line hlt,zb4] at hbn
  by_cases he:ls.getD i.k []=[101,110,100]
  ·have hfin:=i.fin hlt he
   rw [he] at cN
   have cS:=zrp i.b
   have cP:=zuu i.b
   have hsz:=zw1 i.b
   have hbf:zee i.b=if (zpG i.b).2.2≠0 then (cd0,(zpG i.b).2.2) else zcs (zpG i.b).1:=rfl
   have cR:=zpl (zpG i.b).1 hsz
   have hlen:ls.length - (ls.drop (i.k+1)).length=i.k+1:=by simp;omega
   unfold rP at cP
   unfold pgA at cP cR
   unfold cdA at cR
   generalize zpG i.b=pr at *
   by_cases hp0:pr.2.2=0
   ·rw [if_neg (by simpa using hp0)] at hbf
    have hp0':(pr.2.2 != 0)=false:=by simpa using hp0
    by_cases hr0:(zcs pr.1).2=0
    ·have hr0':((zcs pr.1).2 != 0)=false:=by simpa using hr0
     have:=zon (torn:=torn) (p:=p) (f:=f) (xs:=xs) h5 hfin (by rw [hbf];exact hr0)
     rw [hG,hbf,hlen] at this
     subst this
     generalize zcs pr.1=rr at *
     have hrm:=zej (cs.length+1) 120 (by omega)
     (repeat' (first|refine Va (fA5 @kz zpD hp0' hr0' hrm) ?_|(with_reducible first|refine SB.c ?_ ?_<;>intro _|exact zac)|refine CK.dx [0,1,2] [] za5 cN ?_|refine CK.dx [3,4] [] zg8 cS ?_|refine CK.d0 zkg cP ?_|refine CK.d0 zny cR ?_|with_reducible refine zab ?_|omega))
     (refine zaJ.mk [0,1,2,9] ?_ ?_<;>simp [kwr,zpD,zw2])
    ·have hr0':((zcs pr.1).2 != 0)=true:=by simpa using hr0
     have:=ziE (torn:=torn) (p:=p) (f:=f) (xs:=xs) h5 hfin (by rw [hbf];exact hr0)
     rw [hG,hbf] at this
     subst this
     generalize zcs pr.1=rr at *
     (repeat' (first|refine Va (fA4 @kz zpD hp0' hr0') ?_|(with_reducible first|refine SB.c ?_ ?_<;>intro _|exact zac)|refine CK.dx [0,1,2] [] za5 cN ?_|refine CK.dx [3,4] [] zg8 cS ?_|refine CK.d0 zkg cP ?_|refine CK.d0 zny cR ?_|with_reducible refine zab ?_|omega))
     (refine zaJ.mk [0,1,2] ?_ ?_<;>simp [kwr,zpD])
   ·have hp0':(pr.2.2 != 0)=true:=by simpa using hp0
    rw [if_pos (by simpa using hp0)] at hbf
    have:=ziE (torn:=torn) (p:=p) (f:=f) (xs:=xs) h5 hfin (by rw [hbf];exact hp0)
    rw [hG,hbf] at this
    subst this
    (repeat' (first|refine Va (fA3 @kz zpD hp0') ?_|(with_reducible first|refine SB.c ?_ ?_<;>intro _|exact zac)|refine CK.dx [0,1,2] [] za5 cN ?_|refine CK.dx [3,4] [] zg8 cS ?_|refine CK.d0 zkg cP ?_|with_reducible refine zab ?_|omega))
    (refine zaJ.mk [0,1,2] ?_ ?_<;>simp [kwr,zpD])
  ·have he':(ls.getD i.k []==[101,110,100])=false:=by simpa using he
   have cW:=zlD i.b (ls.getD i.k []) (by omega)
   have cB:=zzT (i.b++ls.getD i.k []) 10 (by rw [List.length_append];omega)
   simp only [UInt8.reduceToNat,Int.cast_ofNat_Int] at cB
   have hn:=PcI.next i hlt he
   have e1:(i.next hlt he).k=i.k+1:=rfl
   have e2:(i.next hlt he).b=i.b++(ls.getD i.k []++[10]):=rfl
   (repeat' (first|refine Va (fA3 @kz zpD he') ?_|(with_reducible first|refine SB.c ?_ ?_<;>intro _|exact zac)|refine CK.dx [0,1,2] [] za5 cN ?_|refine CK.dx [3,4] [5] zfV cW ?_|refine CK.dx [3,5] [6] ztM cB ?_|with_reducible refine zab ?_|omega))
   exact ⟨i.next hlt he,(WMe [0,1,2,3,6,5,5,7,8,9] (by simp [kwt,e1,e2,List.append_assoc]) (by simp [kwt,e1,e2,List.append_assoc])),by show _ - (i.next hlt he).k<_;rw [e1];omega⟩
 ·rw [decide_eq_false hlt] at cN
  have hkl:i.k=ls.length:=by have:=i.hk;omega
  have:=zjG (torn:=torn) (p:=p) (f:=f) (xs:=xs) h5 (i.out hlt)
  rw [hG] at this
  subst this
  rw [hkl] at cN
  (repeat' (first|refine Va (fA3 @kz zpD hkl) ?_|(with_reducible first|refine SB.c ?_ ?_<;>intro _|exact zac)|refine CK.dx [0,1,2] [] za5 cN ?_|with_reducible refine zab ?_|omega))
  (refine zaJ.mk [0,1,2] ?_ ?_<;>simp [kwr,zpD])
end Go.Proofs.YtfinhhblcdkpgaaGreatDoor
