/- The program's reading of a script. No condition. -/
import Derived.Test.YtfinhhblcdkpgaaGreatDoorK17
import Derived.Test.YtfinhhblcdkpgaaGreatDoorLib3
import Derived.Test.YtfinhhblcdkpgaaGreatDoorT0
import Derived.Test.YtfinhhblcdkpgaaGreatDoorLib2
set_option maxRecDepth 100000
set_option maxHeartbeats 64000000
set_option linter.unusedSimpArgs false
set_option linter.unusedVariables false
set_option linter.defProp false
namespace Go.Proofs.YtfinhhblcdkpgaaGreatDoor
open Go Go.Abs Go.RowKit
theorem zrX (s:List UInt8) (hsl:s.length≤4000000000):AC Tryz.prog gl 20 [.pv (.str s)] [] (scA (zry s)) []:=by
 have hS:=zw9 s
 generalize zry s=G at *
 by_cases hl:65536<s.length
 ·have hl':(s.length:Int) > 65536:=by omega
  rw [if_pos hl] at hS
  subst hS
  refine zam (fun d=>if d=2 then 0 else 1) 4 zCw ?_
  (repeat' (first|refine Va (fA4 zCb hl' @scA.eq_1 @sc0.eq_1) ?_|(with_reducible first|refine SB.c ?_ ?_<;>intro _|exact zac)|with_reducible refine zab ?_|omega))
 rw [if_neg hl] at hS
 have hl':¬ (s.length:Int) > 65536:=by omega
 obtain ⟨b1,b2⟩:=zpu s
 have cR:=zxi (zeF s) (zlJ s) (by omega) (by omega)
 have cP:=zkx s 10 (by omega)
 have hp:0<(zan 10 s).length:=List.length_pos_iff.2 (zbO 10 s)
 have hnum:=zip 10 s
 have htk:=zm1 s
 obtain ⟨t1,t2⟩:=zpv s
 have hwn:IntKind.i64.wrap (((zan 10 s).length:Int) - 1)=(((zan 10 s).length - 1:Nat):Int):=by rw [zat _ (by omega) (by omega)];omega
 have c1:(zan 10 s).length - 1<(zan 10 s).length:=by omega
 have c2:(((zan 10 s).length - 1:Nat):Int)≤((zan 10 s).length:Int):=by omega
 generalize (zan 10 s).getLast (zbO 10 s)=last at *
 generalize zan 10 s=L at *
 by_cases he:(zd2 (zeF s) (zlJ s)).2.2=0
 ·obtain ⟨d,hd⟩:=zuv _ _ he
  rw [zoo hd] at cR
  rw [hd] at hS
  subst hS
  refine zam (fun d=>if d=2 then 0 else 1) 4 zCw ?_
  (repeat' (first|refine Va (zhT @kz zCb hl' htk t1 t2 hwn c1 c2 @Bool.not_not @scA.eq_1) ?_|(with_reducible first|refine SB.c ?_ ?_<;>intro _|exact zac)|refine CK.d0 zeQ cP ?_|refine CK.dx [1] [2,3] znE cR ?_|with_reducible refine zab ?_|omega))
  all_goals rfl
 ·obtain ⟨a,e,hd,he0⟩:=zrW _ _ he
  rw [zb5 hd he0] at cR
  rw [hd] at hS
  subst hS
  have he':(e != 0)=true:=by simpa using he0
  refine zam (fun d=>if d=2 then 0 else 1) 4 zCw ?_
  (repeat' (first|refine Va (zoZ @kz zCb hl' htk t1 t2 hwn c1 c2 @Bool.not_not he' @scA.eq_1 @sc0.eq_1) ?_|(with_reducible first|refine SB.c ?_ ?_<;>intro _|exact zac)|refine CK.d0 zeQ cP ?_|refine CK.dx [1] [2,3] znE cR ?_|with_reducible refine zab ?_|omega))
def exS:List UInt8:=[112,114,111,116,111,99,111,108,32,99,97,117,115,97,108,32,49,10,112,114,111,99,101,115,115,10,111,110,32,115,116,97,114,116,32,123,32,111,117,116,112,117,116,32,49,59,32,125,10,101,110,100,10,115,116,101,112,115,10,116,105,99,107,32,48,32,53,10,99,111,109,109,105,116,10]
theorem zz5:zry exS=(⟨[⟨[],[smE 6 [] exZ (exC 1) [] []],[],[],[]⟩],8,1,[⟨2,0,0,5⟩,⟨13,0,0,0⟩]⟩,0,0):=by kernel_rfl
theorem zd5:AC Tryz.prog gl 8 [] [] (.pv (.bool true)) []:=by
 have c:=zrX exS (by decide)
 rw [zz5] at c
 have e1:za7 ⟨2,0,0,5⟩=[.int .i64 2,.int .i64 0,.int .i64 0,.int .i64 5]:=rfl
 have e2:za7 ⟨13,0,0,0⟩=[.int .i64 13,.int .i64 0,.int .i64 0,.int .i64 0]:=rfl
 unfold exS scA at c
 refine zam (fun _=>0) 1 fi8 ?_
 (repeat' (first|refine Va (fA4 tq8 e1 e2 @List.append_eq.{0}) ?_|(with_reducible first|refine SB.c ?_ ?_<;>intro _|exact zac)|refine CK.d0 ztI c ?_|with_reducible refine zab ?_|omega))
end Go.Proofs.YtfinhhblcdkpgaaGreatDoor
