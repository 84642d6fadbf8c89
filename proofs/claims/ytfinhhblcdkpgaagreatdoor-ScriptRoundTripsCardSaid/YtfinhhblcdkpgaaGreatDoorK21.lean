/- The program's reading of a script. No condition. -/
import Derived.Test.YtfinhhblcdkpgaaGreatDoorK17
import Derived.Test.YtfinhhblcdkpgaaGreatDoorLib3
import Derived.Test.YtfinhhblcdkpgaaGreatDoorT0
import Derived.Test.YtfinhhblcdkpgaaGreatDoorLib2
set_option maxRecDepth 100000
set_option maxHeartbeats 64000000
set_option linter.unusedSimpArgs false
set_option linter.unusedVariables false
set_option linter.defProp false
namespace Go.Proofs.YtfinhhblcdkpgaaGreatDoor
open Go Go.Abs Go.RowKit
theorem zmq (s:List UInt8) (hsl:s.length≤4000000000):AC Tryz.prog gl 20 [.pv (.str s)] [] (scA (zk1 s)) []:=by
 have hS:=zsB s
 generalize zk1 s=G at *
 by_cases hl:65536<s.length
 ·have hl':(s.length:Int) > 65536:=by omega
  rw [if_pos hl] at hS
  subst hS
  refine zaK (fun d=>if d=2 then 0 else 1) 4 zEc ?_
  (repeat' (first|refine Va (fA4 zDS hl' @scA.eq_1 @sc0.eq_1) ?_|(with_reducible first|refine SB.c ?_ ?_<;>intro _|exact zad)|with_reducible refine zac ?_|omega))
 rw [if_neg hl] at hS
 have hl':¬ (s.length:Int) > 65536:=by omega
 obtain ⟨b1,b2⟩:=zqm s
 have cR:=zyC (zd5 s) (zje s) (by omega) (by omega)
 have cP:=zkV s 10 (by omega)
 have hp:0<(zaf 10 s).length:=List.length_pos_iff.2 (zbi 10 s)
 have hnum:=ziv 10 s
 have htk:=znD s
 obtain ⟨t1,t2⟩:=zqn s
 have hwn:IntKind.i64.wrap (((zaf 10 s).length:Int) - 1)=(((zaf 10 s).length - 1:Nat):Int):=by rw [zaB _ (by omega) (by omega)];omega
 have c1:(zaf 10 s).length - 1<(zaf 10 s).length:=by omega
 have c2:(((zaf 10 s).length - 1:Nat):Int)≤((zaf 10 s).length:Int):=by omega
 generalize (zaf 10 s).getLast (zbi 10 s)=last at *
 generalize zaf 10 s=L at *
 by_cases he:(zdT (zd5 s) (zje s)).2.2=0
 ·obtain ⟨d,hd⟩:=zvB _ _ he
  rw [zo8 hd] at cR
  rw [hd] at hS
  subst hS
  refine zaK (fun d=>if d=2 then 0 else 1) 4 zEc ?_
  (repeat' (first|refine Va (zm8 @kz zDS hl' htk t1 t2 hwn c1 c2 @Bool.not_not @scA.eq_1) ?_|(with_reducible first|refine SB.c ?_ ?_<;>intro _|exact zad)|refine CK.d0 ze3 cP ?_|refine CK.dx [1] [2,3] zoi cR ?_|with_reducible refine zac ?_|omega))
  all_goals rfl
 ·obtain ⟨a,e,hd,he0⟩:=zsR _ _ he
  rw [zci hd he0] at cR
  rw [hd] at hS
  subst hS
  have he':(e != 0)=true:=by simpa using he0
  refine zaK (fun d=>if d=2 then 0 else 1) 4 zEc ?_
  (repeat' (first|refine Va (ztq @kz zDS hl' htk t1 t2 hwn c1 c2 @Bool.not_not he' @scA.eq_1 @sc0.eq_1) ?_|(with_reducible first|refine SB.c ?_ ?_<;>intro _|exact zad)|refine CK.d0 ze3 cP ?_|refine CK.dx [1] [2,3] zoi cR ?_|with_reducible refine zac ?_|omega))
def exS:List UInt8:=[112,114,111,116,111,99,111,108,32,99,97,117,115,97,108,32,49,10,112,114,111,99,101,115,115,10,111,110,32,115,116,97,114,116,32,123,32,111,117,116,112,117,116,32,49,59,32,125,10,101,110,100,10,115,116,101,112,115,10,116,105,99,107,32,48,32,53,10,99,111,109,109,105,116,10]
theorem zBI:zk1 exS=(⟨[⟨[],[smE 6 [] exZ (exC 1) [] []],[],[],[]⟩],8,1,[⟨2,0,0,5⟩,⟨13,0,0,0⟩]⟩,0,0):=by kernel_rfl
theorem zpa:AC Tryz.prog gl 8 [] [] (.pv (.bool true)) []:=by
 have c:=zmq exS (by decide)
 rw [zBI] at c
 have e1:zcE ⟨2,0,0,5⟩=[.int .i64 2,.int .i64 0,.int .i64 0,.int .i64 5]:=rfl
 have e2:zcE ⟨13,0,0,0⟩=[.int .i64 13,.int .i64 0,.int .i64 0,.int .i64 0]:=rfl
 unfold exS scA at c
 refine zaK (fun _=>0) 1 fi8 ?_
 (repeat' (first|refine Va (fA4 tq8 e1 e2 @List.append_eq.{0}) ?_|(with_reducible first|refine SB.c ?_ ?_<;>intro _|exact zad)|refine CK.d0 zod c ?_|with_reducible refine zac ?_|omega))
end Go.Proofs.YtfinhhblcdkpgaaGreatDoor
