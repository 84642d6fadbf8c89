/- The program's reading of a script. No condition. -/
import Derived.Test.YtfinhhblcdkpgaaGreatDoorK17
import Derived.Test.YtfinhhblcdkpgaaGreatDoorLib3
import Derived.Test.YtfinhhblcdkpgaaGreatDoorT0
import Derived.Test.YtfinhhblcdkpgaaGreatDoorLib2
set_option maxRecDepth 100000
set_option maxHeartbeats 64000000
namespace Go.Proofs.YtfinhhblcdkpgaaGreatDoor
open Go Go.Abs Go.RowKit
theorem zmn (s:List UInt8) (hsl:s.length≤4000000000):AC Tryz.prog gl 20 [.pv (.str s)] [] (scA (zkY s)) []:=by
 have hS:=zsy s
 generalize zkY s=G at *
 by_cases hl:65536<s.length
 ·have hl':(s.length:Int) > 65536:=by omega
  rw [if_pos hl] at hS
  subst hS
  refine zaK (fun d=>if d=2 then 0 else 1) 4 zDY ?_
  (repeat' (first|refine V0 (And.intro zDE <|And.intro @hl' <|And.intro @scA.eq_1 @sc0.eq_1) ?_|(with_reducible first|refine SB.c (fun _=>?_) fun _=>?_|exact zad)|with_reducible refine zac ?_|omega))
 rw [if_neg hl] at hS
 have hl':¬ (s.length:Int) > 65536:=by omega
 obtain ⟨b1,b2⟩:=zqg s
 have cR:=zyy (zd4 s) (zje s) (by omega) (by omega)
 have cP:=zkS s 10 (by omega)
 have hp:0<(zaf 10 s).length:=List.length_pos_iff.2 (zbi 10 s)
 have hnum:=ziv 10 s
 have htk:=zny s
 obtain ⟨t1,t2⟩:=zqh s
 have hwn:IntKind.i64.wrap (((zaf 10 s).length:Int) - 1)=(((zaf 10 s).length - 1:Nat):Int):=by rw [zaB _ (by omega) (by omega)];omega
 have c1:(zaf 10 s).length - 1<(zaf 10 s).length:=by omega
 have c2:(((zaf 10 s).length - 1:Nat):Int)≤((zaf 10 s).length:Int):=by omega
 generalize (zaf 10 s).getLast (zbi 10 s)=last at *
 generalize zaf 10 s=L at *
 by_cases he:(zdS (zd4 s) (zje s)).2.2=0
 ·obtain ⟨d,hd⟩:=zvx _ _ he
  rw [zo0 hd] at cR
  rw [hd] at hS
  subst hS
  refine zaK (fun d=>if d=2 then 0 else 1) 4 zDY ?_
  (repeat' (first|refine V1 (And.intro zDE <|And.intro @hl' <|And.intro @htk <|And.intro @t1 <|And.intro @t2 <|And.intro @hwn <|And.intro @c1 <|And.intro @c2 <|And.intro @Bool.not_not @scA.eq_1) ?_|(with_reducible first|refine SB.c (fun _=>?_) fun _=>?_|exact zad)|refine CK.d0 ze0 cP ?_|refine CK.dx [1] [2,3] zoa cR ?_|with_reducible refine zac ?_|omega))
  all_goals rfl
 ·obtain ⟨a,e,hd,he0⟩:=zsO _ _ he
  rw [zch hd he0] at cR
  rw [hd] at hS
  subst hS
  have he':(e != 0)=true:=by simpa using he0
  refine zaK (fun d=>if d=2 then 0 else 1) 4 zDY ?_
  (repeat' (first|refine V1 (And.intro zDE <|And.intro @hl' <|And.intro @htk <|And.intro @t1 <|And.intro @t2 <|And.intro @hwn <|And.intro @c1 <|And.intro @c2 <|And.intro @Bool.not_not <|And.intro @he' <|And.intro @scA.eq_1 @sc0.eq_1) ?_|(with_reducible first|refine SB.c (fun _=>?_) fun _=>?_|exact zad)|refine CK.d0 ze0 cP ?_|refine CK.dx [1] [2,3] zoa cR ?_|with_reducible refine zac ?_|omega))
def exS:List UInt8:=[112,114,111,116,111,99,111,108,32,99,97,117,115,97,108,32,49,10,112,114,111,99,101,115,115,10,111,110,32,115,116,97,114,116,32,123,32,111,117,116,112,117,116,32,49,59,32,125,10,101,110,100,10,115,116,101,112,115,10,116,105,99,107,32,48,32,53,10,99,111,109,109,105,116,10]
theorem zBw:zkY exS=(⟨[⟨[],[smE 6 [] exZ (exC 1) [] []],[],[],[]⟩],8,1,[⟨2,0,0,5⟩,⟨13,0,0,0⟩]⟩,0,0):=by kernel_rfl
theorem zo2:AC Tryz.prog gl 8 [] [] (.pv (.bool true)) []:=by
 have c:=zmn exS (by decide)
 rw [zBw] at c
 have e1:zcD ⟨2,0,0,5⟩=[.int .i64 2,.int .i64 0,.int .i64 0,.int .i64 5]:=rfl
 have e2:zcD ⟨13,0,0,0⟩=[.int .i64 13,.int .i64 0,.int .i64 0,.int .i64 0]:=rfl
 unfold exS scA at c
 refine zaK (fun _=>0) 1 fi8 ?_
 (repeat' (first|refine V0 (And.intro tq8 <|And.intro @e1 <|And.intro @e2 @List.append_eq.{0}) ?_|(with_reducible first|refine SB.c (fun _=>?_) fun _=>?_|exact zad)|refine CK.d0 zn5 c ?_|with_reducible refine zac ?_|omega))
end Go.Proofs.YtfinhhblcdkpgaaGreatDoor
