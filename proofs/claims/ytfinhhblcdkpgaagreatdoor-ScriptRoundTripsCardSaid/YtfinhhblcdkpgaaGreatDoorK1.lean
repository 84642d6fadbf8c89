/- A part of the walk (Tryz_K1): its theorems have no condition beyond what they state. -/
import Derived.Test.YtfinhhblcdkpgaaGreatDoorT0
import Derived.Test.YtfinhhblcdkpgaaGreatDoorLib3
set_option maxRecDepth 100000
set_option maxHeartbeats 64000000
set_option linter.unusedSimpArgs false
set_option linter.unusedVariables false
set_option linter.defProp false
namespace Go.Proofs.YtfinhhblcdkpgaaGreatDoor
open Go Go.Abs
abbrev ziS (f:Fl):Option AObj:=some (.cells [.map 1,.pv (.bool f.1),.pv (.bool f.2)])
abbrev zjQ (pl:List Pl):Option AObj:=some (.map .string (pl.map zgH))
theorem zk9 (pl:List Pl) (n:List UInt8) (arr:Bool) (f:Fl):AC Tryz.prog gl 94 [.ref 0 0,.pv (.str n),.pv (.bool arr)] [ziS f,zjQ pl]
  (.tup [.pv (.int .i64 (zeQ pl n arr f).1.1),.pv (.int .i64 (zeQ pl n arr f).1.2)]) [ziS (zeQ pl n arr f).2,zjQ pl]:=by
 have hm:=zic n pl
 cases h:zbX n pl with
 |none=>
  simp only [h,Option.map_none] at hm
  have hq:zeQ pl n arr f=((0,0),(true,f.2)):=by simp [zeQ,h]
  rw [hq]
  refine zax (fun d=>2) 3 zEh ?_
  (repeat' (first|simp -implicitDefEqProofs +contextual (maxSteps:=9000000) only [kx,↓ky,zy3,simprocAttr,hm,zfr,Option.getD_none,Option.isSome_none,zcI]|(with_reducible first|refine SB.c ?_ ?_<;>intro _|exact zad)|with_reducible refine zac ?_|omega))
  (refine zaI.mk [0,1,2] ?_ ?_<;>simp [kwr,zy3])
 |some q=>
  simp only [h,Option.map_some] at hm
  by_cases h2:arr=decide (q.2 > 0)
  ·have hq:zeQ pl n arr f=(q,f):=by simp [zeQ,h,h2]
   have h3:(arr==decide (q.2 > 0))=true:=by simpa using h2
   rw [hq]
   refine zax (fun d=>2) 3 zEh ?_
   (repeat' (first|simp -implicitDefEqProofs +contextual (maxSteps:=9000000) only [kx,↓ky,zy3,simprocAttr,hm,zfr,Option.getD_some,Option.isSome_some,zcI,h3]|(with_reducible first|refine SB.c ?_ ?_<;>intro _|exact zad)|with_reducible refine zac ?_|omega))
   (refine zaI.mk [0,1,2] ?_ ?_<;>simp [kwr,zy3])
  ·have hq:zeQ pl n arr f=(q,(f.1,true)):=by
    have:(arr != decide (q.2 > 0))=true:=by simpa using h2
    simp only [zeQ,h,this,Bool.or_true]
   have h3:(arr==decide (q.2 > 0))=false:=by simpa using h2
   rw [hq]
   refine zax (fun d=>2) 3 zEh ?_
   (repeat' (first|simp -implicitDefEqProofs +contextual (maxSteps:=9000000) only [kx,↓ky,zy3,simprocAttr,hm,zfr,Option.getD_some,Option.isSome_some,zcI,h3]|(with_reducible first|refine SB.c ?_ ?_<;>intro _|exact zad)|with_reducible refine zac ?_|omega))
   (refine zaI.mk [0,1,2] ?_ ?_<;>simp [kwr,zy3])
end Go.Proofs.YtfinhhblcdkpgaaGreatDoor
