/- A part of the walk (Tryz_K1): its theorems have no condition beyond what they state. -/
import Derived.Test.YtfinhhblcdkpgaaGreatDoorT0
import Derived.Test.YtfinhhblcdkpgaaGreatDoorLib3
set_option maxRecDepth 100000
set_option maxHeartbeats 64000000
set_option linter.unusedSimpArgs false
set_option linter.unusedVariables false
set_option linter.defProp false
namespace Go.Proofs.YtfinhhblcdkpgaaGreatDoor
open Go Go.Abs
abbrev ziN (f:Fl):Option AObj:=some (.cells [.map 1,.pv (.bool f.1),.pv (.bool f.2)])
abbrev zjE (pl:List Pl):Option AObj:=some (.map .string (pl.map zgz))
theorem zkJ (pl:List Pl) (n:List UInt8) (arr:Bool) (f:Fl):AC Tryz.prog gl 94 [.ref 0 0,.pv (.str n),.pv (.bool arr)] [ziN f,zjE pl]
  (.tup [.pv (.int .i64 (zfx pl n arr f).1.1),.pv (.int .i64 (zfx pl n arr f).1.2)]) [ziN (zfx pl n arr f).2,zjE pl]:=by
 have hm:=zh8 n pl
 cases h:zh7 n pl with
 |none=>
  simp only [h,Option.map_none] at hm
  have hq:zfx pl n arr f=((0,0),(true,f.2)):=by simp [zfx,h]
  rw [hq]
  refine zay (fun d=>2) 3 zCB ?_
  (repeat' (first|simp -implicitDefEqProofs +contextual (maxSteps:=9000000) only [kx,↓ky,zxw,simprocAttr,hm,zfc,Option.getD_none,Option.isSome_none,zcz]|(with_reducible first|refine SB.c ?_ ?_<;>intro _|exact zac)|with_reducible refine zab ?_|omega))
  (refine zaJ.mk [0,1,2] ?_ ?_<;>simp [kwr,zxw])
 |some q=>
  simp only [h,Option.map_some] at hm
  by_cases h2:arr=decide (q.2 > 0)
  ·have hq:zfx pl n arr f=(q,f):=by simp [zfx,h,h2]
   have h3:(arr==decide (q.2 > 0))=true:=by simpa using h2
   rw [hq]
   refine zay (fun d=>2) 3 zCB ?_
   (repeat' (first|simp -implicitDefEqProofs +contextual (maxSteps:=9000000) only [kx,↓ky,zxw,simprocAttr,hm,zfc,Option.getD_some,Option.isSome_some,zcz,h3]|(with_reducible first|refine SB.c ?_ ?_<;>intro _|exact zac)|with_reducible refine zab ?_|omega))
   (refine zaJ.mk [0,1,2] ?_ ?_<;>simp [kwr,zxw])
  ·have hq:zfx pl n arr f=(q,(f.1,true)):=by
    have:(arr != decide (q.2 > 0))=true:=by simpa using h2
    simp only [zfx,h,this,Bool.or_true]
   have h3:(arr==decide (q.2 > 0))=false:=by simpa using h2
   rw [hq]
   refine zay (fun d=>2) 3 zCB ?_
   (repeat' (first|simp -implicitDefEqProofs +contextual (maxSteps:=9000000) only [kx,↓ky,zxw,simprocAttr,hm,zfc,Option.getD_some,Option.isSome_some,zcz,h3]|(with_reducible first|refine SB.c ?_ ?_<;>intro _|exact zac)|with_reducible refine zab ?_|omega))
   (refine zaJ.mk [0,1,2] ?_ ?_<;>simp [kwr,zxw])
end Go.Proofs.YtfinhhblcdkpgaaGreatDoor
