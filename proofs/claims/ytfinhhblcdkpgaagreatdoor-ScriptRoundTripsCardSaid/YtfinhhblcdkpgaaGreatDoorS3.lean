/- A part of the walk (Tryz_S3): its theorems have no condition beyond what they state. -/
import Derived.Test.YtfinhhblcdkpgaaGreatDoorP13
import Derived.Test.YtfinhhblcdkpgaaGreatDoorS1
import Derived.Test.YtfinhhblcdkpgaaGreatDoorN10
import Derived.Test.YtfinhhblcdkpgaaGreatDoorLib3
set_option maxRecDepth 100000
set_option maxHeartbeats 64000000
set_option linter.unusedSimpArgs false
set_option linter.unusedVariables false
set_option linter.defProp false
namespace Go.Proofs.YtfinhhblcdkpgaaGreatDoor
open Go Go.Abs Go.RowKit
def rP (r:PgD × Int × Int):AVal:=.tup [pgA r.1,.pv (.int .i64 r.2.1),.pv (.int .i64 r.2.2)]
theorem zvA (s:List UInt8):AC Tryz.prog gl 90 [.pv (.str s)] [] (rP (zmN s)) []:=by
 have cS:=zyg s
 unfold zmN rP
 by_cases h0:(scan s).2.2=0
 rotate_left
 ·rw [if_pos h0]
  have e1:=(zu8 s h0).1
  have h0':((scan s).2.2 != 0)=true:=by simpa using h0
  generalize scan s=r at *
  obtain ⟨l,a,e⟩:=r
  simp only at e1 h0' h0
  subst e1
  refine zgD (fun d=>if d=2 then 0 else 1) 2 zCt ?_
  (repeat' (first|refine Va (fA3 zv9 @rS.eq_1 h0') ?_|(with_reducible first|refine SB.c ?_ ?_<;>intro _|exact zad)|refine CK.d0 zf7 cS ?_|with_reducible refine zac ?_|omega))
  refine ⟨_,zbU.nz,?_⟩
  simp only [St.nz,nzL,zi4,nzO,nz]
  (refine zaI.mk [0] ?_ ?_<;>simp [kwr,zv9,pgA,pg0,pgZ])
 ·rw [if_neg (by simpa using h0)]
  obtain ⟨hs,l,hSc,e⟩:=zr6 s h0
  rw [e] at cS ⊢
  have hl:l.length≤100000:=by have:=hSc.len;omega
  have cP:=zvz l s.length hl (zyn hSc)
  have ho:=zma (l:=l)
  simp only
  cases hr:zja l with
  |out=>rw [hr] at ho;cases ho
  |bad k=>
   rw [hr] at cP
   refine zgD (fun d=>if d=2 then 0 else 1) 2 zCt ?_
   (repeat' (first|simp -implicitDefEqProofs +contextual (maxSteps:=9000000) only [kx,↓ky,zv9,simprocAttr,rS,zyB,pgA]|(with_reducible first|refine SB.c ?_ ?_<;>intro _|exact zad)|refine CK.d0 zf7 cS ?_|refine CK.d0 zh1 cP ?_|with_reducible refine zac ?_|omega))
   refine ⟨_,zbU.nz,?_⟩
   simp only [St.nz,nzL,zi4,nzO,nz]
   (refine zaI.mk [0] ?_ ?_<;>simp [kwr,zv9,pgA,pg0,pgZ])
  |ok p k=>
   rw [hr] at cP
   have hsz:=zoO hr
   have cD:=zoZ p (by omega)
   simp only
   by_cases hd:znc p > 16
   ·rw [if_pos hd]
    unfold pgA at cD
    refine zgD (fun d=>if d=2 then 0 else 1) 2 zCt ?_
    (repeat' (first|simp -implicitDefEqProofs +contextual (maxSteps:=9000000) only [kx,↓ky,zv9,simprocAttr,rS,zyB,pgA,hd]|(with_reducible first|refine SB.c ?_ ?_<;>intro _|exact zad)|refine CK.d0 zf7 cS ?_|refine CK.d0 zh1 cP ?_|refine CK.d0 zhl cD ?_|with_reducible refine zac ?_|omega))
    refine ⟨_,zbU.nz,?_⟩
    simp only [St.nz,nzL,zi4,nzO,nz]
    (refine zaI.mk [0] ?_ ?_<;>simp [kwr,zv9,pgA,pg0,pgZ])
   ·rw [if_neg hd]
    unfold pgA at cD
    refine zgD (fun d=>if d=2 then 0 else 1) 2 zCt ?_
    (repeat' (first|simp -implicitDefEqProofs +contextual (maxSteps:=9000000) only [kx,↓ky,zv9,simprocAttr,rS,zyB,pgA,hd]|(with_reducible first|refine SB.c ?_ ?_<;>intro _|exact zad)|refine CK.d0 zf7 cS ?_|refine CK.d0 zh1 cP ?_|refine CK.d0 zhl cD ?_|with_reducible refine zac ?_|omega))
    refine ⟨_,zbU.nz,?_⟩
    simp only [St.nz,nzL,zi4,nzO,nz]
    (refine zaI.mk [0] ?_ ?_<;>simp [kwr,zv9,pgA,pg0,pgZ])
end Go.Proofs.YtfinhhblcdkpgaaGreatDoor
