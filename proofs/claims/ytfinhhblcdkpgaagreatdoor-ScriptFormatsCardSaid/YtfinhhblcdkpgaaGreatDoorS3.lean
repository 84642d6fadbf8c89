/- A part of the walk (Tryz_S3): its theorems have no condition beyond what they state. -/
import Derived.Test.YtfinhhblcdkpgaaGreatDoorP13
import Derived.Test.YtfinhhblcdkpgaaGreatDoorS1
import Derived.Test.YtfinhhblcdkpgaaGreatDoorN12
import Derived.Test.YtfinhhblcdkpgaaGreatDoorLib3
set_option maxRecDepth 100000
set_option maxHeartbeats 64000000
set_option linter.unusedSimpArgs false
set_option linter.unusedVariables false
set_option linter.defProp false
namespace Go.Proofs.YtfinhhblcdkpgaaGreatDoor
open Go Go.Abs Go.RowKit
def rP (r:PgD × Int × Int):AVal:=.tup [pgA r.1,.pv (.int .i64 r.2.1),.pv (.int .i64 r.2.2)]
theorem zuu (s:List UInt8):AC Tryz.prog gl 90 [.pv (.str s)] [] (rP (zpG s)) []:=by
 have cS:=zwT s
 unfold zpG rP
 by_cases h0:(zi3 s).2.2=0
 rotate_left
 ·rw [if_pos h0]
  have e1:=(ztU s h0).1
  have h0':((zi3 s).2.2 != 0)=true:=by simpa using h0
  generalize zi3 s=r at *
  obtain ⟨l,a,e⟩:=r
  simp only at e1 h0' h0
  subst e1
  refine zg0 (fun d=>if d=2 then 0 else 1) 2 zAJ ?_
  (repeat' (first|refine Va (fA3 zuR @rS.eq_1 h0') ?_|(with_reducible first|refine SB.c ?_ ?_<;>intro _|exact zac)|refine CK.d0 zf0 cS ?_|with_reducible refine zab ?_|omega))
  refine ⟨_,zbK.nz,?_⟩
  simp only [St.nz,nzL,ziY,nzO,nz]
  (refine zaJ.mk [0] ?_ ?_<;>simp [kwr,zuR,pgA,pg0,pgZ])
 ·rw [if_neg (by simpa using h0)]
  obtain ⟨hs,l,hSc,e⟩:=zrc s h0
  rw [e] at cS ⊢
  have hl:l.length≤100000:=by have:=hSc.len;omega
  have cP:=zut l s.length hl (zw0 hSc)
  have ho:=zlG (l:=l)
  simp only
  cases hr:zly l with
  |out=>rw [hr] at ho;cases ho
  |bad k=>
   rw [hr] at cP
   refine zg0 (fun d=>if d=2 then 0 else 1) 2 zAJ ?_
   (repeat' (first|simp -implicitDefEqProofs +contextual (maxSteps:=9000000) only [kx,↓ky,zuR,simprocAttr,rS,zxh,pgA]|(with_reducible first|refine SB.c ?_ ?_<;>intro _|exact zac)|refine CK.d0 zf0 cS ?_|refine CK.d0 zhX cP ?_|with_reducible refine zab ?_|omega))
   refine ⟨_,zbK.nz,?_⟩
   simp only [St.nz,nzL,ziY,nzO,nz]
   (refine zaJ.mk [0] ?_ ?_<;>simp [kwr,zuR,pgA,pg0,pgZ])
  |ok p k=>
   rw [hr] at cP
   have hsz:=zn4 hr
   have cD:=zog p (by omega)
   simp only
   by_cases hd:zsc p > 16
   ·rw [if_pos hd]
    unfold pgA at cD
    refine zg0 (fun d=>if d=2 then 0 else 1) 2 zAJ ?_
    (repeat' (first|simp -implicitDefEqProofs +contextual (maxSteps:=9000000) only [kx,↓ky,zuR,simprocAttr,rS,zxh,pgA,hd]|(with_reducible first|refine SB.c ?_ ?_<;>intro _|exact zac)|refine CK.d0 zf0 cS ?_|refine CK.d0 zhX cP ?_|refine CK.d0 zhb cD ?_|with_reducible refine zab ?_|omega))
    refine ⟨_,zbK.nz,?_⟩
    simp only [St.nz,nzL,ziY,nzO,nz]
    (refine zaJ.mk [0] ?_ ?_<;>simp [kwr,zuR,pgA,pg0,pgZ])
   ·rw [if_neg hd]
    unfold pgA at cD
    refine zg0 (fun d=>if d=2 then 0 else 1) 2 zAJ ?_
    (repeat' (first|simp -implicitDefEqProofs +contextual (maxSteps:=9000000) only [kx,↓ky,zuR,simprocAttr,rS,zxh,pgA,hd]|(with_reducible first|refine SB.c ?_ ?_<;>intro _|exact zac)|refine CK.d0 zf0 cS ?_|refine CK.d0 zhX cP ?_|refine CK.d0 zhb cD ?_|with_reducible refine zab ?_|omega))
    refine ⟨_,zbK.nz,?_⟩
    simp only [St.nz,nzL,ziY,nzO,nz]
    (refine zaJ.mk [0] ?_ ?_<;>simp [kwr,zuR,pgA,pg0,pgZ])
end Go.Proofs.YtfinhhblcdkpgaaGreatDoor
