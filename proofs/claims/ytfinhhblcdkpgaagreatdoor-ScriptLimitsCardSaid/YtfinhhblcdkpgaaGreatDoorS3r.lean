/- A part of the walk (Tryz_S3r): its theorems have no condition beyond what they state. -/
import Derived.Test.YtfinhhblcdkpgaaGreatDoorK16
import Derived.Test.YtfinhhblcdkpgaaGreatDoorR8
import Derived.Test.YtfinhhblcdkpgaaGreatDoorK12
set_option maxRecDepth 100000
set_option maxHeartbeats 64000000
set_option linter.unusedSimpArgs false
set_option linter.unusedVariables false
set_option linter.defProp false
namespace Go.Proofs.YtfinhhblcdkpgaaGreatDoor
open Go Go.Abs Go.RowKit
theorem zt1 (s:List UInt8):AC Tryz.prog gl 52 [.pv (.str s)] [] (rP (zgq s)) []:=by
 have cS:=zwb s
 unfold zgq rP
 by_cases h0:(zgX s).2.2=0
 rotate_left
 ·rw [if_pos h0]
  have e1:=(zpw s h0).1
  have h0':((zgX s).2.2 != 0)=true:=by simpa using h0
  generalize zgX s=r at *
  obtain ⟨l,a,e⟩:=r
  simp only at e1 h0' h0
  subst e1
  refine zbw (fun d=>if d=2 then 0 else if d=8 then 1 else 2) 3 zDj ?_
  repeat' first|refine Va (fA3 zw1 @rS.eq_1 h0') ?_|(with_reducible first|refine SB.c ?_ ?_<;>intro _|exact zad)|refine CK.d0 zij cS ?_|with_reducible refine zac ?_|omega
  refine ⟨_,za0.nz,?_⟩
  simp only [St.nz,nzL,zbS,nzO,nz]
  (refine zay.mk [0] ?_ ?_<;>simp [kwr,zw1,pgA,pg0,pgZ])
 ·rw [if_neg (by simpa using h0)]
  obtain ⟨hs,l,hSc,e⟩:=zoj s h0
  rw [e] at cS ⊢
  have hl:l.length≤100000:=by have:=hSc.len;omega
  have cP:=zt0 l s.length (zwk hSc) hl (zts hSc)
  have ho:=zg4 (l:=l)
  simp only
  cases hr:zjp l with
  |out=>rw [hr] at ho;cases ho
  |bad k=>
   rw [hr] at cP
   obtain ⟨g,c1⟩:=cP
   refine zbw (fun d=>if d=2 then 0 else if d=8 then 1 else 2) 3 zDj ?_
   repeat' first|refine Va (fA4 @kz zw1 @rS.eq_1 @pgA.eq_1) ?_|(with_reducible first|refine SB.c ?_ ?_<;>intro _|exact zad)|refine CK.d0 zij cS ?_|refine CK.dx [1] [] zlC c1 ?_|with_reducible refine zac ?_|omega
   refine ⟨_,za0.nz,?_⟩
   simp only [St.nz,nzL,zbS,nzO,nz]
   (refine zay.mk [0] ?_ ?_<;>simp [kwr,zw1,pgA,pg0,pgZ])
  |ok p k=>
   rw [hr] at cP
   have c1:AC _ _ _ _ _ _ _:=cP
   have hsz:=zlV hr
   have cD:=zjG p (by omega)
   simp only
   by_cases hd:zuf p > 16
   ·rw [if_pos hd]
    unfold pgA at cD
    refine zbw (fun d=>if d=2 then 0 else if d=8 then 1 else 2) 3 zDj ?_
    repeat' first|refine Va (fA5 @kz zw1 @rS.eq_1 @pgA.eq_1 hd) ?_|(with_reducible first|refine SB.c ?_ ?_<;>intro _|exact zad)|refine CK.d0 zij cS ?_|refine CK.dx [1] [] zlC c1 ?_|refine CK.d0 zgK cD ?_|with_reducible refine zac ?_|omega
    refine ⟨_,za0.nz,?_⟩
    simp only [St.nz,nzL,zbS,nzO,nz]
    (refine zay.mk [0] ?_ ?_<;>simp [kwr,zw1,pgA,pg0,pgZ])
   ·rw [if_neg hd]
    unfold pgA at cD
    refine zbw (fun d=>if d=2 then 0 else if d=8 then 1 else 2) 3 zDj ?_
    repeat' first|refine Va (fA5 @kz zw1 @rS.eq_1 @pgA.eq_1 hd) ?_|(with_reducible first|refine SB.c ?_ ?_<;>intro _|exact zad)|refine CK.d0 zij cS ?_|refine CK.dx [1] [] zlC c1 ?_|refine CK.d0 zgK cD ?_|with_reducible refine zac ?_|omega
    refine ⟨_,za0.nz,?_⟩
    simp only [St.nz,nzL,zbS,nzO,nz]
    (refine zay.mk [0] ?_ ?_<;>simp [kwr,zw1,pgA,pg0,pgZ])
end Go.Proofs.YtfinhhblcdkpgaaGreatDoor
