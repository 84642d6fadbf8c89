/- A part of the walk (Tryz_S3r): its theorems have no condition beyond what they state. -/
import Derived.Test.YtfinhhblcdkpgaaGreatDoorLib2
import Derived.Test.YtfinhhblcdkpgaaGreatDoorK16
import Derived.Test.YtfinhhblcdkpgaaGreatDoorR8
import Derived.Test.YtfinhhblcdkpgaaGreatDoorS2
set_option maxRecDepth 100000
set_option maxHeartbeats 64000000
set_option linter.unusedSimpArgs false
set_option linter.unusedVariables false
namespace Go.Proofs.YtfinhhblcdkpgaaGreatDoor
open Go Go.Abs Go.RowKit
theorem zvi (s:List UInt8):AC Tryz.prog gl 52 [.pv (.str s)] [] (rP (zgR s)) []:=by
 have cS:=zxm s
 unfold zgR rP
 by_cases h0:(zhv s).2.2=0
 rotate_left
 ·rw [if_pos h0]
  have e1:=(zqg s h0).1
  have h0':((zhv s).2.2 != 0)=true:=by simpa using h0
  generalize zhv s=r at *
  obtain ⟨l,a,e⟩:=r
  simp only at e1 h0' h0
  subst e1
  refine zbv (fun d=>if d=2 then 0 else if d=8 then 1 else 2) 3 zES ?_
  refine Wk1 (fA4 zyg @rS.eq_1 h0' (CE.mk ziW cS)) ?_
  refine ⟨_,zaY.nz,?_⟩
  simp only [St.nz,nzL,zb4,nzO,nz]
  (refine zax.mk [0] ?_ ?_<;>simp [kwr,zyg,pgA,pg0,pgZ])
 ·rw [if_neg (by simpa using h0)]
  obtain ⟨hs,l,hSc,e⟩:=zoS s h0
  rw [e] at cS ⊢
  have hl:l.length≤100000:=by have:=hSc.len;omega
  have cP:=zvh l s.length (zxw hSc) hl (zuG hSc)
  have ho:=zhC (l:=l)
  simp only
  cases hr:zjV l with
  |out=>rw [hr] at ho;cases ho
  |bad k=>
   rw [hr] at cP
   obtain ⟨g,c1⟩:=cP
   refine zbv (fun d=>if d=2 then 0 else if d=8 then 1 else 2) 3 zES ?_
   refine Wk1 (fA6 @kz zyg @rS.eq_1 @pgA.eq_1 (CE.mk ziW cS) (cX [1] [] zl3 c1)) ?_
   refine ⟨_,zaY.nz,?_⟩
   simp only [St.nz,nzL,zb4,nzO,nz]
   (refine zax.mk [0] ?_ ?_<;>simp [kwr,zyg,pgA,pg0,pgZ])
  |ok p k=>
   rw [hr] at cP
   have c1:AC _ _ _ _ _ _ _:=cP
   have hsz:=zmm hr
   have cD:=znT p (by omega)
   simp only
   by_cases hd:zt1 p > 16
   ·rw [if_pos hd]
    unfold pgA at cD
    refine zbv (fun d=>if d=2 then 0 else if d=8 then 1 else 2) 3 zES ?_
    refine Wk1 (fA8 @kz zyg @rS.eq_1 @pgA.eq_1 hd (CE.mk ziW cS) (cX [1] [] zl3 c1) (CE.mk ziU cD)) ?_
    refine ⟨_,zaY.nz,?_⟩
    simp only [St.nz,nzL,zb4,nzO,nz]
    (refine zax.mk [0] ?_ ?_<;>simp [kwr,zyg,pgA,pg0,pgZ])
   ·rw [if_neg hd]
    unfold pgA at cD
    refine zbv (fun d=>if d=2 then 0 else if d=8 then 1 else 2) 3 zES ?_
    refine Wk1 (fA8 @kz zyg @rS.eq_1 @pgA.eq_1 hd (CE.mk ziW cS) (cX [1] [] zl3 c1) (CE.mk ziU cD)) ?_
    refine ⟨_,zaY.nz,?_⟩
    simp only [St.nz,nzL,zb4,nzO,nz]
    (refine zax.mk [0] ?_ ?_<;>simp [kwr,zyg,pgA,pg0,pgZ])
end Go.Proofs.YtfinhhblcdkpgaaGreatDoor
