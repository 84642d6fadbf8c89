/- A part of the walk (Tryz_P6): its theorems have no condition beyond what they state. -/
import Derived.Test.YtfinhhblcdkpgaaGreatDoorP5
set_option maxRecDepth 100000
set_option maxHeartbeats 64000000
set_option linter.unusedSimpArgs false
set_option linter.unusedVariables false
set_option linter.defProp false
namespace Go.Proofs.YtfinhhblcdkpgaaGreatDoor
open Go Go.Abs Go.RowKit
def zFB (site:Nat→Nat) (nobj:Nat) (rs:List ResultVar) (l:List TkD) (n:Nat):PR Ex→Exit→St→Prop
 |.ok e k'=>zaJ (zbB site nobj) 1 rs (exA e) (psO l n k')
 |.bad k'=>zbT 1 (fv l n k') (psO l n k')
 |.out=>fun _ _=>True
theorem zDm {f:FuncId} {code:Code} (site:Nat→Nat) (nobj:Nat) {nt:Nat} {rs:List ResultVar} (hF:FI Tryz.prog f code nt rs) {args:List AVal} {l:List TkD} {n k:Nat} {r:PR Ex}
  (h:VC Tryz.prog (zbB site nobj) 1 code ⟨(AVal.ref 0 0::args)++List.replicate (nt - (AVal.ref 0 0::args).length) .junk,psO l n k++List.replicate (nobj - (psO l n k).length) none⟩ (zFB site nobj rs l n r)) (hargs:(AVal.ref 0 0::args).length≤nt:=by simp) (hobjs:(psO l n k).length≤nobj:=by simp) (hr:r.isOut=false:=by assumption):zlO f args l n k r:=by
 cases r with
 |ok e k'=>exact zay site nobj hF h hargs hobjs
 |bad k'=>exact zbr site nobj hF h hargs hobjs
 |out=>cases hr
structure LI (l:List TkD) (lv:Nat) (R:PR Ex) where
 j:Nat
 e:Ex
 k:Nat
 hk:k≤l.length
 h:exF l j (.loop lv e) k=R
theorem zmX (l:List TkD) (n m lv k:Nat) (hl:l.length≤100000) (hk:k≤l.length) (hlv:lv≤5)
  (hB:∀ j,j≤m→∀ lv k,lv≤5→k≤l.length→(exF l j (.bin lv) k).isOut=false→zlO 199 [.pv (.int .i64 lv)] l n k (exF l j (.bin lv) k))
  (hU:∀ k,k≤l.length→(exF l m .un k).isOut=false→zlO 201 [] l n k (exF l m .un k))
  (ho:(exF l (m+1) (.bin lv) k).isOut=false):zlO 199 [.pv (.int .i64 lv)] l n k (exF l (m+1) (.bin lv) k):=by
 have hwl:=zbc lv (by omega)
 rw [zrt] at ho ⊢
 by_cases h5:lv=5
 ·subst h5
  rw [if_pos rfl] at ho ⊢
  have c:=hU k hk ho
  cases hr:exF l m .un k with
  |out=>rw [hr] at ho;cases ho
  |ok e k'=>
   rw [hr] at c
   have c1:AC _ _ _ _ _ _ _:=c
   show AC _ _ _ _ _ _ _
   refine zay (fun d=>if d=2 then 1 else if d=3 then 2 else if d=4 then 3 else 4) 5 ztH ?_
   (repeat' (first|refine Va (fA4 @kz zka @exA.eq_1 @kA) ?_|(with_reducible first|refine SB.c ?_ ?_<;>intro _|exact zac)|refine dC1 zdI c1 ?_|with_reducible refine zab ?_|omega))
   (refine zaJ.mk [0] ?_ ?_<;>simp [kwr,zka,exA,zjs,zfv])
  |bad k'=>
   rw [hr] at c
   have c1:AP _ _ _ _ _ _ _:=c
   show AP _ _ _ _ _ _ _
   refine zbr (fun d=>if d=2 then 1 else if d=3 then 2 else if d=4 then 3 else 4) 5 ztH ?_
   (repeat' (first|refine Va (fA4 @kz zka @exA.eq_1 @kA) ?_|(with_reducible first|refine SB.c ?_ ?_<;>intro _|exact zac|refine fun (_:List AVal)=>?_)|refine CK.dp [0] [] zdI c1 ?_|with_reducible refine zab ?_|omega))
   (refine zbT.mk [0] ?_<;>simp [kwt])
 ·rw [if_neg h5] at ho ⊢
  have h5':((lv:Int)==5)=false:=by simp;omega
  have c:=hB m (Nat.le_refl _) (lv+1) k (by omega) hk
  have hpast:=(zcR (l:=l) m (.bin (lv+1)) k hk).2 rfl
  cases hr:exF l m (.bin (lv+1)) k with
  |out=>rw [hr] at ho;cases ho
  |bad k'=>
   rw [hr] at c
   have c1:AP _ _ _ _ _ _ _:=c rfl
   show AP _ _ _ _ _ _ _
   refine zbr (fun d=>if d=2 then 1 else if d=3 then 2 else if d=4 then 3 else 4) 5 ztH ?_
   (repeat' (first|refine Va (fA6 @kz zka @exA.eq_1 @kA h5' hwl) ?_|(with_reducible first|refine SB.c ?_ ?_<;>intro _|exact zac|refine fun (_:List AVal)=>?_)|refine CK.dp [0] [] zal c1 ?_|with_reducible refine zab ?_|omega))
   (refine zbT.mk [0] ?_<;>simp [kwt])
  |ok e k'=>
   rw [hr] at c ho hpast
   have c1:AC _ _ _ _ _ _ _:=c rfl
   have hp':k<k'∧k'≤l.length:=hpast
   simp only [PR.bind] at ho ⊢
   generalize hR:exF l m (.loop lv e) k'=R at *
   have cN:=zrC l n lv k' (by omega)
   refine zDm (fun d=>if d=2 then 1 else if d=3 then 2 else if d=4 then 3 else 4) 5 ztH ?_
   (repeat' (first|refine Va (fA6 @kz zka @exA.eq_1 @kA h5' hwl) ?_|(with_reducible first|refine SB.c ?_ ?_<;>intro _|exact zac|refine fun (_:List AVal)=>?_)|refine dC1 zal c1 ?_|refine CK.dx [2,1,0] [] zlt cN ?_|with_reducible refine zab ?_|omega))
   refine za6 (ι:={i:LI l lv R // i.j≤m}) (fun i=>⟨(.junk::.junk::.ref 1 0::.ref 2 0::.ref 3 0::.clo 202 [.ref 2 0,.ref 1 0]::.ref 4 0::.pv (.int .i64 (opF lv (zds l i.1.k):Nat))::jl 24 []),[some (psC l n (nxK l lv i.1.k)),some (.cells [.ref 0 0]),some (.cells [.pv (.int .i64 lv)]),some (.cells [.pv (.int .i64 0),.pv (.int .i64 0),.pv (.str []),.pv (.int .i64 0),.pv (.int .i64 0),.snil]),some (.cells [.pv (.int .i64 i.1.e.op),.pv (.int .i64 i.1.e.value),.pv (.str i.1.e.name),.pv (.int .i64 i.1.e.slot),.pv (.int .i64 i.1.e.size),zmz i.1.e.args])]⟩) (fun i=>i.1.j) ⟨⟨m,e,k',hp'.2,hR⟩,Nat.le_refl _⟩ (WFe (by simp [kwf,zfv,zjs]) (by simp [kwf,zfv,zjs])) ?_
   rintro ⟨⟨j,e,k,hk,hi⟩,hj⟩
   replace hj:j≤m:=hj
   cases j with
   |zero=>
    exfalso
    rw [←hi] at ho
    cases ho
   |succ j=>
    rw [znY] at hi
    by_cases h0:opF lv (zds l k)=0
    ·have hnx:nxK l lv k=k:=by unfold nxK;rw [if_pos h0]
     rw [if_pos h0] at hi
     subst hi
     (repeat' (first|refine Va (fA4 zka h0 hnx @kA) ?_|(with_reducible first|refine SB.c ?_ ?_<;>intro _|exact zac|refine fun (_:List AVal)=>?_)|with_reducible refine zab ?_|omega))
     (refine zaJ.mk [0] ?_ ?_<;>simp [kwr,zka,exA,zjs,zfv])
    ·have hnx:nxK l lv k=k+1:=by unfold nxK;rw [if_neg h0]
     have hlt:=zq6 h0
     rw [if_neg h0] at hi
     generalize hop:opF lv (zds l k)=op at *
     have h0':((op:Int) != 0)=true:=by simp;omega
     have d:=hB j (by omega) (lv+1) (k+1) (by omega) (by omega)
     have hpd:=(zcR (l:=l) j (.bin (lv+1)) (k+1) (by omega)).2 rfl
     cases hr2:exF l j (.bin (lv+1)) (k+1) with
     |out=>rw [hr2] at hi;rw [←hi] at ho;cases ho
     |bad k2=>
      rw [hr2] at d hi
      have d1:AP _ _ _ _ _ _ _:=d rfl
      replace hi:PR.bad k2=R:=hi
      subst hi
      (repeat' (first|refine Va (fA7 @kz zka h0' hnx hwl @exA.eq_1 @kA) ?_|(with_reducible first|refine SB.c ?_ ?_<;>intro _|exact zac|refine fun (_:List AVal)=>?_)|refine CK.dp [0] [] zal d1 ?_|with_reducible refine zab ?_|omega))
      (refine zbT.mk [0] ?_<;>simp [kwt])
     |ok e2 k2=>
      rw [hr2] at d hi hpd
      have d1:AC _ _ _ _ _ _ _:=d rfl
      replace hi:exF l j (.loop lv (exB op e e2)) k2=R:=hi
      have hp2:k+1<k2∧k2≤l.length:=hpd
      have dN:=zrC l n lv k2 (by omega)
      (repeat' (first|refine Va (fA7 @kz zka h0' hnx hwl @exA.eq_1 @kA) ?_|(with_reducible first|refine SB.c ?_ ?_<;>intro _|exact zac|refine fun (_:List AVal)=>?_)|refine dC1 zal d1 ?_|refine CK.dx [2,1,0] [] zlt dN ?_|with_reducible refine zab ?_|omega))
      exact ⟨⟨⟨j,exB op e e2,k2,hp2.2,hi⟩,by show j≤m;omega⟩,(WFe (by simp [kwf,exB,Ex.op,Ex.value,Ex.name,Ex.slot,Ex.size,Ex.args,zaY,zaq]) (by simp [kwf,exB,Ex.op,Ex.value,Ex.name,Ex.slot,Ex.size,Ex.args,zaY,zaq])),by show j<j+1;omega⟩
end Go.Proofs.YtfinhhblcdkpgaaGreatDoor
