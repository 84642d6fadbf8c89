/- A part of the walk (Tryz_P10): its theorems have no condition beyond what they state. -/
import Derived.Test.YtfinhhblcdkpgaaGreatDoorP9
import Derived.Test.YtfinhhblcdkpgaaGreatDoorLib3
set_option maxRecDepth 100000
set_option maxHeartbeats 64000000
set_option linter.unusedSimpArgs false
set_option linter.unusedVariables false
set_option linter.defProp false
namespace Go.Proofs.YtfinhhblcdkpgaaGreatDoor
open Go Go.Abs Go.RowKit
def vsA (b:List VarD):AVal:=.pv (.slice (b.map zat))
structure DL (l:List TkD) (R:PR (List VarD)) where
 j:Nat
 acc:List VarD
 k:Nat
 hk:k≤l.length
 ha:acc.length≤k
 h:zhM l j acc k=R
theorem zpW {l:List TkD} {k k':Nat} {nm:List UInt8} (hk:k≤l.length) (h:zdz l k=.ok nm k'):k<k'∧k'≤l.length:=by
 have:=za6 hk
 rw [h] at this
 exact this
theorem zre {l:List TkD} {z v:Int} {k k':Nat} (hk:k≤l.length) (h:nmF l z k=.ok v k'):k<k'∧k'≤l.length:=by
 have:=zdK (z:=z) hk
 rw [h] at this
 exact this
theorem zrf {l:List TkD} {s:List UInt8} {k k':Nat} {u:Unit} (hk:k≤l.length) (hs:s≠[]) (h:zaU l s k=.ok u k'):k<k'∧k'≤l.length:=by
 have:=zav hk hs
 rw [h] at this
 exact this
theorem zkV {l:List TkD} {z:Int} {k:Nat}:nmF l z k≠.out:=fun h=>by
 have:=zhv (l:=l) (z:=z) (k:=k)
 rw [h] at this
 cases this
theorem zmc {l:List TkD} {k:Nat}:zdz l k≠.out:=fun h=>by
 have:=zdL (l:=l) (k:=k)
 rw [h] at this
 cases this
theorem zhD {l:List TkD} {z v:Int} {k k':Nat} (hv:∀ k,(l.getD k tk0).value≤9223372036854775807) (h:nmF l z k=.ok v k'):z≤v∧v≤9223372036854775807:=by
 unfold nmF at h
 split at h
 ·rename_i hc
  cases h
  exact ⟨hc.2.2,hv k⟩
 ·cases h
theorem ztP (l:List TkD) (n m k0:Nat) (hl:l.length≤100000) (hk:k0≤l.length) (hv:∀ k,(l.getD k tk0).value≤9223372036854775807) (ho:(zhM l m [] k0).isOut=false):zjO vsA 162 [] l n k0 (zhM l m [] k0):=by
 generalize hR:zhM l m [] k0=R at *
 refine zma vsA (fun d=>if d=4 then 2 else if d=5 then 3 else 4) 5 zFH ?_
 repeat' first|refine Va zeZ ?_|(with_reducible first|refine SB.c ?_ ?_<;>intro _|exact zad|refine fun (_:List AVal)=>?_)|with_reducible refine zac ?_|omega
 (refine LW.weak (za0.nilRow 3 1 3 rfl rfl (by decide)) ?_;simp only [List.set_cons_zero,List.set_cons_succ])
 refine zaI (ι:={i:DL l R // i.j≤m}) (fun i=>⟨(.ref 0 0::.junk::.snil::.row 1 i.1.acc.length::jl 43 []),[some (psC l n i.1.k),some (.row 3 (i.1.acc.map zat)),none,none,none]⟩) (fun i=>i.1.j) ⟨⟨m,[],k0,hk,by simp,hR⟩,Nat.le_refl _⟩ WFn ?_
 rintro ⟨⟨j,acc,k,hk,ha,hi⟩,hj⟩
 replace hj:j≤m:=hj
 cases j with
 |zero=>
  exfalso
  rw [←hi] at ho
  cases ho
 |succ j=>
  rw [zjz] at hi
  have hrm:=zc8 (acc.length+1) 32 (by omega)
  by_cases e0:isT l k [118,97,114]=true
  ·have t0:=za3 l n k _ e0 (by omega)
   have hlt:=zau e0 (by simp)
   rw [if_pos e0] at hi
   cases r1:zdz l (k+1) with
   |out=>exact absurd r1 zmc
   |bad k'=>
    rw [r1] at hi
    replace hi:PR.bad k'=R:=hi
    subst hi
    have q1:=ziB l n _ _ r1 (by omega)
    repeat' first|refine Va (fA3 @kz zeZ hrm) ?_|(with_reducible first|refine SB.c ?_ ?_<;>intro _|exact zad|refine fun (_:List AVal)=>?_)|refine dC1 zaa t0 ?_|refine CK.dp [0] [] zaD q1 ?_|with_reducible refine zac ?_|omega
    (refine zci.mk [0] ?_<;>simp [kwt])
   |ok nm k1=>
    rw [r1] at hi
    simp only [PR.bind] at hi
    have le1:=zpW (by omega) r1
    have c1:=zhC l n _ _ _ r1 (by omega)
    unfold zlH at hi
    by_cases e1:isT l k1 [61]=true
    ·have t1:=za3 l n k1 _ e1 (by omega)
     have hlt1:=zau e1 (by simp)
     rw [if_pos e1] at hi
     by_cases e2:isT l (k1+1) [45]=true
     ·have t2:=za3 l n (k1+1) _ e2 (by omega)
      have hlt2:=zau e2 (by simp)
      rw [if_pos e2] at hi
      cases r4:nmF l 0 (k1+2) with
      |out=>exact absurd r4 zkV
      |bad k'=>
       rw [r4] at hi
       replace hi:PR.bad k'=R:=hi
       subst hi
       have q1:=zfP l n _ _ _ r4 (by omega)
       repeat' first|refine Va (fA3 @kz zeZ hrm) ?_|(with_reducible first|refine SB.c ?_ ?_<;>intro _|exact zad|refine fun (_:List AVal)=>?_)|refine dC1 zaa t0 ?_|refine dC1 zaD c1 ?_|refine dC1 zaa t1 ?_|refine dC1 zaa t2 ?_|refine CK.dp [0] [] zb3 q1 ?_|with_reducible refine zac ?_|omega
       (refine zci.mk [0] ?_<;>simp [kwt])
      |ok v k2=>
       rw [r4] at hi
       simp only [PR.bind] at hi
       have le4:=zre (by omega) r4
       have c4:=zhb l n _ _ _ _ r4 (by omega)
       have vv:=zhD hv r4
       have gneg:IntKind.i64.wrap (0 - v)=-v:=by rw [zaS _ (by omega) (by omega)];omega
       cases r5:zaU l [59] (k2) with
       |out=>exact absurd r5 zby
       |bad k'=>
        rw [r5] at hi
        replace hi:PR.bad k'=R:=hi
        subst hi
        have q1:=za2 l n _ _ _ r5
        repeat' first|refine Va (fA4 @kz zeZ hrm gneg) ?_|(with_reducible first|refine SB.c ?_ ?_<;>intro _|exact zad|refine fun (_:List AVal)=>?_)|refine dC1 zaa t0 ?_|refine dC1 zaD c1 ?_|refine dC1 zaa t1 ?_|refine dC1 zaa t2 ?_|refine dC1 zb3 c4 ?_|refine CK.dp [0] [] zam q1 ?_|with_reducible refine zac ?_|omega
        (refine zci.mk [0] ?_<;>simp [kwt])
       |ok u k3=>
        rw [r5] at hi
        simp only [PR.bind] at hi
        have le5:=zrf (by omega) (by simp) r5
        have c5:=zbe l n _ _ _ r5 (by omega)
        replace hi:zhM l j (acc++[⟨nm,0,-v⟩]) k3=R:=hi
        repeat' first|refine Va (fA4 @kz zeZ hrm gneg) ?_|(with_reducible first|refine SB.c ?_ ?_<;>intro _|exact zad|refine fun (_:List AVal)=>?_)|refine dC1 zaa t0 ?_|refine dC1 zaD c1 ?_|refine dC1 zaa t1 ?_|refine dC1 zaa t2 ?_|refine dC1 zb3 c4 ?_|refine dC1 zam c5 ?_|with_reducible refine zac ?_|omega
        exact ⟨⟨⟨j,acc++[⟨nm,0,-v⟩],k3,by omega,by simp;omega,hi⟩,by show j≤m;omega⟩,(WTe [0,4,1,2,3] (by simp [kwt,zat]) (by simp [kwt,zat])),by show j<j+1;omega⟩
     ·have t2:=zao l n (k1+1) _ (by simpa using e2)
      rw [if_neg e2] at hi
      cases r4:nmF l 0 (k1+1) with
      |out=>exact absurd r4 zkV
      |bad k'=>
       rw [r4] at hi
       replace hi:PR.bad k'=R:=hi
       subst hi
       have q1:=zfP l n _ _ _ r4 (by omega)
       repeat' first|refine Va (fA3 @kz zeZ hrm) ?_|(with_reducible first|refine SB.c ?_ ?_<;>intro _|exact zad|refine fun (_:List AVal)=>?_)|refine dC1 zaa t0 ?_|refine dC1 zaD c1 ?_|refine dC1 zaa t1 ?_|refine dC1 zaa t2 ?_|refine CK.dp [0] [] zb3 q1 ?_|with_reducible refine zac ?_|omega
       (refine zci.mk [0] ?_<;>simp [kwt])
      |ok v k2=>
       rw [r4] at hi
       simp only [PR.bind] at hi
       have le4:=zre (by omega) r4
       have c4:=zhb l n _ _ _ _ r4 (by omega)
       have vv:=zhD hv r4
       have gneg:IntKind.i64.wrap (0 - v)=-v:=by rw [zaS _ (by omega) (by omega)];omega
       cases r5:zaU l [59] (k2) with
       |out=>exact absurd r5 zby
       |bad k'=>
        rw [r5] at hi
        replace hi:PR.bad k'=R:=hi
        subst hi
        have q1:=za2 l n _ _ _ r5
        repeat' first|refine Va (fA4 @kz zeZ hrm gneg) ?_|(with_reducible first|refine SB.c ?_ ?_<;>intro _|exact zad|refine fun (_:List AVal)=>?_)|refine dC1 zaa t0 ?_|refine dC1 zaD c1 ?_|refine dC1 zaa t1 ?_|refine dC1 zaa t2 ?_|refine dC1 zb3 c4 ?_|refine CK.dp [0] [] zam q1 ?_|with_reducible refine zac ?_|omega
        (refine zci.mk [0] ?_<;>simp [kwt])
       |ok u k3=>
        rw [r5] at hi
        simp only [PR.bind] at hi
        have le5:=zrf (by omega) (by simp) r5
        have c5:=zbe l n _ _ _ r5 (by omega)
        replace hi:zhM l j (acc++[⟨nm,0,v⟩]) k3=R:=hi
        repeat' first|refine Va (fA4 @kz zeZ hrm gneg) ?_|(with_reducible first|refine SB.c ?_ ?_<;>intro _|exact zad|refine fun (_:List AVal)=>?_)|refine dC1 zaa t0 ?_|refine dC1 zaD c1 ?_|refine dC1 zaa t1 ?_|refine dC1 zaa t2 ?_|refine dC1 zb3 c4 ?_|refine dC1 zam c5 ?_|with_reducible refine zac ?_|omega
        exact ⟨⟨⟨j,acc++[⟨nm,0,v⟩],k3,by omega,by simp;omega,hi⟩,by show j≤m;omega⟩,(WTe [0,4,1,2,3] (by simp [kwt,zat]) (by simp [kwt,zat])),by show j<j+1;omega⟩
    ·have t1:=zao l n k1 _ (by simpa using e1)
     rw [if_neg e1] at hi
     simp only [] at hi
     cases r3:zaU l [59] (k1) with
     |out=>exact absurd r3 zby
     |bad k'=>
      rw [r3] at hi
      replace hi:PR.bad k'=R:=hi
      subst hi
      have q1:=za2 l n _ _ _ r3
      repeat' first|refine Va (fA3 @kz zeZ hrm) ?_|(with_reducible first|refine SB.c ?_ ?_<;>intro _|exact zad|refine fun (_:List AVal)=>?_)|refine dC1 zaa t0 ?_|refine dC1 zaD c1 ?_|refine dC1 zaa t1 ?_|refine CK.dp [0] [] zam q1 ?_|with_reducible refine zac ?_|omega
      (refine zci.mk [0] ?_<;>simp [kwt])
     |ok u k3=>
      rw [r3] at hi
      simp only [PR.bind] at hi
      have le3:=zrf (by omega) (by simp) r3
      have c3:=zbe l n _ _ _ r3 (by omega)
      replace hi:zhM l j (acc++[⟨nm,0,0⟩]) k3=R:=hi
      repeat' first|refine Va (fA3 @kz zeZ hrm) ?_|(with_reducible first|refine SB.c ?_ ?_<;>intro _|exact zad|refine fun (_:List AVal)=>?_)|refine dC1 zaa t0 ?_|refine dC1 zaD c1 ?_|refine dC1 zaa t1 ?_|refine dC1 zam c3 ?_|with_reducible refine zac ?_|omega
      exact ⟨⟨⟨j,acc++[⟨nm,0,0⟩],k3,by omega,by simp;omega,hi⟩,by show j≤m;omega⟩,(WTe [0,4,1,2,3] (by simp [kwt,zat]) (by simp [kwt,zat])),by show j<j+1;omega⟩
  ·have t0:=zao l n k _ (by simpa using e0)
   rw [if_neg e0] at hi
   by_cases e1:isT l k [97,114,114,97,121]=true
   ·have t1:=za3 l n k _ e1 (by omega)
    have hlt:=zau e1 (by simp)
    rw [if_pos e1] at hi
    cases r2:zdz l (k+1) with
    |out=>exact absurd r2 zmc
    |bad k'=>
     rw [r2] at hi
     replace hi:PR.bad k'=R:=hi
     subst hi
     have q1:=ziB l n _ _ r2 (by omega)
     repeat' first|refine Va (fA3 @kz zeZ hrm) ?_|(with_reducible first|refine SB.c ?_ ?_<;>intro _|exact zad|refine fun (_:List AVal)=>?_)|refine dC1 zaa t0 ?_|refine dC1 zaa t1 ?_|refine CK.dp [0] [] zaD q1 ?_|with_reducible refine zac ?_|omega
     (refine zci.mk [0] ?_<;>simp [kwt])
    |ok nm k1=>
     rw [r2] at hi
     simp only [PR.bind] at hi
     have le2:=zpW (by omega) r2
     have c2:=zhC l n _ _ _ r2 (by omega)
     cases r3:zaU l [91] (k1) with
     |out=>exact absurd r3 zby
     |bad k'=>
      rw [r3] at hi
      replace hi:PR.bad k'=R:=hi
      subst hi
      have q1:=za2 l n _ _ _ r3
      repeat' first|refine Va (fA3 @kz zeZ hrm) ?_|(with_reducible first|refine SB.c ?_ ?_<;>intro _|exact zad|refine fun (_:List AVal)=>?_)|refine dC1 zaa t0 ?_|refine dC1 zaa t1 ?_|refine dC1 zaD c2 ?_|refine CK.dp [0] [] zam q1 ?_|with_reducible refine zac ?_|omega
      (refine zci.mk [0] ?_<;>simp [kwt])
     |ok u k2=>
      rw [r3] at hi
      simp only [PR.bind] at hi
      have le3:=zrf (by omega) (by simp) r3
      have c3:=zbe l n _ _ _ r3 (by omega)
      cases r4:nmF l 1 (k2) with
      |out=>exact absurd r4 zkV
      |bad k'=>
       rw [r4] at hi
       replace hi:PR.bad k'=R:=hi
       subst hi
       have q1:=zfP l n _ _ _ r4 (by omega)
       repeat' first|refine Va (fA3 @kz zeZ hrm) ?_|(with_reducible first|refine SB.c ?_ ?_<;>intro _|exact zad|refine fun (_:List AVal)=>?_)|refine dC1 zaa t0 ?_|refine dC1 zaa t1 ?_|refine dC1 zaD c2 ?_|refine dC1 zam c3 ?_|refine CK.dp [0] [] zb3 q1 ?_|with_reducible refine zac ?_|omega
       (refine zci.mk [0] ?_<;>simp [kwt])
      |ok v k3=>
       rw [r4] at hi
       simp only [PR.bind] at hi
       have le4:=zre (by omega) r4
       have c4:=zhb l n _ _ _ _ r4 (by omega)
       have vv:=zhD hv r4
       have gneg:IntKind.i64.wrap (0 - v)=-v:=by rw [zaS _ (by omega) (by omega)];omega
       cases r5:zaU l [93] (k3) with
       |out=>exact absurd r5 zby
       |bad k'=>
        rw [r5] at hi
        replace hi:PR.bad k'=R:=hi
        subst hi
        have q1:=za2 l n _ _ _ r5
        repeat' first|refine Va (fA4 @kz zeZ hrm gneg) ?_|(with_reducible first|refine SB.c ?_ ?_<;>intro _|exact zad|refine fun (_:List AVal)=>?_)|refine dC1 zaa t0 ?_|refine dC1 zaa t1 ?_|refine dC1 zaD c2 ?_|refine dC1 zam c3 ?_|refine dC1 zb3 c4 ?_|refine CK.dp [0] [] zam q1 ?_|with_reducible refine zac ?_|omega
        (refine zci.mk [0] ?_<;>simp [kwt])
       |ok u2 k4=>
        rw [r5] at hi
        simp only [PR.bind] at hi
        have le5:=zrf (by omega) (by simp) r5
        have c5:=zbe l n _ _ _ r5 (by omega)
        cases r6:zaU l [59] (k4) with
        |out=>exact absurd r6 zby
        |bad k'=>
         rw [r6] at hi
         replace hi:PR.bad k'=R:=hi
         subst hi
         have q1:=za2 l n _ _ _ r6
         repeat' first|refine Va (fA4 @kz zeZ hrm gneg) ?_|(with_reducible first|refine SB.c ?_ ?_<;>intro _|exact zad|refine fun (_:List AVal)=>?_)|refine dC1 zaa t0 ?_|refine dC1 zaa t1 ?_|refine dC1 zaD c2 ?_|refine dC1 zam c3 ?_|refine dC1 zb3 c4 ?_|refine dC1 zam c5 ?_|refine CK.dp [0] [] zam q1 ?_|with_reducible refine zac ?_|omega
         (refine zci.mk [0] ?_<;>simp [kwt])
        |ok u3 k5=>
         rw [r6] at hi
         simp only [PR.bind] at hi
         have le6:=zrf (by omega) (by simp) r6
         have c6:=zbe l n _ _ _ r6 (by omega)
         replace hi:zhM l j (acc++[⟨nm,v,0⟩]) k5=R:=hi
         repeat' first|refine Va (fA4 @kz zeZ hrm gneg) ?_|(with_reducible first|refine SB.c ?_ ?_<;>intro _|exact zad|refine fun (_:List AVal)=>?_)|refine dC1 zaa t0 ?_|refine dC1 zaa t1 ?_|refine dC1 zaD c2 ?_|refine dC1 zam c3 ?_|refine dC1 zb3 c4 ?_|refine dC1 zam c5 ?_|refine dC1 zam c6 ?_|with_reducible refine zac ?_|omega
         exact ⟨⟨⟨j,acc++[⟨nm,v,0⟩],k5,by omega,by simp;omega,hi⟩,by show j≤m;omega⟩,(WTe [0,4,1,2,3] (by simp [kwt,zat]) (by simp [kwt,zat])),by show j<j+1;omega⟩
   ·have t1:=zao l n k _ (by simpa using e1)
    rw [if_neg e1] at hi
    subst hi
    repeat' first|refine Va (fA2 @kz zeZ) ?_|(with_reducible first|refine SB.c ?_ ?_<;>intro _|exact zad|refine fun (_:List AVal)=>?_)|refine dC1 zaa t0 ?_|refine dC1 zaa t1 ?_|with_reducible refine zac ?_|omega
    refine ⟨_,za0.freeze 1 rfl,?_⟩
    simp only [St.frz,zf6,frz,zf7,List.map_cons,List.map_nil,List.set_cons_zero,List.set_cons_succ,List.length_map,if_true,if_false,↓reduceIte,Nat.reduceEqDiff,eq_self,reduceCtorEq,Nat.succ_ne_self]
    (refine zay.mk [0] ?_ ?_<;>simp [kwr,zeZ,vsA])
end Go.Proofs.YtfinhhblcdkpgaaGreatDoor
