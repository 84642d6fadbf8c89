/- A part of the walk (Tryz_P10): its theorems have no condition beyond what they state. -/
import Derived.Test.YtfinhhblcdkpgaaGreatDoorP9
import Derived.Test.YtfinhhblcdkpgaaGreatDoorLib3
set_option maxRecDepth 100000
set_option maxHeartbeats 64000000
set_option linter.unusedSimpArgs false
set_option linter.unusedVariables false
set_option linter.defProp false
namespace Go.Proofs.YtfinhhblcdkpgaaGreatDoor
open Go Go.Abs Go.RowKit
def vsA (b:List VarD):AVal:=.pv (.slice (b.map za3))
structure DL (l:List TkD) (R:PR (List VarD)) where
 j:Nat
 acc:List VarD
 k:Nat
 hk:k≤l.length
 ha:acc.length≤k
 h:zia l j acc k=R
theorem zwk {l:List TkD} {k k':Nat} {nm:List UInt8} (hk:k≤l.length) (h:zes l k=.ok nm k'):k<k'∧k'≤l.length:=by
 have:=zbz hk
 rw [h] at this
 exact this
theorem zyz {l:List TkD} {z v:Int} {k k':Nat} (hk:k≤l.length) (h:nmF l z k=.ok v k'):k<k'∧k'≤l.length:=by
 have:=zee (z:=z) hk
 rw [h] at this
 exact this
theorem zqh {l:List TkD} {s:List UInt8} {k k':Nat} {u:Unit} (hk:k≤l.length) (hs:s≠[]) (h:za4 l s k=.ok u k'):k<k'∧k'≤l.length:=by
 have:=zaD hk hs
 rw [h] at this
 exact this
theorem zsN {l:List TkD} {z:Int} {k:Nat}:nmF l z k≠.out:=fun h=>by
 have:=zgG (l:=l) (z:=z) (k:=k)
 rw [h] at this
 cases this
theorem zsO {l:List TkD} {k:Nat}:zes l k≠.out:=fun h=>by
 have:=zef (l:=l) (k:=k)
 rw [h] at this
 cases this
theorem znA {l:List TkD} {z v:Int} {k k':Nat} (hv:∀ k,(l.getD k tk0).value≤9223372036854775807) (h:nmF l z k=.ok v k'):z≤v∧v≤9223372036854775807:=by
 unfold nmF at h
 split at h
 ·rename_i hc
  cases h
  exact ⟨hc.2.2,hv k⟩
 ·cases h
theorem zsP (l:List TkD) (n m k0:Nat) (hl:l.length≤100000) (hk:k0≤l.length) (hv:∀ k,(l.getD k tk0).value≤9223372036854775807) (ho:(zia l m [] k0).isOut=false):ziE vsA 162 [] l n k0 (zia l m [] k0):=by
 generalize hR:zia l m [] k0=R at *
 refine zla vsA (fun d=>if d=4 then 2 else if d=5 then 3 else 4) 5 zEv ?_
 (repeat' (first|refine Va zeq ?_|(with_reducible first|refine SB.c ?_ ?_<;>intro _|exact zad|refine fun (_:List AVal)=>?_)|with_reducible refine zac ?_|omega))
 (refine LW.weak (zbU.nilRow 3 1 3 rfl rfl (by decide)) ?_;simp only [List.set_cons_zero,List.set_cons_succ])
 refine zbx (ι:={i:DL l R // i.j≤m}) (fun i=>⟨(.ref 0 0::.junk::.snil::.row 1 i.1.acc.length::jl 43 []),[some (psC l n i.1.k),some (.row 3 (i.1.acc.map za3)),none,none,none]⟩) (fun i=>i.1.j) ⟨⟨m,[],k0,hk,by simp,hR⟩,Nat.le_refl _⟩ WFn ?_
 rintro ⟨⟨j,acc,k,hk,ha,hi⟩,hj⟩
 replace hj:j≤m:=hj
 cases j with
 |zero=>
  exfalso
  rw [←hi] at ho
  cases ho
 |succ j=>
  rw [zgM] at hi
  have hrm:=zfj (acc.length+1) 32 (by omega)
  by_cases e0:isT l k [118,97,114]=true
  ·have t0:=zaN l n k _ e0 (by omega)
   have hlt:=zaz e0 (by simp)
   rw [if_pos e0] at hi
   cases r1:zes l (k+1) with
   |out=>exact absurd r1 zsO
   |bad k'=>
    rw [r1] at hi
    replace hi:PR.bad k'=R:=hi
    subst hi
    have q1:=zht l n _ _ r1 (by omega)
    (repeat' (first|refine Va (fA3 @kz zeq hrm) ?_|(with_reducible first|refine SB.c ?_ ?_<;>intro _|exact zad|refine fun (_:List AVal)=>?_)|refine dC1 zaa t0 ?_|refine CK.dp [0] [] zap q1 ?_|with_reducible refine zac ?_|omega))
    (refine zb5.mk [0] ?_<;>simp [kwt])
   |ok nm k1=>
    rw [r1] at hi
    simp only [PR.bind] at hi
    have le1:=zwk (by omega) r1
    have c1:=zgN l n _ _ _ r1 (by omega)
    unfold zgF at hi
    by_cases e1:isT l k1 [61]=true
    ·have t1:=zaN l n k1 _ e1 (by omega)
     have hlt1:=zaz e1 (by simp)
     rw [if_pos e1] at hi
     by_cases e2:isT l (k1+1) [45]=true
     ·have t2:=zaN l n (k1+1) _ e2 (by omega)
      have hlt2:=zaz e2 (by simp)
      rw [if_pos e2] at hi
      cases r4:nmF l 0 (k1+2) with
      |out=>exact absurd r4 zsN
      |bad k'=>
       rw [r4] at hi
       replace hi:PR.bad k'=R:=hi
       subst hi
       have q1:=zfd l n _ _ _ r4 (by omega)
       (repeat' (first|refine Va (fA3 @kz zeq hrm) ?_|(with_reducible first|refine SB.c ?_ ?_<;>intro _|exact zad|refine fun (_:List AVal)=>?_)|refine dC1 zaa t0 ?_|refine dC1 zap c1 ?_|refine dC1 zaa t1 ?_|refine dC1 zaa t2 ?_|refine CK.dp [0] [] zbS q1 ?_|with_reducible refine zac ?_|omega))
       (refine zb5.mk [0] ?_<;>simp [kwt])
      |ok v k2=>
       rw [r4] at hi
       simp only [PR.bind] at hi
       have le4:=zyz (by omega) r4
       have c4:=zgj l n _ _ _ _ r4 (by omega)
       have vv:=znA hv r4
       have gneg:IntKind.i64.wrap (0 - v)=-v:=by rw [zaB _ (by omega) (by omega)];omega
       cases r5:za4 l [59] (k2) with
       |out=>exact absurd r5 zc4
       |bad k'=>
        rw [r5] at hi
        replace hi:PR.bad k'=R:=hi
        subst hi
        have q1:=zaM l n _ _ _ r5
        (repeat' (first|refine Va (fA4 @kz zeq hrm gneg) ?_|(with_reducible first|refine SB.c ?_ ?_<;>intro _|exact zad|refine fun (_:List AVal)=>?_)|refine dC1 zaa t0 ?_|refine dC1 zap c1 ?_|refine dC1 zaa t1 ?_|refine dC1 zaa t2 ?_|refine dC1 zbS c4 ?_|refine CK.dp [0] [] zah q1 ?_|with_reducible refine zac ?_|omega))
        (refine zb5.mk [0] ?_<;>simp [kwt])
       |ok u k3=>
        rw [r5] at hi
        simp only [PR.bind] at hi
        have le5:=zqh (by omega) (by simp) r5
        have c5:=za1 l n _ _ _ r5 (by omega)
        replace hi:zia l j (acc++[⟨nm,0,-v⟩]) k3=R:=hi
        (repeat' (first|refine Va (fA4 @kz zeq hrm gneg) ?_|(with_reducible first|refine SB.c ?_ ?_<;>intro _|exact zad|refine fun (_:List AVal)=>?_)|refine dC1 zaa t0 ?_|refine dC1 zap c1 ?_|refine dC1 zaa t1 ?_|refine dC1 zaa t2 ?_|refine dC1 zbS c4 ?_|refine dC1 zah c5 ?_|with_reducible refine zac ?_|omega))
        exact ⟨⟨⟨j,acc++[⟨nm,0,-v⟩],k3,by omega,by simp;omega,hi⟩,by show j≤m;omega⟩,(WTe [0,4,1,2,3] (by simp [kwt,za3]) (by simp [kwt,za3])),by show j<j+1;omega⟩
     ·have t2:=zai l n (k1+1) _ (by simpa using e2)
      rw [if_neg e2] at hi
      cases r4:nmF l 0 (k1+1) with
      |out=>exact absurd r4 zsN
      |bad k'=>
       rw [r4] at hi
       replace hi:PR.bad k'=R:=hi
       subst hi
       have q1:=zfd l n _ _ _ r4 (by omega)
       (repeat' (first|refine Va (fA3 @kz zeq hrm) ?_|(with_reducible first|refine SB.c ?_ ?_<;>intro _|exact zad|refine fun (_:List AVal)=>?_)|refine dC1 zaa t0 ?_|refine dC1 zap c1 ?_|refine dC1 zaa t1 ?_|refine dC1 zaa t2 ?_|refine CK.dp [0] [] zbS q1 ?_|with_reducible refine zac ?_|omega))
       (refine zb5.mk [0] ?_<;>simp [kwt])
      |ok v k2=>
       rw [r4] at hi
       simp only [PR.bind] at hi
       have le4:=zyz (by omega) r4
       have c4:=zgj l n _ _ _ _ r4 (by omega)
       have vv:=znA hv r4
       have gneg:IntKind.i64.wrap (0 - v)=-v:=by rw [zaB _ (by omega) (by omega)];omega
       cases r5:za4 l [59] (k2) with
       |out=>exact absurd r5 zc4
       |bad k'=>
        rw [r5] at hi
        replace hi:PR.bad k'=R:=hi
        subst hi
        have q1:=zaM l n _ _ _ r5
        (repeat' (first|refine Va (fA4 @kz zeq hrm gneg) ?_|(with_reducible first|refine SB.c ?_ ?_<;>intro _|exact zad|refine fun (_:List AVal)=>?_)|refine dC1 zaa t0 ?_|refine dC1 zap c1 ?_|refine dC1 zaa t1 ?_|refine dC1 zaa t2 ?_|refine dC1 zbS c4 ?_|refine CK.dp [0] [] zah q1 ?_|with_reducible refine zac ?_|omega))
        (refine zb5.mk [0] ?_<;>simp [kwt])
       |ok u k3=>
        rw [r5] at hi
        simp only [PR.bind] at hi
        have le5:=zqh (by omega) (by simp) r5
        have c5:=za1 l n _ _ _ r5 (by omega)
        replace hi:zia l j (acc++[⟨nm,0,v⟩]) k3=R:=hi
        (repeat' (first|refine Va (fA4 @kz zeq hrm gneg) ?_|(with_reducible first|refine SB.c ?_ ?_<;>intro _|exact zad|refine fun (_:List AVal)=>?_)|refine dC1 zaa t0 ?_|refine dC1 zap c1 ?_|refine dC1 zaa t1 ?_|refine dC1 zaa t2 ?_|refine dC1 zbS c4 ?_|refine dC1 zah c5 ?_|with_reducible refine zac ?_|omega))
        exact ⟨⟨⟨j,acc++[⟨nm,0,v⟩],k3,by omega,by simp;omega,hi⟩,by show j≤m;omega⟩,(WTe [0,4,1,2,3] (by simp [kwt,za3]) (by simp [kwt,za3])),by show j<j+1;omega⟩
    ·have t1:=zai l n k1 _ (by simpa using e1)
     rw [if_neg e1] at hi
     simp only [] at hi
     cases r3:za4 l [59] (k1) with
     |out=>exact absurd r3 zc4
     |bad k'=>
      rw [r3] at hi
      replace hi:PR.bad k'=R:=hi
      subst hi
      have q1:=zaM l n _ _ _ r3
      (repeat' (first|refine Va (fA3 @kz zeq hrm) ?_|(with_reducible first|refine SB.c ?_ ?_<;>intro _|exact zad|refine fun (_:List AVal)=>?_)|refine dC1 zaa t0 ?_|refine dC1 zap c1 ?_|refine dC1 zaa t1 ?_|refine CK.dp [0] [] zah q1 ?_|with_reducible refine zac ?_|omega))
      (refine zb5.mk [0] ?_<;>simp [kwt])
     |ok u k3=>
      rw [r3] at hi
      simp only [PR.bind] at hi
      have le3:=zqh (by omega) (by simp) r3
      have c3:=za1 l n _ _ _ r3 (by omega)
      replace hi:zia l j (acc++[⟨nm,0,0⟩]) k3=R:=hi
      (repeat' (first|refine Va (fA3 @kz zeq hrm) ?_|(with_reducible first|refine SB.c ?_ ?_<;>intro _|exact zad|refine fun (_:List AVal)=>?_)|refine dC1 zaa t0 ?_|refine dC1 zap c1 ?_|refine dC1 zaa t1 ?_|refine dC1 zah c3 ?_|with_reducible refine zac ?_|omega))
      exact ⟨⟨⟨j,acc++[⟨nm,0,0⟩],k3,by omega,by simp;omega,hi⟩,by show j≤m;omega⟩,(WTe [0,4,1,2,3] (by simp [kwt,za3]) (by simp [kwt,za3])),by show j<j+1;omega⟩
  ·have t0:=zai l n k _ (by simpa using e0)
   rw [if_neg e0] at hi
   by_cases e1:isT l k [97,114,114,97,121]=true
   ·have t1:=zaN l n k _ e1 (by omega)
    have hlt:=zaz e1 (by simp)
    rw [if_pos e1] at hi
    cases r2:zes l (k+1) with
    |out=>exact absurd r2 zsO
    |bad k'=>
     rw [r2] at hi
     replace hi:PR.bad k'=R:=hi
     subst hi
     have q1:=zht l n _ _ r2 (by omega)
     (repeat' (first|refine Va (fA3 @kz zeq hrm) ?_|(with_reducible first|refine SB.c ?_ ?_<;>intro _|exact zad|refine fun (_:List AVal)=>?_)|refine dC1 zaa t0 ?_|refine dC1 zaa t1 ?_|refine CK.dp [0] [] zap q1 ?_|with_reducible refine zac ?_|omega))
     (refine zb5.mk [0] ?_<;>simp [kwt])
    |ok nm k1=>
     rw [r2] at hi
     simp only [PR.bind] at hi
     have le2:=zwk (by omega) r2
     have c2:=zgN l n _ _ _ r2 (by omega)
     cases r3:za4 l [91] (k1) with
     |out=>exact absurd r3 zc4
     |bad k'=>
      rw [r3] at hi
      replace hi:PR.bad k'=R:=hi
      subst hi
      have q1:=zaM l n _ _ _ r3
      (repeat' (first|refine Va (fA3 @kz zeq hrm) ?_|(with_reducible first|refine SB.c ?_ ?_<;>intro _|exact zad|refine fun (_:List AVal)=>?_)|refine dC1 zaa t0 ?_|refine dC1 zaa t1 ?_|refine dC1 zap c2 ?_|refine CK.dp [0] [] zah q1 ?_|with_reducible refine zac ?_|omega))
      (refine zb5.mk [0] ?_<;>simp [kwt])
     |ok u k2=>
      rw [r3] at hi
      simp only [PR.bind] at hi
      have le3:=zqh (by omega) (by simp) r3
      have c3:=za1 l n _ _ _ r3 (by omega)
      cases r4:nmF l 1 (k2) with
      |out=>exact absurd r4 zsN
      |bad k'=>
       rw [r4] at hi
       replace hi:PR.bad k'=R:=hi
       subst hi
       have q1:=zfd l n _ _ _ r4 (by omega)
       (repeat' (first|refine Va (fA3 @kz zeq hrm) ?_|(with_reducible first|refine SB.c ?_ ?_<;>intro _|exact zad|refine fun (_:List AVal)=>?_)|refine dC1 zaa t0 ?_|refine dC1 zaa t1 ?_|refine dC1 zap c2 ?_|refine dC1 zah c3 ?_|refine CK.dp [0] [] zbS q1 ?_|with_reducible refine zac ?_|omega))
       (refine zb5.mk [0] ?_<;>simp [kwt])
      |ok v k3=>
       rw [r4] at hi
       simp only [PR.bind] at hi
       have le4:=zyz (by omega) r4
       have c4:=zgj l n _ _ _ _ r4 (by omega)
       have vv:=znA hv r4
       have gneg:IntKind.i64.wrap (0 - v)=-v:=by rw [zaB _ (by omega) (by omega)];omega
       cases r5:za4 l [93] (k3) with
       |out=>exact absurd r5 zc4
       |bad k'=>
        rw [r5] at hi
        replace hi:PR.bad k'=R:=hi
        subst hi
        have q1:=zaM l n _ _ _ r5
        (repeat' (first|refine Va (fA4 @kz zeq hrm gneg) ?_|(with_reducible first|refine SB.c ?_ ?_<;>intro _|exact zad|refine fun (_:List AVal)=>?_)|refine dC1 zaa t0 ?_|refine dC1 zaa t1 ?_|refine dC1 zap c2 ?_|refine dC1 zah c3 ?_|refine dC1 zbS c4 ?_|refine CK.dp [0] [] zah q1 ?_|with_reducible refine zac ?_|omega))
        (refine zb5.mk [0] ?_<;>simp [kwt])
       |ok u2 k4=>
        rw [r5] at hi
        simp only [PR.bind] at hi
        have le5:=zqh (by omega) (by simp) r5
        have c5:=za1 l n _ _ _ r5 (by omega)
        cases r6:za4 l [59] (k4) with
        |out=>exact absurd r6 zc4
        |bad k'=>
         rw [r6] at hi
         replace hi:PR.bad k'=R:=hi
         subst hi
         have q1:=zaM l n _ _ _ r6
         (repeat' (first|refine Va (fA4 @kz zeq hrm gneg) ?_|(with_reducible first|refine SB.c ?_ ?_<;>intro _|exact zad|refine fun (_:List AVal)=>?_)|refine dC1 zaa t0 ?_|refine dC1 zaa t1 ?_|refine dC1 zap c2 ?_|refine dC1 zah c3 ?_|refine dC1 zbS c4 ?_|refine dC1 zah c5 ?_|refine CK.dp [0] [] zah q1 ?_|with_reducible refine zac ?_|omega))
         (refine zb5.mk [0] ?_<;>simp [kwt])
        |ok u3 k5=>
         rw [r6] at hi
         simp only [PR.bind] at hi
         have le6:=zqh (by omega) (by simp) r6
         have c6:=za1 l n _ _ _ r6 (by omega)
         replace hi:zia l j (acc++[⟨nm,v,0⟩]) k5=R:=hi
         (repeat' (first|refine Va (fA4 @kz zeq hrm gneg) ?_|(with_reducible first|refine SB.c ?_ ?_<;>intro _|exact zad|refine fun (_:List AVal)=>?_)|refine dC1 zaa t0 ?_|refine dC1 zaa t1 ?_|refine dC1 zap c2 ?_|refine dC1 zah c3 ?_|refine dC1 zbS c4 ?_|refine dC1 zah c5 ?_|refine dC1 zah c6 ?_|with_reducible refine zac ?_|omega))
         exact ⟨⟨⟨j,acc++[⟨nm,v,0⟩],k5,by omega,by simp;omega,hi⟩,by show j≤m;omega⟩,(WTe [0,4,1,2,3] (by simp [kwt,za3]) (by simp [kwt,za3])),by show j<j+1;omega⟩
   ·have t1:=zai l n k _ (by simpa using e1)
    rw [if_neg e1] at hi
    subst hi
    (repeat' (first|refine Va (fA2 @kz zeq) ?_|(with_reducible first|refine SB.c ?_ ?_<;>intro _|exact zad|refine fun (_:List AVal)=>?_)|refine dC1 zaa t0 ?_|refine dC1 zaa t1 ?_|with_reducible refine zac ?_|omega))
    refine ⟨_,zbU.freeze 1 rfl,?_⟩
    simp only [St.frz,zgx,frz,zgy,List.map_cons,List.map_nil,List.set_cons_zero,List.set_cons_succ,List.length_map,if_true,if_false,↓reduceIte,Nat.reduceEqDiff,eq_self,reduceCtorEq,Nat.succ_ne_self]
    (refine zaI.mk [0] ?_ ?_<;>simp [kwr,zeq,vsA])
end Go.Proofs.YtfinhhblcdkpgaaGreatDoor
