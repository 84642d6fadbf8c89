/- A part of the walk (Tryz_P9): its theorems have no condition beyond what they state. -/
import Derived.Test.YtfinhhblcdkpgaaGreatDoorP8
set_option maxRecDepth 100000
set_option maxHeartbeats 64000000
set_option linter.unusedSimpArgs false
set_option linter.unusedVariables false
set_option linter.defProp false
namespace Go.Proofs.YtfinhhblcdkpgaaGreatDoor
open Go Go.Abs Go.RowKit
theorem ztO (l:List TkD) (n m k:Nat) (hl:l.length≤100000) (hk:k≤l.length)
  (hB:∀ k,k≤l.length→(smF l m .block k).isOut=false→zjO lsA 186 [] l n k (smF l m .block k))
  (ho:(smF l (m+1) .stmt k).isOut=false):zjO zc5 197 [] l n k (smF l (m+1) .stmt k):=by
 rw [zfM] at ho ⊢
 by_cases e0:isT l k [105,102]=true
 ·rw [if_pos e0] at ho ⊢
  by_cases e9:∃ e k1 b k2,zbl l (k+1)=.ok e k1∧smF l m .block k1=.ok b k2∧isT l k2 [101,108,115,101]=false
  ·obtain ⟨e,k1,b,k2,g1,g2,g3⟩:=e9
   have key:(zbl l (k+1)).bind (fun e k1=>(smF l m .block k1).bind fun b k2=>if isT l k2 [101,108,115,101]=true then (smF l m .block (k2+1)).bind fun c k3=>PR.ok [smE 3 [] exZ e b c] k3 else .ok [smE 3 [] exZ e b []] k2)=(zbl l (k+1)).bind fun e k1=>(smF l m .block k1).bind fun b k2=>.ok [smE 3 [] exZ e b []] k2:=by
    rw [g1];simp only [PR.bind,g2];rw [if_neg (by rw [g3];simp)]
   rw [key] at ho ⊢
   exact zCH l n m k hl hk hB e0 (fun e' k1' b' k2' q1 q2=>by rw [g1] at q1;cases q1;rw [g2] at q2;cases q2;exact g3) ho
  ·have e9':∀ e k1 b k2,zbl l (k+1)=.ok e k1→smF l m .block k1=.ok b k2→isT l k2 [101,108,115,101]=true:=fun e k1 b k2 q1 q2=>by
    cases hc:isT l k2 [101,108,115,101] with
    |true=>rfl
    |false=>exact absurd ⟨e,k1,b,k2,q1,q2,hc⟩ e9
   have key:(zbl l (k+1)).bind (fun e k1=>(smF l m .block k1).bind fun b k2=>if isT l k2 [101,108,115,101]=true then (smF l m .block (k2+1)).bind fun c k3=>PR.ok [smE 3 [] exZ e b c] k3 else .ok [smE 3 [] exZ e b []] k2)=(zbl l (k+1)).bind fun e k1=>(smF l m .block k1).bind fun b k2=>(smF l m .block (k2+1)).bind fun c k3=>.ok [smE 3 [] exZ e b c] k3:=by
    cases g1:zbl l (k+1) with
    |ok e k1=>
     simp only [PR.bind]
     cases g2:smF l m .block k1 with
     |ok b k2=>simp only [];rw [if_pos (e9' e k1 b k2 g1 g2)]
     |_=>rfl
    |_=>rfl
   rw [key] at ho ⊢
   exact zCG l n m k hl hk hB e0 e9' ho
 rw [if_neg e0] at ho ⊢
 replace e0:isT l k [105,102]=false:=by simpa using e0
 by_cases e1:isT l k [119,104,105,108,101]=true
 ·rw [if_pos e1] at ho ⊢;exact zwB l n m k hl hk hB e0 e1 ho
 rw [if_neg e1] at ho ⊢
 replace e1:isT l k [119,104,105,108,101]=false:=by simpa using e1
 by_cases e2:isT l k [115,101,110,100]=true
 ·rw [if_pos e2] at ho ⊢;exact zzv l n m k hl hk hB e0 e1 e2 ho
 rw [if_neg e2] at ho ⊢
 replace e2:isT l k [115,101,110,100]=false:=by simpa using e2
 by_cases e3:isT l k [111,117,116,112,117,116]=true
 ·rw [if_pos e3] at ho ⊢;exact zCI l n m k hl hk hB e0 e1 e2 e3 ho
 rw [if_neg e3] at ho ⊢
 replace e3:isT l k [111,117,116,112,117,116]=false:=by simpa using e3
 cases hn:zdz l k with
 |out=>have:=zdL (l:=l) (k:=k);rw [hn] at this;cases this
 |bad k'=>exact ztN l n k k' hl hk e0 e1 e2 e3 hn
 |ok nm k1=>
  rw [hn] at ho
  simp only [PR.bind] at ho ⊢
  by_cases e4:isT l k1 [91]=true
  ·rw [if_pos e4] at ho ⊢;exact zwC l n m k hl hk hB e0 e1 e2 e3 nm k1 hn e4 ho
  ·rw [if_neg e4] at ho ⊢;exact ztM l n m k hl hk hB e0 e1 e2 e3 nm k1 hn (by simpa using e4) ho
structure BL (l:List TkD) (R:PR (List Sm)) where
 j:Nat
 acc:List Sm
 k:Nat
 hk:k≤l.length
 ha:acc.length≤k
 h:smF l j (.stmts acc) k=R
theorem zrd (l:List TkD) (n m k:Nat) (hl:l.length≤100000) (hk:k≤l.length)
  (hS:∀ j,j≤m→∀ k,k≤l.length→(smF l j .stmt k).isOut=false→zjO zc5 197 [] l n k (smF l j .stmt k))
  (ho:(smF l (m+1) .block k).isOut=false):zjO lsA 186 [] l n k (smF l (m+1) .block k):=by
 rw [zfp] at ho ⊢
 cases r0:zaU l [123] k with
 |out=>exact absurd r0 zby
 |bad k'=>
  have q:=za2 l n _ _ _ r0
  show AP _ _ _ _ _ _ _
  refine zbO (fun _=>2) 3 zCf ?_
  repeat' first|refine Va (fA2 @kz zqL) ?_|(with_reducible first|refine SB.c ?_ ?_<;>intro _|exact zad|refine fun (_:List AVal)=>?_)|refine CK.dp [0] [] zam q ?_|with_reducible refine zac ?_|omega
  (refine zci.mk [0] ?_<;>simp [kwt])
 |ok u k1=>
  have le0:=zen hk (by simp) r0
  have c0:=zbe l n _ _ _ r0 (by omega)
  rw [r0] at ho
  simp only [PR.bind] at ho ⊢
  generalize hR:smF l m (.stmts []) k1=R at *
  refine zma lsA (fun _=>2) 3 zCf ?_
  repeat' first|refine Va (fA2 @kz zqL) ?_|(with_reducible first|refine SB.c ?_ ?_<;>intro _|exact zad|refine fun (_:List AVal)=>?_)|refine dC1 zam c0 ?_|with_reducible refine zac ?_|omega
  (refine LW.weak (za0.nilRow 3 1 18 rfl rfl (by decide)) ?_;simp only [List.set_cons_zero,List.set_cons_succ])
  refine zaI (ι:={i:BL l R // i.j≤m}) (fun i=>⟨(.ref 0 0::.junk::.snil::.row 1 i.1.acc.length::jl 11 []),[some (psC l n i.1.k),some (.row 18 (i.1.acc.map zai)),none]⟩) (fun i=>i.1.j) ⟨⟨m,[],k1,le0,by simp,hR⟩,Nat.le_refl _⟩ WFn ?_
  rintro ⟨⟨j,acc,k,hk,ha,hi⟩,hj⟩
  replace hj:j≤m:=hj
  cases j with
  |zero=>
   exfalso
   rw [←hi] at ho
   cases ho
  |succ j=>
   rw [zex] at hi
   by_cases e0:isT l k [125]=true
   ·have t:=za3 l n k _ e0 (by omega)
    rw [if_pos e0] at hi
    subst hi
    repeat' first|refine Va (fA2 @kz zqL) ?_|(with_reducible first|refine SB.c ?_ ?_<;>intro _|exact zad|refine fun (_:List AVal)=>?_)|refine dC1 zaa t ?_|with_reducible refine zac ?_|omega
    refine ⟨_,za0.freeze 1 rfl,?_⟩
    simp only [St.frz,zf6,frz,zf7,List.map_cons,List.map_nil,List.set_cons_zero,List.set_cons_succ,List.length_map,if_true,if_false,↓reduceIte,Nat.reduceEqDiff,eq_self,reduceCtorEq,Nat.succ_ne_self]
    (refine zay.mk [0] ?_ ?_<;>simp [kwr,zqL,lsA])
   ·have t:=zao l n k _ (by simpa using e0)
    rw [if_neg e0] at hi
    have d:=hS j (by omega) k hk
    cases r2:smF l j .stmt k with
    |out=>rw [r2] at hi;rw [←hi] at ho;cases ho
    |bad k2=>
     rw [r2] at d hi
     have d1:AP _ _ _ _ _ _ _:=d rfl
     replace hi:PR.bad k2=R:=hi
     subst hi
     repeat' first|refine Va (fA2 @kz zqL) ?_|(with_reducible first|refine SB.c ?_ ?_<;>intro _|exact zad|refine fun (_:List AVal)=>?_)|refine dC1 zaa t ?_|refine CK.dp [0] [] zmZ d1 ?_|with_reducible refine zac ?_|omega
     (refine zci.mk [0] ?_<;>simp [kwt])
    |ok b k2=>
     obtain ⟨s,rfl⟩:=zou r2
     have hp2:k<k2∧k2≤l.length:=by have:=zcn (l:=l) j .stmt k hk;rw [r2] at this;exact this
     rw [r2] at d hi
     have d1:AC Tryz.prog gl 197 [.ref 0 0] (psO l n k) (smA s) (psO l n k2):=d rfl
     replace hi:smF l j (.stmts (acc++[s])) k2=R:=hi
     have hrm:=zc8 (acc.length+1) 232 (by omega)
     repeat' first|refine Va (fA5 @kz zqL @smA.eq_1 @zan hrm) ?_|(with_reducible first|refine SB.c ?_ ?_<;>intro _|exact zad|refine fun (_:List AVal)=>?_)|refine dC1 zaa t ?_|refine dC1 zmZ d1 ?_|with_reducible refine zac ?_|omega
     exact ⟨⟨⟨j,acc++[s],k2,hp2.2,by simp;omega,hi⟩,by show j≤m;omega⟩,(WTe [0,2,1] (by simp [kwt,zan]) (by simp [kwt,zan])),by show j<j+1;omega⟩
theorem znx (l:List TkD) (n:Nat) (hl:l.length≤100000):∀ m j,j≤m →
  (∀ k,k≤l.length→(smF l j .block k).isOut=false→zjO lsA 186 [] l n k (smF l j .block k)) ∧
  (∀ k,k≤l.length→(smF l j .stmt k).isOut=false→zjO zc5 197 [] l n k (smF l j .stmt k))
 |0,j,hj=>by
  have:j=0:=by omega
  subst this
  exact ⟨fun _ _ h=>(by cases h),fun _ _ h=>(by cases h)⟩
 |m+1,j,hj=>by
  have ih:=znx l n hl m
  by_cases hjm:j≤m
  ·exact ih j hjm
  ·have:j=m+1:=by omega
   subst this
   exact ⟨fun k h2 h3=>zrd l n m k hl h2 (fun j hj=>(ih j hj).2) h3,fun k h2 h3=>ztO l n m k hl h2 (ih m (Nat.le_refl _)).1 h3⟩
theorem zny (l:List TkD) (n k:Nat) (hl:l.length≤100000) (hk:k≤l.length):zjO lsA 186 [] l n k (zbr l k):=
 (znx l n hl _ _ (Nat.le_refl _)).1 k hk (zey hk)
end Go.Proofs.YtfinhhblcdkpgaaGreatDoor
