/- A part of the walk (Tryz_R6): its theorems have no condition beyond what they state. -/
import Derived.Test.YtfinhhblcdkpgaaGreatDoorR5
import Derived.Test.YtfinhhblcdkpgaaGreatDoorP9
set_option maxRecDepth 100000
set_option maxHeartbeats 64000000
set_option linter.unusedSimpArgs false
set_option linter.unusedVariables false
set_option linter.defProp false
namespace Go.Proofs.YtfinhhblcdkpgaaGreatDoor
open Go Go.Abs Go.RowKit
theorem zrr (l:List TkD) (n m k:Nat) (hT:zbI l) (hl:l.length≤100000) (hk:k≤l.length)
  (hB:∀ k,k≤l.length→(smF l m .block k).isOut=false→zjX l n k (smF l m .block k))
  (ho:(smF l (m+1) .stmt k).isOut=false):zh3 l n k (smF l (m+1) .stmt k):=by
 rw [zfM] at ho ⊢
 by_cases e0:isT l k [105,102]=true
 ·rw [if_pos e0] at ho ⊢
  by_cases e9:∃ e k1 b k2,zbl l (k+1)=.ok e k1∧smF l m .block k1=.ok b k2∧isT l k2 [101,108,115,101]=false
  ·obtain ⟨e,k1,b,k2,g1,g2,g3⟩:=e9
   have key:(zbl l (k+1)).bind (fun e k1=>(smF l m .block k1).bind fun b k2=>if isT l k2 [101,108,115,101]=true then (smF l m .block (k2+1)).bind fun c k3=>PR.ok [smE 3 [] exZ e b c] k3 else .ok [smE 3 [] exZ e b []] k2)=(zbl l (k+1)).bind fun e k1=>(smF l m .block k1).bind fun b k2=>.ok [smE 3 [] exZ e b []] k2:=by
    rw [g1];simp only [PR.bind,g2];rw [if_neg (by rw [g3];simp)]
   rw [key] at ho ⊢
   exact zzH l n m k hT hl hk hB e0 (fun e' k1' b' k2' q1 q2=>by rw [g1] at q1;cases q1;rw [g2] at q2;cases q2;exact g3) ho
  ·have e9':∀ e k1 b k2,zbl l (k+1)=.ok e k1→smF l m .block k1=.ok b k2→isT l k2 [101,108,115,101]=true:=fun e k1 b k2 q1 q2=>by
    cases hc:isT l k2 [101,108,115,101] with
    |true=>rfl
    |false=>exact absurd ⟨e,k1,b,k2,q1,q2,hc⟩ e9
   have key:(zbl l (k+1)).bind (fun e k1=>(smF l m .block k1).bind fun b k2=>if isT l k2 [101,108,115,101]=true then (smF l m .block (k2+1)).bind fun c k3=>PR.ok [smE 3 [] exZ e b c] k3 else .ok [smE 3 [] exZ e b []] k2)=(zbl l (k+1)).bind fun e k1=>(smF l m .block k1).bind fun b k2=>(smF l m .block (k2+1)).bind fun c k3=>.ok [smE 3 [] exZ e b c] k3:=by
    cases g1:zbl l (k+1) with
    |ok e k1=>
     simp only [PR.bind]
     cases g2:smF l m .block k1 with
     |ok b k2=>simp only [];rw [if_pos (e9' e k1 b k2 g1 g2)]
     |_=>rfl
    |_=>rfl
   rw [key] at ho ⊢
   exact zzG l n m k hT hl hk hB e0 e9' ho
 rw [if_neg e0] at ho ⊢
 replace e0:isT l k [105,102]=false:=by simpa using e0
 by_cases e1:isT l k [119,104,105,108,101]=true
 ·rw [if_pos e1] at ho ⊢;exact ztX l n m k hT hl hk hB e0 e1 ho
 rw [if_neg e1] at ho ⊢
 replace e1:isT l k [119,104,105,108,101]=false:=by simpa using e1
 by_cases e2:isT l k [115,101,110,100]=true
 ·rw [if_pos e2] at ho ⊢;exact zwL l n m k hT hl hk hB e0 e1 e2 ho
 rw [if_neg e2] at ho ⊢
 replace e2:isT l k [115,101,110,100]=false:=by simpa using e2
 by_cases e3:isT l k [111,117,116,112,117,116]=true
 ·rw [if_pos e3] at ho ⊢;exact zzI l n m k hT hl hk hB e0 e1 e2 e3 ho
 rw [if_neg e3] at ho ⊢
 replace e3:isT l k [111,117,116,112,117,116]=false:=by simpa using e3
 cases hn:zdz l k with
 |out=>have:=zdL (l:=l) (k:=k);rw [hn] at this;cases this
 |bad k'=>exact zrq l n k k' hT hl hk e0 e1 e2 e3 hn
 |ok nm k1=>
  rw [hn] at ho
  simp only [PR.bind] at ho ⊢
  by_cases e4:isT l k1 [91]=true
  ·rw [if_pos e4] at ho ⊢;exact ztY l n m k hT hl hk hB e0 e1 e2 e3 nm k1 hn e4 ho
  ·rw [if_neg e4] at ho ⊢;exact zrp l n m k hT hl hk hB e0 e1 e2 e3 nm k1 hn (by simpa using e4) ho
inductive LB (l:List TkD) (n kb:Nat) (G:List Sm):Nat→List Sm→Nat→Prop
 |stop (j:Nat) (acc:List Sm) (k:Nat) (g:Sm):k≤l.length→acc.length≤k→isT l k [125]=false→AC Tryz.prog gl 144 [.ref 0 0] (okO l n k) (zc5 [g]) (flO l n kb (zar l n kb))→G=acc++[g]→LB l n kb G (j+1) acc k
 |go (j:Nat) (acc:List Sm) (k:Nat) (s:Sm) (k2:Nat):k≤l.length→acc.length≤k→isT l k [125]=false→AC Tryz.prog gl 144 [.ref 0 0] (okO l n k) (zc5 [s]) (okO l n k2)→LB l n kb G j (acc++[s]) k2→LB l n kb G (j+1) acc k
theorem LB.ex {l:List TkD} {n m kb:Nat}
  (hS:∀ j,j≤m→∀ k,k≤l.length→(smF l j .stmt k).isOut=false→zh3 l n k (smF l j .stmt k)) :
  ∀ (j:Nat) (acc:List Sm) (k:Nat),j≤m→k≤l.length→acc.length≤k→smF l j (.stmts acc) k=.bad kb→∃ G,LB l n kb G j acc k
 |0,_,_,_,_,_,h=>by cases h
 |j+1,acc,k,hj,hk,ha,h=>by
  rw [zex] at h
  by_cases h0:isT l k [125]=true
  ·rw [if_pos h0] at h;cases h
  ·rw [if_neg h0] at h
   have h0':isT l k [125]=false:=by simpa using h0
   have q:=hS j (by omega) k hk
   have hpast:=zcn (l:=l) j .stmt k hk
   cases hr:smF l j .stmt k with
   |out=>rw [hr] at h;cases h
   |bad k'=>
    rw [hr] at h q
    cases h
    obtain ⟨g,q1⟩:=q rfl
    exact ⟨_,.stop j acc k g hk ha h0' q1 rfl⟩
   |ok b k2=>
    obtain ⟨s,rfl⟩:=zou hr
    rw [hr] at h q hpast
    have hp2:k<k2∧k2≤l.length:=hpast
    obtain ⟨G,hG⟩:=LB.ex hS j (acc++[s]) k2 (by omega) hp2.2 (by simp;omega) h
    exact ⟨G,.go j acc k s k2 hk ha h0' (q rfl) hG⟩
theorem zoR (l:List TkD) (n m k:Nat) (hT:zbI l) (hl:l.length≤100000) (hk:k≤l.length)
  (hS:∀ j,j≤m→∀ k,k≤l.length→(smF l j .stmt k).isOut=false→zh3 l n k (smF l j .stmt k))
  (ho:(smF l (m+1) .block k).isOut=false):zjX l n k (smF l (m+1) .block k):=by
 rw [zfp] at ho ⊢
 cases r0:zaU l [123] k with
 |out=>exact absurd r0 zby
 |bad k'=>
  have c1:=zbh l n k k' [123] hT rfl r0
  have c2:=zaN l n k' (zar l n k') [125]
  refine ⟨[],?_⟩
  refine zbw (fun _=>2) 3 zvG ?_
  repeat' first|refine Va (fA2 @kz zgk) ?_|(with_reducible first|refine SB.c ?_ ?_<;>intro _|exact zad)|refine dC1 zae c1 ?_|with_reducible refine zac ?_|omega
  refine zaI (ι:=Unit) (fun _=>⟨(.ref 0 0::.junk::.junk::.snil::jl 19 []),[some (flC l n k' (zar l n k')),none,none]⟩) (fun _=>0) () WFn ?_
  intro _
  repeat' first|refine Va (fA2 @kz zgk) ?_|(with_reducible first|refine SB.c ?_ ?_<;>intro _|exact zad)|refine dC1 zae c2 ?_|with_reducible refine zac ?_|omega
  refine ⟨_,za0.nz,?_⟩
  simp only [St.nz,nzL,zbS,nzO,nz]
  (refine zay.mk [0] ?_ ?_<;>simp [kwr,zgk,lsA])
 |ok u k1=>
  have le0:=zen hk (by simp) r0
  have c0:=zbd l n k k1 [123] hT rfl (by omega) r0
  rw [r0] at ho
  simp only [PR.bind] at ho ⊢
  cases hR:smF l m (.stmts []) k1 with
  |out=>rw [hR] at ho;cases ho
  |ok bf kf=>
   show AC _ _ _ _ _ _ _
   refine zbw (fun _=>2) 3 zvG ?_
   repeat' first|refine Va (fA2 @kz zgk) ?_|(with_reducible first|refine SB.c ?_ ?_<;>intro _|exact zad)|refine dC1 zae c0 ?_|with_reducible refine zac ?_|omega
   (refine LW.weak (za0.nilRow 3 1 18 rfl rfl (by decide)) ?_;simp only [List.set_cons_zero,List.set_cons_succ])
   refine zaI (ι:={i:BL l (.ok bf kf) // i.j≤m}) (fun i=>⟨(.ref 0 0::.junk::.junk::.row 1 i.1.acc.length::jl 19 []),[some (okC l n i.1.k),some (.row 18 (i.1.acc.map zai)),none]⟩) (fun i=>i.1.j) ⟨⟨m,[],k1,le0,by simp,hR⟩,Nat.le_refl _⟩ WFn ?_
   rintro ⟨⟨j,acc,k,hk,ha,hi⟩,hj⟩
   replace hj:j≤m:=hj
   cases j with
   |zero=>cases hi
   |succ j=>
    rw [zex] at hi
    by_cases e0:isT l k [125]=true
    ·have t:=zco l n k [125] hT rfl
     rw [e0] at t
     rw [if_pos e0] at hi
     cases hi
     have hx1:zaU l [125] k=.ok () (k+1):=by unfold zaU;rw [if_pos e0]
     have t2:=zbd l n k (k+1) [125] hT rfl (by omega) hx1
     repeat' first|refine Va (fA2 @kz zgk) ?_|(with_reducible first|refine SB.c ?_ ?_<;>intro _|exact zad)|refine dC1 zal t ?_|refine dC1 zae t2 ?_|with_reducible refine zac ?_|omega
     refine ⟨_,za0.freeze 1 rfl,?_⟩
     simp only [St.frz,zf6,frz,zf7,List.map_cons,List.map_nil,List.set_cons_zero,List.set_cons_succ,List.length_map,if_true,if_false,↓reduceIte,Nat.reduceEqDiff,eq_self,reduceCtorEq,Nat.succ_ne_self]
     (refine zay.mk [0] ?_ ?_<;>simp [kwr,zgk,lsA])
    ·have t:=zco l n k [125] hT rfl
     rw [show isT l k [125]=false by simpa using e0] at t
     rw [if_neg e0] at hi
     have d:=hS j (by omega) k hk
     cases r2:smF l j .stmt k with
     |out=>rw [r2] at hi;cases hi
     |bad k2=>rw [r2] at hi;cases hi
     |ok b k2=>
      obtain ⟨s,rfl⟩:=zou r2
      have hp2:k<k2∧k2≤l.length:=by have:=zcn (l:=l) j .stmt k hk;rw [r2] at this;exact this
      rw [r2] at d hi
      have d1:AC Tryz.prog gl 144 [.ref 0 0] (okO l n k) (smA s) (okO l n k2):=d rfl
      replace hi:smF l j (.stmts (acc++[s])) k2=.ok bf kf:=hi
      have hrm:=zc8 (acc.length+1) 232 (by omega)
      repeat' first|refine Va (fA5 @kz zgk @smA.eq_1 @zan hrm) ?_|(with_reducible first|refine SB.c ?_ ?_<;>intro _|exact zad)|refine dC1 zal t ?_|refine dC1 zjh d1 ?_|with_reducible refine zac ?_|omega
      exact ⟨⟨⟨j,acc++[s],k2,hp2.2,by simp;omega,hi⟩,by show j≤m;omega⟩,(WTe [0,2,1] (by simp [kwt,zan]) (by simp [kwt,zan])),by show j<j+1;omega⟩
  |bad kb=>
   obtain ⟨G,hG⟩:=LB.ex (n:=n) hS m [] k1 (Nat.le_refl _) le0 (by simp) hR
   refine ⟨G,?_⟩
   have c2:=zaN l n kb (zar l n kb) [125]
   refine zbw (fun _=>2) 3 zvG ?_
   repeat' first|refine Va (fA2 @kz zgk) ?_|(with_reducible first|refine SB.c ?_ ?_<;>intro _|exact zad)|refine dC1 zae c0 ?_|with_reducible refine zac ?_|omega
   (refine LW.weak (za0.nilRow 3 1 18 rfl rfl (by decide)) ?_;simp only [List.set_cons_zero,List.set_cons_succ])
   refine zaI (ι:={i:Nat × List Sm × Nat // LB l n kb G i.1 i.2.1 i.2.2} ⊕ Unit) (fun i=>match i with
    |.inl i=>⟨(.ref 0 0::.junk::.junk::.row 1 i.1.2.1.length::jl 19 []),[some (okC l n i.1.2.2),some (.row 18 (i.1.2.1.map zai)),none]⟩
    |.inr _=>⟨(.ref 0 0::.junk::.junk::.row 1 G.length::jl 19 []),[some (flC l n kb (zar l n kb)),some (.row 18 (G.map zai)),none]⟩) (fun i=>match i with|.inl i=>i.1.1+1|.inr _=>0) (.inl ⟨(m,[],k1),hG⟩) WFn ?_
   rintro (⟨⟨j,acc,k⟩,hi⟩|_)
   ·replace hi:LB l n kb G j acc k:=hi
    cases hi with
    |stop j _ _ g hk ha e0 q hGe=>
     have t:=zco l n k [125] hT rfl
     rw [e0] at t
     have d1:AC Tryz.prog gl 144 [.ref 0 0] (okO l n k) (smA g) (flO l n kb (zar l n kb)):=q
     have hrm:=zc8 (acc.length+1) 232 (by omega)
     subst hGe
     repeat' first|refine Va (fA5 @kz zgk @smA.eq_1 @zan hrm) ?_|(with_reducible first|refine SB.c ?_ ?_<;>intro _|exact zad)|refine dC1 zal t ?_|refine dC1 zjh d1 ?_|with_reducible refine zac ?_|omega
     exact ⟨.inr (),(WTe [0,2,1] (by simp [kwt,zan]) (by simp [kwt,zan])),by show 0<j+1+1;omega⟩
    |go j _ _ s k2 hk ha e0 q hG2=>
     have t:=zco l n k [125] hT rfl
     rw [e0] at t
     have d1:AC Tryz.prog gl 144 [.ref 0 0] (okO l n k) (smA s) (okO l n k2):=q
     have hrm:=zc8 (acc.length+1) 232 (by omega)
     repeat' first|refine Va (fA5 @kz zgk @smA.eq_1 @zan hrm) ?_|(with_reducible first|refine SB.c ?_ ?_<;>intro _|exact zad)|refine dC1 zal t ?_|refine dC1 zjh d1 ?_|with_reducible refine zac ?_|omega
     exact ⟨.inl ⟨(j,acc++[s],k2),hG2⟩,(WTe [0,2,1] (by simp [kwt,zan]) (by simp [kwt,zan])),by show j+1<j+1+1;omega⟩
   ·repeat' first|refine Va (fA2 @kz zgk) ?_|(with_reducible first|refine SB.c ?_ ?_<;>intro _|exact zad)|refine dC1 zae c2 ?_|with_reducible refine zac ?_|omega
    refine ⟨_,za0.freeze 1 rfl,?_⟩
    simp only [St.frz,zf6,frz,zf7,List.map_cons,List.map_nil,List.set_cons_zero,List.set_cons_succ,List.length_map,if_true,if_false,↓reduceIte,Nat.reduceEqDiff,eq_self,reduceCtorEq,Nat.succ_ne_self]
    (refine zay.mk [0] ?_ ?_<;>simp [kwr,zgk,lsA])
theorem zk1 (l:List TkD) (n:Nat) (hT:zbI l) (hl:l.length≤100000):∀ m j,j≤m →
  (∀ k,k≤l.length→(smF l j .block k).isOut=false→zjX l n k (smF l j .block k)) ∧
  (∀ k,k≤l.length→(smF l j .stmt k).isOut=false→zh3 l n k (smF l j .stmt k))
 |0,j,hj=>by
  have:j=0:=by omega
  subst this
  exact ⟨fun _ _ h=>(by cases h),fun _ _ h=>(by cases h)⟩
 |m+1,j,hj=>by
  have ih:=zk1 l n hT hl m
  by_cases hjm:j≤m
  ·exact ih j hjm
  ·have:j=m+1:=by omega
   subst this
   exact ⟨fun k h2 h3=>zoR l n m k hT hl h2 (fun j hj=>(ih j hj).2) h3,fun k h2 h3=>zrr l n m k hT hl h2 (ih m (Nat.le_refl _)).1 h3⟩
theorem zk2 (l:List TkD) (n k:Nat) (hT:zbI l) (hl:l.length≤100000) (hk:k≤l.length):zjX l n k (zbr l k):=
 (zk1 l n hT hl _ _ (Nat.le_refl _)).1 k hk (zey hk)
end Go.Proofs.YtfinhhblcdkpgaaGreatDoor
