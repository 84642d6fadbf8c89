/- A part of the walk (Tryz_R3): its theorems have no condition beyond what they state. -/
import Derived.Test.YtfinhhblcdkpgaaGreatDoorLib2
import Derived.Test.YtfinhhblcdkpgaaGreatDoorR2
import Derived.Test.YtfinhhblcdkpgaaGreatDoorLib3
set_option maxRecDepth 100000
set_option maxHeartbeats 64000000
set_option linter.unusedSimpArgs false
set_option linter.unusedVariables false
namespace Go.Proofs.YtfinhhblcdkpgaaGreatDoor
open Go Go.Abs Go.RowKit
theorem zA5 {l:List TkD} {m k:Nat} (hT:zbQ l) (hk:k<l.length) (h:(l.getD k tk0).kind=1) (hs:spF (l.getD k tk0).text > 0):exF l (m+1) .prim k=.ok (exK (spF (l.getD k tk0).text)) (k+1):=by
 rw [zqy hT hk h]
 unfold spF at hs ⊢
 repeat' split
 all_goals simp_all
theorem zA6 {l:List TkD} {m k:Nat} (hT:zbQ l) (hk:k<l.length) (h:(l.getD k tk0).kind=1) (hs:¬ spF (l.getD k tk0).text > 0):exF l (m+1) .prim k=(zdM l k).bind fun nm k1=>if isT l k1 [91] then (exF l m (.bin 0) (k1+1)).bind fun e k'=>(zaW l [93] k').bind fun _ k2=>.ok (exI nm e) k2 else .ok (exN nm) k1:=by
 rw [zqy hT hk h]
 unfold spF at hs
 repeat' split at hs
 all_goals simp_all
theorem zss (l:List TkD) (n m k:Nat) (hT:zbQ l) (hl:l.length≤100000) (hk:k≤l.length)
  (hB:∀ k,k≤l.length→(exF l m (.bin 0) k).isOut=false→zil 167 [.pv (.int .i64 0)] l n k (exF l m (.bin 0) k))
  (ho:(exF l (m+1) .prim k).isOut=false):zil 198 [] l n k (exF l (m+1) .prim k):=by
 have cF:=zgc l n k
 have hw:=zaP k (by omega)
 by_cases hlt:k<l.length
 rotate_left
 ·have h':(k:Int)≥l.length:=by omega
  rw [zxt hlt]
  refine ⟨exZ,?_⟩
  refine zat (fun d=>if d=2 then 1 else if d=3 then 2 else if d=5 then 3 else 4) 5 zh2 ?_
  refine Wk1 (fA4 @kz zdC h' (cX [0] [] zbN cF)) ?_
  (refine zax.mk [0] ?_ ?_<;>simp [kwr,zdC,exZ,zjX])
 have h':¬ (k:Int)≥l.length:=by omega
 have h2':(k:Int)<l.length:=by omega
 have hg:=zfb l k hlt
 have hTk:=hT k hlt
 rcases hTk.k with hk1|hk1|hk1
 ·-- a word
  have cS:=zsr (l.getD k tk0).text
  by_cases hsp:spF (l.getD k tk0).text > 0
  ·rw [zA5 hT hlt hk1 hsp]
   rw [hk1] at hg
   generalize spF (l.getD k tk0).text=op at *
   generalize (l.getD k tk0).text=tx at *
   show AC _ _ _ _ _ _ _
   refine zat (fun d=>if d=2 then 1 else if d=3 then 2 else if d=5 then 3 else 4) 5 zh2 ?_
   refine Wk1 (fA8 zdC hlt h' h2' hg hsp hw (CE.mk zeJ cS)) ?_
   (refine zax.mk [0] ?_ ?_<;>simp [kwr,zdC,zjX])
  ·rw [zA6 hT hlt hk1 hsp] at ho ⊢
   rw [hk1] at hg
   cases hr:zdM l k with
   |out=>have:=zdX (l:=l) (k:=k);rw [hr] at this;cases this
   |bad k'=>
    have cN:=zhN l n k k' hr
    have cG:=zgb l n k' (zar l n k') [91]
    refine ⟨exN [],?_⟩
    generalize spF (l.getD k tk0).text=op at *
    refine zat (fun d=>if d=2 then 1 else if d=3 then 2 else if d=5 then 3 else 4) 5 zh2 ?_
    refine Wk1 (zgj @kz zdC hlt h' h2' hg hsp (CE.mk zeJ cS) (cX [0] [] zaH cN) (cX [0] [] zan cG)) ?_
    (refine zax.mk [0] ?_ ?_<;>simp [kwr,zdC,zAf])
   |ok nm k1=>
    rw [hr] at ho
    simp only [PR.bind] at ho ⊢
    have cN:=zhM l n k k1 nm hr (by omega)
    have le1:k1≤l.length:=by have:=za7 (l:=l) hk;rw [hr] at this;exact this.2
    have cG:=zcy l n k1 [91] hT rfl
    by_cases h3:isT l k1 [91]=true
    ·rw [if_pos h3] at ho ⊢
     rw [h3] at cG
     have hlt1:=zaw h3 (by simp)
     have hx1:zaW l [91] k1=.ok () (k1+1):=by unfold zaW;rw [if_pos h3]
     have cT:=zbh l n k1 (k1+1) _ hT rfl (by omega) hx1
     cases hr2:exF l m (.bin 0) (k1+1) with
     |out=>rw [hr2] at ho;cases ho
     |bad k'=>
      have q:=hB (k1+1) (by omega) (by rw [hr2];rfl)
      rw [hr2] at q
      obtain ⟨e,q1⟩:=q
      have cE:=zaR l n k' (zar l n k') [93]
      refine ⟨exI nm e,?_⟩
      generalize spF (l.getD k tk0).text=op at *
      refine zat (fun d=>if d=2 then 1 else if d=3 then 2 else if d=5 then 3 else 4) 5 zh2 ?_
      repeat' first|refine Va (fA9 @kz zdC @exA.eq_1 @kA hlt h' h2' hg hsp) ?_|(with_reducible first|refine SB.c ?_ ?_<;>intro _|exact zak)|refine CK.d0 zeJ cS ?_|refine dC1 zaH cN ?_|refine dC1 zan cG ?_|refine dC1 zac cT ?_|refine dC1 zam q1 ?_|refine dC1 zac cE ?_|with_reducible refine zaj ?_|omega
      (refine zax.mk [0] ?_ ?_<;>simp [kwr,zdC,exI,exA,Ex.op,Ex.value,Ex.name,Ex.slot,Ex.size,Ex.args,zaQ,zaz])
     |ok e k'=>
      have q:=hB (k1+1) (by omega) (by rw [hr2];rfl)
      rw [hr2] at q
      have q1:AC _ _ _ _ _ _ _:=q
      have hp':k1+1<k'∧k'≤l.length:=by have:=(zcA (l:=l) m (.bin 0) (k1+1) (by omega)).2 rfl;rw [hr2] at this;exact this
      rw [hr2] at ho
      simp only [PR.bind] at ho ⊢
      cases hx:zaW l [93] k' with
      |out=>have:=zbB (l:=l) (s:=[93]) (k:=k');rw [hx] at this;cases this
      |bad k2=>
       have cE:=zbn l n k' k2 _ hT rfl hx
       refine ⟨exI nm e,?_⟩
       generalize spF (l.getD k tk0).text=op at *
       refine zat (fun d=>if d=2 then 1 else if d=3 then 2 else if d=5 then 3 else 4) 5 zh2 ?_
       repeat' first|refine Va (fA9 @kz zdC @exA.eq_1 @kA hlt h' h2' hg hsp) ?_|(with_reducible first|refine SB.c ?_ ?_<;>intro _|exact zak)|refine CK.d0 zeJ cS ?_|refine dC1 zaH cN ?_|refine dC1 zan cG ?_|refine dC1 zac cT ?_|refine dC1 zam q1 ?_|refine dC1 zac cE ?_|with_reducible refine zaj ?_|omega
       (refine zax.mk [0] ?_ ?_<;>simp [kwr,zdC,exI,exA,Ex.op,Ex.value,Ex.name,Ex.slot,Ex.size,Ex.args,zaQ,zaz])
      |ok u k2=>
       have cE:=zbh l n k' k2 _ hT rfl (by omega) hx
       show AC _ _ _ _ _ _ _
       generalize spF (l.getD k tk0).text=op at *
       refine zat (fun d=>if d=2 then 1 else if d=3 then 2 else if d=5 then 3 else 4) 5 zh2 ?_
       repeat' first|refine Va (fA9 @kz zdC @exA.eq_1 @kA hlt h' h2' hg hsp) ?_|(with_reducible first|refine SB.c ?_ ?_<;>intro _|exact zak)|refine CK.d0 zeJ cS ?_|refine dC1 zaH cN ?_|refine dC1 zan cG ?_|refine dC1 zac cT ?_|refine dC1 zam q1 ?_|refine dC1 zac cE ?_|with_reducible refine zaj ?_|omega
       (refine zax.mk [0] ?_ ?_<;>simp [kwr,zdC,exI,exA,Ex.op,Ex.value,Ex.name,Ex.slot,Ex.size,Ex.args,zaQ,zaz])
    ·rw [if_neg h3]
     rw [show isT l k1 [91]=false by simpa using h3] at cG
     show AC _ _ _ _ _ _ _
     generalize spF (l.getD k tk0).text=op at *
     refine zat (fun d=>if d=2 then 1 else if d=3 then 2 else if d=5 then 3 else 4) 5 zh2 ?_
     refine Wk1 (zgj @kz zdC hlt h' h2' hg hsp (CE.mk zeJ cS) (cX [0] [] zaH cN) (cX [0] [] zan cG)) ?_
     (refine zax.mk [0] ?_ ?_<;>simp [kwr,zdC,zAf])
 ·-- a number
  rw [zxu hT hlt hk1]
  rw [hk1] at hg
  show AC _ _ _ _ _ _ _
  refine zat (fun d=>if d=2 then 1 else if d=3 then 2 else if d=5 then 3 else 4) 5 zh2 ?_
  refine Wk1 (fA6 zdC hlt h' h2' hg hw) ?_
  (refine zax.mk [0] ?_ ?_<;>simp [kwr,zdC,zDG])
 ·-- a sign
  by_cases hp:isT l k [40]=true
  ·rw [zrX hT hlt hk1 hp] at ho ⊢
   rw [hk1] at hg
   have ht:((l.getD k tk0).text==[40])=true:=by rw [←zgx hlt];exact hp
   cases hr2:exF l m (.bin 0) (k+1) with
   |out=>rw [hr2] at ho;cases ho
   |bad k'=>
    have q:=hB (k+1) (by omega) (by rw [hr2];rfl)
    rw [hr2] at q
    obtain ⟨e,q1⟩:=q
    have cE:=zaR l n k' (zar l n k') [41]
    refine ⟨e,?_⟩
    refine zat (fun d=>if d=2 then 1 else if d=3 then 2 else if d=5 then 3 else 4) 5 zh2 ?_
    refine Wk1 (zg8 @kz zdC @exA.eq_1 @kA hlt h' h2' hg ht hw (cX [0] [] zam q1) (cX [0] [] zac cE)) ?_
    (refine zax.mk [0] ?_ ?_<;>simp [kwr,zdC,exA,zch,zbx])
   |ok e k'=>
    have q:=hB (k+1) (by omega) (by rw [hr2];rfl)
    rw [hr2] at q
    have q1:AC _ _ _ _ _ _ _:=q
    have hp':k+1<k'∧k'≤l.length:=by have:=(zcA (l:=l) m (.bin 0) (k+1) (by omega)).2 rfl;rw [hr2] at this;exact this
    rw [hr2] at ho
    simp only [PR.bind] at ho ⊢
    cases hx:zaW l [41] k' with
    |out=>have:=zbB (l:=l) (s:=[41]) (k:=k');rw [hx] at this;cases this
    |bad k2=>
     have cE:=zbn l n k' k2 _ hT rfl hx
     refine ⟨e,?_⟩
     refine zat (fun d=>if d=2 then 1 else if d=3 then 2 else if d=5 then 3 else 4) 5 zh2 ?_
     refine Wk1 (zg8 @kz zdC @exA.eq_1 @kA hlt h' h2' hg ht hw (cX [0] [] zam q1) (cX [0] [] zac cE)) ?_
     (refine zax.mk [0] ?_ ?_<;>simp [kwr,zdC,exA,zch,zbx])
    |ok u k2=>
     have cE:=zbh l n k' k2 _ hT rfl (by omega) hx
     show AC _ _ _ _ _ _ _
     refine zat (fun d=>if d=2 then 1 else if d=3 then 2 else if d=5 then 3 else 4) 5 zh2 ?_
     refine Wk1 (zg8 @kz zdC @exA.eq_1 @kA hlt h' h2' hg ht hw (cX [0] [] zam q1) (cX [0] [] zac cE)) ?_
     (refine zax.mk [0] ?_ ?_<;>simp [kwr,zdC,exA,zch,zbx])
  ·replace hp:isT l k [40]=false:=by simpa using hp
   rw [zrW hT hlt hk1 hp]
   rw [hk1] at hg
   have ht:((l.getD k tk0).text==[40])=false:=by rw [←zgx hlt];exact hp
   refine ⟨exZ,?_⟩
   refine zat (fun d=>if d=2 then 1 else if d=3 then 2 else if d=5 then 3 else 4) 5 zh2 ?_
   refine Wk1 (fA8 @kz zdC hlt h' h2' hg ht (cX [0] [] zbN cF)) ?_
   (refine zax.mk [0] ?_ ?_<;>simp [kwr,zdC,exZ,zjX])
end Go.Proofs.YtfinhhblcdkpgaaGreatDoor
