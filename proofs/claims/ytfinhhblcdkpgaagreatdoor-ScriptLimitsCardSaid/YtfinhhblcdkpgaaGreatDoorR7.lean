/- A part of the walk (Tryz_R7): its theorems have no condition beyond what they state. -/
import Derived.Test.YtfinhhblcdkpgaaGreatDoorR6
import Derived.Test.YtfinhhblcdkpgaaGreatDoorP10
import Derived.Test.YtfinhhblcdkpgaaGreatDoorLib3
set_option maxRecDepth 100000
set_option maxHeartbeats 64000000
set_option linter.unusedSimpArgs false
set_option linter.unusedVariables false
set_option linter.defProp false
namespace Go.Proofs.YtfinhhblcdkpgaaGreatDoor
open Go Go.Abs Go.RowKit
def zoS (l:List TkD) (k:Nat):PR (Option VarD):=
 if isT l k [118,97,114] then (zdz l (k+1)).bind fun nm k1=>(zlH l k1).bind fun v k2=>(zaU l [59] k2).bind fun _ k3=>.ok (some ⟨nm,0,v⟩) k3
 else if isT l k [97,114,114,97,121] then (zdz l (k+1)).bind fun nm k1=>(zaU l [91] k1).bind fun _ k2=>(nmF l 1 k2).bind fun v k3=>(zaU l [93] k3).bind fun _ k4=>(zaU l [59] k4).bind fun _ k5=>.ok (some ⟨nm,v,0⟩) k5
 else .ok none k
theorem zjZ (l:List TkD) (n:Nat) (acc:List VarD) (k:Nat):zhM l (n+1) acc k=(zoS l k).bind fun o k'=>match o with|some v=>zhM l n (acc++[v]) k'|none=>.ok acc k':=by
 rw [zjz]
 unfold zoS
 split
 ·simp only [PR.bind_assoc];rfl
 split
 ·simp only [PR.bind_assoc];rfl
 ·rfl
theorem ztZ (l:List TkD) (k:Nat) (hk:k≤l.length):(zoS l k).on k l.length:=by
 unfold zoS
 split
 ·rename_i h
  have:=zau h (by simp)
  exact PR.on.le (PR.on.bind (za6 (k:=k+1) (by omega)).on (fun nm k1 _ h1=>PR.on.bind (zg2 h1) (fun v k2 _ h2=>PR.on.bind (zav h2 (by simp)).on (fun _ k3 _ h3=>PR.ok_on _ h3)))) (by omega)
 split
 ·rename_i h
  have:=zau h (by simp)
  exact PR.on.le (PR.on.bind (za6 (k:=k+1) (by omega)).on (fun nm k1 _ h1=>PR.on.bind (zav h1 (by simp)).on (fun _ k2 _ h2=>PR.on.bind (zdK h2).on (fun v k3 _ h3=>PR.on.bind (zav h3 (by simp)).on (fun _ k4 _ h4=>PR.on.bind (zav h4 (by simp)).on (fun _ k5 _ h5=>PR.ok_on _ h5)))))) (by omega)
 ·exact PR.ok_on _ hk
theorem znD {l:List TkD} {k k':Nat} {v:VarD} (h:zoS l k=.ok (some v) k') (hk:k≤l.length):k<k':=by
 unfold zoS at h
 split at h
 ·rename_i h0
  have:=zau h0 (by simp)
  obtain ⟨nm,k1,h1,h2⟩:=PR.bind_ok h
  have a1:=za6 (l:=l) (k:=k+1) (by omega)
  rw [h1] at a1
  obtain ⟨v,k2,h3,h4⟩:=PR.bind_ok h2
  have a2:=zg2 (l:=l) a1.2
  rw [h3] at a2
  obtain ⟨u,k3,h5,h6⟩:=PR.bind_ok h4
  have a3:=zav (l:=l) (s:=[59]) a2.2 (by simp)
  rw [h5] at a3
  cases h6
  have b1:k+1<k1:=a1.1
  have b2:k1≤k2:=a2.1
  have b3:k2<k':=a3.1
  omega
 split at h
 ·rename_i h0
  have:=zau h0 (by simp)
  obtain ⟨nm,k1,h1,h2⟩:=PR.bind_ok h
  have a1:=za6 (l:=l) (k:=k+1) (by omega)
  rw [h1] at a1
  have b1:k+1<k1:=a1.1
  obtain ⟨u,k2,h3,h4⟩:=PR.bind_ok h2
  have a2:=zav (l:=l) (s:=[91]) a1.2 (by simp)
  rw [h3] at a2
  obtain ⟨v,k3,h5,h6⟩:=PR.bind_ok h4
  have a3:=zdK (l:=l) (z:=1) a2.2
  rw [h5] at a3
  obtain ⟨u2,k4,h7,h8⟩:=PR.bind_ok h6
  have a4:=zav (l:=l) (s:=[93]) a3.2 (by simp)
  rw [h7] at a4
  obtain ⟨u3,k5,h9,h10⟩:=PR.bind_ok h8
  have a5:=zav (l:=l) (s:=[59]) a4.2 (by simp)
  rw [h9] at a5
  cases h10
  have b2:k1<k2:=a2.1
  have b3:k2<k3:=a3.1
  have b4:k3<k4:=a4.1
  have b5:k4<k':=a5.1
  omega
 ·cases h
def vrA (v:VarD):AVal:=.agg [.pv (.str v.name),.pv (.int .i64 v.size),.pv (.int .i64 v.init)]
def zGa (l:List TkD) (n k:Nat):PR (Option VarD)→Prop
 |.ok (some v) k'=>AC Tryz.prog gl 105 [.ref 0 0] (okO l n k) (.tup [vrA v,.pv (.bool true)]) (okO l n k')
 |.ok none k'=>AC Tryz.prog gl 105 [.ref 0 0] (okO l n k) (.tup [vrA ⟨[],0,0⟩,.pv (.bool false)]) (okO l n k')
 |.bad k'=>∃ v,AC Tryz.prog gl 105 [.ref 0 0] (okO l n k) (.tup [vrA v,.pv (.bool true)]) (flO l n k' (zar l n k'))
 |.out=>True
theorem zj0 (l:List TkD) (n k:Nat) (hT:zbI l) (hl:l.length≤100000) (hk:k≤l.length) (hv:∀ k,(l.getD k tk0).value≤9223372036854775807):zGa l n k (zoS l k):=by
 have h00:IntKind.i64.wrap 0=0:=by decide
 unfold zoS
 by_cases e0:isT l k [118,97,114]=true
 ·rw [if_pos e0]
  have f0:=zdl l n k _ hT rfl (by omega) e0
  have hlt:=zau e0 (by simp)
  cases r1:zdz l (k+1) with
  |out=>exact absurd r1 zmc
  |bad k'=>
   simp only [PR.bind]
   have q1:=zhe l n _ _ r1
   have z0:=zfQ l n k' (zar l n k') [61]
   have z1:=zaN l n k' (zar l n k') [59]
   refine ⟨⟨[],0,0⟩,?_⟩
   refine zax (fun d=>if d=2 then 1 else 2) 3 zfY ?_
   repeat' first|refine Va (fA3 @kz zcs h00) ?_|(with_reducible first|refine SB.c ?_ ?_<;>intro _|exact zad)|refine dC1 zab f0 ?_|refine dC1 zaG q1 ?_|refine dC1 zal z0 ?_|refine dC1 zae z1 ?_|with_reducible refine zac ?_|omega
   (refine zay.mk [0] ?_ ?_<;>simp [kwr,zcs,vrA])
  |ok nm k1=>
   simp only [PR.bind]
   have le1:=zpW (by omega) r1
   have c1:=zhd l n _ _ _ r1 (by omega)
   unfold zlH
   have g9:=zco l n k1 [61] hT rfl
   by_cases e1:isT l k1 [61]=true
   ·rw [if_pos e1]
    rw [e1] at g9
    have hlt1:=zau e1 (by simp)
    have hx1:zaU l [61] k1=.ok () (k1+1):=by unfold zaU;rw [if_pos e1]
    have g8:=zbd l n k1 (k1+1) _ hT rfl (by omega) hx1
    have g7:=zco l n (k1+1) [45] hT rfl
    by_cases e2:isT l (k1+1) [45]=true
    ·rw [if_pos e2]
     rw [e2] at g7
     have hlt2:=zau e2 (by simp)
     have hx2:zaU l [45] (k1+1)=.ok () (k1+2):=by unfold zaU;rw [if_pos e2]
     have g6:=zbd l n (k1+1) (k1+2) _ hT rfl (by omega) hx2
     cases r4:nmF l 0 (k1+2) with
     |out=>exact absurd r4 zkV
     |bad k'=>
      simp only [PR.bind]
      have q1:=zmg l n (k1+2) k' _ r4
      have z0:=zaN l n k' (zar l n k') [59]
      refine ⟨⟨nm,0,0⟩,?_⟩
      refine zax (fun d=>if d=2 then 1 else 2) 3 zfY ?_
      repeat' first|refine Va (fA3 @kz zcs h00) ?_|(with_reducible first|refine SB.c ?_ ?_<;>intro _|exact zad)|refine dC1 zab f0 ?_|refine dC1 zaG c1 ?_|refine dC1 zal g9 ?_|refine dC1 zae g8 ?_|refine dC1 zal g7 ?_|refine dC1 zae g6 ?_|refine dC1 zb2 q1 ?_|refine dC1 zae z0 ?_|with_reducible refine zac ?_|omega
      (refine zay.mk [0] ?_ ?_<;>simp [kwr,zcs,vrA])
     |ok v k2=>
      simp only [PR.bind]
      have le_r4:=zre (by omega) r4
      have vv_r4:=zhD hv r4
      have c_r4:=zoP l n (k1+2) (k2) _ _ r4 (by omega)
      have gneg:IntKind.i64.wrap (0 - v)=-v:=by rw [zaS _ (by omega) (by omega)];omega
      cases r5:zaU l [59] (k2) with
      |out=>exact absurd r5 zby
      |bad k'=>
       simp only [PR.bind]
       have q1:=zbh l n (k2) k' _ hT rfl r5
       refine ⟨⟨nm,0,-v⟩,?_⟩
       refine zax (fun d=>if d=2 then 1 else 2) 3 zfY ?_
       repeat' first|refine Va (fA4 @kz zcs h00 gneg) ?_|(with_reducible first|refine SB.c ?_ ?_<;>intro _|exact zad)|refine dC1 zab f0 ?_|refine dC1 zaG c1 ?_|refine dC1 zal g9 ?_|refine dC1 zae g8 ?_|refine dC1 zal g7 ?_|refine dC1 zae g6 ?_|refine dC1 zb2 c_r4 ?_|refine dC1 zae q1 ?_|with_reducible refine zac ?_|omega
       (refine zay.mk [0] ?_ ?_<;>simp [kwr,zcs,vrA])
      |ok u5 k5=>
       simp only [PR.bind]
       have c5:=zbd l n (k2) k5 _ hT rfl (by omega) r5
       show AC _ _ _ _ _ _ _
       refine zax (fun d=>if d=2 then 1 else 2) 3 zfY ?_
       repeat' first|refine Va (fA4 @kz zcs h00 gneg) ?_|(with_reducible first|refine SB.c ?_ ?_<;>intro _|exact zad)|refine dC1 zab f0 ?_|refine dC1 zaG c1 ?_|refine dC1 zal g9 ?_|refine dC1 zae g8 ?_|refine dC1 zal g7 ?_|refine dC1 zae g6 ?_|refine dC1 zb2 c_r4 ?_|refine dC1 zae c5 ?_|with_reducible refine zac ?_|omega
       (refine zay.mk [0] ?_ ?_<;>simp [kwr,zcs,vrA])
    ·rw [if_neg e2]
     rw [show isT l (k1+1) [45]=false by simpa using e2] at g7
     cases r4:nmF l 0 (k1+1) with
     |out=>exact absurd r4 zkV
     |bad k'=>
      simp only [PR.bind]
      have q1:=zmg l n (k1+1) k' _ r4
      have z0:=zaN l n k' (zar l n k') [59]
      refine ⟨⟨nm,0,0⟩,?_⟩
      refine zax (fun d=>if d=2 then 1 else 2) 3 zfY ?_
      repeat' first|refine Va (fA3 @kz zcs h00) ?_|(with_reducible first|refine SB.c ?_ ?_<;>intro _|exact zad)|refine dC1 zab f0 ?_|refine dC1 zaG c1 ?_|refine dC1 zal g9 ?_|refine dC1 zae g8 ?_|refine dC1 zal g7 ?_|refine dC1 zb2 q1 ?_|refine dC1 zae z0 ?_|with_reducible refine zac ?_|omega
      (refine zay.mk [0] ?_ ?_<;>simp [kwr,zcs,vrA])
     |ok v k2=>
      simp only [PR.bind]
      have le_r4:=zre (by omega) r4
      have vv_r4:=zhD hv r4
      have c_r4:=zoP l n (k1+1) (k2) _ _ r4 (by omega)
      cases r5:zaU l [59] (k2) with
      |out=>exact absurd r5 zby
      |bad k'=>
       simp only [PR.bind]
       have q1:=zbh l n (k2) k' _ hT rfl r5
       refine ⟨⟨nm,0,v⟩,?_⟩
       refine zax (fun d=>if d=2 then 1 else 2) 3 zfY ?_
       repeat' first|refine Va (fA3 @kz zcs h00) ?_|(with_reducible first|refine SB.c ?_ ?_<;>intro _|exact zad)|refine dC1 zab f0 ?_|refine dC1 zaG c1 ?_|refine dC1 zal g9 ?_|refine dC1 zae g8 ?_|refine dC1 zal g7 ?_|refine dC1 zb2 c_r4 ?_|refine dC1 zae q1 ?_|with_reducible refine zac ?_|omega
       (refine zay.mk [0] ?_ ?_<;>simp [kwr,zcs,vrA])
      |ok u5 k5=>
       simp only [PR.bind]
       have c5:=zbd l n (k2) k5 _ hT rfl (by omega) r5
       show AC _ _ _ _ _ _ _
       refine zax (fun d=>if d=2 then 1 else 2) 3 zfY ?_
       repeat' first|refine Va (fA3 @kz zcs h00) ?_|(with_reducible first|refine SB.c ?_ ?_<;>intro _|exact zad)|refine dC1 zab f0 ?_|refine dC1 zaG c1 ?_|refine dC1 zal g9 ?_|refine dC1 zae g8 ?_|refine dC1 zal g7 ?_|refine dC1 zb2 c_r4 ?_|refine dC1 zae c5 ?_|with_reducible refine zac ?_|omega
       (refine zay.mk [0] ?_ ?_<;>simp [kwr,zcs,vrA])
   ·rw [if_neg e1]
    rw [show isT l k1 [61]=false by simpa using e1] at g9
    simp only [PR.bind]
    cases r5:zaU l [59] (k1) with
    |out=>exact absurd r5 zby
    |bad k'=>
     simp only [PR.bind]
     have q1:=zbh l n (k1) k' _ hT rfl r5
     refine ⟨⟨nm,0,0⟩,?_⟩
     refine zax (fun d=>if d=2 then 1 else 2) 3 zfY ?_
     repeat' first|refine Va (fA3 @kz zcs h00) ?_|(with_reducible first|refine SB.c ?_ ?_<;>intro _|exact zad)|refine dC1 zab f0 ?_|refine dC1 zaG c1 ?_|refine dC1 zal g9 ?_|refine dC1 zae q1 ?_|with_reducible refine zac ?_|omega
     (refine zay.mk [0] ?_ ?_<;>simp [kwr,zcs,vrA])
    |ok u5 k5=>
     simp only [PR.bind]
     have c5:=zbd l n (k1) k5 _ hT rfl (by omega) r5
     show AC _ _ _ _ _ _ _
     refine zax (fun d=>if d=2 then 1 else 2) 3 zfY ?_
     repeat' first|refine Va (fA3 @kz zcs h00) ?_|(with_reducible first|refine SB.c ?_ ?_<;>intro _|exact zad)|refine dC1 zab f0 ?_|refine dC1 zaG c1 ?_|refine dC1 zal g9 ?_|refine dC1 zae c5 ?_|with_reducible refine zac ?_|omega
     (refine zay.mk [0] ?_ ?_<;>simp [kwr,zcs,vrA])
 rw [if_neg e0]
 have f0:=zbi l n k _ hT rfl (by simpa using e0)
 by_cases e1:isT l k [97,114,114,97,121]=true
 ·rw [if_pos e1]
  have f1:=zdl l n k _ hT rfl (by omega) e1
  have hlt:=zau e1 (by simp)
  cases r1:zdz l (k+1) with
  |out=>exact absurd r1 zmc
  |bad k'=>
   simp only [PR.bind]
   have q1:=zhe l n _ _ r1
   have z0:=zaN l n k' (zar l n k') [91]
   have z1:=ztT l n k' (zar l n k') 1
   have z2:=zaN l n k' (zar l n k') [93]
   have z3:=zaN l n k' (zar l n k') [59]
   refine ⟨⟨[],0,0⟩,?_⟩
   refine zax (fun d=>if d=2 then 1 else 2) 3 zfY ?_
   repeat' first|refine Va (fA3 @kz zcs h00) ?_|(with_reducible first|refine SB.c ?_ ?_<;>intro _|exact zad)|refine dC1 zab f0 ?_|refine dC1 zab f1 ?_|refine dC1 zaG q1 ?_|refine dC1 zae z0 ?_|refine dC1 zb2 z1 ?_|refine dC1 zae z2 ?_|refine dC1 zae z3 ?_|with_reducible refine zac ?_|omega
   (refine zay.mk [0] ?_ ?_<;>simp [kwr,zcs,vrA])
  |ok nm k1=>
   simp only [PR.bind]
   have le1:=zpW (by omega) r1
   have c1:=zhd l n _ _ _ r1 (by omega)
   cases r2:zaU l [91] (k1) with
   |out=>exact absurd r2 zby
   |bad k'=>
    simp only [PR.bind]
    have q1:=zbh l n (k1) k' _ hT rfl r2
    have z1:=ztT l n k' (zar l n k') 1
    have z2:=zaN l n k' (zar l n k') [93]
    have z3:=zaN l n k' (zar l n k') [59]
    refine ⟨⟨nm,0,0⟩,?_⟩
    refine zax (fun d=>if d=2 then 1 else 2) 3 zfY ?_
    repeat' first|refine Va (fA3 @kz zcs h00) ?_|(with_reducible first|refine SB.c ?_ ?_<;>intro _|exact zad)|refine dC1 zab f0 ?_|refine dC1 zab f1 ?_|refine dC1 zaG c1 ?_|refine dC1 zae q1 ?_|refine dC1 zb2 z1 ?_|refine dC1 zae z2 ?_|refine dC1 zae z3 ?_|with_reducible refine zac ?_|omega
    (refine zay.mk [0] ?_ ?_<;>simp [kwr,zcs,vrA])
   |ok u_r2 k2=>
    simp only [PR.bind]
    have le_r2:=zen (by omega) (by simp) r2
    have c_r2:=zbd l n (k1) (k2) _ hT rfl (by omega) r2
    cases r3:nmF l 1 (k2) with
    |out=>exact absurd r3 zkV
    |bad k'=>
     simp only [PR.bind]
     have q1:=zmg l n (k2) k' _ r3
     have z2:=zaN l n k' (zar l n k') [93]
     have z3:=zaN l n k' (zar l n k') [59]
     refine ⟨⟨nm,0,0⟩,?_⟩
     refine zax (fun d=>if d=2 then 1 else 2) 3 zfY ?_
     repeat' first|refine Va (fA3 @kz zcs h00) ?_|(with_reducible first|refine SB.c ?_ ?_<;>intro _|exact zad)|refine dC1 zab f0 ?_|refine dC1 zab f1 ?_|refine dC1 zaG c1 ?_|refine dC1 zae c_r2 ?_|refine dC1 zb2 q1 ?_|refine dC1 zae z2 ?_|refine dC1 zae z3 ?_|with_reducible refine zac ?_|omega
     (refine zay.mk [0] ?_ ?_<;>simp [kwr,zcs,vrA])
    |ok v k3=>
     simp only [PR.bind]
     have le_r3:=zre (by omega) r3
     have vv_r3:=zhD hv r3
     have c_r3:=zoP l n (k2) (k3) _ _ r3 (by omega)
     cases r4:zaU l [93] (k3) with
     |out=>exact absurd r4 zby
     |bad k'=>
      simp only [PR.bind]
      have q1:=zbh l n (k3) k' _ hT rfl r4
      have z3:=zaN l n k' (zar l n k') [59]
      refine ⟨⟨nm,v,0⟩,?_⟩
      refine zax (fun d=>if d=2 then 1 else 2) 3 zfY ?_
      repeat' first|refine Va (fA3 @kz zcs h00) ?_|(with_reducible first|refine SB.c ?_ ?_<;>intro _|exact zad)|refine dC1 zab f0 ?_|refine dC1 zab f1 ?_|refine dC1 zaG c1 ?_|refine dC1 zae c_r2 ?_|refine dC1 zb2 c_r3 ?_|refine dC1 zae q1 ?_|refine dC1 zae z3 ?_|with_reducible refine zac ?_|omega
      (refine zay.mk [0] ?_ ?_<;>simp [kwr,zcs,vrA])
     |ok u_r4 k4=>
      simp only [PR.bind]
      have le_r4:=zen (by omega) (by simp) r4
      have c_r4:=zbd l n (k3) (k4) _ hT rfl (by omega) r4
      cases r5:zaU l [59] (k4) with
      |out=>exact absurd r5 zby
      |bad k'=>
       simp only [PR.bind]
       have q1:=zbh l n (k4) k' _ hT rfl r5
       refine ⟨⟨nm,v,0⟩,?_⟩
       refine zax (fun d=>if d=2 then 1 else 2) 3 zfY ?_
       repeat' first|refine Va (fA3 @kz zcs h00) ?_|(with_reducible first|refine SB.c ?_ ?_<;>intro _|exact zad)|refine dC1 zab f0 ?_|refine dC1 zab f1 ?_|refine dC1 zaG c1 ?_|refine dC1 zae c_r2 ?_|refine dC1 zb2 c_r3 ?_|refine dC1 zae c_r4 ?_|refine dC1 zae q1 ?_|with_reducible refine zac ?_|omega
       (refine zay.mk [0] ?_ ?_<;>simp [kwr,zcs,vrA])
      |ok u5 k5=>
       simp only [PR.bind]
       have c5:=zbd l n (k4) k5 _ hT rfl (by omega) r5
       show AC _ _ _ _ _ _ _
       refine zax (fun d=>if d=2 then 1 else 2) 3 zfY ?_
       repeat' first|refine Va (fA3 @kz zcs h00) ?_|(with_reducible first|refine SB.c ?_ ?_<;>intro _|exact zad)|refine dC1 zab f0 ?_|refine dC1 zab f1 ?_|refine dC1 zaG c1 ?_|refine dC1 zae c_r2 ?_|refine dC1 zb2 c_r3 ?_|refine dC1 zae c_r4 ?_|refine dC1 zae c5 ?_|with_reducible refine zac ?_|omega
       (refine zay.mk [0] ?_ ?_<;>simp [kwr,zcs,vrA])
 ·rw [if_neg e1]
  have f1:=zbi l n k _ hT rfl (by simpa using e1)
  show AC _ _ _ _ _ _ _
  refine zax (fun d=>if d=2 then 1 else 2) 3 zfY ?_
  repeat' first|refine Va (fA2 @kz zcs) ?_|(with_reducible first|refine SB.c ?_ ?_<;>intro _|exact zad)|refine dC1 zab f0 ?_|refine dC1 zab f1 ?_|with_reducible refine zac ?_|omega
  (refine zay.mk [0] ?_ ?_<;>simp [kwr,zcs,vrA])
end Go.Proofs.YtfinhhblcdkpgaaGreatDoor
