/- A part of the walk (Tryz_R8): its theorems have no condition beyond what they state. -/
import Derived.Test.YtfinhhblcdkpgaaGreatDoorR7
import Derived.Test.YtfinhhblcdkpgaaGreatDoorP12
import Derived.Test.YtfinhhblcdkpgaaGreatDoorLib2
set_option maxRecDepth 100000
set_option maxHeartbeats 64000000
set_option linter.unusedSimpArgs false
set_option linter.unusedVariables false
set_option linter.defProp false
namespace Go.Proofs.YtfinhhblcdkpgaaGreatDoor
open Go Go.Abs Go.RowKit
noncomputable def gBk (l:List TkD) (n k kb:Nat):List Sm:=@dite _ (∃ b:List Sm,AC Tryz.prog gl 108 [.ref 0 0] (okO l n k) (lsA b) (flO l n kb (zar l n kb))) (Classical.propDecidable _) (fun h=>h.choose) (fun _=>[])
theorem zCM {l:List TkD} {n k kb:Nat} (h:∃ b:List Sm,AC Tryz.prog gl 108 [.ref 0 0] (okO l n k) (lsA b) (flO l n kb (zar l n kb))):AC Tryz.prog gl 108 [.ref 0 0] (okO l n k) (lsA (gBk l n k kb)) (flO l n kb (zar l n kb)):=by
 unfold gBk
 rw [dif_pos h]
 exact h.choose_spec
noncomputable def gDc (l:List TkD) (n k kb:Nat):VarD:=@dite _ (∃ v,AC Tryz.prog gl 105 [.ref 0 0] (okO l n k) (.tup [vrA v,.pv (.bool true)]) (flO l n kb (zar l n kb))) (Classical.propDecidable _) (fun h=>h.choose) (fun _=>⟨[],0,0⟩)
theorem zCN {l:List TkD} {n k kb:Nat} (h:∃ v,AC Tryz.prog gl 105 [.ref 0 0] (okO l n k) (.tup [vrA v,.pv (.bool true)]) (flO l n kb (zar l n kb))):AC Tryz.prog gl 105 [.ref 0 0] (okO l n k) (.tup [vrA (gDc l n k kb),.pv (.bool true)]) (flO l n kb (zar l n kb)):=by
 unfold gDc
 rw [dif_pos h]
 exact h.choose_spec
noncomputable def pdG (l:List TkD) (n:Nat):Nat→List VarD→Nat→List VarD
 |0,acc,_=>acc
 |j+1,acc,k=>match zoS l k with
  |.ok (some v) k'=>pdG l n j (acc++[v]) k'
  |.ok none _=>acc
  |.bad kb=>acc++[gDc l n k kb]
  |.out=>acc
noncomputable def hnG (l:List TkD) (n:Nat) (p:PgD) (z:Seen) (k kb:Nat):PgD:=match zaU l [111,110] k with
 |.ok _ k1=>if !z.s&&isT l k1 [115,116,97,114,116] then { p with start:=gBk l n (k1+1) kb } else if !z.m&&isT l k1 [109,101,115,115,97,103,101] then { p with message:=gBk l n (k1+1) kb } else if !z.t&&isT l k1 [116,105,99,107] then { p with tick:=gBk l n (k1+1) kb } else if !z.i&&isT l k1 [105,110,112,117,116] then { p with input:=gBk l n (k1+1) kb } else p
 |_=>p
noncomputable def zxk (l:List TkD) (n:Nat):Nat→PgD→Seen→Nat→PgD
 |0,p,_,_=>p
 |j+1,p,z,k=>match zov l p z k with
  |.ok q k2=>zxk l n j q.1 q.2 k2
  |.bad kb=>hnG l n p z k kb
  |.out=>p
def fP (R:PR PgD) (G:PgD):PgD:=match R with|.ok p _=>p|_=>G
def fO (l:List TkD) (n:Nat) (R:PR PgD):List (Option AObj):=match R with|.ok _ k=>okO l n k|.bad k=>flO l n k (zar l n k)|.out=>[]
def fC (l:List TkD) (n:Nat) (R:PR PgD):AObj:=match R with|.ok _ k=>okC l n k|.bad k=>flC l n k (zar l n k)|.out=>.dead
structure HR (l:List TkD) (n:Nat) (R:PR PgD) (G:PgD) where
 j:Nat
 p:PgD
 z:Seen
 k:Nat
 hk:k≤l.length
 h:zip l j p z k=R
 hG:zxk l n j p z k=G
structure DR (l:List TkD) (n:Nat) (R:PR (List VarD)) (G:List VarD) where
 j:Nat
 acc:List VarD
 k:Nat
 hk:k≤l.length
 ha:acc.length≤k
 h:zhM l j acc k=R
 hG:pdG l n j acc k=G
abbrev z0S:Seen:=⟨false,false,false,false⟩
theorem zwM {l:List TkD} {n k k':Nat} {b:List Sm} (hT:zbI l) (hl:l.length≤100000) (hk:k≤l.length) (h:zbr l k=.ok b k'):AC Tryz.prog gl 108 [.ref 0 0] (okO l n k) (lsA b) (okO l n k'):=by
 have:=zk2 l n k hT hl hk
 rw [h] at this
 exact this
theorem zp8 {l:List TkD} {n k k':Nat} (hT:zbI l) (hl:l.length≤100000) (hk:k≤l.length) (h:zbr l k=.bad k'):AC Tryz.prog gl 108 [.ref 0 0] (okO l n k) (lsA (gBk l n k k')) (flO l n k' (zar l n k')):=by
 have:=zk2 l n k hT hl hk
 rw [h] at this
 exact zCM this
theorem zxl {l:List TkD} {n:Nat}:∀ {j:Nat} {acc vs:List VarD} {k k1:Nat},zhM l j acc k=.ok vs k1→pdG l n j acc k=vs
 |0,_,_,_,_,h=>by cases h
 |j+1,acc,vs,k,k1,h=>by
  rw [zjZ] at h
  unfold pdG
  cases r1:zoS l k with
  |out=>rw [r1] at h;cases h
  |bad k'=>rw [r1] at h;cases h
  |ok v k'=>
   rw [r1] at h
   cases v with
   |none=>
    have h2:PR.ok acc k'=PR.ok vs k1:=h
    cases h2
    rfl
   |some v=>exact zxl (j:=j) h
def zGb (l:List TkD) (n:Nat):PR PgD→Prop
 |.ok p k'=>AC Tryz.prog gl 77 [.ref 0 0] (okO l n 0) (pgA p) (okO l n k')
 |.bad k'=>∃ p,AC Tryz.prog gl 77 [.ref 0 0] (okO l n 0) (pgA p) (flO l n k' (zar l n k'))
 |.out=>True
theorem zCO {l:List TkD} {n k k':Nat} {v:VarD} (hT:zbI l) (hl:l.length≤100000) (hk:k≤l.length) (hv:∀ k,(l.getD k tk0).value≤9223372036854775807) (h:zoS l k=.ok (some v) k'):AC Tryz.prog gl 105 [.ref 0 0] (okO l n k) (.tup [vrA v,.pv (.bool true)]) (okO l n k'):=by
 have:=zj0 l n k hT hl hk hv
 rw [h] at this
 exact this
theorem zGc {l:List TkD} {n k k':Nat} (hT:zbI l) (hl:l.length≤100000) (hk:k≤l.length) (hv:∀ k,(l.getD k tk0).value≤9223372036854775807) (h:zoS l k=.ok none k'):AC Tryz.prog gl 105 [.ref 0 0] (okO l n k) (.tup [vrA ⟨[],0,0⟩,.pv (.bool false)]) (okO l n k'):=by
 have:=zj0 l n k hT hl hk hv
 rw [h] at this
 exact this
theorem zCP {l:List TkD} {n k k':Nat} (hT:zbI l) (hl:l.length≤100000) (hk:k≤l.length) (hv:∀ k,(l.getD k tk0).value≤9223372036854775807) (h:zoS l k=.bad k'):AC Tryz.prog gl 105 [.ref 0 0] (okO l n k) (.tup [vrA (gDc l n k k'),.pv (.bool true)]) (flO l n k' (zar l n k')):=by
 have:=zj0 l n k hT hl hk hv
 rw [h] at this
 exact zCN this
theorem zt0 (l:List TkD) (n:Nat) (hT:zbI l) (hl:l.length≤100000) (hv:∀ k,(l.getD k tk0).value≤9223372036854775807):zGb l n (zjp l):=by
 have ho:=zg4 (l:=l)
 unfold zjp at ho ⊢
 have hno:(zhM l (l.length+1) [] 0).isOut=false:=zg3 _ _ 0 (by omega) (by omega)
 have hon:=zhA (l:=l) (l.length+1) [] 0 (by omega)
 cases r0:zhM l (l.length+1) [] 0 with
 |out=>rw [r0] at hno;cases hno
 |bad kb=>
  clear ho
  generalize hGd:pdG l n (l.length+1) [] 0=GD
  refine ⟨⟨GD,[],[],[],[]⟩,?_⟩
  refine zbw (fun d=>if d=2 then 3 else if d=3 then 1 else if d=4 then 2 else 5) 6 zGw ?_
  repeat' first|refine Va zh8 ?_|(with_reducible first|refine SB.c ?_ ?_<;>intro _|exact zad)|with_reducible refine zac ?_|omega
  (refine LW.weak (za0.nilRowC 1 0 4 3 rfl rfl rfl (by decide)) ?_;simp only [List.set_cons_zero,List.set_cons_succ])
  refine zaI (ι:={i:DR l n (.bad kb) GD // i.j≤l.length+1} ⊕ Unit) (fun i=>match i with
   |.inl i=>⟨(.ref 0 0::.junk::.ref 3 0::.ref 1 0::jl 87 []),[some (okC l n i.1.k),some (.cells [.row 4 i.1.acc.length,.snil,.snil,.snil,.snil]),none,some (.cells [.snil,.snil,.snil,.snil,.snil]),some (.row 3 (i.1.acc.map zat)),none]⟩
   |.inr _=>⟨(.ref 0 0::.junk::.ref 3 0::.ref 1 0::jl 87 []),[some (flC l n kb (zar l n kb)),some (.cells [.row 4 GD.length,.snil,.snil,.snil,.snil]),none,some (.cells [.snil,.snil,.snil,.snil,.snil]),some (.row 3 (GD.map zat)),none]⟩) (fun i=>match i with|.inl i=>i.1.j+1|.inr _=>0) (.inl ⟨⟨l.length+1,[],0,by omega,by simp,r0,hGd⟩,Nat.le_refl _⟩) WFn ?_
  rintro (⟨⟨j,acc,k,hk,ha,hi,hg⟩,hj⟩|_)
  ·replace hj:j≤l.length+1:=hj
   cases j with
   |zero=>cases hi
   |succ j=>
    rw [zjZ] at hi
    unfold pdG at hg
    have hrm:=zc8 (acc.length+1) 32 (by omega)
    cases r1:zoS l k with
    |out=>rw [r1] at hi;cases hi
    |bad k'=>
     rw [r1] at hi hg
     cases hi
     replace hg:acc++[gDc l n k kb]=GD:=hg
     have c1:=zCP (n:=n) hT hl hk hv r1
     subst hg
     repeat' first|refine Va (fA4 @kz zh8 hrm @vrA.eq_1) ?_|(with_reducible first|refine SB.c ?_ ?_<;>intro _|exact zad)|refine dC1 zgO c1 ?_|with_reducible refine zac ?_|omega
     exact ⟨.inr (),(WTe [0,1,2,3,5,4] (by simp [kwt,zat]) (by simp [kwt,zat])),by show 0<j+1+1;omega⟩
    |ok v k'=>
     have hq:=ztZ l k hk
     rw [r1] at hi hg hq
     have hq':k≤k'∧k'≤l.length:=hq
     cases v with
     |none=>cases hi
     |some v=>
      have hlt:=znD r1 hk
      replace hi:zhM l j (acc++[v]) k'=.bad kb:=hi
      replace hg:pdG l n j (acc++[v]) k'=GD:=hg
      have c1:=zCO (n:=n) hT hl hk hv r1
      repeat' first|refine Va (fA4 @kz zh8 hrm @vrA.eq_1) ?_|(with_reducible first|refine SB.c ?_ ?_<;>intro _|exact zad)|refine dC1 zgO c1 ?_|with_reducible refine zac ?_|omega
      exact ⟨.inl ⟨⟨j,acc++[v],k',hq'.2,by simp;omega,hi,hg⟩,by show j≤l.length+1;omega⟩,(WTe [0,1,2,3,5,4] (by simp [kwt,zat]) (by simp [kwt,zat])),by show j+1<j+1+1;omega⟩
  ·repeat' first|refine Va zh8 ?_|(with_reducible first|refine SB.c ?_ ?_<;>intro _|exact zad)|with_reducible refine zac ?_|omega
   refine zaI (ι:=Unit) (fun _=>⟨(.ref 0 0::.junk::.ref 3 0::.ref 1 0::jl 87 []),[some (flC l n kb (zar l n kb)),some (pgC ⟨GD,[],[],[],[]⟩),none,some (.cells [.pv (.slice []),.pv (.slice []),.pv (.slice []),.pv (.slice []),.pv (.slice [])]),none,none]⟩) (fun _=>0) () ((za0.freeze 4 rfl).trans (za0.nz.trans (WFe (by simp [kwf,St.frz,zf6,frz,zf7,List.map_cons,List.map_nil,List.set_cons_zero,List.set_cons_succ,List.length_map,if_true,if_false,↓reduceIte,Nat.reduceEqDiff,eq_self,reduceCtorEq,Nat.succ_ne_self,St.nz,nzL,zbS,nzO,nz]) (by simp [kwf,St.frz,zf6,frz,zf7,List.map_cons,List.map_nil,List.set_cons_zero,List.set_cons_succ,List.length_map,if_true,if_false,↓reduceIte,Nat.reduceEqDiff,eq_self,reduceCtorEq,Nat.succ_ne_self,St.nz,nzL,zbS,nzO,nz])))) ?_
   intro _
   repeat' first|refine Va zh8 ?_|(with_reducible first|refine SB.c ?_ ?_<;>intro _|exact zad)|with_reducible refine zac ?_|omega
   refine ⟨_,za0.nz,?_⟩
   simp only [St.nz,nzL,zbS,nzO,nz]
   (refine zay.mk [0] ?_ ?_<;>simp [kwr,zh8,pgA])
 |ok vs k1=>
  rw [r0] at ho hon
  have hk1:k1≤l.length:=hon.2
  simp only [PR.bind] at ho ⊢
  generalize hR:zip l (l.length+1) ⟨vs,[],[],[],[]⟩ ⟨false,false,false,false⟩ k1=R at *
  generalize hG:zxk l n (l.length+1) ⟨vs,[],[],[],[]⟩ z0S k1=G
  suffices hh:AC Tryz.prog gl 77 [.ref 0 0] (okO l n 0) (pgA (fP R G)) [some (fC l n R)] by
   cases R with
   |ok p k=>exact hh
   |bad k=>exact ⟨_,hh⟩
   |out=>cases ho
  refine zbw (fun d=>if d=2 then 3 else if d=3 then 1 else if d=4 then 2 else 5) 6 zGw ?_
  repeat' first|refine Va zh8 ?_|(with_reducible first|refine SB.c ?_ ?_<;>intro _|exact zad)|with_reducible refine zac ?_|omega
  (refine LW.weak (za0.nilRowC 1 0 4 3 rfl rfl rfl (by decide)) ?_;simp only [List.set_cons_zero,List.set_cons_succ])
  refine zaI (ι:={i:DR l n (.ok vs k1) vs // i.j≤l.length+1}) (fun i=>⟨(.ref 0 0::.junk::.ref 3 0::.ref 1 0::jl 87 []),[some (okC l n i.1.k),some (.cells [.row 4 i.1.acc.length,.snil,.snil,.snil,.snil]),none,some (.cells [.snil,.snil,.snil,.snil,.snil]),some (.row 3 (i.1.acc.map zat)),none]⟩) (fun i=>i.1.j) ⟨⟨l.length+1,[],0,by omega,by simp,r0,zxl r0⟩,Nat.le_refl _⟩ WFn ?_
  rintro ⟨⟨j,acc,k,hk,ha,hi,hg⟩,hj⟩
  replace hj:j≤l.length+1:=hj
  cases j with
  |zero=>cases hi
  |succ j=>
   rw [zjZ] at hi
   unfold pdG at hg
   have hrm:=zc8 (acc.length+1) 32 (by omega)
   cases r1:zoS l k with
   |out=>rw [r1] at hi;cases hi
   |bad k'=>rw [r1] at hi;cases hi
   |ok v k'=>
    have hq:=ztZ l k hk
    rw [r1] at hi hg hq
    have hq':k≤k'∧k'≤l.length:=hq
    cases v with
    |some v=>
     have hlt:=znD r1 hk
     replace hi:zhM l j (acc++[v]) k'=.ok vs k1:=hi
     replace hg:pdG l n j (acc++[v]) k'=vs:=hg
     have c1:=zCO (n:=n) hT hl hk hv r1
     repeat' first|refine Va (fA4 @kz zh8 hrm @vrA.eq_1) ?_|(with_reducible first|refine SB.c ?_ ?_<;>intro _|exact zad)|refine dC1 zgO c1 ?_|with_reducible refine zac ?_|omega
     exact ⟨⟨⟨j,acc++[v],k',hq'.2,by simp;omega,hi,hg⟩,by show j≤l.length+1;omega⟩,(WTe [0,1,2,3,5,4] (by simp [kwt,zat]) (by simp [kwt,zat])),by show j<j+1;omega⟩
    |none=>
     have c1:=zGc (n:=n) hT hl hk hv r1
     have hi2:PR.ok acc k'=PR.ok vs k1:=hi
     cases hi2
     clear hi hg
     repeat' first|refine Va (fA4 @kz zh8 hrm @vrA.eq_1) ?_|(with_reducible first|refine SB.c ?_ ?_<;>intro _|exact zad)|refine dC1 zgO c1 ?_|with_reducible refine zac ?_|omega
     refine zaI (ι:={i:HR l n R G // i.j≤l.length+1} ⊕ {u:Unit // ∃ kb,R=.bad kb}) (fun i=>match i with
      |.inl i=>⟨(.ref 0 0::.junk::.ref 3 0::.ref 1 0::.junk::.junk::.pv (.bool i.1.z.s)::.pv (.bool i.1.z.m)::.pv (.bool i.1.z.t)::.pv (.bool i.1.z.i)::jl 81 []),[some (okC l n i.1.k),some (pgC i.1.p),none,some (.cells [.pv (.slice []),.pv (.slice []),.pv (.slice []),.pv (.slice []),.pv (.slice [])]),none,none]⟩
      |.inr _=>⟨(.ref 0 0::.junk::.ref 3 0::.ref 1 0::jl 87 []),[some (fC l n R),some (pgC G),none,some (.cells [.pv (.slice []),.pv (.slice []),.pv (.slice []),.pv (.slice []),.pv (.slice [])]),none,none]⟩) (fun i=>match i with|.inl i=>i.1.j+1|.inr _=>0) (.inl ⟨⟨l.length+1,⟨vs,[],[],[],[]⟩,z0S,k1,hk1,hR,hG⟩,Nat.le_refl _⟩) ((za0.freeze 4 rfl).trans (za0.nz.trans (WFe (by simp [kwf,St.frz,zf6,frz,zf7,List.map_cons,List.map_nil,List.set_cons_zero,List.set_cons_succ,List.length_map,if_true,if_false,↓reduceIte,Nat.reduceEqDiff,eq_self,reduceCtorEq,Nat.succ_ne_self,St.nz,nzL,zbS,nzO,nz]) (by simp [kwf,St.frz,zf6,frz,zf7,List.map_cons,List.map_nil,List.set_cons_zero,List.set_cons_succ,List.length_map,if_true,if_false,↓reduceIte,Nat.reduceEqDiff,eq_self,reduceCtorEq,Nat.succ_ne_self,St.nz,nzL,zbS,nzO,nz])))) ?_
     clear hR hG
     rintro (⟨⟨j,p,z,k,hk,hi,hg⟩,hj⟩|⟨_,kb,hkb⟩)
     rotate_left
     ·subst hkb
      repeat' first|simp -implicitDefEqProofs +contextual (maxSteps:=9000000) only [kx,↓ky,zh8,simprocAttr,fC]|(with_reducible first|refine SB.c ?_ ?_<;>intro _|exact zad)|with_reducible refine zac ?_|omega
      refine ⟨_,za0.nz,?_⟩
      simp only [St.nz,nzL,zbS,nzO,nz]
      (refine zay.mk [0] ?_ ?_<;>simp [kwr,zh8,fP,fC,pgA])
     replace hj:j≤l.length+1:=hj
     cases j with
     |zero=>
      exfalso
      rw [←hi] at ho
      cases ho
     |succ j=>
      rw [zjA] at hi
      by_cases hlt:k<l.length
      rotate_left
      ·have hlt':¬ (k:Int)<l.length:=by omega
       rw [if_neg hlt] at hi
       subst hi
       repeat' first|refine Va (fA2 zh8 hlt') ?_|(with_reducible first|refine SB.c ?_ ?_<;>intro _|exact zad)|with_reducible refine zac ?_|omega
       refine ⟨_,za0.nz,?_⟩
       simp only [St.nz,nzL,zbS,nzO,nz]
       (refine zay.mk [0] ?_ ?_<;>simp [kwr,zh8,fP,fC,pgA])
      have hlt':(k:Int)<l.length:=by omega
      rw [if_pos hlt] at hi
      unfold zxk at hg
      by_cases e0:isT l k [111,110]=true
      rotate_left
      ·have r0:zaU l [111,110] k=.bad k:=by unfold zaU;rw [if_neg e0]
       have r1:zov l p z k=.bad k:=by unfold zov;rw [r0];rfl
       rw [r1] at hi hg
       replace hi:PR.bad k=R:=hi
       replace hg:hnG l n p z k k=G:=hg
       unfold hnG at hg
       rw [r0] at hg
       replace hg:p=G:=hg
       have f0:=zbi l n k _ hT rfl (by simpa using e0)
       have f9:=zfR l n k
       subst hi
       subst hg
       repeat' first|refine Va (fA3 @kz zh8 hlt') ?_|(with_reducible first|refine SB.c ?_ ?_<;>intro _|exact zad)|refine dC1 zab f0 ?_|refine dC1 zbH f9 ?_|with_reducible refine zac ?_|omega
       refine ⟨_,za0.nz,?_⟩
       simp only [St.nz,nzL,zbS,nzO,nz]
       (refine zay.mk [0] ?_ ?_<;>simp [kwr,zh8,fP,fC,pgA])
      have r0:zaU l [111,110] k=.ok () (k+1):=by unfold zaU;rw [if_pos e0]
      have f0:=zdl l n k _ hT rfl (by omega) e0
      have hkk:=zfR l n (k+1)
      have hn0:zov l p z k=znL l p z (k+1):=by unfold zov;rw [r0];rfl
      have hg0:∀ kb,hnG l n p z k kb=(if !z.s&&isT l (k+1) [115,116,97,114,116] then { p with start:=gBk l n (k+1+1) kb } else if !z.m&&isT l (k+1) [109,101,115,115,97,103,101] then { p with message:=gBk l n (k+1+1) kb } else if !z.t&&isT l (k+1) [116,105,99,107] then { p with tick:=gBk l n (k+1+1) kb } else if !z.i&&isT l (k+1) [105,110,112,117,116] then { p with input:=gBk l n (k+1+1) kb } else p):=fun kb=>by unfold hnG;rw [r0]
      rw [hn0] at hi hg
      unfold znL at hi hg
      by_cases g0:(!z.s&&isT l (k+1) [115,116,97,114,116])=true
      ·rw [if_pos g0] at hi hg
       have b0:z.s=false:=by simp at g0;exact g0.1
       have t0:isT l (k+1) [115,116,97,114,116]=true:=by simp at g0;exact g0.2
       have s0:=zdl l n (k+1) _ hT rfl (by omega) t0
       have hlt1:=zau t0 (by simp)
       cases r1:zbr l (k+1+1) with
       |out=>exact absurd r1 (zhW (by omega))
       |bad kb=>
        rw [r1] at hi hg
        replace hi:PR.bad kb=R:=hi
        replace hg:hnG l n p z k kb=G:=hg
        rw [hg0 kb,if_pos g0] at hg
        have c1:=zp8 (n:=n) hT hl (by omega) r1
        subst hg
        repeat' first|refine Va (fA6 @kz zh8 @lsA.eq_1 @Bool.and_false hlt' b0) ?_|(with_reducible first|refine SB.c ?_ ?_<;>intro _|exact zad)|refine dC1 zab f0 ?_|refine dC1 zab s0 ?_|refine dC1 za5 c1 ?_|with_reducible refine zac ?_|omega
        exact ⟨.inr ⟨(),kb,hi.symm⟩,(by subst hi;exact za0.nz.trans (WFe (by simp [kwf,fC,St.nz,nzL,zbS,nzO,nz]) (by simp [kwf,fC,St.nz,nzL,zbS,nzO,nz]))),by show 0<j+1+1;omega⟩
       |ok b k2=>
        rw [r1] at hi hg
        have hp2:k+1+1<k2∧k2≤l.length:=by have:=zdi (l:=l) (k:=k+1+1) (by omega);rw [r1] at this;exact this
        replace hi:zip l j { p with start:=b } ⟨true,z.m,z.t,z.i⟩ k2=R:=hi
        replace hg:zxk l n j { p with start:=b } ⟨true,z.m,z.t,z.i⟩ k2=G:=hg
        have c1:=zwM (n:=n) hT hl (by omega) r1
        repeat' first|refine Va (fA6 @kz zh8 @lsA.eq_1 @Bool.and_false hlt' b0) ?_|(with_reducible first|refine SB.c ?_ ?_<;>intro _|exact zad)|refine dC1 zab f0 ?_|refine dC1 zab s0 ?_|refine dC1 za5 c1 ?_|with_reducible refine zac ?_|omega
        exact ⟨.inl ⟨⟨j,{ p with start:=b },⟨true,z.m,z.t,z.i⟩,k2,hp2.2,hi,hg⟩,by show j≤l.length+1;omega⟩,za0.nz.trans (WFe (by simp [kwf,St.nz,nzL,zbS,nzO,nz]) (by simp [kwf,St.nz,nzL,zbS,nzO,nz])),by show j+1<j+1+1;omega⟩
      rw [if_neg g0] at hi hg
      have n0:(!z.s)=true→AC Tryz.prog gl 106 [.ref 0 0,.pv (.str [115,116,97,114,116])] (okO l n (k+1)) (.pv (.bool false)) (okO l n (k+1)):=fun hz=>zbi l n (k+1) _ hT rfl (by rw [hz] at g0;simpa using g0)
      by_cases g1:(!z.m&&isT l (k+1) [109,101,115,115,97,103,101])=true
      ·rw [if_pos g1] at hi hg
       have b1:z.m=false:=by simp at g1;exact g1.1
       have t1:isT l (k+1) [109,101,115,115,97,103,101]=true:=by simp at g1;exact g1.2
       have s1:=zdl l n (k+1) _ hT rfl (by omega) t1
       have hlt1:=zau t1 (by simp)
       cases r1:zbr l (k+1+1) with
       |out=>exact absurd r1 (zhW (by omega))
       |bad kb=>
        rw [r1] at hi hg
        replace hi:PR.bad kb=R:=hi
        replace hg:hnG l n p z k kb=G:=hg
        rw [hg0 kb,if_neg g0,if_pos g1] at hg
        have c1:=zp8 (n:=n) hT hl (by omega) r1
        subst hg
        repeat' first|refine Va (fA6 @kz zh8 @lsA.eq_1 @Bool.and_false hlt' b1) ?_|(with_reducible first|refine SB.c ?_ ?_<;>intro _|exact zad)|refine dC1 zab f0 ?_|refine CK.dq [0] zab n0 ?_|refine dC1 zab s1 ?_|refine dC1 za5 c1 ?_|with_reducible refine zac ?_|omega
        exact ⟨.inr ⟨(),kb,hi.symm⟩,(by subst hi;exact za0.nz.trans (WFe (by simp [kwf,fC,St.nz,nzL,zbS,nzO,nz]) (by simp [kwf,fC,St.nz,nzL,zbS,nzO,nz]))),by show 0<j+1+1;omega⟩
       |ok b k2=>
        rw [r1] at hi hg
        have hp2:k+1+1<k2∧k2≤l.length:=by have:=zdi (l:=l) (k:=k+1+1) (by omega);rw [r1] at this;exact this
        replace hi:zip l j { p with message:=b } ⟨z.s,true,z.t,z.i⟩ k2=R:=hi
        replace hg:zxk l n j { p with message:=b } ⟨z.s,true,z.t,z.i⟩ k2=G:=hg
        have c1:=zwM (n:=n) hT hl (by omega) r1
        repeat' first|refine Va (fA6 @kz zh8 @lsA.eq_1 @Bool.and_false hlt' b1) ?_|(with_reducible first|refine SB.c ?_ ?_<;>intro _|exact zad)|refine dC1 zab f0 ?_|refine CK.dq [0] zab n0 ?_|refine dC1 zab s1 ?_|refine dC1 za5 c1 ?_|with_reducible refine zac ?_|omega
        exact ⟨.inl ⟨⟨j,{ p with message:=b },⟨z.s,true,z.t,z.i⟩,k2,hp2.2,hi,hg⟩,by show j≤l.length+1;omega⟩,za0.nz.trans (WFe (by simp [kwf,St.nz,nzL,zbS,nzO,nz]) (by simp [kwf,St.nz,nzL,zbS,nzO,nz])),by show j+1<j+1+1;omega⟩
      rw [if_neg g1] at hi hg
      have n1:(!z.m)=true→AC Tryz.prog gl 106 [.ref 0 0,.pv (.str [109,101,115,115,97,103,101])] (okO l n (k+1)) (.pv (.bool false)) (okO l n (k+1)):=fun hz=>zbi l n (k+1) _ hT rfl (by rw [hz] at g1;simpa using g1)
      by_cases g2:(!z.t&&isT l (k+1) [116,105,99,107])=true
      ·rw [if_pos g2] at hi hg
       have b2:z.t=false:=by simp at g2;exact g2.1
       have t2:isT l (k+1) [116,105,99,107]=true:=by simp at g2;exact g2.2
       have s2:=zdl l n (k+1) _ hT rfl (by omega) t2
       have hlt1:=zau t2 (by simp)
       cases r1:zbr l (k+1+1) with
       |out=>exact absurd r1 (zhW (by omega))
       |bad kb=>
        rw [r1] at hi hg
        replace hi:PR.bad kb=R:=hi
        replace hg:hnG l n p z k kb=G:=hg
        rw [hg0 kb,if_neg g0,if_neg g1,if_pos g2] at hg
        have c1:=zp8 (n:=n) hT hl (by omega) r1
        subst hg
        repeat' first|refine Va (fA6 @kz zh8 @lsA.eq_1 @Bool.and_false hlt' b2) ?_|(with_reducible first|refine SB.c ?_ ?_<;>intro _|exact zad)|refine dC1 zab f0 ?_|refine CK.dq [0] zab n0 ?_|refine CK.dq [0] zab n1 ?_|refine dC1 zab s2 ?_|refine dC1 za5 c1 ?_|with_reducible refine zac ?_|omega
        exact ⟨.inr ⟨(),kb,hi.symm⟩,(by subst hi;exact za0.nz.trans (WFe (by simp [kwf,fC,St.nz,nzL,zbS,nzO,nz]) (by simp [kwf,fC,St.nz,nzL,zbS,nzO,nz]))),by show 0<j+1+1;omega⟩
       |ok b k2=>
        rw [r1] at hi hg
        have hp2:k+1+1<k2∧k2≤l.length:=by have:=zdi (l:=l) (k:=k+1+1) (by omega);rw [r1] at this;exact this
        replace hi:zip l j { p with tick:=b } ⟨z.s,z.m,true,z.i⟩ k2=R:=hi
        replace hg:zxk l n j { p with tick:=b } ⟨z.s,z.m,true,z.i⟩ k2=G:=hg
        have c1:=zwM (n:=n) hT hl (by omega) r1
        repeat' first|refine Va (fA6 @kz zh8 @lsA.eq_1 @Bool.and_false hlt' b2) ?_|(with_reducible first|refine SB.c ?_ ?_<;>intro _|exact zad)|refine dC1 zab f0 ?_|refine CK.dq [0] zab n0 ?_|refine CK.dq [0] zab n1 ?_|refine dC1 zab s2 ?_|refine dC1 za5 c1 ?_|with_reducible refine zac ?_|omega
        exact ⟨.inl ⟨⟨j,{ p with tick:=b },⟨z.s,z.m,true,z.i⟩,k2,hp2.2,hi,hg⟩,by show j≤l.length+1;omega⟩,za0.nz.trans (WFe (by simp [kwf,St.nz,nzL,zbS,nzO,nz]) (by simp [kwf,St.nz,nzL,zbS,nzO,nz])),by show j+1<j+1+1;omega⟩
      rw [if_neg g2] at hi hg
      have n2:(!z.t)=true→AC Tryz.prog gl 106 [.ref 0 0,.pv (.str [116,105,99,107])] (okO l n (k+1)) (.pv (.bool false)) (okO l n (k+1)):=fun hz=>zbi l n (k+1) _ hT rfl (by rw [hz] at g2;simpa using g2)
      by_cases g3:(!z.i&&isT l (k+1) [105,110,112,117,116])=true
      ·rw [if_pos g3] at hi hg
       have b3:z.i=false:=by simp at g3;exact g3.1
       have t3:isT l (k+1) [105,110,112,117,116]=true:=by simp at g3;exact g3.2
       have s3:=zdl l n (k+1) _ hT rfl (by omega) t3
       have hlt1:=zau t3 (by simp)
       cases r1:zbr l (k+1+1) with
       |out=>exact absurd r1 (zhW (by omega))
       |bad kb=>
        rw [r1] at hi hg
        replace hi:PR.bad kb=R:=hi
        replace hg:hnG l n p z k kb=G:=hg
        rw [hg0 kb,if_neg g0,if_neg g1,if_neg g2,if_pos g3] at hg
        have c1:=zp8 (n:=n) hT hl (by omega) r1
        subst hg
        repeat' first|refine Va (fA6 @kz zh8 @lsA.eq_1 @Bool.and_false hlt' b3) ?_|(with_reducible first|refine SB.c ?_ ?_<;>intro _|exact zad)|refine dC1 zab f0 ?_|refine CK.dq [0] zab n0 ?_|refine CK.dq [0] zab n1 ?_|refine CK.dq [0] zab n2 ?_|refine dC1 zab s3 ?_|refine dC1 za5 c1 ?_|with_reducible refine zac ?_|omega
        exact ⟨.inr ⟨(),kb,hi.symm⟩,(by subst hi;exact za0.nz.trans (WFe (by simp [kwf,fC,St.nz,nzL,zbS,nzO,nz]) (by simp [kwf,fC,St.nz,nzL,zbS,nzO,nz]))),by show 0<j+1+1;omega⟩
       |ok b k2=>
        rw [r1] at hi hg
        have hp2:k+1+1<k2∧k2≤l.length:=by have:=zdi (l:=l) (k:=k+1+1) (by omega);rw [r1] at this;exact this
        replace hi:zip l j { p with input:=b } ⟨z.s,z.m,z.t,true⟩ k2=R:=hi
        replace hg:zxk l n j { p with input:=b } ⟨z.s,z.m,z.t,true⟩ k2=G:=hg
        have c1:=zwM (n:=n) hT hl (by omega) r1
        repeat' first|refine Va (fA6 @kz zh8 @lsA.eq_1 @Bool.and_false hlt' b3) ?_|(with_reducible first|refine SB.c ?_ ?_<;>intro _|exact zad)|refine dC1 zab f0 ?_|refine CK.dq [0] zab n0 ?_|refine CK.dq [0] zab n1 ?_|refine CK.dq [0] zab n2 ?_|refine dC1 zab s3 ?_|refine dC1 za5 c1 ?_|with_reducible refine zac ?_|omega
        exact ⟨.inl ⟨⟨j,{ p with input:=b },⟨z.s,z.m,z.t,true⟩,k2,hp2.2,hi,hg⟩,by show j≤l.length+1;omega⟩,za0.nz.trans (WFe (by simp [kwf,St.nz,nzL,zbS,nzO,nz]) (by simp [kwf,St.nz,nzL,zbS,nzO,nz])),by show j+1<j+1+1;omega⟩
      rw [if_neg g3] at hi hg
      have n3:(!z.i)=true→AC Tryz.prog gl 106 [.ref 0 0,.pv (.str [105,110,112,117,116])] (okO l n (k+1)) (.pv (.bool false)) (okO l n (k+1)):=fun hz=>zbi l n (k+1) _ hT rfl (by rw [hz] at g3;simpa using g3)
      replace hi:PR.bad (k+1)=R:=hi
      replace hg:hnG l n p z k (k+1)=G:=hg
      rw [hg0 (k+1),if_neg g0,if_neg g1,if_neg g2,if_neg g3] at hg
      subst hg
      repeat' first|refine Va (fA4 @kz zh8 @Bool.and_false hlt') ?_|(with_reducible first|refine SB.c ?_ ?_<;>intro _|exact zad)|refine dC1 zab f0 ?_|refine CK.dq [0] zab n0 ?_|refine CK.dq [0] zab n1 ?_|refine CK.dq [0] zab n2 ?_|refine CK.dq [0] zab n3 ?_|refine dC1 zbH hkk ?_|with_reducible refine zac ?_|omega
      exact ⟨.inr ⟨(),k+1,hi.symm⟩,(by subst hi;exact za0.nz.trans (WFe (by simp [kwf,fC,St.nz,nzL,zbS,nzO,nz]) (by simp [kwf,fC,St.nz,nzL,zbS,nzO,nz]))),by show 0<j+1+1;omega⟩
end Go.Proofs.YtfinhhblcdkpgaaGreatDoor
