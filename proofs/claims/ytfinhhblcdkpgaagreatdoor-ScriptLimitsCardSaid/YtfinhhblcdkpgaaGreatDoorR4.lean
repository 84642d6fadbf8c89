/- A part of the walk (Tryz_R4): its theorems have no condition beyond what they state. -/
import Derived.Test.YtfinhhblcdkpgaaGreatDoorR3
set_option maxRecDepth 100000
set_option maxHeartbeats 64000000
set_option linter.unusedSimpArgs false
set_option linter.unusedVariables false
set_option linter.defProp false
namespace Go.Proofs.YtfinhhblcdkpgaaGreatDoor
open Go Go.Abs Go.RowKit
theorem zmh {l:List TkD} (hT:zbI l) {lv k:Nat} (h:¬ opF lv (zbF l k)=0):(l.getD k tk0).kind=3:=by
 have hlt:=zhN h
 obtain ⟨h1,h2,_,h4⟩:=zw7 h
 have hp:zbF l k=(l.getD k tk0).text:=by unfold zbF;rw [if_pos hlt]
 refine (hT k hlt).sign (s:=sgF (opF lv (zbF l k))) ?_ (by rw [h4,hp])
 generalize opF lv (zbF l k)=op at h1 h2
 have:op=10∨op=11∨op=12∨op=13∨op=14∨op=15∨op=16∨op=17∨op=18∨op=19∨op=20∨op=21∨op=22:=by omega
 rcases this with rfl|rfl|rfl|rfl|rfl|rfl|rfl|rfl|rfl|rfl|rfl|rfl|rfl<;>rfl
inductive LG (l:List TkD) (n lv kb:Nat) (G:Ex):Nat→Ex→Nat→Prop
 |stop (j:Nat) (e:Ex) (k:Nat) (g:Ex):¬ opF lv (zbF l k)=0→AC Tryz.prog gl 167 [.ref 0 0,.pv (.int .i64 ((lv+1:Nat):Int))] (okO l n (k+1)) (exA g) (flO l n kb (zar l n kb))→G=exB (opF lv (zbF l k):Nat) e g→LG l n lv kb G (j+1) e k
 |go (j:Nat) (e:Ex) (k:Nat) (e2:Ex) (k2:Nat):¬ opF lv (zbF l k)=0→AC Tryz.prog gl 167 [.ref 0 0,.pv (.int .i64 ((lv+1:Nat):Int))] (okO l n (k+1)) (exA e2) (okO l n k2)→LG l n lv kb G j (exB (opF lv (zbF l k):Nat) e e2) k2→LG l n lv kb G (j+1) e k
theorem LG.ex {l:List TkD} {n m lv kb:Nat} (hlv:lv<5)
  (hB:∀ j,j≤m→∀ lv k,lv≤5→k≤l.length→(exF l j (.bin lv) k).isOut=false→zhE 167 [.pv (.int .i64 lv)] l n k (exF l j (.bin lv) k)) :
  ∀ (j:Nat) (e:Ex) (k:Nat),j≤m→k≤l.length→exF l j (.loop lv e) k=.bad kb→∃ G,LG l n lv kb G j e k
 |0,_,_,_,_,h=>by cases h
 |j+1,e,k,hj,hk,h=>by
  rw [ziu] at h
  by_cases h0:opF lv (zbF l k)=0
  ·rw [if_pos h0] at h;cases h
  ·rw [if_neg h0] at h
   have hlt:=zhN h0
   have q:=hB j (by omega) (lv+1) (k+1) (by omega) (by omega)
   have hpast:=(zcq (l:=l) j (.bin (lv+1)) (k+1) (by omega)).2 rfl
   cases hr:exF l j (.bin (lv+1)) (k+1) with
   |out=>rw [hr] at h;cases h
   |bad k'=>
    rw [hr] at h q
    cases h
    obtain ⟨g,q1⟩:=q rfl
    exact ⟨_,.stop j e k g h0 q1 rfl⟩
   |ok e2 k2=>
    rw [hr] at h q hpast
    obtain ⟨G,hG⟩:=LG.ex hlv hB j _ k2 (by omega) hpast.2 h
    exact ⟨G,.go j e k e2 k2 h0 (q rfl) hG⟩
structure LK (l:List TkD) (lv:Nat) (R:PR Ex) where
 j:Nat
 e:Ex
 k:Nat
 hk:k≤l.length
 h:exF l j (.loop lv e) k=R
theorem ztW (l:List TkD) (n m lv k:Nat) (hT:zbI l) (hl:l.length≤100000) (hk:k≤l.length) (hlv:lv≤5)
  (hB:∀ j,j≤m→∀ lv k,lv≤5→k≤l.length→(exF l j (.bin lv) k).isOut=false→zhE 167 [.pv (.int .i64 lv)] l n k (exF l j (.bin lv) k))
  (hU:∀ k,k≤l.length→(exF l m .un k).isOut=false→zhE 188 [] l n k (exF l m .un k))
  (ho:(exF l (m+1) (.bin lv) k).isOut=false):zhE 167 [.pv (.int .i64 lv)] l n k (exF l (m+1) (.bin lv) k):=by
 have hwl:=zaQ lv (by omega)
 rw [zot] at ho ⊢
 by_cases h5:lv=5
 ·subst h5
  rw [if_pos rfl] at ho ⊢
  have c:=hU k hk ho
  cases hr:exF l m .un k with
  |out=>rw [hr] at ho;cases ho
  |ok e k'=>
   rw [hr] at c
   have c1:AC _ _ _ _ _ _ _:=c
   show AC _ _ _ _ _ _ _
   refine zax (fun d=>if d=4 then 1 else 2) 3 zoc ?_
   repeat' first|refine Va (fA4 @kz zdy @exA.eq_1 @kA) ?_|(with_reducible first|refine SB.c ?_ ?_<;>intro _|exact zad)|refine dC1 zdZ c1 ?_|with_reducible refine zac ?_|omega
   (refine zay.mk [0] ?_ ?_<;>simp [kwr,zdy,exA,zb7,zbq])
  |bad k'=>
   rw [hr] at c
   obtain ⟨e,c1⟩:=c
   refine ⟨e,?_⟩
   refine zax (fun d=>if d=4 then 1 else 2) 3 zoc ?_
   repeat' first|refine Va (fA4 @kz zdy @exA.eq_1 @kA) ?_|(with_reducible first|refine SB.c ?_ ?_<;>intro _|exact zad)|refine dC1 zdZ c1 ?_|with_reducible refine zac ?_|omega
   (refine zay.mk [0] ?_ ?_<;>simp [kwr,zdy,exA,zb7,zbq])
 ·rw [if_neg h5] at ho ⊢
  have h4:¬ (lv:Int) > 4:=by omega
  have c:=hB m (Nat.le_refl _) (lv+1) k (by omega) hk
  have hpast:=(zcq (l:=l) m (.bin (lv+1)) k hk).2 rfl
  cases hr:exF l m (.bin (lv+1)) k with
  |out=>rw [hr] at ho;cases ho
  |bad k'=>
   rw [hr] at c
   obtain ⟨e,c1⟩:=c rfl
   refine ⟨e,?_⟩
   refine zax (fun d=>if d=4 then 1 else 2) 3 zoc ?_
   repeat' first|refine Va (fA6 @kz zdy @exA.eq_1 @kA hwl h4) ?_|(with_reducible first|refine SB.c ?_ ?_<;>intro _|exact zad)|refine dC1 zak c1 ?_|with_reducible refine zac ?_|omega
   refine zaI (ι:=Unit) (fun _=>⟨(.ref 0 0::.pv (.int .i64 lv)::.junk::.junk::.ref 1 0::.ref 2 0::jl 84 []),[some (flC l n k' (zar l n k')),some (.cells [.pv (.int .i64 0),.pv (.int .i64 0),.pv (.str []),.pv (.int .i64 0),.pv (.int .i64 0),.snil]),some (.cells [.pv (.int .i64 e.op),.pv (.int .i64 e.value),.pv (.str e.name),.pv (.int .i64 e.slot),.pv (.int .i64 e.size),zlI e.args])]⟩) (fun _=>0) () (WFe (by simp [kwf,zbq,zb7]) (by simp [kwf,zbq,zb7])) ?_
   intro _
   repeat' first|refine Va (fA2 zdy @kA) ?_|(with_reducible first|refine SB.c ?_ ?_<;>intro _|exact zad)|with_reducible refine zac ?_|omega
   (refine zay.mk [0] ?_ ?_<;>simp [kwr,zdy,exA,zb7,zbq])
  |ok e k'=>
   rw [hr] at c ho hpast
   have c1:AC _ _ _ _ _ _ _:=c rfl
   have hp':k<k'∧k'≤l.length:=hpast
   simp only [PR.bind] at ho ⊢
   cases hR:exF l m (.loop lv e) k' with
   |out=>rw [hR] at ho;cases ho
   |ok ef kf=>
    show AC _ _ _ _ _ _ _
    refine zax (fun d=>if d=4 then 1 else 2) 3 zoc ?_
    repeat' first|refine Va (fA6 @kz zdy @exA.eq_1 @kA hwl h4) ?_|(with_reducible first|refine SB.c ?_ ?_<;>intro _|exact zad)|refine dC1 zak c1 ?_|with_reducible refine zac ?_|omega
    refine zaI (ι:={i:LK l lv (.ok ef kf) // i.j≤m}) (fun i=>⟨(.ref 0 0::.pv (.int .i64 lv)::.junk::.junk::.ref 1 0::.ref 2 0::jl 84 []),[some (okC l n i.1.k),some (.cells [.pv (.int .i64 0),.pv (.int .i64 0),.pv (.str []),.pv (.int .i64 0),.pv (.int .i64 0),.snil]),some (.cells [.pv (.int .i64 i.1.e.op),.pv (.int .i64 i.1.e.value),.pv (.str i.1.e.name),.pv (.int .i64 i.1.e.slot),.pv (.int .i64 i.1.e.size),zlI i.1.e.args])]⟩) (fun i=>i.1.j) ⟨⟨m,e,k',hp'.2,hR⟩,Nat.le_refl _⟩ (WFe (by simp [kwf,zbq,zb7]) (by simp [kwf,zbq,zb7])) ?_
    rintro ⟨⟨j,e,k,hk,hi⟩,hj⟩
    replace hj:j≤m:=hj
    cases j with
    |zero=>cases hi
    |succ j=>
     rw [ziu] at hi
     by_cases h0:opF lv (zbF l k)=0
     ·rw [if_pos h0] at hi
      cases hi
      by_cases hlt:kf<l.length
      ·have hlt':(kf:Int)<l.length:=by omega
       have hg:=zeW l kf hlt
       by_cases hk3:(l.getD kf tk0).kind=3
       ·have cL:=ziG lv (l.getD kf tk0).text (by omega)
        have hp:zbF l kf=(l.getD kf tk0).text:=by unfold zbF;rw [if_pos hlt]
        rw [←hp,h0] at cL
        rw [hk3,←hp] at hg
        repeat' first|refine Va (fA5 zdy hlt hlt' hg @kA) ?_|(with_reducible first|refine SB.c ?_ ?_<;>intro _|exact zad)|refine CK.d0 zgT cL ?_|with_reducible refine zac ?_|omega
        (refine zay.mk [0] ?_ ?_<;>simp [kwr,zdy,exA,zb7,zbq])
       ·have hk3':((l.getD kf tk0).kind==3)=false:=by simpa using hk3
        repeat' first|refine Va (fA6 zdy hlt hlt' hg hk3' @kA) ?_|(with_reducible first|refine SB.c ?_ ?_<;>intro _|exact zad)|with_reducible refine zac ?_|omega
        (refine zay.mk [0] ?_ ?_<;>simp [kwr,zdy,exA,zb7,zbq])
      ·have hlt':¬ (kf:Int)<l.length:=by omega
       repeat' first|refine Va (fA4 zdy hlt hlt' @kA) ?_|(with_reducible first|refine SB.c ?_ ?_<;>intro _|exact zad)|with_reducible refine zac ?_|omega
       (refine zay.mk [0] ?_ ?_<;>simp [kwr,zdy,exA,zb7,zbq])
     ·rw [if_neg h0] at hi
      have hlt:=zhN h0
      have hk3:=zmh hT h0
      have hlt':(k:Int)<l.length:=by omega
      have hg:=zeW l k hlt
      have cL:=ziG lv (l.getD k tk0).text (by omega)
      have hp:zbF l k=(l.getD k tk0).text:=by unfold zbF;rw [if_pos hlt]
      rw [←hp] at cL
      rw [hk3,←hp] at hg
      have hw:=zaQ k (by omega)
      have d:=hB j (by omega) (lv+1) (k+1) (by omega) (by omega)
      have hpd:=(zcq (l:=l) j (.bin (lv+1)) (k+1) (by omega)).2 rfl
      generalize hop:opF lv (zbF l k)=op at *
      have hgt:(op:Int) > 0:=by omega
      cases hr2:exF l j (.bin (lv+1)) (k+1) with
      |out=>rw [hr2] at hi;cases hi
      |bad k2=>rw [hr2] at hi;cases hi
      |ok e2 k2=>
       rw [hr2] at d hi hpd
       have d1:AC _ _ _ _ _ _ _:=d rfl
       replace hi:exF l j (.loop lv (exB op e e2)) k2=.ok ef kf:=hi
       have hp2:k+1<k2∧k2≤l.length:=hpd
       repeat' first|refine Va (zj4 @kz zdy hlt hlt' hg hgt hw hwl @exA.eq_1 @kA) ?_|(with_reducible first|refine SB.c ?_ ?_<;>intro _|exact zad)|refine CK.d0 zgT cL ?_|refine dC1 zak d1 ?_|with_reducible refine zac ?_|omega
       exact ⟨⟨⟨j,exB op e e2,k2,hp2.2,hi⟩,by show j≤m;omega⟩,(WFe (by simp [kwf,exB,Ex.op,Ex.value,Ex.name,Ex.slot,Ex.size,Ex.args,zbC,zaC]) (by simp [kwf,exB,Ex.op,Ex.value,Ex.name,Ex.slot,Ex.size,Ex.args,zbC,zaC])),by show j<j+1;omega⟩
   |bad kb=>
    obtain ⟨G,hG⟩:=LG.ex (n:=n) (by omega) hB m e k' (Nat.le_refl _) hp'.2 hR
    refine ⟨G,?_⟩
    refine zax (fun d=>if d=4 then 1 else 2) 3 zoc ?_
    repeat' first|refine Va (fA6 @kz zdy @exA.eq_1 @kA hwl h4) ?_|(with_reducible first|refine SB.c ?_ ?_<;>intro _|exact zad)|refine dC1 zak c1 ?_|with_reducible refine zac ?_|omega
    refine zaI (ι:={i:Nat × Ex × Nat // LG l n lv kb G i.1 i.2.1 i.2.2} ⊕ Unit) (fun i=>match i with
      |.inl i=>⟨(.ref 0 0::.pv (.int .i64 lv)::.junk::.junk::.ref 1 0::.ref 2 0::jl 84 []),[some (okC l n i.1.2.2),some (.cells [.pv (.int .i64 0),.pv (.int .i64 0),.pv (.str []),.pv (.int .i64 0),.pv (.int .i64 0),.snil]),some (.cells [.pv (.int .i64 i.1.2.1.op),.pv (.int .i64 i.1.2.1.value),.pv (.str i.1.2.1.name),.pv (.int .i64 i.1.2.1.slot),.pv (.int .i64 i.1.2.1.size),zlI i.1.2.1.args])]⟩
      |.inr _=>⟨(.ref 0 0::.pv (.int .i64 lv)::.junk::.junk::.ref 1 0::.ref 2 0::jl 84 []),[some (flC l n kb (zar l n kb)),some (.cells [.pv (.int .i64 0),.pv (.int .i64 0),.pv (.str []),.pv (.int .i64 0),.pv (.int .i64 0),.snil]),some (.cells [.pv (.int .i64 G.op),.pv (.int .i64 G.value),.pv (.str G.name),.pv (.int .i64 G.slot),.pv (.int .i64 G.size),zlI G.args])]⟩) (fun i=>match i with|.inl i=>i.1.1+1|.inr _=>0) (.inl ⟨(m,e,k'),hG⟩) (WFe (by simp [kwf,zbq,zb7]) (by simp [kwf,zbq,zb7])) ?_
    rintro (⟨⟨j,e,k⟩,hi⟩|_)
    ·replace hi:LG l n lv kb G j e k:=hi
     cases hi with
     |stop j _ _ g h0 q hGe=>
      have hlt:=zhN h0
      have hk3:=zmh hT h0
      have hlt':(k:Int)<l.length:=by omega
      have hg:=zeW l k hlt
      have cL:=ziG lv (l.getD k tk0).text (by omega)
      have hp:zbF l k=(l.getD k tk0).text:=by unfold zbF;rw [if_pos hlt]
      rw [←hp] at cL
      rw [hk3,←hp] at hg
      have hw:=zaQ k (by omega)
      generalize hop:opF lv (zbF l k)=op at *
      have hgt:(op:Int) > 0:=by omega
      subst hGe
      repeat' first|refine Va (zj4 @kz zdy hlt hlt' hg hgt hw hwl @exA.eq_1 @kA) ?_|(with_reducible first|refine SB.c ?_ ?_<;>intro _|exact zad)|refine CK.d0 zgT cL ?_|refine dC1 zak q ?_|with_reducible refine zac ?_|omega
      exact ⟨.inr (),(WFe (by simp [kwf,exB,Ex.op,Ex.value,Ex.name,Ex.slot,Ex.size,Ex.args,zbC,zaC]) (by simp [kwf,exB,Ex.op,Ex.value,Ex.name,Ex.slot,Ex.size,Ex.args,zbC,zaC])),by show 0<j+1+1;omega⟩
     |go j _ _ e2 k2 h0 q hG2=>
      have hlt:=zhN h0
      have hk3:=zmh hT h0
      have hlt':(k:Int)<l.length:=by omega
      have hg:=zeW l k hlt
      have cL:=ziG lv (l.getD k tk0).text (by omega)
      have hp:zbF l k=(l.getD k tk0).text:=by unfold zbF;rw [if_pos hlt]
      rw [←hp] at cL
      rw [hk3,←hp] at hg
      have hw:=zaQ k (by omega)
      generalize hop:opF lv (zbF l k)=op at *
      have hgt:(op:Int) > 0:=by omega
      repeat' first|refine Va (zj4 @kz zdy hlt hlt' hg hgt hw hwl @exA.eq_1 @kA) ?_|(with_reducible first|refine SB.c ?_ ?_<;>intro _|exact zad)|refine CK.d0 zgT cL ?_|refine dC1 zak q ?_|with_reducible refine zac ?_|omega
      exact ⟨.inl ⟨(j,exB op e e2,k2),hG2⟩,(WFe (by simp [kwf,exB,Ex.op,Ex.value,Ex.name,Ex.slot,Ex.size,Ex.args,zbC,zaC]) (by simp [kwf,exB,Ex.op,Ex.value,Ex.name,Ex.slot,Ex.size,Ex.args,zbC,zaC])),by show j+1<j+1+1;omega⟩
    ·repeat' first|refine Va (fA2 zdy @kA) ?_|(with_reducible first|refine SB.c ?_ ?_<;>intro _|exact zad)|with_reducible refine zac ?_|omega
     (refine zay.mk [0] ?_ ?_<;>simp [kwr,zdy,exA,zb7,zbq])
theorem zk0 (l:List TkD) (n:Nat) (hT:zbI l) (hl:l.length≤100000):∀ m j,j≤m →
  (∀ lv k,lv≤5→k≤l.length→(exF l j (.bin lv) k).isOut=false→zhE 167 [.pv (.int .i64 lv)] l n k (exF l j (.bin lv) k)) ∧
  (∀ k,k≤l.length→(exF l j .un k).isOut=false→zhE 188 [] l n k (exF l j .un k)) ∧
  (∀ k,k≤l.length→(exF l j .prim k).isOut=false→zhE 198 [] l n k (exF l j .prim k))
 |0,j,hj=>by
  have:j=0:=by omega
  subst this
  exact ⟨fun _ _ _ _ h=>(by cases h),fun _ _ h=>(by cases h),fun _ _ h=>(by cases h)⟩
 |m+1,j,hj=>by
  have ih:=zk0 l n hT hl m
  by_cases hjm:j≤m
  ·exact ih j hjm
  ·have:j=m+1:=by omega
   subst this
   obtain ⟨i1,i2,i3⟩:=ih m (Nat.le_refl _)
   exact ⟨fun lv k h1 h2 h3=>ztW l n m lv k hT hl h2 h1 (fun j hj=>(ih j hj).1) i2 h3,
    fun k h2 h3=>zoQ l n m k hT hl h2 i2 i3 h3,
    fun k h2 h3=>zro l n m k hT hl h2 (fun k h=>i1 0 k (by omega) h) h3⟩
theorem znC (l:List TkD) (n k:Nat) (hT:zbI l) (hl:l.length≤100000) (hk:k≤l.length):zhE 167 [.pv (.int .i64 0)] l n k (zbl l k):=
 (zk0 l n hT hl _ _ (Nat.le_refl _)).1 0 k (by omega) hk (zef hk)
end Go.Proofs.YtfinhhblcdkpgaaGreatDoor
