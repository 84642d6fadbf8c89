/- A part of the walk (Tryz_P6): its theorems have no condition beyond what they state. -/
import Derived.Test.YtfinhhblcdkpgaaGreatDoorP5
import Derived.Test.YtfinhhblcdkpgaaGreatDoorLib3
set_option maxRecDepth 100000
set_option maxHeartbeats 64000000
set_option linter.unusedSimpArgs false
set_option linter.unusedVariables false
set_option linter.defProp false
namespace Go.Proofs.YtfinhhblcdkpgaaGreatDoor
open Go Go.Abs Go.RowKit
def zIA (site:Nat→Nat) (nobj:Nat) (rs:List ResultVar) (l:List TkD) (n:Nat):PR Ex→Exit→St→Prop
 |.ok e k'=>zay (zbs site nobj) 1 rs (exA e) (psO l n k')
 |.bad k'=>zci 1 (fv l n k') (psO l n k')
 |.out=>fun _ _=>True
theorem zF8 {f:FuncId} {code:Code} (site:Nat→Nat) (nobj:Nat) {nt:Nat} {rs:List ResultVar} (hF:FI Tryz.prog f code nt rs) {args:List AVal} {l:List TkD} {n k:Nat} {r:PR Ex}
  (h:VC Tryz.prog (zbs site nobj) 1 code ⟨(AVal.ref 0 0::args)++List.replicate (nt - (AVal.ref 0 0::args).length) .junk,psO l n k++List.replicate (nobj - (psO l n k).length) none⟩ (zIA site nobj rs l n r)) (hargs:(AVal.ref 0 0::args).length≤nt:=by simp) (hobjs:(psO l n k).length≤nobj:=by simp) (hr:r.isOut=false:=by assumption):znv f args l n k r:=by
 cases r with
 |ok e k'=>exact zax site nobj hF h hargs hobjs
 |bad k'=>exact zbO site nobj hF h hargs hobjs
 |out=>cases hr
structure LI (l:List TkD) (lv:Nat) (R:PR Ex) where
 j:Nat
 e:Ex
 k:Nat
 hk:k≤l.length
 h:exF l j (.loop lv e) k=R
theorem zoJ (l:List TkD) (n m lv k:Nat) (hl:l.length≤100000) (hk:k≤l.length) (hlv:lv≤5)
  (hB:∀ j,j≤m→∀ lv k,lv≤5→k≤l.length→(exF l j (.bin lv) k).isOut=false→znv 199 [.pv (.int .i64 lv)] l n k (exF l j (.bin lv) k))
  (hU:∀ k,k≤l.length→(exF l m .un k).isOut=false→znv 201 [] l n k (exF l m .un k))
  (ho:(exF l (m+1) (.bin lv) k).isOut=false):znv 199 [.pv (.int .i64 lv)] l n k (exF l (m+1) (.bin lv) k):=by
 have hwl:=zaQ lv (by omega)
 rw [zot] at ho ⊢
 by_cases h5:lv=5
 ·subst h5
  rw [if_pos rfl] at ho ⊢
  have c:=hU k hk ho
  cases hr:exF l m .un k with
  |out=>rw [hr] at ho;cases ho
  |ok e k'=>
   rw [hr] at c
   have c1:AC _ _ _ _ _ _ _:=c
   show AC _ _ _ _ _ _ _
   refine zax (fun d=>if d=2 then 1 else if d=3 then 2 else if d=4 then 3 else 4) 5 zvH ?_
   repeat' first|refine Va (fA4 @kz zlx @exA.eq_1 @kA) ?_|(with_reducible first|refine SB.c ?_ ?_<;>intro _|exact zad)|refine dC1 zev c1 ?_|with_reducible refine zac ?_|omega
   (refine zay.mk [0] ?_ ?_<;>simp [kwr,zlx,exA,zb7,zbq])
  |bad k'=>
   rw [hr] at c
   have c1:AP _ _ _ _ _ _ _:=c
   show AP _ _ _ _ _ _ _
   refine zbO (fun d=>if d=2 then 1 else if d=3 then 2 else if d=4 then 3 else 4) 5 zvH ?_
   repeat' first|refine Va (fA4 @kz zlx @exA.eq_1 @kA) ?_|(with_reducible first|refine SB.c ?_ ?_<;>intro _|exact zad|refine fun (_:List AVal)=>?_)|refine CK.dp [0] [] zev c1 ?_|with_reducible refine zac ?_|omega
   (refine zci.mk [0] ?_<;>simp [kwt])
 ·rw [if_neg h5] at ho ⊢
  have h5':((lv:Int)==5)=false:=by simp;omega
  have c:=hB m (Nat.le_refl _) (lv+1) k (by omega) hk
  have hpast:=(zcq (l:=l) m (.bin (lv+1)) k hk).2 rfl
  cases hr:exF l m (.bin (lv+1)) k with
  |out=>rw [hr] at ho;cases ho
  |bad k'=>
   rw [hr] at c
   have c1:AP _ _ _ _ _ _ _:=c rfl
   show AP _ _ _ _ _ _ _
   refine zbO (fun d=>if d=2 then 1 else if d=3 then 2 else if d=4 then 3 else 4) 5 zvH ?_
   repeat' first|refine Va (fA6 @kz zlx @exA.eq_1 @kA h5' hwl) ?_|(with_reducible first|refine SB.c ?_ ?_<;>intro _|exact zad|refine fun (_:List AVal)=>?_)|refine CK.dp [0] [] zas c1 ?_|with_reducible refine zac ?_|omega
   (refine zci.mk [0] ?_<;>simp [kwt])
  |ok e k'=>
   rw [hr] at c ho hpast
   have c1:AC _ _ _ _ _ _ _:=c rfl
   have hp':k<k'∧k'≤l.length:=hpast
   simp only [PR.bind] at ho ⊢
   generalize hR:exF l m (.loop lv e) k'=R at *
   have cN:=ztH l n lv k' (by omega)
   refine zF8 (fun d=>if d=2 then 1 else if d=3 then 2 else if d=4 then 3 else 4) 5 zvH ?_
   repeat' first|refine Va (fA6 @kz zlx @exA.eq_1 @kA h5' hwl) ?_|(with_reducible first|refine SB.c ?_ ?_<;>intro _|exact zad|refine fun (_:List AVal)=>?_)|refine dC1 zas c1 ?_|refine CK.dx [2,1,0] [] zm0 cN ?_|with_reducible refine zac ?_|omega
   refine zaI (ι:={i:LI l lv R // i.j≤m}) (fun i=>⟨(.junk::.junk::.ref 1 0::.ref 2 0::.ref 3 0::.clo 202 [.ref 2 0,.ref 1 0]::.ref 4 0::.pv (.int .i64 (opF lv (zbF l i.1.k):Nat))::jl 24 []),[some (psC l n (nxK l lv i.1.k)),some (.cells [.ref 0 0]),some (.cells [.pv (.int .i64 lv)]),some (.cells [.pv (.int .i64 0),.pv (.int .i64 0),.pv (.str []),.pv (.int .i64 0),.pv (.int .i64 0),.snil]),some (.cells [.pv (.int .i64 i.1.e.op),.pv (.int .i64 i.1.e.value),.pv (.str i.1.e.name),.pv (.int .i64 i.1.e.slot),.pv (.int .i64 i.1.e.size),zlI i.1.e.args])]⟩) (fun i=>i.1.j) ⟨⟨m,e,k',hp'.2,hR⟩,Nat.le_refl _⟩ (WFe (by simp [kwf,zbq,zb7]) (by simp [kwf,zbq,zb7])) ?_
   rintro ⟨⟨j,e,k,hk,hi⟩,hj⟩
   replace hj:j≤m:=hj
   cases j with
   |zero=>
    exfalso
    rw [←hi] at ho
    cases ho
   |succ j=>
    rw [ziu] at hi
    by_cases h0:opF lv (zbF l k)=0
    ·have hnx:nxK l lv k=k:=by unfold nxK;rw [if_pos h0]
     rw [if_pos h0] at hi
     subst hi
     repeat' first|refine Va (fA4 zlx h0 hnx @kA) ?_|(with_reducible first|refine SB.c ?_ ?_<;>intro _|exact zad|refine fun (_:List AVal)=>?_)|with_reducible refine zac ?_|omega
     (refine zay.mk [0] ?_ ?_<;>simp [kwr,zlx,exA,zb7,zbq])
    ·have hnx:nxK l lv k=k+1:=by unfold nxK;rw [if_neg h0]
     have hlt:=zhN h0
     rw [if_neg h0] at hi
     generalize hop:opF lv (zbF l k)=op at *
     have h0':((op:Int) != 0)=true:=by simp;omega
     have d:=hB j (by omega) (lv+1) (k+1) (by omega) (by omega)
     have hpd:=(zcq (l:=l) j (.bin (lv+1)) (k+1) (by omega)).2 rfl
     cases hr2:exF l j (.bin (lv+1)) (k+1) with
     |out=>rw [hr2] at hi;rw [←hi] at ho;cases ho
     |bad k2=>
      rw [hr2] at d hi
      have d1:AP _ _ _ _ _ _ _:=d rfl
      replace hi:PR.bad k2=R:=hi
      subst hi
      repeat' first|refine Va (fA7 @kz zlx h0' hnx hwl @exA.eq_1 @kA) ?_|(with_reducible first|refine SB.c ?_ ?_<;>intro _|exact zad|refine fun (_:List AVal)=>?_)|refine CK.dp [0] [] zas d1 ?_|with_reducible refine zac ?_|omega
      (refine zci.mk [0] ?_<;>simp [kwt])
     |ok e2 k2=>
      rw [hr2] at d hi hpd
      have d1:AC _ _ _ _ _ _ _:=d rfl
      replace hi:exF l j (.loop lv (exB op e e2)) k2=R:=hi
      have hp2:k+1<k2∧k2≤l.length:=hpd
      have dN:=ztH l n lv k2 (by omega)
      repeat' first|refine Va (fA7 @kz zlx h0' hnx hwl @exA.eq_1 @kA) ?_|(with_reducible first|refine SB.c ?_ ?_<;>intro _|exact zad|refine fun (_:List AVal)=>?_)|refine dC1 zas d1 ?_|refine CK.dx [2,1,0] [] zm0 dN ?_|with_reducible refine zac ?_|omega
      exact ⟨⟨⟨j,exB op e e2,k2,hp2.2,hi⟩,by show j≤m;omega⟩,(WFe (by simp [kwf,exB,Ex.op,Ex.value,Ex.name,Ex.slot,Ex.size,Ex.args,zbC,zaC]) (by simp [kwf,exB,Ex.op,Ex.value,Ex.name,Ex.slot,Ex.size,Ex.args,zbC,zaC])),by show j<j+1;omega⟩
theorem ztL (l:List TkD) (n m k:Nat) (hl:l.length≤100000) (hk:k≤l.length)
  (hB:∀ k,k≤l.length→(exF l m (.bin 0) k).isOut=false→znv 199 [.pv (.int .i64 0)] l n k (exF l m (.bin 0) k))
  (ho:(exF l (m+1) .prim k).isOut=false):znv 204 [] l n k (exF l (m+1) .prim k):=by
 rw [zeN] at ho ⊢
 by_cases h0:zd6 l k=true
 ·rw [if_pos h0]
  cases hr:nmF l 0 k with
  |ok v k'=>exact zwx l n k k' v hl h0 hr
  |bad k'=>exact ztJ l n k k' hl h0 hr
  |out=>have:=zhv (l:=l) (z:=0) (k:=k);rw [hr] at this;cases this
 rw [if_neg h0] at ho ⊢
 replace h0:zd6 l k=false:=by simpa using h0
 by_cases e0:isT l k [115,101,108,102]=true
 ·rw [if_pos e0];exact zzr l n k hl h0 e0
 rw [if_neg e0] at ho ⊢
 replace e0:isT l k [115,101,108,102]=false:=by simpa using e0
 by_cases e1:isT l k [112,114,111,99,115]=true
 ·rw [if_pos e1];exact zzs l n k hl h0 e0 e1
 rw [if_neg e1] at ho ⊢
 replace e1:isT l k [112,114,111,99,115]=false:=by simpa using e1
 by_cases e2:isT l k [102,114,111,109]=true
 ·rw [if_pos e2];exact zzt l n k hl h0 e0 e1 e2
 rw [if_neg e2] at ho ⊢
 replace e2:isT l k [102,114,111,109]=false:=by simpa using e2
 by_cases e3:isT l k [118,97,108,117,101]=true
 ·rw [if_pos e3];exact zzu l n k hl h0 e0 e1 e2 e3
 rw [if_neg e3] at ho ⊢
 replace e3:isT l k [118,97,108,117,101]=false:=by simpa using e3
 by_cases e4:isT l k [40]=true
 ·rw [if_pos e4] at ho ⊢
  have hlt:=zau e4 (by simp)
  have h1:(exF l m (.bin 0) (k+1)).isOut=false:=by
   cases hr:exF l m (.bin 0) (k+1) with
   |out=>rw [hr] at ho;cases ho
   |_=>rfl
  exact zwy l n k _ hl h0 e0 e1 e2 e3 e4 (hB (k+1) (by omega) h1) ((zcq m (.bin 0) (k+1) (by omega)).2 rfl) h1
 rw [if_neg e4] at ho ⊢
 replace e4:isT l k [40]=false:=by simpa using e4
 cases hr:zdz l k with
 |out=>have:=zdL (l:=l) (k:=k);rw [hr] at this;cases this
 |bad k'=>exact zrc l n k k' hl hk h0 e0 e1 e2 e3 e4 hr
 |ok nm k1=>
  rw [hr] at ho
  simp only [PR.bind] at ho ⊢
  by_cases e5:isT l k1 [91]=true
  ·rw [if_pos e5] at ho ⊢
   have hlt:=zau e5 (by simp)
   have h1:(exF l m (.bin 0) (k1+1)).isOut=false:=by
    cases hr:exF l m (.bin 0) (k1+1) with
    |out=>rw [hr] at ho;cases ho
    |_=>rfl
   exact zwz l n k k1 nm _ hl h0 e0 e1 e2 e3 e4 hr e5 (hB (k1+1) (by omega) h1) ((zcq m (.bin 0) (k1+1) (by omega)).2 rfl) h1
  ·rw [if_neg e5]
   exact ztK l n k k1 nm hl h0 e0 e1 e2 e3 e4 hr (by simpa using e5)
theorem znw (l:List TkD) (n:Nat) (hl:l.length≤100000):∀ m j,j≤m →
  (∀ lv k,lv≤5→k≤l.length→(exF l j (.bin lv) k).isOut=false→znv 199 [.pv (.int .i64 lv)] l n k (exF l j (.bin lv) k)) ∧
  (∀ k,k≤l.length→(exF l j .un k).isOut=false→znv 201 [] l n k (exF l j .un k)) ∧
  (∀ k,k≤l.length→(exF l j .prim k).isOut=false→znv 204 [] l n k (exF l j .prim k))
 |0,j,hj=>by
  have:j=0:=by omega
  subst this
  exact ⟨fun _ _ _ _ h=>(by cases h),fun _ _ h=>(by cases h),fun _ _ h=>(by cases h)⟩
 |m+1,j,hj=>by
  have ih:=znw l n hl m
  by_cases hjm:j≤m
  ·exact ih j hjm
  ·have:j=m+1:=by omega
   subst this
   obtain ⟨i1,i2,i3⟩:=ih m (Nat.le_refl _)
   exact ⟨fun lv k h1 h2 h3=>zoJ l n m lv k hl h2 h1 (fun j hj=>(ih j hj).1) i2 h3,
    fun k h2 h3=>zrb l n m k hl h2 i2 i3 h3,
    fun k h2 h3=>ztL l n m k hl h2 (fun k h=>i1 0 k (by omega) h) h3⟩
theorem zpV (l:List TkD) (n k:Nat) (hl:l.length≤100000) (hk:k≤l.length):znv 199 [.pv (.int .i64 0)] l n k (zbl l k):=
 (znw l n hl _ _ (Nat.le_refl _)).1 0 k (by omega) hk (zef hk)
def zjO {α:Type} (enc:α→AVal) (f:FuncId) (args:List AVal) (l:List TkD) (n k:Nat):PR α→Prop
 |.ok e k'=>AC Tryz.prog gl f (.ref 0 0::args) (psO l n k) (enc e) (psO l n k')
 |.bad k'=>AP Tryz.prog gl f (.ref 0 0::args) (psO l n k) (fv l n k') (psO l n k')
 |.out=>True
def zIB {α:Type} (enc:α→AVal) (site:Nat→Nat) (nobj:Nat) (rs:List ResultVar) (l:List TkD) (n:Nat):PR α→Exit→St→Prop
 |.ok e k'=>zys (zbs site nobj) 1 (zay (zbs site nobj) 1 rs (enc e) (psO l n k'))
 |.bad k'=>zci 1 (fv l n k') (psO l n k')
 |.out=>fun _ _=>True
theorem zma {α:Type} (enc:α→AVal) {f:FuncId} {code:Code} (site:Nat→Nat) (nobj:Nat) {nt:Nat} {rs:List ResultVar} (hF:FI Tryz.prog f code nt rs) {args:List AVal} {l:List TkD} {n k:Nat} {r:PR α}
  (h:VC Tryz.prog (zbs site nobj) 1 code ⟨(AVal.ref 0 0::args)++List.replicate (nt - (AVal.ref 0 0::args).length) .junk,psO l n k++List.replicate (nobj - (psO l n k).length) none⟩ (zIB enc site nobj rs l n r)) (hargs:(AVal.ref 0 0::args).length≤nt:=by simp) (hobjs:(psO l n k).length≤nobj:=by simp) (hr:r.isOut=false:=by assumption):zjO enc f args l n k r:=by
 cases r with
 |ok e k'=>exact zbw site nobj hF h hargs hobjs
 |bad k'=>exact zbO site nobj hF h hargs hobjs
 |out=>cases hr
end Go.Proofs.YtfinhhblcdkpgaaGreatDoor
