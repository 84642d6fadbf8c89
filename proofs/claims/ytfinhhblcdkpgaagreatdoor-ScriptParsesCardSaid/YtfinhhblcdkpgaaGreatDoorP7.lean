/- A part of the walk (Tryz_P6): its theorems have no condition beyond what they state. -/
import Derived.Test.YtfinhhblcdkpgaaGreatDoorLib2
import Derived.Test.YtfinhhblcdkpgaaGreatDoorP5
import Derived.Test.YtfinhhblcdkpgaaGreatDoorLib3
set_option maxRecDepth 100000
set_option maxHeartbeats 64000000
set_option linter.unusedSimpArgs false
set_option linter.unusedVariables false
namespace Go.Proofs.YtfinhhblcdkpgaaGreatDoor
open Go Go.Abs Go.RowKit
def zKc (site:Nat→Nat) (nobj:Nat) (rs:List ResultVar) (l:List TkD) (n:Nat):PR Ex→Exit→St→Prop
 |.ok e k'=>zax (zb7 site nobj) 1 rs (exA e) (psO l n k')
 |.bad k'=>zct 1 (fv l n k') (psO l n k')
 |.out=>fun _ _=>True
theorem zHG {f:FuncId} {code:Code} (site:Nat→Nat) (nobj:Nat) {nt:Nat} {rs:List ResultVar} (hF:FI Tryz.prog f code nt rs) {args:List AVal} {l:List TkD} {n k:Nat} {r:PR Ex}
  (h:VC Tryz.prog (zb7 site nobj) 1 code ⟨(AVal.ref 0 0::args)++List.replicate (nt - (AVal.ref 0 0::args).length) .junk,psO l n k++List.replicate (nobj - (psO l n k).length) none⟩ (zKc site nobj rs l n r)) (hargs:(AVal.ref 0 0::args).length≤nt:=by simp) (hobjs:(psO l n k).length≤nobj:=by simp) (hr:r.isOut=false:=by assumption):znV f args l n k r:=by
 cases r with
 |ok e k'=>exact zat site nobj hF h hargs hobjs
 |bad k'=>exact zbY site nobj hF h hargs hobjs
 |out=>cases hr
structure LI (l:List TkD) (lv:Nat) (R:PR Ex) where
 j:Nat
 e:Ex
 k:Nat
 hk:k≤l.length
 h:exF l j (.loop lv e) k=R
theorem zpf (l:List TkD) (n m lv k:Nat) (hl:l.length≤100000) (hk:k≤l.length) (hlv:lv≤5)
  (hB:∀ j,j≤m→∀ lv k,lv≤5→k≤l.length→(exF l j (.bin lv) k).isOut=false→znV 199 [.pv (.int .i64 lv)] l n k (exF l j (.bin lv) k))
  (hU:∀ k,k≤l.length→(exF l m .un k).isOut=false→znV 201 [] l n k (exF l m .un k))
  (ho:(exF l (m+1) (.bin lv) k).isOut=false):znV 199 [.pv (.int .i64 lv)] l n k (exF l (m+1) (.bin lv) k):=by
 have hwl:=zaP lv (by omega)
 rw [zo3] at ho ⊢
 by_cases h5:lv=5
 ·subst h5
  rw [if_pos rfl] at ho ⊢
  have c:=hU k hk ho
  cases hr:exF l m .un k with
  |out=>rw [hr] at ho;cases ho
  |ok e k'=>
   rw [hr] at c
   have c1:AC _ _ _ _ _ _ _:=c
   show AC _ _ _ _ _ _ _
   refine zat (fun d=>if d=2 then 1 else if d=3 then 2 else if d=4 then 3 else 4) 5 zwS ?_
   refine Wk1 (fA5 @kz zlW @exA.eq_1 @kA (cX [0] [] zeK c1)) ?_
   (refine zax.mk [0] ?_ ?_<;>simp [kwr,zlW,exA,zch,zbx])
  |bad k'=>
   rw [hr] at c
   have c1:AP _ _ _ _ _ _ _:=c
   show AP _ _ _ _ _ _ _
   refine zbY (fun d=>if d=2 then 1 else if d=3 then 2 else if d=4 then 3 else 4) 5 zwS ?_
   repeat' first|refine Va (fA4 @kz zlW @exA.eq_1 @kA) ?_|(with_reducible first|refine SB.c ?_ ?_<;>intro _|exact zak|refine fun (_:List AVal)=>?_)|refine CK.dp [0] [] zeK c1 ?_|with_reducible refine zaj ?_|omega
   (refine zct.mk [0] ?_<;>simp [kwt])
 ·rw [if_neg h5] at ho ⊢
  have h5':((lv:Int)==5)=false:=by simp;omega
  have c:=hB m (Nat.le_refl _) (lv+1) k (by omega) hk
  have hpast:=(zcA (l:=l) m (.bin (lv+1)) k hk).2 rfl
  cases hr:exF l m (.bin (lv+1)) k with
  |out=>rw [hr] at ho;cases ho
  |bad k'=>
   rw [hr] at c
   have c1:AP _ _ _ _ _ _ _:=c rfl
   show AP _ _ _ _ _ _ _
   refine zbY (fun d=>if d=2 then 1 else if d=3 then 2 else if d=4 then 3 else 4) 5 zwS ?_
   repeat' first|refine Va (fA6 @kz zlW @exA.eq_1 @kA h5' hwl) ?_|(with_reducible first|refine SB.c ?_ ?_<;>intro _|exact zak|refine fun (_:List AVal)=>?_)|refine CK.dp [0] [] zau c1 ?_|with_reducible refine zaj ?_|omega
   (refine zct.mk [0] ?_<;>simp [kwt])
  |ok e k'=>
   rw [hr] at c ho hpast
   have c1:AC _ _ _ _ _ _ _:=c rfl
   have hp':k<k'∧k'≤l.length:=hpast
   simp only [PR.bind] at ho ⊢
   generalize hR:exF l m (.loop lv e) k'=R at *
   have cN:=zuP l n lv k' (by omega)
   refine zHG (fun d=>if d=2 then 1 else if d=3 then 2 else if d=4 then 3 else 4) 5 zwS ?_
   repeat' first|refine Va (fA6 @kz zlW @exA.eq_1 @kA h5' hwl) ?_|(with_reducible first|refine SB.c ?_ ?_<;>intro _|exact zak|refine fun (_:List AVal)=>?_)|refine dC1 zau c1 ?_|refine CK.dx [2,1,0] [] znw cN ?_|with_reducible refine zaj ?_|omega
   refine zaK (ι:={i:LI l lv R // i.j≤m}) (fun i=>⟨(.junk::.junk::.ref 1 0::.ref 2 0::.ref 3 0::.clo 202 [.ref 2 0,.ref 1 0]::.ref 4 0::.pv (.int .i64 (opF lv (zbK l i.1.k):Nat))::jl 24 []),[some (psC l n (nxK l lv i.1.k)),some (.cells [.ref 0 0]),some (.cells [.pv (.int .i64 lv)]),some (.cells [.pv (.int .i64 0),.pv (.int .i64 0),.pv (.str []),.pv (.int .i64 0),.pv (.int .i64 0),.snil]),some (.cells [.pv (.int .i64 i.1.e.op),.pv (.int .i64 i.1.e.value),.pv (.str i.1.e.name),.pv (.int .i64 i.1.e.slot),.pv (.int .i64 i.1.e.size),zl8 i.1.e.args])]⟩) (fun i=>i.1.j) ⟨⟨m,e,k',hp'.2,hR⟩,Nat.le_refl _⟩ (WFe (by simp [kwf,zbx,zch]) (by simp [kwf,zbx,zch])) ?_
   rintro ⟨⟨j,e,k,hk,hi⟩,hj⟩
   replace hj:j≤m:=hj
   cases j with
   |zero=>
    exfalso
    rw [←hi] at ho
    cases ho
   |succ j=>
    rw [zi5] at hi
    by_cases h0:opF lv (zbK l k)=0
    ·have hnx:nxK l lv k=k:=by unfold nxK;rw [if_pos h0]
     rw [if_pos h0] at hi
     subst hi
     repeat' first|refine Va (fA4 zlW h0 hnx @kA) ?_|(with_reducible first|refine SB.c ?_ ?_<;>intro _|exact zak|refine fun (_:List AVal)=>?_)|with_reducible refine zaj ?_|omega
     (refine zax.mk [0] ?_ ?_<;>simp [kwr,zlW,exA,zch,zbx])
    ·have hnx:nxK l lv k=k+1:=by unfold nxK;rw [if_neg h0]
     have hlt:=ziu h0
     rw [if_neg h0] at hi
     generalize hop:opF lv (zbK l k)=op at *
     have h0':((op:Int) != 0)=true:=by simp;omega
     have d:=hB j (by omega) (lv+1) (k+1) (by omega) (by omega)
     have hpd:=(zcA (l:=l) j (.bin (lv+1)) (k+1) (by omega)).2 rfl
     cases hr2:exF l j (.bin (lv+1)) (k+1) with
     |out=>rw [hr2] at hi;rw [←hi] at ho;cases ho
     |bad k2=>
      rw [hr2] at d hi
      have d1:AP _ _ _ _ _ _ _:=d rfl
      replace hi:PR.bad k2=R:=hi
      subst hi
      repeat' first|refine Va (fA7 @kz zlW h0' hnx hwl @exA.eq_1 @kA) ?_|(with_reducible first|refine SB.c ?_ ?_<;>intro _|exact zak|refine fun (_:List AVal)=>?_)|refine CK.dp [0] [] zau d1 ?_|with_reducible refine zaj ?_|omega
      (refine zct.mk [0] ?_<;>simp [kwt])
     |ok e2 k2=>
      rw [hr2] at d hi hpd
      have d1:AC _ _ _ _ _ _ _:=d rfl
      replace hi:exF l j (.loop lv (exB op e e2)) k2=R:=hi
      have hp2:k+1<k2∧k2≤l.length:=hpd
      have dN:=zuP l n lv k2 (by omega)
      repeat' first|refine Va (fA7 @kz zlW h0' hnx hwl @exA.eq_1 @kA) ?_|(with_reducible first|refine SB.c ?_ ?_<;>intro _|exact zak|refine fun (_:List AVal)=>?_)|refine dC1 zau d1 ?_|refine CK.dx [2,1,0] [] znw dN ?_|with_reducible refine zaj ?_|omega
      exact ⟨⟨⟨j,exB op e e2,k2,hp2.2,hi⟩,by show j≤m;omega⟩,(WFe (by simp [kwf,exB,Ex.op,Ex.value,Ex.name,Ex.slot,Ex.size,Ex.args,zaQ,zaz]) (by simp [kwf,exB,Ex.op,Ex.value,Ex.name,Ex.slot,Ex.size,Ex.args,zaQ,zaz])),by show j<j+1;omega⟩
theorem zuT (l:List TkD) (n m k:Nat) (hl:l.length≤100000) (hk:k≤l.length)
  (hB:∀ k,k≤l.length→(exF l m (.bin 0) k).isOut=false→znV 199 [.pv (.int .i64 0)] l n k (exF l m (.bin 0) k))
  (ho:(exF l (m+1) .prim k).isOut=false):znV 204 [] l n k (exF l (m+1) .prim k):=by
 rw [ze2] at ho ⊢
 by_cases h0:zeh l k=true
 ·rw [if_pos h0]
  cases hr:nmF l 0 k with
  |ok v k'=>exact zxH l n k k' v hl h0 hr
  |bad k'=>exact zuR l n k k' hl h0 hr
  |out=>have:=zh8 (l:=l) (z:=0) (k:=k);rw [hr] at this;cases this
 rw [if_neg h0] at ho ⊢
 replace h0:zeh l k=false:=by simpa using h0
 by_cases e0:isT l k [115,101,108,102]=true
 ·rw [if_pos e0];exact zAM l n k hl h0 e0
 rw [if_neg e0] at ho ⊢
 replace e0:isT l k [115,101,108,102]=false:=by simpa using e0
 by_cases e1:isT l k [112,114,111,99,115]=true
 ·rw [if_pos e1];exact zAN l n k hl h0 e0 e1
 rw [if_neg e1] at ho ⊢
 replace e1:isT l k [112,114,111,99,115]=false:=by simpa using e1
 by_cases e2:isT l k [102,114,111,109]=true
 ·rw [if_pos e2];exact zAO l n k hl h0 e0 e1 e2
 rw [if_neg e2] at ho ⊢
 replace e2:isT l k [102,114,111,109]=false:=by simpa using e2
 by_cases e3:isT l k [118,97,108,117,101]=true
 ·rw [if_pos e3];exact zAP l n k hl h0 e0 e1 e2 e3
 rw [if_neg e3] at ho ⊢
 replace e3:isT l k [118,97,108,117,101]=false:=by simpa using e3
 by_cases e4:isT l k [40]=true
 ·rw [if_pos e4] at ho ⊢
  have hlt:=zaw e4 (by simp)
  have h1:(exF l m (.bin 0) (k+1)).isOut=false:=by
   cases hr:exF l m (.bin 0) (k+1) with
   |out=>rw [hr] at ho;cases ho
   |_=>rfl
  exact zxI l n k _ hl h0 e0 e1 e2 e3 e4 (hB (k+1) (by omega) h1) ((zcA m (.bin 0) (k+1) (by omega)).2 rfl) h1
 rw [if_neg e4] at ho ⊢
 replace e4:isT l k [40]=false:=by simpa using e4
 cases hr:zdM l k with
 |out=>have:=zdX (l:=l) (k:=k);rw [hr] at this;cases this
 |bad k'=>exact zsa l n k k' hl hk h0 e0 e1 e2 e3 e4 hr
 |ok nm k1=>
  rw [hr] at ho
  simp only [PR.bind] at ho ⊢
  by_cases e5:isT l k1 [91]=true
  ·rw [if_pos e5] at ho ⊢
   have hlt:=zaw e5 (by simp)
   have h1:(exF l m (.bin 0) (k1+1)).isOut=false:=by
    cases hr:exF l m (.bin 0) (k1+1) with
    |out=>rw [hr] at ho;cases ho
    |_=>rfl
   exact zxJ l n k k1 nm _ hl h0 e0 e1 e2 e3 e4 hr e5 (hB (k1+1) (by omega) h1) ((zcA m (.bin 0) (k1+1) (by omega)).2 rfl) h1
  ·rw [if_neg e5]
   exact zuS l n k k1 nm hl h0 e0 e1 e2 e3 e4 hr (by simpa using e5)
theorem znW (l:List TkD) (n:Nat) (hl:l.length≤100000):∀ m j,j≤m →
  (∀ lv k,lv≤5→k≤l.length→(exF l j (.bin lv) k).isOut=false→znV 199 [.pv (.int .i64 lv)] l n k (exF l j (.bin lv) k)) ∧
  (∀ k,k≤l.length→(exF l j .un k).isOut=false→znV 201 [] l n k (exF l j .un k)) ∧
  (∀ k,k≤l.length→(exF l j .prim k).isOut=false→znV 204 [] l n k (exF l j .prim k))
 |0,j,hj=>by
  have:j=0:=by omega
  subst this
  exact ⟨fun _ _ _ _ h=>(by cases h),fun _ _ h=>(by cases h),fun _ _ h=>(by cases h)⟩
 |m+1,j,hj=>by
  have ih:=znW l n hl m
  by_cases hjm:j≤m
  ·exact ih j hjm
  ·have:j=m+1:=by omega
   subst this
   obtain ⟨i1,i2,i3⟩:=ih m (Nat.le_refl _)
   exact ⟨fun lv k h1 h2 h3=>zpf l n m lv k hl h2 h1 (fun j hj=>(ih j hj).1) i2 h3,
    fun k h2 h3=>zr9 l n m k hl h2 i2 i3 h3,
    fun k h2 h3=>zuT l n m k hl h2 (fun k h=>i1 0 k (by omega) h) h3⟩
theorem zqL (l:List TkD) (n k:Nat) (hl:l.length≤100000) (hk:k≤l.length):znV 199 [.pv (.int .i64 0)] l n k (zbr l k):=
 (znW l n hl _ _ (Nat.le_refl _)).1 0 k (by omega) hk (zes hk)
def zkl {α:Type} (enc:α→AVal) (f:FuncId) (args:List AVal) (l:List TkD) (n k:Nat):PR α→Prop
 |.ok e k'=>AC Tryz.prog gl f (.ref 0 0::args) (psO l n k) (enc e) (psO l n k')
 |.bad k'=>AP Tryz.prog gl f (.ref 0 0::args) (psO l n k) (fv l n k') (psO l n k')
 |.out=>True
def zKd {α:Type} (enc:α→AVal) (site:Nat→Nat) (nobj:Nat) (rs:List ResultVar) (l:List TkD) (n:Nat):PR α→Exit→St→Prop
 |.ok e k'=>zzI (zb7 site nobj) 1 (zax (zb7 site nobj) 1 rs (enc e) (psO l n k'))
 |.bad k'=>zct 1 (fv l n k') (psO l n k')
 |.out=>fun _ _=>True
theorem zmx {α:Type} (enc:α→AVal) {f:FuncId} {code:Code} (site:Nat→Nat) (nobj:Nat) {nt:Nat} {rs:List ResultVar} (hF:FI Tryz.prog f code nt rs) {args:List AVal} {l:List TkD} {n k:Nat} {r:PR α}
  (h:VC Tryz.prog (zb7 site nobj) 1 code ⟨(AVal.ref 0 0::args)++List.replicate (nt - (AVal.ref 0 0::args).length) .junk,psO l n k++List.replicate (nobj - (psO l n k).length) none⟩ (zKd enc site nobj rs l n r)) (hargs:(AVal.ref 0 0::args).length≤nt:=by simp) (hobjs:(psO l n k).length≤nobj:=by simp) (hr:r.isOut=false:=by assumption):zkl enc f args l n k r:=by
 cases r with
 |ok e k'=>exact zbv site nobj hF h hargs hobjs
 |bad k'=>exact zbY site nobj hF h hargs hobjs
 |out=>cases hr
end Go.Proofs.YtfinhhblcdkpgaaGreatDoor
