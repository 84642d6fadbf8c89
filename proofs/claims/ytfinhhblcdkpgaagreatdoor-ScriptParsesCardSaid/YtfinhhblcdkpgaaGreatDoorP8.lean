/- A part of the walk (Tryz_P8): its theorems have no condition beyond what they state. -/
import Derived.Test.YtfinhhblcdkpgaaGreatDoorLib2
import Derived.Test.YtfinhhblcdkpgaaGreatDoorP7
set_option maxRecDepth 100000
set_option maxHeartbeats 64000000
set_option linter.unusedSimpArgs false
set_option linter.unusedVariables false
namespace Go.Proofs.YtfinhhblcdkpgaaGreatDoor
open Go Go.Abs Go.RowKit
def lsA (b:List Sm):AVal:=.pv (.slice (b.map zah))
def smA (s:Sm):AVal:=.agg ((zah s).map .pv)
def zdl:List Sm→AVal
 |[s]=>smA s
 |_=>.junk
theorem zbj (a:List Ex):nz (zl8 a)=.pv (.slice (a.map zbq)):=by cases a<;>rfl
theorem zxK {l:List TkD} {n k k':Nat} {e:Ex} (hl:l.length≤100000) (hk:k≤l.length) (h:zbr l k=.ok e k'):AC Tryz.prog gl 199 [.ref 0 0,.pv (.int .i64 0)] (psO l n k) (exA e) (psO l n k'):=by
 have:=zqL l n k hl hk
 rw [h] at this
 exact this
theorem zmy {l:List TkD} {n k k':Nat} (hl:l.length≤100000) (hk:k≤l.length) (h:zbr l k=.bad k'):AP Tryz.prog gl 199 [.ref 0 0,.pv (.int .i64 0)] (psO l n k) (fv l n k') (psO l n k'):=by
 have:=zqL l n k hl hk
 rw [h] at this
 exact this
theorem zdn {l:List TkD} {k:Nat} (hk:k≤l.length):zbr l k≠.out:=fun h=>by
 have:=zes hk
 rw [h] at this
 cases this
theorem zbE {l:List TkD} {s:List UInt8} {k:Nat}:zaW l s k≠.out:=fun h=>by
 have:=zbB (l:=l) (s:=s) (k:=k)
 rw [h] at this
 cases this
theorem zfg {l:List TkD} {k k':Nat} {e:Ex} (hk:k≤l.length) (h:zbr l k=.ok e k'):k'≤l.length:=by
 have:=zjW hk
 rw [h] at this
 exact this.2
theorem zeC {l:List TkD} {s:List UInt8} {k k':Nat} {u:Unit} (hk:k≤l.length) (hs:s≠[]) (h:zaW l s k=.ok u k'):k'≤l.length:=by
 have:=zaC hk hs
 rw [h] at this
 exact this.2
theorem zyw {l:List TkD} {n:Nat} {nt:Ns} {k k':Nat} {b:List Sm} (hk:k≤l.length) (h:smF l n nt k=.ok b k'):k'≤l.length:=by
 have:=zcx (l:=l) n nt k hk
 rw [h] at this
 exact this.2
theorem zD9 (l:List TkD) (n m k:Nat) (hl:l.length≤100000) (hk:k≤l.length) (hB:∀ k,k≤l.length→(smF l m .block k).isOut=false→zkl lsA 186 [] l n k (smF l m .block k)) (e0:isT l k [105,102]=true) (e9:∀ e k1 b k2,zbr l (k+1)=.ok e k1→smF l m .block k1=.ok b k2→isT l k2 [101,108,115,101]=true)
  (ho:((zbr l (k+1)).bind fun e k1=>(smF l m .block (k1)).bind fun b k2=>(smF l m .block (k2+1)).bind fun c k3=>PR.ok [smE 3 [] exZ e b c] k3).isOut=false) :
  zkl zdl 197 [] l n k ((zbr l (k+1)).bind fun e k1=>(smF l m .block (k1)).bind fun b k2=>(smF l m .block (k2+1)).bind fun c k3=>PR.ok [smE 3 [] exZ e b c] k3):=by
 have f0:=za3 l n k _ e0 (by omega)
 have hlt:=zaw e0 (by simp)
 cases r0:zbr l (k+1) with
 |out=>exact absurd r0 (zdn (by omega))
 |bad k'=>
  have q1:=zmy (n:=n) hl (by omega) r0
  show AP _ _ _ _ _ _ _
  refine zbY (fun d=>if d=2 then 1 else 2) 3 zda ?_
  repeat' first|refine Va (fA5 @kz zcj @exA.eq_1 @kA @lsA.eq_1) ?_|(with_reducible first|refine SB.c ?_ ?_<;>intro _|exact zak|refine fun (_:List AVal)=>?_)|refine dC1 zaa f0 ?_|refine CK.dp [0] [] zau q1 ?_|with_reducible refine zaj ?_|omega
  (refine zct.mk [0] ?_<;>simp [kwt])
 |ok e k1=>
  have le0:=zfg (by omega) r0
  have c0:=zxK (n:=n) hl (by omega) r0
  rw [r0] at ho
  simp only [PR.bind] at ho ⊢
  cases r1:smF l m .block (k1) with
  |out=>rw [r1] at ho;cases ho
  |bad k'=>
   have q:=hB (k1) (by omega) (by rw [r1];rfl)
   rw [r1] at q
   have q1:AP _ _ _ _ _ _ _:=q
   show AP _ _ _ _ _ _ _
   refine zbY (fun d=>if d=2 then 1 else 2) 3 zda ?_
   repeat' first|refine Va (fA5 @kz zcj @exA.eq_1 @kA @lsA.eq_1) ?_|(with_reducible first|refine SB.c ?_ ?_<;>intro _|exact zak|refine fun (_:List AVal)=>?_)|refine dC1 zaa f0 ?_|refine dC1 zau c0 ?_|refine CK.dp [0] [] zbl q1 ?_|with_reducible refine zaj ?_|omega
   (refine zct.mk [0] ?_<;>simp [kwt])
  |ok b k2=>
   have le1:=zyw (by omega) r1
   have q1:=hB (k1) (by omega) (by rw [r1];rfl)
   rw [r1] at q1
   have c1:AC _ _ _ _ _ _ _:=q1
   rw [r1] at ho
   simp only [PR.bind] at ho ⊢
   have t2:=za3 l n (k2) _ (e9 _ _ _ _ r0 r1) (by omega)
   have hlt2:=zaw (e9 _ _ _ _ r0 r1) (by simp)
   cases r3:smF l m .block (k2+1) with
   |out=>rw [r3] at ho;cases ho
   |bad k'=>
    have q:=hB (k2+1) (by omega) (by rw [r3];rfl)
    rw [r3] at q
    have q1:AP _ _ _ _ _ _ _:=q
    show AP _ _ _ _ _ _ _
    refine zbY (fun d=>if d=2 then 1 else 2) 3 zda ?_
    repeat' first|refine Va (fA5 @kz zcj @exA.eq_1 @kA @lsA.eq_1) ?_|(with_reducible first|refine SB.c ?_ ?_<;>intro _|exact zak|refine fun (_:List AVal)=>?_)|refine dC1 zaa f0 ?_|refine dC1 zau c0 ?_|refine dC1 zbl c1 ?_|refine dC1 zaa t2 ?_|refine CK.dp [0] [] zbl q1 ?_|with_reducible refine zaj ?_|omega
    (refine zct.mk [0] ?_<;>simp [kwt])
   |ok c k3=>
    have le3:=zyw (by omega) r3
    have q3:=hB (k2+1) (by omega) (by rw [r3];rfl)
    rw [r3] at q3
    have c3:AC _ _ _ _ _ _ _:=q3
    rw [r3] at ho
    simp only [PR.bind] at ho ⊢
    refine zmx zdl (r:=PR.ok [smE 3 [] exZ e b c] k3) (fun d=>if d=2 then 1 else 2) 3 zda ?_ (hr:=rfl)
    repeat' first|refine Va (fA5 @kz zcj @exA.eq_1 @kA @lsA.eq_1) ?_|(with_reducible first|refine SB.c ?_ ?_<;>intro _|exact zak|refine fun (_:List AVal)=>?_)|refine dC1 zaa f0 ?_|refine dC1 zau c0 ?_|refine dC1 zbl c1 ?_|refine dC1 zaa t2 ?_|refine dC1 zbl c3 ?_|with_reducible refine zaj ?_|omega
    refine ⟨_,zaY.nz,?_⟩
    simp only [St.nz,nzL,zb4,nzO,nz,zbj]
    (refine zax.mk [0] ?_ ?_<;>simp [kwr,zcj,zdl,smA,smE,zag,exZ,exK,Sm.kind,Sm.name,Sm.slot,Sm.size,Sm.place,Sm.value,Sm.body,Sm.els,Ex.op,Ex.value,Ex.name,Ex.slot,Ex.size,Ex.args])
theorem zEa (l:List TkD) (n m k:Nat) (hl:l.length≤100000) (hk:k≤l.length) (hB:∀ k,k≤l.length→(smF l m .block k).isOut=false→zkl lsA 186 [] l n k (smF l m .block k)) (e0:isT l k [105,102]=true) (e9:∀ e k1 b k2,zbr l (k+1)=.ok e k1→smF l m .block k1=.ok b k2→isT l k2 [101,108,115,101]=false)
  (ho:((zbr l (k+1)).bind fun e k1=>(smF l m .block (k1)).bind fun b k2=>PR.ok [smE 3 [] exZ e b []] k2).isOut=false) :
  zkl zdl 197 [] l n k ((zbr l (k+1)).bind fun e k1=>(smF l m .block (k1)).bind fun b k2=>PR.ok [smE 3 [] exZ e b []] k2):=by
 have f0:=za3 l n k _ e0 (by omega)
 have hlt:=zaw e0 (by simp)
 cases r0:zbr l (k+1) with
 |out=>exact absurd r0 (zdn (by omega))
 |bad k'=>
  have q1:=zmy (n:=n) hl (by omega) r0
  show AP _ _ _ _ _ _ _
  refine zbY (fun d=>if d=2 then 1 else 2) 3 zda ?_
  repeat' first|refine Va (fA5 @kz zcj @exA.eq_1 @kA @lsA.eq_1) ?_|(with_reducible first|refine SB.c ?_ ?_<;>intro _|exact zak|refine fun (_:List AVal)=>?_)|refine dC1 zaa f0 ?_|refine CK.dp [0] [] zau q1 ?_|with_reducible refine zaj ?_|omega
  (refine zct.mk [0] ?_<;>simp [kwt])
 |ok e k1=>
  have le0:=zfg (by omega) r0
  have c0:=zxK (n:=n) hl (by omega) r0
  rw [r0] at ho
  simp only [PR.bind] at ho ⊢
  cases r1:smF l m .block (k1) with
  |out=>rw [r1] at ho;cases ho
  |bad k'=>
   have q:=hB (k1) (by omega) (by rw [r1];rfl)
   rw [r1] at q
   have q1:AP _ _ _ _ _ _ _:=q
   show AP _ _ _ _ _ _ _
   refine zbY (fun d=>if d=2 then 1 else 2) 3 zda ?_
   repeat' first|refine Va (fA5 @kz zcj @exA.eq_1 @kA @lsA.eq_1) ?_|(with_reducible first|refine SB.c ?_ ?_<;>intro _|exact zak|refine fun (_:List AVal)=>?_)|refine dC1 zaa f0 ?_|refine dC1 zau c0 ?_|refine CK.dp [0] [] zbl q1 ?_|with_reducible refine zaj ?_|omega
   (refine zct.mk [0] ?_<;>simp [kwt])
  |ok b k2=>
   have le1:=zyw (by omega) r1
   have q1:=hB (k1) (by omega) (by rw [r1];rfl)
   rw [r1] at q1
   have c1:AC _ _ _ _ _ _ _:=q1
   rw [r1] at ho
   simp only [PR.bind] at ho ⊢
   have t2:=zap l n (k2) _ (e9 _ _ _ _ r0 r1)
   refine zmx zdl (r:=PR.ok [smE 3 [] exZ e b []] k2) (fun d=>if d=2 then 1 else 2) 3 zda ?_ (hr:=rfl)
   repeat' first|refine Va (fA5 @kz zcj @exA.eq_1 @kA @lsA.eq_1) ?_|(with_reducible first|refine SB.c ?_ ?_<;>intro _|exact zak|refine fun (_:List AVal)=>?_)|refine dC1 zaa f0 ?_|refine dC1 zau c0 ?_|refine dC1 zbl c1 ?_|refine dC1 zaa t2 ?_|with_reducible refine zaj ?_|omega
   refine ⟨_,zaY.nz,?_⟩
   simp only [St.nz,nzL,zb4,nzO,nz,zbj]
   (refine zax.mk [0] ?_ ?_<;>simp [kwr,zcj,zdl,smA,smE,zag,exZ,exK,Sm.kind,Sm.name,Sm.slot,Sm.size,Sm.place,Sm.value,Sm.body,Sm.els,Ex.op,Ex.value,Ex.name,Ex.slot,Ex.size,Ex.args])
theorem zxL (l:List TkD) (n m k:Nat) (hl:l.length≤100000) (hk:k≤l.length) (hB:∀ k,k≤l.length→(smF l m .block k).isOut=false→zkl lsA 186 [] l n k (smF l m .block k)) (e0:isT l k [105,102]=false) (e1:isT l k [119,104,105,108,101]=true)
  (ho:((zbr l (k+1)).bind fun e k1=>(smF l m .block (k1)).bind fun b k2=>PR.ok [smE 4 [] exZ e b []] k2).isOut=false) :
  zkl zdl 197 [] l n k ((zbr l (k+1)).bind fun e k1=>(smF l m .block (k1)).bind fun b k2=>PR.ok [smE 4 [] exZ e b []] k2):=by
 have f0:=zap l n k _ e0
 have f1:=za3 l n k _ e1 (by omega)
 have hlt:=zaw e1 (by simp)
 cases r0:zbr l (k+1) with
 |out=>exact absurd r0 (zdn (by omega))
 |bad k'=>
  have q1:=zmy (n:=n) hl (by omega) r0
  show AP _ _ _ _ _ _ _
  refine zbY (fun d=>if d=2 then 1 else 2) 3 zda ?_
  repeat' first|refine Va (fA5 @kz zcj @exA.eq_1 @kA @lsA.eq_1) ?_|(with_reducible first|refine SB.c ?_ ?_<;>intro _|exact zak|refine fun (_:List AVal)=>?_)|refine dC1 zaa f0 ?_|refine dC1 zaa f1 ?_|refine CK.dp [0] [] zau q1 ?_|with_reducible refine zaj ?_|omega
  (refine zct.mk [0] ?_<;>simp [kwt])
 |ok e k1=>
  have le0:=zfg (by omega) r0
  have c0:=zxK (n:=n) hl (by omega) r0
  rw [r0] at ho
  simp only [PR.bind] at ho ⊢
  cases r1:smF l m .block (k1) with
  |out=>rw [r1] at ho;cases ho
  |bad k'=>
   have q:=hB (k1) (by omega) (by rw [r1];rfl)
   rw [r1] at q
   have q1:AP _ _ _ _ _ _ _:=q
   show AP _ _ _ _ _ _ _
   refine zbY (fun d=>if d=2 then 1 else 2) 3 zda ?_
   repeat' first|refine Va (fA5 @kz zcj @exA.eq_1 @kA @lsA.eq_1) ?_|(with_reducible first|refine SB.c ?_ ?_<;>intro _|exact zak|refine fun (_:List AVal)=>?_)|refine dC1 zaa f0 ?_|refine dC1 zaa f1 ?_|refine dC1 zau c0 ?_|refine CK.dp [0] [] zbl q1 ?_|with_reducible refine zaj ?_|omega
   (refine zct.mk [0] ?_<;>simp [kwt])
  |ok b k2=>
   have le1:=zyw (by omega) r1
   have q1:=hB (k1) (by omega) (by rw [r1];rfl)
   rw [r1] at q1
   have c1:AC _ _ _ _ _ _ _:=q1
   rw [r1] at ho
   simp only [PR.bind] at ho ⊢
   refine zmx zdl (r:=PR.ok [smE 4 [] exZ e b []] k2) (fun d=>if d=2 then 1 else 2) 3 zda ?_ (hr:=rfl)
   repeat' first|refine Va (fA5 @kz zcj @exA.eq_1 @kA @lsA.eq_1) ?_|(with_reducible first|refine SB.c ?_ ?_<;>intro _|exact zak|refine fun (_:List AVal)=>?_)|refine dC1 zaa f0 ?_|refine dC1 zaa f1 ?_|refine dC1 zau c0 ?_|refine dC1 zbl c1 ?_|with_reducible refine zaj ?_|omega
   refine ⟨_,zaY.nz,?_⟩
   simp only [St.nz,nzL,zb4,nzO,nz,zbj]
   (refine zax.mk [0] ?_ ?_<;>simp [kwr,zcj,zdl,smA,smE,zag,exZ,exK,Sm.kind,Sm.name,Sm.slot,Sm.size,Sm.place,Sm.value,Sm.body,Sm.els,Ex.op,Ex.value,Ex.name,Ex.slot,Ex.size,Ex.args])
theorem zAQ (l:List TkD) (n m k:Nat) (hl:l.length≤100000) (hk:k≤l.length) (hB:∀ k,k≤l.length→(smF l m .block k).isOut=false→zkl lsA 186 [] l n k (smF l m .block k)) (e0:isT l k [105,102]=false) (e1:isT l k [119,104,105,108,101]=false) (e2:isT l k [115,101,110,100]=true)
  (ho:((zbr l (k+1)).bind fun p k1=>(zaW l [44] (k1)).bind fun _ k2=>(zbr l (k2)).bind fun e k3=>(zaW l [59] (k3)).bind fun _ k4=>PR.ok [smE 5 [] p e [] []] k4).isOut=false) :
  zkl zdl 197 [] l n k ((zbr l (k+1)).bind fun p k1=>(zaW l [44] (k1)).bind fun _ k2=>(zbr l (k2)).bind fun e k3=>(zaW l [59] (k3)).bind fun _ k4=>PR.ok [smE 5 [] p e [] []] k4):=by
 have f0:=zap l n k _ e0
 have f1:=zap l n k _ e1
 have f2:=za3 l n k _ e2 (by omega)
 have hlt:=zaw e2 (by simp)
 cases r0:zbr l (k+1) with
 |out=>exact absurd r0 (zdn (by omega))
 |bad k'=>
  have q1:=zmy (n:=n) hl (by omega) r0
  show AP _ _ _ _ _ _ _
  refine zbY (fun d=>if d=2 then 1 else 2) 3 zda ?_
  repeat' first|refine Va (fA5 @kz zcj @exA.eq_1 @kA @lsA.eq_1) ?_|(with_reducible first|refine SB.c ?_ ?_<;>intro _|exact zak|refine fun (_:List AVal)=>?_)|refine dC1 zaa f0 ?_|refine dC1 zaa f1 ?_|refine dC1 zaa f2 ?_|refine CK.dp [0] [] zau q1 ?_|with_reducible refine zaj ?_|omega
  (refine zct.mk [0] ?_<;>simp [kwt])
 |ok p k1=>
  have le0:=zfg (by omega) r0
  have c0:=zxK (n:=n) hl (by omega) r0
  rw [r0] at ho
  simp only [PR.bind] at ho ⊢
  cases r1:zaW l [44] (k1) with
  |out=>exact absurd r1 zbE
  |bad k'=>
   have q1:=za2 l n _ _ _ r1
   show AP _ _ _ _ _ _ _
   refine zbY (fun d=>if d=2 then 1 else 2) 3 zda ?_
   repeat' first|refine Va (fA5 @kz zcj @exA.eq_1 @kA @lsA.eq_1) ?_|(with_reducible first|refine SB.c ?_ ?_<;>intro _|exact zak|refine fun (_:List AVal)=>?_)|refine dC1 zaa f0 ?_|refine dC1 zaa f1 ?_|refine dC1 zaa f2 ?_|refine dC1 zau c0 ?_|refine CK.dp [0] [] zao q1 ?_|with_reducible refine zaj ?_|omega
   (refine zct.mk [0] ?_<;>simp [kwt])
  |ok u1 k2=>
   have le1:=zeC (by omega) (by simp) r1
   have c1:=zbi l n _ _ _ r1 (by omega)
   rw [r1] at ho
   simp only [PR.bind] at ho ⊢
   cases r2:zbr l (k2) with
   |out=>exact absurd r2 (zdn (by omega))
   |bad k'=>
    have q1:=zmy (n:=n) hl (by omega) r2
    show AP _ _ _ _ _ _ _
    refine zbY (fun d=>if d=2 then 1 else 2) 3 zda ?_
    repeat' first|refine Va (fA5 @kz zcj @exA.eq_1 @kA @lsA.eq_1) ?_|(with_reducible first|refine SB.c ?_ ?_<;>intro _|exact zak|refine fun (_:List AVal)=>?_)|refine dC1 zaa f0 ?_|refine dC1 zaa f1 ?_|refine dC1 zaa f2 ?_|refine dC1 zau c0 ?_|refine dC1 zao c1 ?_|refine CK.dp [0] [] zau q1 ?_|with_reducible refine zaj ?_|omega
    (refine zct.mk [0] ?_<;>simp [kwt])
   |ok e k3=>
    have le2:=zfg (by omega) r2
    have c2:=zxK (n:=n) hl (by omega) r2
    rw [r2] at ho
    simp only [PR.bind] at ho ⊢
    cases r3:zaW l [59] (k3) with
    |out=>exact absurd r3 zbE
    |bad k'=>
     have q1:=za2 l n _ _ _ r3
     show AP _ _ _ _ _ _ _
     refine zbY (fun d=>if d=2 then 1 else 2) 3 zda ?_
     repeat' first|refine Va (fA5 @kz zcj @exA.eq_1 @kA @lsA.eq_1) ?_|(with_reducible first|refine SB.c ?_ ?_<;>intro _|exact zak|refine fun (_:List AVal)=>?_)|refine dC1 zaa f0 ?_|refine dC1 zaa f1 ?_|refine dC1 zaa f2 ?_|refine dC1 zau c0 ?_|refine dC1 zao c1 ?_|refine dC1 zau c2 ?_|refine CK.dp [0] [] zao q1 ?_|with_reducible refine zaj ?_|omega
     (refine zct.mk [0] ?_<;>simp [kwt])
    |ok u3 k4=>
     have le3:=zeC (by omega) (by simp) r3
     have c3:=zbi l n _ _ _ r3 (by omega)
     rw [r3] at ho
     simp only [PR.bind] at ho ⊢
     refine zmx zdl (r:=PR.ok [smE 5 [] p e [] []] k4) (fun d=>if d=2 then 1 else 2) 3 zda ?_ (hr:=rfl)
     repeat' first|refine Va (fA5 @kz zcj @exA.eq_1 @kA @lsA.eq_1) ?_|(with_reducible first|refine SB.c ?_ ?_<;>intro _|exact zak|refine fun (_:List AVal)=>?_)|refine dC1 zaa f0 ?_|refine dC1 zaa f1 ?_|refine dC1 zaa f2 ?_|refine dC1 zau c0 ?_|refine dC1 zao c1 ?_|refine dC1 zau c2 ?_|refine dC1 zao c3 ?_|with_reducible refine zaj ?_|omega
     refine ⟨_,zaY.nz,?_⟩
     simp only [St.nz,nzL,zb4,nzO,nz,zbj]
     (refine zax.mk [0] ?_ ?_<;>simp [kwr,zcj,zdl,smA,smE,zag,exZ,exK,Sm.kind,Sm.name,Sm.slot,Sm.size,Sm.place,Sm.value,Sm.body,Sm.els,Ex.op,Ex.value,Ex.name,Ex.slot,Ex.size,Ex.args])
theorem zEb (l:List TkD) (n m k:Nat) (hl:l.length≤100000) (hk:k≤l.length) (hB:∀ k,k≤l.length→(smF l m .block k).isOut=false→zkl lsA 186 [] l n k (smF l m .block k)) (e0:isT l k [105,102]=false) (e1:isT l k [119,104,105,108,101]=false) (e2:isT l k [115,101,110,100]=false) (e3:isT l k [111,117,116,112,117,116]=true)
  (ho:((zbr l (k+1)).bind fun e k1=>(zaW l [59] (k1)).bind fun _ k2=>PR.ok [smE 6 [] exZ e [] []] k2).isOut=false) :
  zkl zdl 197 [] l n k ((zbr l (k+1)).bind fun e k1=>(zaW l [59] (k1)).bind fun _ k2=>PR.ok [smE 6 [] exZ e [] []] k2):=by
 have f0:=zap l n k _ e0
 have f1:=zap l n k _ e1
 have f2:=zap l n k _ e2
 have f3:=za3 l n k _ e3 (by omega)
 have hlt:=zaw e3 (by simp)
 cases r0:zbr l (k+1) with
 |out=>exact absurd r0 (zdn (by omega))
 |bad k'=>
  have q1:=zmy (n:=n) hl (by omega) r0
  show AP _ _ _ _ _ _ _
  refine zbY (fun d=>if d=2 then 1 else 2) 3 zda ?_
  repeat' first|refine Va (fA5 @kz zcj @exA.eq_1 @kA @lsA.eq_1) ?_|(with_reducible first|refine SB.c ?_ ?_<;>intro _|exact zak|refine fun (_:List AVal)=>?_)|refine dC1 zaa f0 ?_|refine dC1 zaa f1 ?_|refine dC1 zaa f2 ?_|refine dC1 zaa f3 ?_|refine CK.dp [0] [] zau q1 ?_|with_reducible refine zaj ?_|omega
  (refine zct.mk [0] ?_<;>simp [kwt])
 |ok e k1=>
  have le0:=zfg (by omega) r0
  have c0:=zxK (n:=n) hl (by omega) r0
  rw [r0] at ho
  simp only [PR.bind] at ho ⊢
  cases r1:zaW l [59] (k1) with
  |out=>exact absurd r1 zbE
  |bad k'=>
   have q1:=za2 l n _ _ _ r1
   show AP _ _ _ _ _ _ _
   refine zbY (fun d=>if d=2 then 1 else 2) 3 zda ?_
   repeat' first|refine Va (fA5 @kz zcj @exA.eq_1 @kA @lsA.eq_1) ?_|(with_reducible first|refine SB.c ?_ ?_<;>intro _|exact zak|refine fun (_:List AVal)=>?_)|refine dC1 zaa f0 ?_|refine dC1 zaa f1 ?_|refine dC1 zaa f2 ?_|refine dC1 zaa f3 ?_|refine dC1 zau c0 ?_|refine CK.dp [0] [] zao q1 ?_|with_reducible refine zaj ?_|omega
   (refine zct.mk [0] ?_<;>simp [kwt])
  |ok u1 k2=>
   have le1:=zeC (by omega) (by simp) r1
   have c1:=zbi l n _ _ _ r1 (by omega)
   rw [r1] at ho
   simp only [PR.bind] at ho ⊢
   refine zmx zdl (r:=PR.ok [smE 6 [] exZ e [] []] k2) (fun d=>if d=2 then 1 else 2) 3 zda ?_ (hr:=rfl)
   repeat' first|refine Va (fA5 @kz zcj @exA.eq_1 @kA @lsA.eq_1) ?_|(with_reducible first|refine SB.c ?_ ?_<;>intro _|exact zak|refine fun (_:List AVal)=>?_)|refine dC1 zaa f0 ?_|refine dC1 zaa f1 ?_|refine dC1 zaa f2 ?_|refine dC1 zaa f3 ?_|refine dC1 zau c0 ?_|refine dC1 zao c1 ?_|with_reducible refine zaj ?_|omega
   refine ⟨_,zaY.nz,?_⟩
   simp only [St.nz,nzL,zb4,nzO,nz,zbj]
   (refine zax.mk [0] ?_ ?_<;>simp [kwr,zcj,zdl,smA,smE,zag,exZ,exK,Sm.kind,Sm.name,Sm.slot,Sm.size,Sm.place,Sm.value,Sm.body,Sm.els,Ex.op,Ex.value,Ex.name,Ex.slot,Ex.size,Ex.args])
theorem zxM (l:List TkD) (n m k:Nat) (hl:l.length≤100000) (hk:k≤l.length) (hB:∀ k,k≤l.length→(smF l m .block k).isOut=false→zkl lsA 186 [] l n k (smF l m .block k)) (e0:isT l k [105,102]=false) (e1:isT l k [119,104,105,108,101]=false) (e2:isT l k [115,101,110,100]=false) (e3:isT l k [111,117,116,112,117,116]=false) (nm:List UInt8) (k1:Nat) (hn:zdM l k=.ok nm k1) (e9:isT l k1 [91]=true)
  (ho:((zbr l (k1+1)).bind fun p k2=>(zaW l [93] (k2)).bind fun _ k3=>(zaW l [61] (k3)).bind fun _ k4=>(zbr l (k4)).bind fun e k5=>(zaW l [59] (k5)).bind fun _ k6=>PR.ok [smE 2 nm p e [] []] k6).isOut=false) :
  zkl zdl 197 [] l n k ((zbr l (k1+1)).bind fun p k2=>(zaW l [93] (k2)).bind fun _ k3=>(zaW l [61] (k3)).bind fun _ k4=>(zbr l (k4)).bind fun e k5=>(zaW l [59] (k5)).bind fun _ k6=>PR.ok [smE 2 nm p e [] []] k6):=by
 have f0:=zap l n k _ e0
 have f1:=zap l n k _ e1
 have f2:=zap l n k _ e2
 have f3:=zap l n k _ e3
 have cn:=zih l n k k1 nm hn (by omega)
 have hk1:k1≤l.length:=by have:=za7 (l:=l) hk;rw [hn] at this;exact this.2
 have g:=za3 l n k1 _ e9 (by omega)
 have hlt:=zaw e9 (by simp)
 cases r0:zbr l (k1+1) with
 |out=>exact absurd r0 (zdn (by omega))
 |bad k'=>
  have q1:=zmy (n:=n) hl (by omega) r0
  show AP _ _ _ _ _ _ _
  refine zbY (fun d=>if d=2 then 1 else 2) 3 zda ?_
  repeat' first|refine Va (fA5 @kz zcj @exA.eq_1 @kA @lsA.eq_1) ?_|(with_reducible first|refine SB.c ?_ ?_<;>intro _|exact zak|refine fun (_:List AVal)=>?_)|refine dC1 zaa f0 ?_|refine dC1 zaa f1 ?_|refine dC1 zaa f2 ?_|refine dC1 zaa f3 ?_|refine dC1 zaG cn ?_|refine dC1 zaa g ?_|refine CK.dp [0] [] zau q1 ?_|with_reducible refine zaj ?_|omega
  (refine zct.mk [0] ?_<;>simp [kwt])
 |ok p k2=>
  have le0:=zfg (by omega) r0
  have c0:=zxK (n:=n) hl (by omega) r0
  rw [r0] at ho
  simp only [PR.bind] at ho ⊢
  cases r1:zaW l [93] (k2) with
  |out=>exact absurd r1 zbE
  |bad k'=>
   have q1:=za2 l n _ _ _ r1
   show AP _ _ _ _ _ _ _
   refine zbY (fun d=>if d=2 then 1 else 2) 3 zda ?_
   repeat' first|refine Va (fA5 @kz zcj @exA.eq_1 @kA @lsA.eq_1) ?_|(with_reducible first|refine SB.c ?_ ?_<;>intro _|exact zak|refine fun (_:List AVal)=>?_)|refine dC1 zaa f0 ?_|refine dC1 zaa f1 ?_|refine dC1 zaa f2 ?_|refine dC1 zaa f3 ?_|refine dC1 zaG cn ?_|refine dC1 zaa g ?_|refine dC1 zau c0 ?_|refine CK.dp [0] [] zao q1 ?_|with_reducible refine zaj ?_|omega
   (refine zct.mk [0] ?_<;>simp [kwt])
  |ok u1 k3=>
   have le1:=zeC (by omega) (by simp) r1
   have c1:=zbi l n _ _ _ r1 (by omega)
   rw [r1] at ho
   simp only [PR.bind] at ho ⊢
   cases r2:zaW l [61] (k3) with
   |out=>exact absurd r2 zbE
   |bad k'=>
    have q1:=za2 l n _ _ _ r2
    show AP _ _ _ _ _ _ _
    refine zbY (fun d=>if d=2 then 1 else 2) 3 zda ?_
    repeat' first|refine Va (fA5 @kz zcj @exA.eq_1 @kA @lsA.eq_1) ?_|(with_reducible first|refine SB.c ?_ ?_<;>intro _|exact zak|refine fun (_:List AVal)=>?_)|refine dC1 zaa f0 ?_|refine dC1 zaa f1 ?_|refine dC1 zaa f2 ?_|refine dC1 zaa f3 ?_|refine dC1 zaG cn ?_|refine dC1 zaa g ?_|refine dC1 zau c0 ?_|refine dC1 zao c1 ?_|refine CK.dp [0] [] zao q1 ?_|with_reducible refine zaj ?_|omega
    (refine zct.mk [0] ?_<;>simp [kwt])
   |ok u2 k4=>
    have le2:=zeC (by omega) (by simp) r2
    have c2:=zbi l n _ _ _ r2 (by omega)
    rw [r2] at ho
    simp only [PR.bind] at ho ⊢
    cases r3:zbr l (k4) with
    |out=>exact absurd r3 (zdn (by omega))
    |bad k'=>
     have q1:=zmy (n:=n) hl (by omega) r3
     show AP _ _ _ _ _ _ _
     refine zbY (fun d=>if d=2 then 1 else 2) 3 zda ?_
     repeat' first|refine Va (fA5 @kz zcj @exA.eq_1 @kA @lsA.eq_1) ?_|(with_reducible first|refine SB.c ?_ ?_<;>intro _|exact zak|refine fun (_:List AVal)=>?_)|refine dC1 zaa f0 ?_|refine dC1 zaa f1 ?_|refine dC1 zaa f2 ?_|refine dC1 zaa f3 ?_|refine dC1 zaG cn ?_|refine dC1 zaa g ?_|refine dC1 zau c0 ?_|refine dC1 zao c1 ?_|refine dC1 zao c2 ?_|refine CK.dp [0] [] zau q1 ?_|with_reducible refine zaj ?_|omega
     (refine zct.mk [0] ?_<;>simp [kwt])
    |ok e k5=>
     have le3:=zfg (by omega) r3
     have c3:=zxK (n:=n) hl (by omega) r3
     rw [r3] at ho
     simp only [PR.bind] at ho ⊢
     cases r4:zaW l [59] (k5) with
     |out=>exact absurd r4 zbE
     |bad k'=>
      have q1:=za2 l n _ _ _ r4
      show AP _ _ _ _ _ _ _
      refine zbY (fun d=>if d=2 then 1 else 2) 3 zda ?_
      repeat' first|refine Va (fA5 @kz zcj @exA.eq_1 @kA @lsA.eq_1) ?_|(with_reducible first|refine SB.c ?_ ?_<;>intro _|exact zak|refine fun (_:List AVal)=>?_)|refine dC1 zaa f0 ?_|refine dC1 zaa f1 ?_|refine dC1 zaa f2 ?_|refine dC1 zaa f3 ?_|refine dC1 zaG cn ?_|refine dC1 zaa g ?_|refine dC1 zau c0 ?_|refine dC1 zao c1 ?_|refine dC1 zao c2 ?_|refine dC1 zau c3 ?_|refine CK.dp [0] [] zao q1 ?_|with_reducible refine zaj ?_|omega
      (refine zct.mk [0] ?_<;>simp [kwt])
     |ok u4 k6=>
      have le4:=zeC (by omega) (by simp) r4
      have c4:=zbi l n _ _ _ r4 (by omega)
      rw [r4] at ho
      simp only [PR.bind] at ho ⊢
      refine zmx zdl (r:=PR.ok [smE 2 nm p e [] []] k6) (fun d=>if d=2 then 1 else 2) 3 zda ?_ (hr:=rfl)
      repeat' first|refine Va (fA5 @kz zcj @exA.eq_1 @kA @lsA.eq_1) ?_|(with_reducible first|refine SB.c ?_ ?_<;>intro _|exact zak|refine fun (_:List AVal)=>?_)|refine dC1 zaa f0 ?_|refine dC1 zaa f1 ?_|refine dC1 zaa f2 ?_|refine dC1 zaa f3 ?_|refine dC1 zaG cn ?_|refine dC1 zaa g ?_|refine dC1 zau c0 ?_|refine dC1 zao c1 ?_|refine dC1 zao c2 ?_|refine dC1 zau c3 ?_|refine dC1 zao c4 ?_|with_reducible refine zaj ?_|omega
      refine ⟨_,zaY.nz,?_⟩
      simp only [St.nz,nzL,zb4,nzO,nz,zbj]
      (refine zax.mk [0] ?_ ?_<;>simp [kwr,zcj,zdl,smA,smE,zag,exZ,exK,Sm.kind,Sm.name,Sm.slot,Sm.size,Sm.place,Sm.value,Sm.body,Sm.els,Ex.op,Ex.value,Ex.name,Ex.slot,Ex.size,Ex.args])
theorem zuU (l:List TkD) (n m k:Nat) (hl:l.length≤100000) (hk:k≤l.length) (hB:∀ k,k≤l.length→(smF l m .block k).isOut=false→zkl lsA 186 [] l n k (smF l m .block k)) (e0:isT l k [105,102]=false) (e1:isT l k [119,104,105,108,101]=false) (e2:isT l k [115,101,110,100]=false) (e3:isT l k [111,117,116,112,117,116]=false) (nm:List UInt8) (k1:Nat) (hn:zdM l k=.ok nm k1) (e9:isT l k1 [91]=false)
  (ho:((zaW l [61] (k1)).bind fun _ k4=>(zbr l (k4)).bind fun e k5=>(zaW l [59] (k5)).bind fun _ k6=>PR.ok [smE 1 nm exZ e [] []] k6).isOut=false) :
  zkl zdl 197 [] l n k ((zaW l [61] (k1)).bind fun _ k4=>(zbr l (k4)).bind fun e k5=>(zaW l [59] (k5)).bind fun _ k6=>PR.ok [smE 1 nm exZ e [] []] k6):=by
 have f0:=zap l n k _ e0
 have f1:=zap l n k _ e1
 have f2:=zap l n k _ e2
 have f3:=zap l n k _ e3
 have cn:=zih l n k k1 nm hn (by omega)
 have hk1:k1≤l.length:=by have:=za7 (l:=l) hk;rw [hn] at this;exact this.2
 have g:=zap l n k1 _ e9
 cases r0:zaW l [61] (k1) with
 |out=>exact absurd r0 zbE
 |bad k'=>
  have q1:=za2 l n _ _ _ r0
  show AP _ _ _ _ _ _ _
  refine zbY (fun d=>if d=2 then 1 else 2) 3 zda ?_
  repeat' first|refine Va (fA5 @kz zcj @exA.eq_1 @kA @lsA.eq_1) ?_|(with_reducible first|refine SB.c ?_ ?_<;>intro _|exact zak|refine fun (_:List AVal)=>?_)|refine dC1 zaa f0 ?_|refine dC1 zaa f1 ?_|refine dC1 zaa f2 ?_|refine dC1 zaa f3 ?_|refine dC1 zaG cn ?_|refine dC1 zaa g ?_|refine CK.dp [0] [] zao q1 ?_|with_reducible refine zaj ?_|omega
  (refine zct.mk [0] ?_<;>simp [kwt])
 |ok u0 k4=>
  have le0:=zeC (by omega) (by simp) r0
  have c0:=zbi l n _ _ _ r0 (by omega)
  rw [r0] at ho
  simp only [PR.bind] at ho ⊢
  cases r1:zbr l (k4) with
  |out=>exact absurd r1 (zdn (by omega))
  |bad k'=>
   have q1:=zmy (n:=n) hl (by omega) r1
   show AP _ _ _ _ _ _ _
   refine zbY (fun d=>if d=2 then 1 else 2) 3 zda ?_
   repeat' first|refine Va (fA5 @kz zcj @exA.eq_1 @kA @lsA.eq_1) ?_|(with_reducible first|refine SB.c ?_ ?_<;>intro _|exact zak|refine fun (_:List AVal)=>?_)|refine dC1 zaa f0 ?_|refine dC1 zaa f1 ?_|refine dC1 zaa f2 ?_|refine dC1 zaa f3 ?_|refine dC1 zaG cn ?_|refine dC1 zaa g ?_|refine dC1 zao c0 ?_|refine CK.dp [0] [] zau q1 ?_|with_reducible refine zaj ?_|omega
   (refine zct.mk [0] ?_<;>simp [kwt])
  |ok e k5=>
   have le1:=zfg (by omega) r1
   have c1:=zxK (n:=n) hl (by omega) r1
   rw [r1] at ho
   simp only [PR.bind] at ho ⊢
   cases r2:zaW l [59] (k5) with
   |out=>exact absurd r2 zbE
   |bad k'=>
    have q1:=za2 l n _ _ _ r2
    show AP _ _ _ _ _ _ _
    refine zbY (fun d=>if d=2 then 1 else 2) 3 zda ?_
    repeat' first|refine Va (fA5 @kz zcj @exA.eq_1 @kA @lsA.eq_1) ?_|(with_reducible first|refine SB.c ?_ ?_<;>intro _|exact zak|refine fun (_:List AVal)=>?_)|refine dC1 zaa f0 ?_|refine dC1 zaa f1 ?_|refine dC1 zaa f2 ?_|refine dC1 zaa f3 ?_|refine dC1 zaG cn ?_|refine dC1 zaa g ?_|refine dC1 zao c0 ?_|refine dC1 zau c1 ?_|refine CK.dp [0] [] zao q1 ?_|with_reducible refine zaj ?_|omega
    (refine zct.mk [0] ?_<;>simp [kwt])
   |ok u2 k6=>
    have le2:=zeC (by omega) (by simp) r2
    have c2:=zbi l n _ _ _ r2 (by omega)
    rw [r2] at ho
    simp only [PR.bind] at ho ⊢
    refine zmx zdl (r:=PR.ok [smE 1 nm exZ e [] []] k6) (fun d=>if d=2 then 1 else 2) 3 zda ?_ (hr:=rfl)
    repeat' first|refine Va (fA5 @kz zcj @exA.eq_1 @kA @lsA.eq_1) ?_|(with_reducible first|refine SB.c ?_ ?_<;>intro _|exact zak|refine fun (_:List AVal)=>?_)|refine dC1 zaa f0 ?_|refine dC1 zaa f1 ?_|refine dC1 zaa f2 ?_|refine dC1 zaa f3 ?_|refine dC1 zaG cn ?_|refine dC1 zaa g ?_|refine dC1 zao c0 ?_|refine dC1 zau c1 ?_|refine dC1 zao c2 ?_|with_reducible refine zaj ?_|omega
    refine ⟨_,zaY.nz,?_⟩
    simp only [St.nz,nzL,zb4,nzO,nz,zbj]
    (refine zax.mk [0] ?_ ?_<;>simp [kwr,zcj,zdl,smA,smE,zag,exZ,exK,Sm.kind,Sm.name,Sm.slot,Sm.size,Sm.place,Sm.value,Sm.body,Sm.els,Ex.op,Ex.value,Ex.name,Ex.slot,Ex.size,Ex.args])
theorem zuV (l:List TkD) (n k k':Nat) (hl:l.length≤100000) (hk:k≤l.length) (e0:isT l k [105,102]=false) (e1:isT l k [119,104,105,108,101]=false) (e2:isT l k [115,101,110,100]=false) (e3:isT l k [111,117,116,112,117,116]=false) (hn:zdM l k=.bad k'):AP Tryz.prog gl 197 [.ref 0 0] (psO l n k) (fv l n k') (psO l n k'):=by
 have f0:=zap l n k _ e0
 have f1:=zap l n k _ e1
 have f2:=zap l n k _ e2
 have f3:=zap l n k _ e3
 have q:=zja l n k k' hn hk
 refine zbY (fun d=>if d=2 then 1 else 2) 3 zda ?_
 repeat' first|refine Va (fA2 @kz zcj) ?_|(with_reducible first|refine SB.c ?_ ?_<;>intro _|exact zak|refine fun (_:List AVal)=>?_)|refine dC1 zaa f0 ?_|refine dC1 zaa f1 ?_|refine dC1 zaa f2 ?_|refine dC1 zaa f3 ?_|refine CK.dp [0] [] zaG q ?_|with_reducible refine zaj ?_|omega
 (refine zct.mk [0] ?_<;>simp [kwt])
end Go.Proofs.YtfinhhblcdkpgaaGreatDoor
