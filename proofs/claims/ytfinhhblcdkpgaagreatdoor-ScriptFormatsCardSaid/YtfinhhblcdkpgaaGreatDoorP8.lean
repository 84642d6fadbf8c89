/- A part of the walk (Tryz_P8): its theorems have no condition beyond what they state. -/
import Derived.Test.YtfinhhblcdkpgaaGreatDoorP7
set_option maxRecDepth 100000
set_option maxHeartbeats 64000000
set_option linter.unusedSimpArgs false
set_option linter.unusedVariables false
set_option linter.defProp false
namespace Go.Proofs.YtfinhhblcdkpgaaGreatDoor
open Go Go.Abs Go.RowKit
def lsA (b:List Sm):AVal:=.pv (.slice (b.map zah))
def smA (s:Sm):AVal:=.agg ((zah s).map .pv)
def zhr:List Sm→AVal
 |[s]=>smA s
 |_=>.junk
theorem ziC (a:List Ex):nz (zmz a)=.pv (.slice (a.map zbg)):=by cases a<;>rfl
theorem zup {l:List TkD} {n k k':Nat} {e:Ex} (hl:l.length≤100000) (hk:k≤l.length) (h:zbZ l k=.ok e k'):AC Tryz.prog gl 199 [.ref 0 0,.pv (.int .i64 0)] (psO l n k) (exA e) (psO l n k'):=by
 have:=zol l n k hl hk
 rw [h] at this
 exact this
theorem zkL {l:List TkD} {n k k':Nat} (hl:l.length≤100000) (hk:k≤l.length) (h:zbZ l k=.bad k'):AP Tryz.prog gl 199 [.ref 0 0,.pv (.int .i64 0)] (psO l n k) (fv l n k') (psO l n k'):=by
 have:=zol l n k hl hk
 rw [h] at this
 exact this
theorem zgh {l:List TkD} {k:Nat} (hk:k≤l.length):zbZ l k≠.out:=fun h=>by
 have:=zdX hk
 rw [h] at this
 cases this
theorem zc0 {l:List TkD} {s:List UInt8} {k:Nat}:zbe l s k≠.out:=fun h=>by
 have:=zbi (l:=l) (s:=s) (k:=k)
 rw [h] at this
 cases this
theorem zkM {l:List TkD} {k k':Nat} {e:Ex} (hk:k≤l.length) (h:zbZ l k=.ok e k'):k'≤l.length:=by
 have:=zh6 hk
 rw [h] at this
 exact this.2
theorem zi6 {l:List TkD} {s:List UInt8} {k k':Nat} {u:Unit} (hk:k≤l.length) (hs:s≠[]) (h:zbe l s k=.ok u k'):k'≤l.length:=by
 have:=zaF hk hs
 rw [h] at this
 exact this.2
theorem zAL {l:List TkD} {n:Nat} {nt:Ns} {k k':Nat} {b:List Sm} (hk:k≤l.length) (h:smF l n nt k=.ok b k'):k'≤l.length:=by
 have:=zcw (l:=l) n nt k hk
 rw [h] at this
 exact this.2
theorem zz1 (l:List TkD) (n m k:Nat) (hl:l.length≤100000) (hk:k≤l.length) (hB:∀ k,k≤l.length→(smF l m .block k).isOut=false→ziB lsA 186 [] l n k (smF l m .block k)) (e0:isT l k [105,102]=true) (e9:∀ e k1 b k2,zbZ l (k+1)=.ok e k1→smF l m .block k1=.ok b k2→isT l k2 [101,108,115,101]=true)
  (ho:((zbZ l (k+1)).bind fun e k1=>(smF l m .block (k1)).bind fun b k2=>(smF l m .block (k2+1)).bind fun c k3=>PR.ok [smE 3 [] exZ e b c] k3).isOut=false) :
  ziB zhr 197 [] l n k ((zbZ l (k+1)).bind fun e k1=>(smF l m .block (k1)).bind fun b k2=>(smF l m .block (k2+1)).bind fun c k3=>PR.ok [smE 3 [] exZ e b c] k3):=by
 have f0:=zaQ l n k _ e0 (by omega)
 have hlt:=zaC e0 (by simp)
 cases r0:zbZ l (k+1) with
 |out=>exact absurd r0 (zgh (by omega))
 |bad k'=>
  have q1:=zkL (n:=n) hl (by omega) r0
  show AP _ _ _ _ _ _ _
  refine zbr (fun d=>if d=2 then 1 else 2) 3 zcp ?_
  (repeat' (first|refine Va (fA5 @kz zbM @exA.eq_1 @kA @lsA.eq_1) ?_|(with_reducible first|refine SB.c ?_ ?_<;>intro _|exact zac|refine fun (_:List AVal)=>?_)|refine dC1 zaa f0 ?_|refine CK.dp [0] [] zal q1 ?_|with_reducible refine zab ?_|omega))
  (refine zbT.mk [0] ?_<;>simp [kwt])
 |ok e k1=>
  have le0:=zkM (by omega) r0
  have c0:=zup (n:=n) hl (by omega) r0
  rw [r0] at ho
  simp only [PR.bind] at ho ⊢
  cases r1:smF l m .block (k1) with
  |out=>rw [r1] at ho;cases ho
  |bad k'=>
   have q:=hB (k1) (by omega) (by rw [r1];rfl)
   rw [r1] at q
   have q1:AP _ _ _ _ _ _ _:=q
   show AP _ _ _ _ _ _ _
   refine zbr (fun d=>if d=2 then 1 else 2) 3 zcp ?_
   (repeat' (first|refine Va (fA5 @kz zbM @exA.eq_1 @kA @lsA.eq_1) ?_|(with_reducible first|refine SB.c ?_ ?_<;>intro _|exact zac|refine fun (_:List AVal)=>?_)|refine dC1 zaa f0 ?_|refine dC1 zal c0 ?_|refine CK.dp [0] [] za3 q1 ?_|with_reducible refine zab ?_|omega))
   (refine zbT.mk [0] ?_<;>simp [kwt])
  |ok b k2=>
   have le1:=zAL (by omega) r1
   have q1:=hB (k1) (by omega) (by rw [r1];rfl)
   rw [r1] at q1
   have c1:AC _ _ _ _ _ _ _:=q1
   rw [r1] at ho
   simp only [PR.bind] at ho ⊢
   have t2:=zaQ l n (k2) _ (e9 _ _ _ _ r0 r1) (by omega)
   have hlt2:=zaC (e9 _ _ _ _ r0 r1) (by simp)
   cases r3:smF l m .block (k2+1) with
   |out=>rw [r3] at ho;cases ho
   |bad k'=>
    have q:=hB (k2+1) (by omega) (by rw [r3];rfl)
    rw [r3] at q
    have q1:AP _ _ _ _ _ _ _:=q
    show AP _ _ _ _ _ _ _
    refine zbr (fun d=>if d=2 then 1 else 2) 3 zcp ?_
    (repeat' (first|refine Va (fA5 @kz zbM @exA.eq_1 @kA @lsA.eq_1) ?_|(with_reducible first|refine SB.c ?_ ?_<;>intro _|exact zac|refine fun (_:List AVal)=>?_)|refine dC1 zaa f0 ?_|refine dC1 zal c0 ?_|refine dC1 za3 c1 ?_|refine dC1 zaa t2 ?_|refine CK.dp [0] [] za3 q1 ?_|with_reducible refine zab ?_|omega))
    (refine zbT.mk [0] ?_<;>simp [kwt])
   |ok c k3=>
    have le3:=zAL (by omega) r3
    have q3:=hB (k2+1) (by omega) (by rw [r3];rfl)
    rw [r3] at q3
    have c3:AC _ _ _ _ _ _ _:=q3
    rw [r3] at ho
    simp only [PR.bind] at ho ⊢
    refine zkK zhr (r:=PR.ok [smE 3 [] exZ e b c] k3) (fun d=>if d=2 then 1 else 2) 3 zcp ?_ (hr:=rfl)
    (repeat' (first|refine Va (fA5 @kz zbM @exA.eq_1 @kA @lsA.eq_1) ?_|(with_reducible first|refine SB.c ?_ ?_<;>intro _|exact zac|refine fun (_:List AVal)=>?_)|refine dC1 zaa f0 ?_|refine dC1 zal c0 ?_|refine dC1 za3 c1 ?_|refine dC1 zaa t2 ?_|refine dC1 za3 c3 ?_|with_reducible refine zab ?_|omega))
    refine ⟨_,zbK.nz,?_⟩
    simp only [St.nz,nzL,ziY,nzO,nz,ziC]
    (refine zaJ.mk [0] ?_ ?_<;>simp [kwr,zbM,zhr,smA,smE,zar,exZ,exK,Sm.kind,Sm.name,Sm.slot,Sm.size,Sm.place,Sm.value,Sm.body,Sm.els,Ex.op,Ex.value,Ex.name,Ex.slot,Ex.size,Ex.args])
theorem zz2 (l:List TkD) (n m k:Nat) (hl:l.length≤100000) (hk:k≤l.length) (hB:∀ k,k≤l.length→(smF l m .block k).isOut=false→ziB lsA 186 [] l n k (smF l m .block k)) (e0:isT l k [105,102]=true) (e9:∀ e k1 b k2,zbZ l (k+1)=.ok e k1→smF l m .block k1=.ok b k2→isT l k2 [101,108,115,101]=false)
  (ho:((zbZ l (k+1)).bind fun e k1=>(smF l m .block (k1)).bind fun b k2=>PR.ok [smE 3 [] exZ e b []] k2).isOut=false) :
  ziB zhr 197 [] l n k ((zbZ l (k+1)).bind fun e k1=>(smF l m .block (k1)).bind fun b k2=>PR.ok [smE 3 [] exZ e b []] k2):=by
 have f0:=zaQ l n k _ e0 (by omega)
 have hlt:=zaC e0 (by simp)
 cases r0:zbZ l (k+1) with
 |out=>exact absurd r0 (zgh (by omega))
 |bad k'=>
  have q1:=zkL (n:=n) hl (by omega) r0
  show AP _ _ _ _ _ _ _
  refine zbr (fun d=>if d=2 then 1 else 2) 3 zcp ?_
  (repeat' (first|refine Va (fA5 @kz zbM @exA.eq_1 @kA @lsA.eq_1) ?_|(with_reducible first|refine SB.c ?_ ?_<;>intro _|exact zac|refine fun (_:List AVal)=>?_)|refine dC1 zaa f0 ?_|refine CK.dp [0] [] zal q1 ?_|with_reducible refine zab ?_|omega))
  (refine zbT.mk [0] ?_<;>simp [kwt])
 |ok e k1=>
  have le0:=zkM (by omega) r0
  have c0:=zup (n:=n) hl (by omega) r0
  rw [r0] at ho
  simp only [PR.bind] at ho ⊢
  cases r1:smF l m .block (k1) with
  |out=>rw [r1] at ho;cases ho
  |bad k'=>
   have q:=hB (k1) (by omega) (by rw [r1];rfl)
   rw [r1] at q
   have q1:AP _ _ _ _ _ _ _:=q
   show AP _ _ _ _ _ _ _
   refine zbr (fun d=>if d=2 then 1 else 2) 3 zcp ?_
   (repeat' (first|refine Va (fA5 @kz zbM @exA.eq_1 @kA @lsA.eq_1) ?_|(with_reducible first|refine SB.c ?_ ?_<;>intro _|exact zac|refine fun (_:List AVal)=>?_)|refine dC1 zaa f0 ?_|refine dC1 zal c0 ?_|refine CK.dp [0] [] za3 q1 ?_|with_reducible refine zab ?_|omega))
   (refine zbT.mk [0] ?_<;>simp [kwt])
  |ok b k2=>
   have le1:=zAL (by omega) r1
   have q1:=hB (k1) (by omega) (by rw [r1];rfl)
   rw [r1] at q1
   have c1:AC _ _ _ _ _ _ _:=q1
   rw [r1] at ho
   simp only [PR.bind] at ho ⊢
   have t2:=zaj l n (k2) _ (e9 _ _ _ _ r0 r1)
   refine zkK zhr (r:=PR.ok [smE 3 [] exZ e b []] k2) (fun d=>if d=2 then 1 else 2) 3 zcp ?_ (hr:=rfl)
   (repeat' (first|refine Va (fA5 @kz zbM @exA.eq_1 @kA @lsA.eq_1) ?_|(with_reducible first|refine SB.c ?_ ?_<;>intro _|exact zac|refine fun (_:List AVal)=>?_)|refine dC1 zaa f0 ?_|refine dC1 zal c0 ?_|refine dC1 za3 c1 ?_|refine dC1 zaa t2 ?_|with_reducible refine zab ?_|omega))
   refine ⟨_,zbK.nz,?_⟩
   simp only [St.nz,nzL,ziY,nzO,nz,ziC]
   (refine zaJ.mk [0] ?_ ?_<;>simp [kwr,zbM,zhr,smA,smE,zar,exZ,exK,Sm.kind,Sm.name,Sm.slot,Sm.size,Sm.place,Sm.value,Sm.body,Sm.els,Ex.op,Ex.value,Ex.name,Ex.slot,Ex.size,Ex.args])
theorem zuq (l:List TkD) (n m k:Nat) (hl:l.length≤100000) (hk:k≤l.length) (hB:∀ k,k≤l.length→(smF l m .block k).isOut=false→ziB lsA 186 [] l n k (smF l m .block k)) (e0:isT l k [105,102]=false) (e1:isT l k [119,104,105,108,101]=true)
  (ho:((zbZ l (k+1)).bind fun e k1=>(smF l m .block (k1)).bind fun b k2=>PR.ok [smE 4 [] exZ e b []] k2).isOut=false) :
  ziB zhr 197 [] l n k ((zbZ l (k+1)).bind fun e k1=>(smF l m .block (k1)).bind fun b k2=>PR.ok [smE 4 [] exZ e b []] k2):=by
 have f0:=zaj l n k _ e0
 have f1:=zaQ l n k _ e1 (by omega)
 have hlt:=zaC e1 (by simp)
 cases r0:zbZ l (k+1) with
 |out=>exact absurd r0 (zgh (by omega))
 |bad k'=>
  have q1:=zkL (n:=n) hl (by omega) r0
  show AP _ _ _ _ _ _ _
  refine zbr (fun d=>if d=2 then 1 else 2) 3 zcp ?_
  (repeat' (first|refine Va (fA5 @kz zbM @exA.eq_1 @kA @lsA.eq_1) ?_|(with_reducible first|refine SB.c ?_ ?_<;>intro _|exact zac|refine fun (_:List AVal)=>?_)|refine dC1 zaa f0 ?_|refine dC1 zaa f1 ?_|refine CK.dp [0] [] zal q1 ?_|with_reducible refine zab ?_|omega))
  (refine zbT.mk [0] ?_<;>simp [kwt])
 |ok e k1=>
  have le0:=zkM (by omega) r0
  have c0:=zup (n:=n) hl (by omega) r0
  rw [r0] at ho
  simp only [PR.bind] at ho ⊢
  cases r1:smF l m .block (k1) with
  |out=>rw [r1] at ho;cases ho
  |bad k'=>
   have q:=hB (k1) (by omega) (by rw [r1];rfl)
   rw [r1] at q
   have q1:AP _ _ _ _ _ _ _:=q
   show AP _ _ _ _ _ _ _
   refine zbr (fun d=>if d=2 then 1 else 2) 3 zcp ?_
   (repeat' (first|refine Va (fA5 @kz zbM @exA.eq_1 @kA @lsA.eq_1) ?_|(with_reducible first|refine SB.c ?_ ?_<;>intro _|exact zac|refine fun (_:List AVal)=>?_)|refine dC1 zaa f0 ?_|refine dC1 zaa f1 ?_|refine dC1 zal c0 ?_|refine CK.dp [0] [] za3 q1 ?_|with_reducible refine zab ?_|omega))
   (refine zbT.mk [0] ?_<;>simp [kwt])
  |ok b k2=>
   have le1:=zAL (by omega) r1
   have q1:=hB (k1) (by omega) (by rw [r1];rfl)
   rw [r1] at q1
   have c1:AC _ _ _ _ _ _ _:=q1
   rw [r1] at ho
   simp only [PR.bind] at ho ⊢
   refine zkK zhr (r:=PR.ok [smE 4 [] exZ e b []] k2) (fun d=>if d=2 then 1 else 2) 3 zcp ?_ (hr:=rfl)
   (repeat' (first|refine Va (fA5 @kz zbM @exA.eq_1 @kA @lsA.eq_1) ?_|(with_reducible first|refine SB.c ?_ ?_<;>intro _|exact zac|refine fun (_:List AVal)=>?_)|refine dC1 zaa f0 ?_|refine dC1 zaa f1 ?_|refine dC1 zal c0 ?_|refine dC1 za3 c1 ?_|with_reducible refine zab ?_|omega))
   refine ⟨_,zbK.nz,?_⟩
   simp only [St.nz,nzL,ziY,nzO,nz,ziC]
   (refine zaJ.mk [0] ?_ ?_<;>simp [kwr,zbM,zhr,smA,smE,zar,exZ,exK,Sm.kind,Sm.name,Sm.slot,Sm.size,Sm.place,Sm.value,Sm.body,Sm.els,Ex.op,Ex.value,Ex.name,Ex.slot,Ex.size,Ex.args])
theorem zxe (l:List TkD) (n m k:Nat) (hl:l.length≤100000) (hk:k≤l.length) (hB:∀ k,k≤l.length→(smF l m .block k).isOut=false→ziB lsA 186 [] l n k (smF l m .block k)) (e0:isT l k [105,102]=false) (e1:isT l k [119,104,105,108,101]=false) (e2:isT l k [115,101,110,100]=true)
  (ho:((zbZ l (k+1)).bind fun p k1=>(zbe l [44] (k1)).bind fun _ k2=>(zbZ l (k2)).bind fun e k3=>(zbe l [59] (k3)).bind fun _ k4=>PR.ok [smE 5 [] p e [] []] k4).isOut=false) :
  ziB zhr 197 [] l n k ((zbZ l (k+1)).bind fun p k1=>(zbe l [44] (k1)).bind fun _ k2=>(zbZ l (k2)).bind fun e k3=>(zbe l [59] (k3)).bind fun _ k4=>PR.ok [smE 5 [] p e [] []] k4):=by
 have f0:=zaj l n k _ e0
 have f1:=zaj l n k _ e1
 have f2:=zaQ l n k _ e2 (by omega)
 have hlt:=zaC e2 (by simp)
 cases r0:zbZ l (k+1) with
 |out=>exact absurd r0 (zgh (by omega))
 |bad k'=>
  have q1:=zkL (n:=n) hl (by omega) r0
  show AP _ _ _ _ _ _ _
  refine zbr (fun d=>if d=2 then 1 else 2) 3 zcp ?_
  (repeat' (first|refine Va (fA5 @kz zbM @exA.eq_1 @kA @lsA.eq_1) ?_|(with_reducible first|refine SB.c ?_ ?_<;>intro _|exact zac|refine fun (_:List AVal)=>?_)|refine dC1 zaa f0 ?_|refine dC1 zaa f1 ?_|refine dC1 zaa f2 ?_|refine CK.dp [0] [] zal q1 ?_|with_reducible refine zab ?_|omega))
  (refine zbT.mk [0] ?_<;>simp [kwt])
 |ok p k1=>
  have le0:=zkM (by omega) r0
  have c0:=zup (n:=n) hl (by omega) r0
  rw [r0] at ho
  simp only [PR.bind] at ho ⊢
  cases r1:zbe l [44] (k1) with
  |out=>exact absurd r1 zc0
  |bad k'=>
   have q1:=zaP l n _ _ _ r1
   show AP _ _ _ _ _ _ _
   refine zbr (fun d=>if d=2 then 1 else 2) 3 zcp ?_
   (repeat' (first|refine Va (fA5 @kz zbM @exA.eq_1 @kA @lsA.eq_1) ?_|(with_reducible first|refine SB.c ?_ ?_<;>intro _|exact zac|refine fun (_:List AVal)=>?_)|refine dC1 zaa f0 ?_|refine dC1 zaa f1 ?_|refine dC1 zaa f2 ?_|refine dC1 zal c0 ?_|refine CK.dp [0] [] zai q1 ?_|with_reducible refine zab ?_|omega))
   (refine zbT.mk [0] ?_<;>simp [kwt])
  |ok u1 k2=>
   have le1:=zi6 (by omega) (by simp) r1
   have c1:=zaZ l n _ _ _ r1 (by omega)
   rw [r1] at ho
   simp only [PR.bind] at ho ⊢
   cases r2:zbZ l (k2) with
   |out=>exact absurd r2 (zgh (by omega))
   |bad k'=>
    have q1:=zkL (n:=n) hl (by omega) r2
    show AP _ _ _ _ _ _ _
    refine zbr (fun d=>if d=2 then 1 else 2) 3 zcp ?_
    (repeat' (first|refine Va (fA5 @kz zbM @exA.eq_1 @kA @lsA.eq_1) ?_|(with_reducible first|refine SB.c ?_ ?_<;>intro _|exact zac|refine fun (_:List AVal)=>?_)|refine dC1 zaa f0 ?_|refine dC1 zaa f1 ?_|refine dC1 zaa f2 ?_|refine dC1 zal c0 ?_|refine dC1 zai c1 ?_|refine CK.dp [0] [] zal q1 ?_|with_reducible refine zab ?_|omega))
    (refine zbT.mk [0] ?_<;>simp [kwt])
   |ok e k3=>
    have le2:=zkM (by omega) r2
    have c2:=zup (n:=n) hl (by omega) r2
    rw [r2] at ho
    simp only [PR.bind] at ho ⊢
    cases r3:zbe l [59] (k3) with
    |out=>exact absurd r3 zc0
    |bad k'=>
     have q1:=zaP l n _ _ _ r3
     show AP _ _ _ _ _ _ _
     refine zbr (fun d=>if d=2 then 1 else 2) 3 zcp ?_
     (repeat' (first|refine Va (fA5 @kz zbM @exA.eq_1 @kA @lsA.eq_1) ?_|(with_reducible first|refine SB.c ?_ ?_<;>intro _|exact zac|refine fun (_:List AVal)=>?_)|refine dC1 zaa f0 ?_|refine dC1 zaa f1 ?_|refine dC1 zaa f2 ?_|refine dC1 zal c0 ?_|refine dC1 zai c1 ?_|refine dC1 zal c2 ?_|refine CK.dp [0] [] zai q1 ?_|with_reducible refine zab ?_|omega))
     (refine zbT.mk [0] ?_<;>simp [kwt])
    |ok u3 k4=>
     have le3:=zi6 (by omega) (by simp) r3
     have c3:=zaZ l n _ _ _ r3 (by omega)
     rw [r3] at ho
     simp only [PR.bind] at ho ⊢
     refine zkK zhr (r:=PR.ok [smE 5 [] p e [] []] k4) (fun d=>if d=2 then 1 else 2) 3 zcp ?_ (hr:=rfl)
     (repeat' (first|refine Va (fA5 @kz zbM @exA.eq_1 @kA @lsA.eq_1) ?_|(with_reducible first|refine SB.c ?_ ?_<;>intro _|exact zac|refine fun (_:List AVal)=>?_)|refine dC1 zaa f0 ?_|refine dC1 zaa f1 ?_|refine dC1 zaa f2 ?_|refine dC1 zal c0 ?_|refine dC1 zai c1 ?_|refine dC1 zal c2 ?_|refine dC1 zai c3 ?_|with_reducible refine zab ?_|omega))
     refine ⟨_,zbK.nz,?_⟩
     simp only [St.nz,nzL,ziY,nzO,nz,ziC]
     (refine zaJ.mk [0] ?_ ?_<;>simp [kwr,zbM,zhr,smA,smE,zar,exZ,exK,Sm.kind,Sm.name,Sm.slot,Sm.size,Sm.place,Sm.value,Sm.body,Sm.els,Ex.op,Ex.value,Ex.name,Ex.slot,Ex.size,Ex.args])
theorem zz3 (l:List TkD) (n m k:Nat) (hl:l.length≤100000) (hk:k≤l.length) (hB:∀ k,k≤l.length→(smF l m .block k).isOut=false→ziB lsA 186 [] l n k (smF l m .block k)) (e0:isT l k [105,102]=false) (e1:isT l k [119,104,105,108,101]=false) (e2:isT l k [115,101,110,100]=false) (e3:isT l k [111,117,116,112,117,116]=true)
  (ho:((zbZ l (k+1)).bind fun e k1=>(zbe l [59] (k1)).bind fun _ k2=>PR.ok [smE 6 [] exZ e [] []] k2).isOut=false) :
  ziB zhr 197 [] l n k ((zbZ l (k+1)).bind fun e k1=>(zbe l [59] (k1)).bind fun _ k2=>PR.ok [smE 6 [] exZ e [] []] k2):=by
 have f0:=zaj l n k _ e0
 have f1:=zaj l n k _ e1
 have f2:=zaj l n k _ e2
 have f3:=zaQ l n k _ e3 (by omega)
 have hlt:=zaC e3 (by simp)
 cases r0:zbZ l (k+1) with
 |out=>exact absurd r0 (zgh (by omega))
 |bad k'=>
  have q1:=zkL (n:=n) hl (by omega) r0
  show AP _ _ _ _ _ _ _
  refine zbr (fun d=>if d=2 then 1 else 2) 3 zcp ?_
  (repeat' (first|refine Va (fA5 @kz zbM @exA.eq_1 @kA @lsA.eq_1) ?_|(with_reducible first|refine SB.c ?_ ?_<;>intro _|exact zac|refine fun (_:List AVal)=>?_)|refine dC1 zaa f0 ?_|refine dC1 zaa f1 ?_|refine dC1 zaa f2 ?_|refine dC1 zaa f3 ?_|refine CK.dp [0] [] zal q1 ?_|with_reducible refine zab ?_|omega))
  (refine zbT.mk [0] ?_<;>simp [kwt])
 |ok e k1=>
  have le0:=zkM (by omega) r0
  have c0:=zup (n:=n) hl (by omega) r0
  rw [r0] at ho
  simp only [PR.bind] at ho ⊢
  cases r1:zbe l [59] (k1) with
  |out=>exact absurd r1 zc0
  |bad k'=>
   have q1:=zaP l n _ _ _ r1
   show AP _ _ _ _ _ _ _
   refine zbr (fun d=>if d=2 then 1 else 2) 3 zcp ?_
   (repeat' (first|refine Va (fA5 @kz zbM @exA.eq_1 @kA @lsA.eq_1) ?_|(with_reducible first|refine SB.c ?_ ?_<;>intro _|exact zac|refine fun (_:List AVal)=>?_)|refine dC1 zaa f0 ?_|refine dC1 zaa f1 ?_|refine dC1 zaa f2 ?_|refine dC1 zaa f3 ?_|refine dC1 zal c0 ?_|refine CK.dp [0] [] zai q1 ?_|with_reducible refine zab ?_|omega))
   (refine zbT.mk [0] ?_<;>simp [kwt])
  |ok u1 k2=>
   have le1:=zi6 (by omega) (by simp) r1
   have c1:=zaZ l n _ _ _ r1 (by omega)
   rw [r1] at ho
   simp only [PR.bind] at ho ⊢
   refine zkK zhr (r:=PR.ok [smE 6 [] exZ e [] []] k2) (fun d=>if d=2 then 1 else 2) 3 zcp ?_ (hr:=rfl)
   (repeat' (first|refine Va (fA5 @kz zbM @exA.eq_1 @kA @lsA.eq_1) ?_|(with_reducible first|refine SB.c ?_ ?_<;>intro _|exact zac|refine fun (_:List AVal)=>?_)|refine dC1 zaa f0 ?_|refine dC1 zaa f1 ?_|refine dC1 zaa f2 ?_|refine dC1 zaa f3 ?_|refine dC1 zal c0 ?_|refine dC1 zai c1 ?_|with_reducible refine zab ?_|omega))
   refine ⟨_,zbK.nz,?_⟩
   simp only [St.nz,nzL,ziY,nzO,nz,ziC]
   (refine zaJ.mk [0] ?_ ?_<;>simp [kwr,zbM,zhr,smA,smE,zar,exZ,exK,Sm.kind,Sm.name,Sm.slot,Sm.size,Sm.place,Sm.value,Sm.body,Sm.els,Ex.op,Ex.value,Ex.name,Ex.slot,Ex.size,Ex.args])
theorem zur (l:List TkD) (n m k:Nat) (hl:l.length≤100000) (hk:k≤l.length) (hB:∀ k,k≤l.length→(smF l m .block k).isOut=false→ziB lsA 186 [] l n k (smF l m .block k)) (e0:isT l k [105,102]=false) (e1:isT l k [119,104,105,108,101]=false) (e2:isT l k [115,101,110,100]=false) (e3:isT l k [111,117,116,112,117,116]=false) (nm:List UInt8) (k1:Nat) (hn:zff l k=.ok nm k1) (e9:isT l k1 [91]=true)
  (ho:((zbZ l (k1+1)).bind fun p k2=>(zbe l [93] (k2)).bind fun _ k3=>(zbe l [61] (k3)).bind fun _ k4=>(zbZ l (k4)).bind fun e k5=>(zbe l [59] (k5)).bind fun _ k6=>PR.ok [smE 2 nm p e [] []] k6).isOut=false) :
  ziB zhr 197 [] l n k ((zbZ l (k1+1)).bind fun p k2=>(zbe l [93] (k2)).bind fun _ k3=>(zbe l [61] (k3)).bind fun _ k4=>(zbZ l (k4)).bind fun e k5=>(zbe l [59] (k5)).bind fun _ k6=>PR.ok [smE 2 nm p e [] []] k6):=by
 have f0:=zaj l n k _ e0
 have f1:=zaj l n k _ e1
 have f2:=zaj l n k _ e2
 have f3:=zaj l n k _ e3
 have cn:=zgC l n k k1 nm hn (by omega)
 have hk1:k1≤l.length:=by have:=zbv (l:=l) hk;rw [hn] at this;exact this.2
 have g:=zaQ l n k1 _ e9 (by omega)
 have hlt:=zaC e9 (by simp)
 cases r0:zbZ l (k1+1) with
 |out=>exact absurd r0 (zgh (by omega))
 |bad k'=>
  have q1:=zkL (n:=n) hl (by omega) r0
  show AP _ _ _ _ _ _ _
  refine zbr (fun d=>if d=2 then 1 else 2) 3 zcp ?_
  (repeat' (first|refine Va (fA5 @kz zbM @exA.eq_1 @kA @lsA.eq_1) ?_|(with_reducible first|refine SB.c ?_ ?_<;>intro _|exact zac|refine fun (_:List AVal)=>?_)|refine dC1 zaa f0 ?_|refine dC1 zaa f1 ?_|refine dC1 zaa f2 ?_|refine dC1 zaa f3 ?_|refine dC1 zau cn ?_|refine dC1 zaa g ?_|refine CK.dp [0] [] zal q1 ?_|with_reducible refine zab ?_|omega))
  (refine zbT.mk [0] ?_<;>simp [kwt])
 |ok p k2=>
  have le0:=zkM (by omega) r0
  have c0:=zup (n:=n) hl (by omega) r0
  rw [r0] at ho
  simp only [PR.bind] at ho ⊢
  cases r1:zbe l [93] (k2) with
  |out=>exact absurd r1 zc0
  |bad k'=>
   have q1:=zaP l n _ _ _ r1
   show AP _ _ _ _ _ _ _
   refine zbr (fun d=>if d=2 then 1 else 2) 3 zcp ?_
   (repeat' (first|refine Va (fA5 @kz zbM @exA.eq_1 @kA @lsA.eq_1) ?_|(with_reducible first|refine SB.c ?_ ?_<;>intro _|exact zac|refine fun (_:List AVal)=>?_)|refine dC1 zaa f0 ?_|refine dC1 zaa f1 ?_|refine dC1 zaa f2 ?_|refine dC1 zaa f3 ?_|refine dC1 zau cn ?_|refine dC1 zaa g ?_|refine dC1 zal c0 ?_|refine CK.dp [0] [] zai q1 ?_|with_reducible refine zab ?_|omega))
   (refine zbT.mk [0] ?_<;>simp [kwt])
  |ok u1 k3=>
   have le1:=zi6 (by omega) (by simp) r1
   have c1:=zaZ l n _ _ _ r1 (by omega)
   rw [r1] at ho
   simp only [PR.bind] at ho ⊢
   cases r2:zbe l [61] (k3) with
   |out=>exact absurd r2 zc0
   |bad k'=>
    have q1:=zaP l n _ _ _ r2
    show AP _ _ _ _ _ _ _
    refine zbr (fun d=>if d=2 then 1 else 2) 3 zcp ?_
    (repeat' (first|refine Va (fA5 @kz zbM @exA.eq_1 @kA @lsA.eq_1) ?_|(with_reducible first|refine SB.c ?_ ?_<;>intro _|exact zac|refine fun (_:List AVal)=>?_)|refine dC1 zaa f0 ?_|refine dC1 zaa f1 ?_|refine dC1 zaa f2 ?_|refine dC1 zaa f3 ?_|refine dC1 zau cn ?_|refine dC1 zaa g ?_|refine dC1 zal c0 ?_|refine dC1 zai c1 ?_|refine CK.dp [0] [] zai q1 ?_|with_reducible refine zab ?_|omega))
    (refine zbT.mk [0] ?_<;>simp [kwt])
   |ok u2 k4=>
    have le2:=zi6 (by omega) (by simp) r2
    have c2:=zaZ l n _ _ _ r2 (by omega)
    rw [r2] at ho
    simp only [PR.bind] at ho ⊢
    cases r3:zbZ l (k4) with
    |out=>exact absurd r3 (zgh (by omega))
    |bad k'=>
     have q1:=zkL (n:=n) hl (by omega) r3
     show AP _ _ _ _ _ _ _
     refine zbr (fun d=>if d=2 then 1 else 2) 3 zcp ?_
     (repeat' (first|refine Va (fA5 @kz zbM @exA.eq_1 @kA @lsA.eq_1) ?_|(with_reducible first|refine SB.c ?_ ?_<;>intro _|exact zac|refine fun (_:List AVal)=>?_)|refine dC1 zaa f0 ?_|refine dC1 zaa f1 ?_|refine dC1 zaa f2 ?_|refine dC1 zaa f3 ?_|refine dC1 zau cn ?_|refine dC1 zaa g ?_|refine dC1 zal c0 ?_|refine dC1 zai c1 ?_|refine dC1 zai c2 ?_|refine CK.dp [0] [] zal q1 ?_|with_reducible refine zab ?_|omega))
     (refine zbT.mk [0] ?_<;>simp [kwt])
    |ok e k5=>
     have le3:=zkM (by omega) r3
     have c3:=zup (n:=n) hl (by omega) r3
     rw [r3] at ho
     simp only [PR.bind] at ho ⊢
     cases r4:zbe l [59] (k5) with
     |out=>exact absurd r4 zc0
     |bad k'=>
      have q1:=zaP l n _ _ _ r4
      show AP _ _ _ _ _ _ _
      refine zbr (fun d=>if d=2 then 1 else 2) 3 zcp ?_
      (repeat' (first|refine Va (fA5 @kz zbM @exA.eq_1 @kA @lsA.eq_1) ?_|(with_reducible first|refine SB.c ?_ ?_<;>intro _|exact zac|refine fun (_:List AVal)=>?_)|refine dC1 zaa f0 ?_|refine dC1 zaa f1 ?_|refine dC1 zaa f2 ?_|refine dC1 zaa f3 ?_|refine dC1 zau cn ?_|refine dC1 zaa g ?_|refine dC1 zal c0 ?_|refine dC1 zai c1 ?_|refine dC1 zai c2 ?_|refine dC1 zal c3 ?_|refine CK.dp [0] [] zai q1 ?_|with_reducible refine zab ?_|omega))
      (refine zbT.mk [0] ?_<;>simp [kwt])
     |ok u4 k6=>
      have le4:=zi6 (by omega) (by simp) r4
      have c4:=zaZ l n _ _ _ r4 (by omega)
      rw [r4] at ho
      simp only [PR.bind] at ho ⊢
      refine zkK zhr (r:=PR.ok [smE 2 nm p e [] []] k6) (fun d=>if d=2 then 1 else 2) 3 zcp ?_ (hr:=rfl)
      (repeat' (first|refine Va (fA5 @kz zbM @exA.eq_1 @kA @lsA.eq_1) ?_|(with_reducible first|refine SB.c ?_ ?_<;>intro _|exact zac|refine fun (_:List AVal)=>?_)|refine dC1 zaa f0 ?_|refine dC1 zaa f1 ?_|refine dC1 zaa f2 ?_|refine dC1 zaa f3 ?_|refine dC1 zau cn ?_|refine dC1 zaa g ?_|refine dC1 zal c0 ?_|refine dC1 zai c1 ?_|refine dC1 zai c2 ?_|refine dC1 zal c3 ?_|refine dC1 zai c4 ?_|with_reducible refine zab ?_|omega))
      refine ⟨_,zbK.nz,?_⟩
      simp only [St.nz,nzL,ziY,nzO,nz,ziC]
      (refine zaJ.mk [0] ?_ ?_<;>simp [kwr,zbM,zhr,smA,smE,zar,exZ,exK,Sm.kind,Sm.name,Sm.slot,Sm.size,Sm.place,Sm.value,Sm.body,Sm.els,Ex.op,Ex.value,Ex.name,Ex.slot,Ex.size,Ex.args])
theorem zrP (l:List TkD) (n m k:Nat) (hl:l.length≤100000) (hk:k≤l.length) (hB:∀ k,k≤l.length→(smF l m .block k).isOut=false→ziB lsA 186 [] l n k (smF l m .block k)) (e0:isT l k [105,102]=false) (e1:isT l k [119,104,105,108,101]=false) (e2:isT l k [115,101,110,100]=false) (e3:isT l k [111,117,116,112,117,116]=false) (nm:List UInt8) (k1:Nat) (hn:zff l k=.ok nm k1) (e9:isT l k1 [91]=false)
  (ho:((zbe l [61] (k1)).bind fun _ k4=>(zbZ l (k4)).bind fun e k5=>(zbe l [59] (k5)).bind fun _ k6=>PR.ok [smE 1 nm exZ e [] []] k6).isOut=false) :
  ziB zhr 197 [] l n k ((zbe l [61] (k1)).bind fun _ k4=>(zbZ l (k4)).bind fun e k5=>(zbe l [59] (k5)).bind fun _ k6=>PR.ok [smE 1 nm exZ e [] []] k6):=by
 have f0:=zaj l n k _ e0
 have f1:=zaj l n k _ e1
 have f2:=zaj l n k _ e2
 have f3:=zaj l n k _ e3
 have cn:=zgC l n k k1 nm hn (by omega)
 have hk1:k1≤l.length:=by have:=zbv (l:=l) hk;rw [hn] at this;exact this.2
 have g:=zaj l n k1 _ e9
 cases r0:zbe l [61] (k1) with
 |out=>exact absurd r0 zc0
 |bad k'=>
  have q1:=zaP l n _ _ _ r0
  show AP _ _ _ _ _ _ _
  refine zbr (fun d=>if d=2 then 1 else 2) 3 zcp ?_
  (repeat' (first|refine Va (fA5 @kz zbM @exA.eq_1 @kA @lsA.eq_1) ?_|(with_reducible first|refine SB.c ?_ ?_<;>intro _|exact zac|refine fun (_:List AVal)=>?_)|refine dC1 zaa f0 ?_|refine dC1 zaa f1 ?_|refine dC1 zaa f2 ?_|refine dC1 zaa f3 ?_|refine dC1 zau cn ?_|refine dC1 zaa g ?_|refine CK.dp [0] [] zai q1 ?_|with_reducible refine zab ?_|omega))
  (refine zbT.mk [0] ?_<;>simp [kwt])
 |ok u0 k4=>
  have le0:=zi6 (by omega) (by simp) r0
  have c0:=zaZ l n _ _ _ r0 (by omega)
  rw [r0] at ho
  simp only [PR.bind] at ho ⊢
  cases r1:zbZ l (k4) with
  |out=>exact absurd r1 (zgh (by omega))
  |bad k'=>
   have q1:=zkL (n:=n) hl (by omega) r1
   show AP _ _ _ _ _ _ _
   refine zbr (fun d=>if d=2 then 1 else 2) 3 zcp ?_
   (repeat' (first|refine Va (fA5 @kz zbM @exA.eq_1 @kA @lsA.eq_1) ?_|(with_reducible first|refine SB.c ?_ ?_<;>intro _|exact zac|refine fun (_:List AVal)=>?_)|refine dC1 zaa f0 ?_|refine dC1 zaa f1 ?_|refine dC1 zaa f2 ?_|refine dC1 zaa f3 ?_|refine dC1 zau cn ?_|refine dC1 zaa g ?_|refine dC1 zai c0 ?_|refine CK.dp [0] [] zal q1 ?_|with_reducible refine zab ?_|omega))
   (refine zbT.mk [0] ?_<;>simp [kwt])
  |ok e k5=>
   have le1:=zkM (by omega) r1
   have c1:=zup (n:=n) hl (by omega) r1
   rw [r1] at ho
   simp only [PR.bind] at ho ⊢
   cases r2:zbe l [59] (k5) with
   |out=>exact absurd r2 zc0
   |bad k'=>
    have q1:=zaP l n _ _ _ r2
    show AP _ _ _ _ _ _ _
    refine zbr (fun d=>if d=2 then 1 else 2) 3 zcp ?_
    (repeat' (first|refine Va (fA5 @kz zbM @exA.eq_1 @kA @lsA.eq_1) ?_|(with_reducible first|refine SB.c ?_ ?_<;>intro _|exact zac|refine fun (_:List AVal)=>?_)|refine dC1 zaa f0 ?_|refine dC1 zaa f1 ?_|refine dC1 zaa f2 ?_|refine dC1 zaa f3 ?_|refine dC1 zau cn ?_|refine dC1 zaa g ?_|refine dC1 zai c0 ?_|refine dC1 zal c1 ?_|refine CK.dp [0] [] zai q1 ?_|with_reducible refine zab ?_|omega))
    (refine zbT.mk [0] ?_<;>simp [kwt])
   |ok u2 k6=>
    have le2:=zi6 (by omega) (by simp) r2
    have c2:=zaZ l n _ _ _ r2 (by omega)
    rw [r2] at ho
    simp only [PR.bind] at ho ⊢
    refine zkK zhr (r:=PR.ok [smE 1 nm exZ e [] []] k6) (fun d=>if d=2 then 1 else 2) 3 zcp ?_ (hr:=rfl)
    (repeat' (first|refine Va (fA5 @kz zbM @exA.eq_1 @kA @lsA.eq_1) ?_|(with_reducible first|refine SB.c ?_ ?_<;>intro _|exact zac|refine fun (_:List AVal)=>?_)|refine dC1 zaa f0 ?_|refine dC1 zaa f1 ?_|refine dC1 zaa f2 ?_|refine dC1 zaa f3 ?_|refine dC1 zau cn ?_|refine dC1 zaa g ?_|refine dC1 zai c0 ?_|refine dC1 zal c1 ?_|refine dC1 zai c2 ?_|with_reducible refine zab ?_|omega))
    refine ⟨_,zbK.nz,?_⟩
    simp only [St.nz,nzL,ziY,nzO,nz,ziC]
    (refine zaJ.mk [0] ?_ ?_<;>simp [kwr,zbM,zhr,smA,smE,zar,exZ,exK,Sm.kind,Sm.name,Sm.slot,Sm.size,Sm.place,Sm.value,Sm.body,Sm.els,Ex.op,Ex.value,Ex.name,Ex.slot,Ex.size,Ex.args])
theorem zrQ (l:List TkD) (n k k':Nat) (hl:l.length≤100000) (hk:k≤l.length) (e0:isT l k [105,102]=false) (e1:isT l k [119,104,105,108,101]=false) (e2:isT l k [115,101,110,100]=false) (e3:isT l k [111,117,116,112,117,116]=false) (hn:zff l k=.bad k'):AP Tryz.prog gl 197 [.ref 0 0] (psO l n k) (fv l n k') (psO l n k'):=by
 have f0:=zaj l n k _ e0
 have f1:=zaj l n k _ e1
 have f2:=zaj l n k _ e2
 have f3:=zaj l n k _ e3
 have q:=zhm l n k k' hn hk
 refine zbr (fun d=>if d=2 then 1 else 2) 3 zcp ?_
 (repeat' (first|refine Va (fA2 @kz zbM) ?_|(with_reducible first|refine SB.c ?_ ?_<;>intro _|exact zac|refine fun (_:List AVal)=>?_)|refine dC1 zaa f0 ?_|refine dC1 zaa f1 ?_|refine dC1 zaa f2 ?_|refine dC1 zaa f3 ?_|refine CK.dp [0] [] zau q ?_|with_reducible refine zab ?_|omega))
 (refine zbT.mk [0] ?_<;>simp [kwt])
end Go.Proofs.YtfinhhblcdkpgaaGreatDoor
