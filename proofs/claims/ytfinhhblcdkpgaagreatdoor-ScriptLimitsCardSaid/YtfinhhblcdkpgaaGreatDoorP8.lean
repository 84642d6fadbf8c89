/- A part of the walk (Tryz_P8): its theorems have no condition beyond what they state. -/
import Derived.Test.YtfinhhblcdkpgaaGreatDoorP7
set_option maxRecDepth 100000
set_option maxHeartbeats 64000000
set_option linter.unusedSimpArgs false
set_option linter.unusedVariables false
set_option linter.defProp false
namespace Go.Proofs.YtfinhhblcdkpgaaGreatDoor
open Go Go.Abs Go.RowKit
def lsA (b:List Sm):AVal:=.pv (.slice (b.map zai))
def smA (s:Sm):AVal:=.agg ((zai s).map .pv)
def zc5:List Sm→AVal
 |[s]=>smA s
 |_=>.junk
theorem zbf (a:List Ex):nz (zlI a)=.pv (.slice (a.map zbk)):=by cases a<;>rfl
theorem zwA {l:List TkD} {n k k':Nat} {e:Ex} (hl:l.length≤100000) (hk:k≤l.length) (h:zbl l k=.ok e k'):AC Tryz.prog gl 199 [.ref 0 0,.pv (.int .i64 0)] (psO l n k) (exA e) (psO l n k'):=by
 have:=zpV l n k hl hk
 rw [h] at this
 exact this
theorem zmb {l:List TkD} {n k k':Nat} (hl:l.length≤100000) (hk:k≤l.length) (h:zbl l k=.bad k'):AP Tryz.prog gl 199 [.ref 0 0,.pv (.int .i64 0)] (psO l n k) (fv l n k') (psO l n k'):=by
 have:=zpV l n k hl hk
 rw [h] at this
 exact this
theorem zc7 {l:List TkD} {k:Nat} (hk:k≤l.length):zbl l k≠.out:=fun h=>by
 have:=zef hk
 rw [h] at this
 cases this
theorem zby {l:List TkD} {s:List UInt8} {k:Nat}:zaU l s k≠.out:=fun h=>by
 have:=zbt (l:=l) (s:=s) (k:=k)
 rw [h] at this
 cases this
theorem ze1 {l:List TkD} {k k':Nat} {e:Ex} (hk:k≤l.length) (h:zbl l k=.ok e k'):k'≤l.length:=by
 have:=zjq hk
 rw [h] at this
 exact this.2
theorem zen {l:List TkD} {s:List UInt8} {k k':Nat} {u:Unit} (hk:k≤l.length) (hs:s≠[]) (h:zaU l s k=.ok u k'):k'≤l.length:=by
 have:=zav hk hs
 rw [h] at this
 exact this.2
theorem zxi {l:List TkD} {n:Nat} {nt:Ns} {k k':Nat} {b:List Sm} (hk:k≤l.length) (h:smF l n nt k=.ok b k'):k'≤l.length:=by
 have:=zcn (l:=l) n nt k hk
 rw [h] at this
 exact this.2
theorem zCG (l:List TkD) (n m k:Nat) (hl:l.length≤100000) (hk:k≤l.length) (hB:∀ k,k≤l.length→(smF l m .block k).isOut=false→zjO lsA 186 [] l n k (smF l m .block k)) (e0:isT l k [105,102]=true) (e9:∀ e k1 b k2,zbl l (k+1)=.ok e k1→smF l m .block k1=.ok b k2→isT l k2 [101,108,115,101]=true)
  (ho:((zbl l (k+1)).bind fun e k1=>(smF l m .block (k1)).bind fun b k2=>(smF l m .block (k2+1)).bind fun c k3=>PR.ok [smE 3 [] exZ e b c] k3).isOut=false) :
  zjO zc5 197 [] l n k ((zbl l (k+1)).bind fun e k1=>(smF l m .block (k1)).bind fun b k2=>(smF l m .block (k2+1)).bind fun c k3=>PR.ok [smE 3 [] exZ e b c] k3):=by
 have f0:=za3 l n k _ e0 (by omega)
 have hlt:=zau e0 (by simp)
 cases r0:zbl l (k+1) with
 |out=>exact absurd r0 (zc7 (by omega))
 |bad k'=>
  have q1:=zmb (n:=n) hl (by omega) r0
  show AP _ _ _ _ _ _ _
  refine zbO (fun d=>if d=2 then 1 else 2) 3 zcR ?_
  repeat' first|refine Va (fA5 @kz zcb @exA.eq_1 @kA @lsA.eq_1) ?_|(with_reducible first|refine SB.c ?_ ?_<;>intro _|exact zad|refine fun (_:List AVal)=>?_)|refine dC1 zaa f0 ?_|refine CK.dp [0] [] zas q1 ?_|with_reducible refine zac ?_|omega
  (refine zci.mk [0] ?_<;>simp [kwt])
 |ok e k1=>
  have le0:=ze1 (by omega) r0
  have c0:=zwA (n:=n) hl (by omega) r0
  rw [r0] at ho
  simp only [PR.bind] at ho ⊢
  cases r1:smF l m .block (k1) with
  |out=>rw [r1] at ho;cases ho
  |bad k'=>
   have q:=hB (k1) (by omega) (by rw [r1];rfl)
   rw [r1] at q
   have q1:AP _ _ _ _ _ _ _:=q
   show AP _ _ _ _ _ _ _
   refine zbO (fun d=>if d=2 then 1 else 2) 3 zcR ?_
   repeat' first|refine Va (fA5 @kz zcb @exA.eq_1 @kA @lsA.eq_1) ?_|(with_reducible first|refine SB.c ?_ ?_<;>intro _|exact zad|refine fun (_:List AVal)=>?_)|refine dC1 zaa f0 ?_|refine dC1 zas c0 ?_|refine CK.dp [0] [] zbg q1 ?_|with_reducible refine zac ?_|omega
   (refine zci.mk [0] ?_<;>simp [kwt])
  |ok b k2=>
   have le1:=zxi (by omega) r1
   have q1:=hB (k1) (by omega) (by rw [r1];rfl)
   rw [r1] at q1
   have c1:AC _ _ _ _ _ _ _:=q1
   rw [r1] at ho
   simp only [PR.bind] at ho ⊢
   have t2:=za3 l n (k2) _ (e9 _ _ _ _ r0 r1) (by omega)
   have hlt2:=zau (e9 _ _ _ _ r0 r1) (by simp)
   cases r3:smF l m .block (k2+1) with
   |out=>rw [r3] at ho;cases ho
   |bad k'=>
    have q:=hB (k2+1) (by omega) (by rw [r3];rfl)
    rw [r3] at q
    have q1:AP _ _ _ _ _ _ _:=q
    show AP _ _ _ _ _ _ _
    refine zbO (fun d=>if d=2 then 1 else 2) 3 zcR ?_
    repeat' first|refine Va (fA5 @kz zcb @exA.eq_1 @kA @lsA.eq_1) ?_|(with_reducible first|refine SB.c ?_ ?_<;>intro _|exact zad|refine fun (_:List AVal)=>?_)|refine dC1 zaa f0 ?_|refine dC1 zas c0 ?_|refine dC1 zbg c1 ?_|refine dC1 zaa t2 ?_|refine CK.dp [0] [] zbg q1 ?_|with_reducible refine zac ?_|omega
    (refine zci.mk [0] ?_<;>simp [kwt])
   |ok c k3=>
    have le3:=zxi (by omega) r3
    have q3:=hB (k2+1) (by omega) (by rw [r3];rfl)
    rw [r3] at q3
    have c3:AC _ _ _ _ _ _ _:=q3
    rw [r3] at ho
    simp only [PR.bind] at ho ⊢
    refine zma zc5 (r:=PR.ok [smE 3 [] exZ e b c] k3) (fun d=>if d=2 then 1 else 2) 3 zcR ?_ (hr:=rfl)
    repeat' first|refine Va (fA5 @kz zcb @exA.eq_1 @kA @lsA.eq_1) ?_|(with_reducible first|refine SB.c ?_ ?_<;>intro _|exact zad|refine fun (_:List AVal)=>?_)|refine dC1 zaa f0 ?_|refine dC1 zas c0 ?_|refine dC1 zbg c1 ?_|refine dC1 zaa t2 ?_|refine dC1 zbg c3 ?_|with_reducible refine zac ?_|omega
    refine ⟨_,za0.nz,?_⟩
    simp only [St.nz,nzL,zbS,nzO,nz,zbf]
    (refine zay.mk [0] ?_ ?_<;>simp [kwr,zcb,zc5,smA,smE,zan,exZ,exK,Sm.kind,Sm.name,Sm.slot,Sm.size,Sm.place,Sm.value,Sm.body,Sm.els,Ex.op,Ex.value,Ex.name,Ex.slot,Ex.size,Ex.args])
theorem zCH (l:List TkD) (n m k:Nat) (hl:l.length≤100000) (hk:k≤l.length) (hB:∀ k,k≤l.length→(smF l m .block k).isOut=false→zjO lsA 186 [] l n k (smF l m .block k)) (e0:isT l k [105,102]=true) (e9:∀ e k1 b k2,zbl l (k+1)=.ok e k1→smF l m .block k1=.ok b k2→isT l k2 [101,108,115,101]=false)
  (ho:((zbl l (k+1)).bind fun e k1=>(smF l m .block (k1)).bind fun b k2=>PR.ok [smE 3 [] exZ e b []] k2).isOut=false) :
  zjO zc5 197 [] l n k ((zbl l (k+1)).bind fun e k1=>(smF l m .block (k1)).bind fun b k2=>PR.ok [smE 3 [] exZ e b []] k2):=by
 have f0:=za3 l n k _ e0 (by omega)
 have hlt:=zau e0 (by simp)
 cases r0:zbl l (k+1) with
 |out=>exact absurd r0 (zc7 (by omega))
 |bad k'=>
  have q1:=zmb (n:=n) hl (by omega) r0
  show AP _ _ _ _ _ _ _
  refine zbO (fun d=>if d=2 then 1 else 2) 3 zcR ?_
  repeat' first|refine Va (fA5 @kz zcb @exA.eq_1 @kA @lsA.eq_1) ?_|(with_reducible first|refine SB.c ?_ ?_<;>intro _|exact zad|refine fun (_:List AVal)=>?_)|refine dC1 zaa f0 ?_|refine CK.dp [0] [] zas q1 ?_|with_reducible refine zac ?_|omega
  (refine zci.mk [0] ?_<;>simp [kwt])
 |ok e k1=>
  have le0:=ze1 (by omega) r0
  have c0:=zwA (n:=n) hl (by omega) r0
  rw [r0] at ho
  simp only [PR.bind] at ho ⊢
  cases r1:smF l m .block (k1) with
  |out=>rw [r1] at ho;cases ho
  |bad k'=>
   have q:=hB (k1) (by omega) (by rw [r1];rfl)
   rw [r1] at q
   have q1:AP _ _ _ _ _ _ _:=q
   show AP _ _ _ _ _ _ _
   refine zbO (fun d=>if d=2 then 1 else 2) 3 zcR ?_
   repeat' first|refine Va (fA5 @kz zcb @exA.eq_1 @kA @lsA.eq_1) ?_|(with_reducible first|refine SB.c ?_ ?_<;>intro _|exact zad|refine fun (_:List AVal)=>?_)|refine dC1 zaa f0 ?_|refine dC1 zas c0 ?_|refine CK.dp [0] [] zbg q1 ?_|with_reducible refine zac ?_|omega
   (refine zci.mk [0] ?_<;>simp [kwt])
  |ok b k2=>
   have le1:=zxi (by omega) r1
   have q1:=hB (k1) (by omega) (by rw [r1];rfl)
   rw [r1] at q1
   have c1:AC _ _ _ _ _ _ _:=q1
   rw [r1] at ho
   simp only [PR.bind] at ho ⊢
   have t2:=zao l n (k2) _ (e9 _ _ _ _ r0 r1)
   refine zma zc5 (r:=PR.ok [smE 3 [] exZ e b []] k2) (fun d=>if d=2 then 1 else 2) 3 zcR ?_ (hr:=rfl)
   repeat' first|refine Va (fA5 @kz zcb @exA.eq_1 @kA @lsA.eq_1) ?_|(with_reducible first|refine SB.c ?_ ?_<;>intro _|exact zad|refine fun (_:List AVal)=>?_)|refine dC1 zaa f0 ?_|refine dC1 zas c0 ?_|refine dC1 zbg c1 ?_|refine dC1 zaa t2 ?_|with_reducible refine zac ?_|omega
   refine ⟨_,za0.nz,?_⟩
   simp only [St.nz,nzL,zbS,nzO,nz,zbf]
   (refine zay.mk [0] ?_ ?_<;>simp [kwr,zcb,zc5,smA,smE,zan,exZ,exK,Sm.kind,Sm.name,Sm.slot,Sm.size,Sm.place,Sm.value,Sm.body,Sm.els,Ex.op,Ex.value,Ex.name,Ex.slot,Ex.size,Ex.args])
theorem zwB (l:List TkD) (n m k:Nat) (hl:l.length≤100000) (hk:k≤l.length) (hB:∀ k,k≤l.length→(smF l m .block k).isOut=false→zjO lsA 186 [] l n k (smF l m .block k)) (e0:isT l k [105,102]=false) (e1:isT l k [119,104,105,108,101]=true)
  (ho:((zbl l (k+1)).bind fun e k1=>(smF l m .block (k1)).bind fun b k2=>PR.ok [smE 4 [] exZ e b []] k2).isOut=false) :
  zjO zc5 197 [] l n k ((zbl l (k+1)).bind fun e k1=>(smF l m .block (k1)).bind fun b k2=>PR.ok [smE 4 [] exZ e b []] k2):=by
 have f0:=zao l n k _ e0
 have f1:=za3 l n k _ e1 (by omega)
 have hlt:=zau e1 (by simp)
 cases r0:zbl l (k+1) with
 |out=>exact absurd r0 (zc7 (by omega))
 |bad k'=>
  have q1:=zmb (n:=n) hl (by omega) r0
  show AP _ _ _ _ _ _ _
  refine zbO (fun d=>if d=2 then 1 else 2) 3 zcR ?_
  repeat' first|refine Va (fA5 @kz zcb @exA.eq_1 @kA @lsA.eq_1) ?_|(with_reducible first|refine SB.c ?_ ?_<;>intro _|exact zad|refine fun (_:List AVal)=>?_)|refine dC1 zaa f0 ?_|refine dC1 zaa f1 ?_|refine CK.dp [0] [] zas q1 ?_|with_reducible refine zac ?_|omega
  (refine zci.mk [0] ?_<;>simp [kwt])
 |ok e k1=>
  have le0:=ze1 (by omega) r0
  have c0:=zwA (n:=n) hl (by omega) r0
  rw [r0] at ho
  simp only [PR.bind] at ho ⊢
  cases r1:smF l m .block (k1) with
  |out=>rw [r1] at ho;cases ho
  |bad k'=>
   have q:=hB (k1) (by omega) (by rw [r1];rfl)
   rw [r1] at q
   have q1:AP _ _ _ _ _ _ _:=q
   show AP _ _ _ _ _ _ _
   refine zbO (fun d=>if d=2 then 1 else 2) 3 zcR ?_
   repeat' first|refine Va (fA5 @kz zcb @exA.eq_1 @kA @lsA.eq_1) ?_|(with_reducible first|refine SB.c ?_ ?_<;>intro _|exact zad|refine fun (_:List AVal)=>?_)|refine dC1 zaa f0 ?_|refine dC1 zaa f1 ?_|refine dC1 zas c0 ?_|refine CK.dp [0] [] zbg q1 ?_|with_reducible refine zac ?_|omega
   (refine zci.mk [0] ?_<;>simp [kwt])
  |ok b k2=>
   have le1:=zxi (by omega) r1
   have q1:=hB (k1) (by omega) (by rw [r1];rfl)
   rw [r1] at q1
   have c1:AC _ _ _ _ _ _ _:=q1
   rw [r1] at ho
   simp only [PR.bind] at ho ⊢
   refine zma zc5 (r:=PR.ok [smE 4 [] exZ e b []] k2) (fun d=>if d=2 then 1 else 2) 3 zcR ?_ (hr:=rfl)
   repeat' first|refine Va (fA5 @kz zcb @exA.eq_1 @kA @lsA.eq_1) ?_|(with_reducible first|refine SB.c ?_ ?_<;>intro _|exact zad|refine fun (_:List AVal)=>?_)|refine dC1 zaa f0 ?_|refine dC1 zaa f1 ?_|refine dC1 zas c0 ?_|refine dC1 zbg c1 ?_|with_reducible refine zac ?_|omega
   refine ⟨_,za0.nz,?_⟩
   simp only [St.nz,nzL,zbS,nzO,nz,zbf]
   (refine zay.mk [0] ?_ ?_<;>simp [kwr,zcb,zc5,smA,smE,zan,exZ,exK,Sm.kind,Sm.name,Sm.slot,Sm.size,Sm.place,Sm.value,Sm.body,Sm.els,Ex.op,Ex.value,Ex.name,Ex.slot,Ex.size,Ex.args])
theorem zzv (l:List TkD) (n m k:Nat) (hl:l.length≤100000) (hk:k≤l.length) (hB:∀ k,k≤l.length→(smF l m .block k).isOut=false→zjO lsA 186 [] l n k (smF l m .block k)) (e0:isT l k [105,102]=false) (e1:isT l k [119,104,105,108,101]=false) (e2:isT l k [115,101,110,100]=true)
  (ho:((zbl l (k+1)).bind fun p k1=>(zaU l [44] (k1)).bind fun _ k2=>(zbl l (k2)).bind fun e k3=>(zaU l [59] (k3)).bind fun _ k4=>PR.ok [smE 5 [] p e [] []] k4).isOut=false) :
  zjO zc5 197 [] l n k ((zbl l (k+1)).bind fun p k1=>(zaU l [44] (k1)).bind fun _ k2=>(zbl l (k2)).bind fun e k3=>(zaU l [59] (k3)).bind fun _ k4=>PR.ok [smE 5 [] p e [] []] k4):=by
 have f0:=zao l n k _ e0
 have f1:=zao l n k _ e1
 have f2:=za3 l n k _ e2 (by omega)
 have hlt:=zau e2 (by simp)
 cases r0:zbl l (k+1) with
 |out=>exact absurd r0 (zc7 (by omega))
 |bad k'=>
  have q1:=zmb (n:=n) hl (by omega) r0
  show AP _ _ _ _ _ _ _
  refine zbO (fun d=>if d=2 then 1 else 2) 3 zcR ?_
  repeat' first|refine Va (fA5 @kz zcb @exA.eq_1 @kA @lsA.eq_1) ?_|(with_reducible first|refine SB.c ?_ ?_<;>intro _|exact zad|refine fun (_:List AVal)=>?_)|refine dC1 zaa f0 ?_|refine dC1 zaa f1 ?_|refine dC1 zaa f2 ?_|refine CK.dp [0] [] zas q1 ?_|with_reducible refine zac ?_|omega
  (refine zci.mk [0] ?_<;>simp [kwt])
 |ok p k1=>
  have le0:=ze1 (by omega) r0
  have c0:=zwA (n:=n) hl (by omega) r0
  rw [r0] at ho
  simp only [PR.bind] at ho ⊢
  cases r1:zaU l [44] (k1) with
  |out=>exact absurd r1 zby
  |bad k'=>
   have q1:=za2 l n _ _ _ r1
   show AP _ _ _ _ _ _ _
   refine zbO (fun d=>if d=2 then 1 else 2) 3 zcR ?_
   repeat' first|refine Va (fA5 @kz zcb @exA.eq_1 @kA @lsA.eq_1) ?_|(with_reducible first|refine SB.c ?_ ?_<;>intro _|exact zad|refine fun (_:List AVal)=>?_)|refine dC1 zaa f0 ?_|refine dC1 zaa f1 ?_|refine dC1 zaa f2 ?_|refine dC1 zas c0 ?_|refine CK.dp [0] [] zam q1 ?_|with_reducible refine zac ?_|omega
   (refine zci.mk [0] ?_<;>simp [kwt])
  |ok u1 k2=>
   have le1:=zen (by omega) (by simp) r1
   have c1:=zbe l n _ _ _ r1 (by omega)
   rw [r1] at ho
   simp only [PR.bind] at ho ⊢
   cases r2:zbl l (k2) with
   |out=>exact absurd r2 (zc7 (by omega))
   |bad k'=>
    have q1:=zmb (n:=n) hl (by omega) r2
    show AP _ _ _ _ _ _ _
    refine zbO (fun d=>if d=2 then 1 else 2) 3 zcR ?_
    repeat' first|refine Va (fA5 @kz zcb @exA.eq_1 @kA @lsA.eq_1) ?_|(with_reducible first|refine SB.c ?_ ?_<;>intro _|exact zad|refine fun (_:List AVal)=>?_)|refine dC1 zaa f0 ?_|refine dC1 zaa f1 ?_|refine dC1 zaa f2 ?_|refine dC1 zas c0 ?_|refine dC1 zam c1 ?_|refine CK.dp [0] [] zas q1 ?_|with_reducible refine zac ?_|omega
    (refine zci.mk [0] ?_<;>simp [kwt])
   |ok e k3=>
    have le2:=ze1 (by omega) r2
    have c2:=zwA (n:=n) hl (by omega) r2
    rw [r2] at ho
    simp only [PR.bind] at ho ⊢
    cases r3:zaU l [59] (k3) with
    |out=>exact absurd r3 zby
    |bad k'=>
     have q1:=za2 l n _ _ _ r3
     show AP _ _ _ _ _ _ _
     refine zbO (fun d=>if d=2 then 1 else 2) 3 zcR ?_
     repeat' first|refine Va (fA5 @kz zcb @exA.eq_1 @kA @lsA.eq_1) ?_|(with_reducible first|refine SB.c ?_ ?_<;>intro _|exact zad|refine fun (_:List AVal)=>?_)|refine dC1 zaa f0 ?_|refine dC1 zaa f1 ?_|refine dC1 zaa f2 ?_|refine dC1 zas c0 ?_|refine dC1 zam c1 ?_|refine dC1 zas c2 ?_|refine CK.dp [0] [] zam q1 ?_|with_reducible refine zac ?_|omega
     (refine zci.mk [0] ?_<;>simp [kwt])
    |ok u3 k4=>
     have le3:=zen (by omega) (by simp) r3
     have c3:=zbe l n _ _ _ r3 (by omega)
     rw [r3] at ho
     simp only [PR.bind] at ho ⊢
     refine zma zc5 (r:=PR.ok [smE 5 [] p e [] []] k4) (fun d=>if d=2 then 1 else 2) 3 zcR ?_ (hr:=rfl)
     repeat' first|refine Va (fA5 @kz zcb @exA.eq_1 @kA @lsA.eq_1) ?_|(with_reducible first|refine SB.c ?_ ?_<;>intro _|exact zad|refine fun (_:List AVal)=>?_)|refine dC1 zaa f0 ?_|refine dC1 zaa f1 ?_|refine dC1 zaa f2 ?_|refine dC1 zas c0 ?_|refine dC1 zam c1 ?_|refine dC1 zas c2 ?_|refine dC1 zam c3 ?_|with_reducible refine zac ?_|omega
     refine ⟨_,za0.nz,?_⟩
     simp only [St.nz,nzL,zbS,nzO,nz,zbf]
     (refine zay.mk [0] ?_ ?_<;>simp [kwr,zcb,zc5,smA,smE,zan,exZ,exK,Sm.kind,Sm.name,Sm.slot,Sm.size,Sm.place,Sm.value,Sm.body,Sm.els,Ex.op,Ex.value,Ex.name,Ex.slot,Ex.size,Ex.args])
theorem zCI (l:List TkD) (n m k:Nat) (hl:l.length≤100000) (hk:k≤l.length) (hB:∀ k,k≤l.length→(smF l m .block k).isOut=false→zjO lsA 186 [] l n k (smF l m .block k)) (e0:isT l k [105,102]=false) (e1:isT l k [119,104,105,108,101]=false) (e2:isT l k [115,101,110,100]=false) (e3:isT l k [111,117,116,112,117,116]=true)
  (ho:((zbl l (k+1)).bind fun e k1=>(zaU l [59] (k1)).bind fun _ k2=>PR.ok [smE 6 [] exZ e [] []] k2).isOut=false) :
  zjO zc5 197 [] l n k ((zbl l (k+1)).bind fun e k1=>(zaU l [59] (k1)).bind fun _ k2=>PR.ok [smE 6 [] exZ e [] []] k2):=by
 have f0:=zao l n k _ e0
 have f1:=zao l n k _ e1
 have f2:=zao l n k _ e2
 have f3:=za3 l n k _ e3 (by omega)
 have hlt:=zau e3 (by simp)
 cases r0:zbl l (k+1) with
 |out=>exact absurd r0 (zc7 (by omega))
 |bad k'=>
  have q1:=zmb (n:=n) hl (by omega) r0
  show AP _ _ _ _ _ _ _
  refine zbO (fun d=>if d=2 then 1 else 2) 3 zcR ?_
  repeat' first|refine Va (fA5 @kz zcb @exA.eq_1 @kA @lsA.eq_1) ?_|(with_reducible first|refine SB.c ?_ ?_<;>intro _|exact zad|refine fun (_:List AVal)=>?_)|refine dC1 zaa f0 ?_|refine dC1 zaa f1 ?_|refine dC1 zaa f2 ?_|refine dC1 zaa f3 ?_|refine CK.dp [0] [] zas q1 ?_|with_reducible refine zac ?_|omega
  (refine zci.mk [0] ?_<;>simp [kwt])
 |ok e k1=>
  have le0:=ze1 (by omega) r0
  have c0:=zwA (n:=n) hl (by omega) r0
  rw [r0] at ho
  simp only [PR.bind] at ho ⊢
  cases r1:zaU l [59] (k1) with
  |out=>exact absurd r1 zby
  |bad k'=>
   have q1:=za2 l n _ _ _ r1
   show AP _ _ _ _ _ _ _
   refine zbO (fun d=>if d=2 then 1 else 2) 3 zcR ?_
   repeat' first|refine Va (fA5 @kz zcb @exA.eq_1 @kA @lsA.eq_1) ?_|(with_reducible first|refine SB.c ?_ ?_<;>intro _|exact zad|refine fun (_:List AVal)=>?_)|refine dC1 zaa f0 ?_|refine dC1 zaa f1 ?_|refine dC1 zaa f2 ?_|refine dC1 zaa f3 ?_|refine dC1 zas c0 ?_|refine CK.dp [0] [] zam q1 ?_|with_reducible refine zac ?_|omega
   (refine zci.mk [0] ?_<;>simp [kwt])
  |ok u1 k2=>
   have le1:=zen (by omega) (by simp) r1
   have c1:=zbe l n _ _ _ r1 (by omega)
   rw [r1] at ho
   simp only [PR.bind] at ho ⊢
   refine zma zc5 (r:=PR.ok [smE 6 [] exZ e [] []] k2) (fun d=>if d=2 then 1 else 2) 3 zcR ?_ (hr:=rfl)
   repeat' first|refine Va (fA5 @kz zcb @exA.eq_1 @kA @lsA.eq_1) ?_|(with_reducible first|refine SB.c ?_ ?_<;>intro _|exact zad|refine fun (_:List AVal)=>?_)|refine dC1 zaa f0 ?_|refine dC1 zaa f1 ?_|refine dC1 zaa f2 ?_|refine dC1 zaa f3 ?_|refine dC1 zas c0 ?_|refine dC1 zam c1 ?_|with_reducible refine zac ?_|omega
   refine ⟨_,za0.nz,?_⟩
   simp only [St.nz,nzL,zbS,nzO,nz,zbf]
   (refine zay.mk [0] ?_ ?_<;>simp [kwr,zcb,zc5,smA,smE,zan,exZ,exK,Sm.kind,Sm.name,Sm.slot,Sm.size,Sm.place,Sm.value,Sm.body,Sm.els,Ex.op,Ex.value,Ex.name,Ex.slot,Ex.size,Ex.args])
theorem zwC (l:List TkD) (n m k:Nat) (hl:l.length≤100000) (hk:k≤l.length) (hB:∀ k,k≤l.length→(smF l m .block k).isOut=false→zjO lsA 186 [] l n k (smF l m .block k)) (e0:isT l k [105,102]=false) (e1:isT l k [119,104,105,108,101]=false) (e2:isT l k [115,101,110,100]=false) (e3:isT l k [111,117,116,112,117,116]=false) (nm:List UInt8) (k1:Nat) (hn:zdz l k=.ok nm k1) (e9:isT l k1 [91]=true)
  (ho:((zbl l (k1+1)).bind fun p k2=>(zaU l [93] (k2)).bind fun _ k3=>(zaU l [61] (k3)).bind fun _ k4=>(zbl l (k4)).bind fun e k5=>(zaU l [59] (k5)).bind fun _ k6=>PR.ok [smE 2 nm p e [] []] k6).isOut=false) :
  zjO zc5 197 [] l n k ((zbl l (k1+1)).bind fun p k2=>(zaU l [93] (k2)).bind fun _ k3=>(zaU l [61] (k3)).bind fun _ k4=>(zbl l (k4)).bind fun e k5=>(zaU l [59] (k5)).bind fun _ k6=>PR.ok [smE 2 nm p e [] []] k6):=by
 have f0:=zao l n k _ e0
 have f1:=zao l n k _ e1
 have f2:=zao l n k _ e2
 have f3:=zao l n k _ e3
 have cn:=zhC l n k k1 nm hn (by omega)
 have hk1:k1≤l.length:=by have:=za6 (l:=l) hk;rw [hn] at this;exact this.2
 have g:=za3 l n k1 _ e9 (by omega)
 have hlt:=zau e9 (by simp)
 cases r0:zbl l (k1+1) with
 |out=>exact absurd r0 (zc7 (by omega))
 |bad k'=>
  have q1:=zmb (n:=n) hl (by omega) r0
  show AP _ _ _ _ _ _ _
  refine zbO (fun d=>if d=2 then 1 else 2) 3 zcR ?_
  repeat' first|refine Va (fA5 @kz zcb @exA.eq_1 @kA @lsA.eq_1) ?_|(with_reducible first|refine SB.c ?_ ?_<;>intro _|exact zad|refine fun (_:List AVal)=>?_)|refine dC1 zaa f0 ?_|refine dC1 zaa f1 ?_|refine dC1 zaa f2 ?_|refine dC1 zaa f3 ?_|refine dC1 zaD cn ?_|refine dC1 zaa g ?_|refine CK.dp [0] [] zas q1 ?_|with_reducible refine zac ?_|omega
  (refine zci.mk [0] ?_<;>simp [kwt])
 |ok p k2=>
  have le0:=ze1 (by omega) r0
  have c0:=zwA (n:=n) hl (by omega) r0
  rw [r0] at ho
  simp only [PR.bind] at ho ⊢
  cases r1:zaU l [93] (k2) with
  |out=>exact absurd r1 zby
  |bad k'=>
   have q1:=za2 l n _ _ _ r1
   show AP _ _ _ _ _ _ _
   refine zbO (fun d=>if d=2 then 1 else 2) 3 zcR ?_
   repeat' first|refine Va (fA5 @kz zcb @exA.eq_1 @kA @lsA.eq_1) ?_|(with_reducible first|refine SB.c ?_ ?_<;>intro _|exact zad|refine fun (_:List AVal)=>?_)|refine dC1 zaa f0 ?_|refine dC1 zaa f1 ?_|refine dC1 zaa f2 ?_|refine dC1 zaa f3 ?_|refine dC1 zaD cn ?_|refine dC1 zaa g ?_|refine dC1 zas c0 ?_|refine CK.dp [0] [] zam q1 ?_|with_reducible refine zac ?_|omega
   (refine zci.mk [0] ?_<;>simp [kwt])
  |ok u1 k3=>
   have le1:=zen (by omega) (by simp) r1
   have c1:=zbe l n _ _ _ r1 (by omega)
   rw [r1] at ho
   simp only [PR.bind] at ho ⊢
   cases r2:zaU l [61] (k3) with
   |out=>exact absurd r2 zby
   |bad k'=>
    have q1:=za2 l n _ _ _ r2
    show AP _ _ _ _ _ _ _
    refine zbO (fun d=>if d=2 then 1 else 2) 3 zcR ?_
    repeat' first|refine Va (fA5 @kz zcb @exA.eq_1 @kA @lsA.eq_1) ?_|(with_reducible first|refine SB.c ?_ ?_<;>intro _|exact zad|refine fun (_:List AVal)=>?_)|refine dC1 zaa f0 ?_|refine dC1 zaa f1 ?_|refine dC1 zaa f2 ?_|refine dC1 zaa f3 ?_|refine dC1 zaD cn ?_|refine dC1 zaa g ?_|refine dC1 zas c0 ?_|refine dC1 zam c1 ?_|refine CK.dp [0] [] zam q1 ?_|with_reducible refine zac ?_|omega
    (refine zci.mk [0] ?_<;>simp [kwt])
   |ok u2 k4=>
    have le2:=zen (by omega) (by simp) r2
    have c2:=zbe l n _ _ _ r2 (by omega)
    rw [r2] at ho
    simp only [PR.bind] at ho ⊢
    cases r3:zbl l (k4) with
    |out=>exact absurd r3 (zc7 (by omega))
    |bad k'=>
     have q1:=zmb (n:=n) hl (by omega) r3
     show AP _ _ _ _ _ _ _
     refine zbO (fun d=>if d=2 then 1 else 2) 3 zcR ?_
     repeat' first|refine Va (fA5 @kz zcb @exA.eq_1 @kA @lsA.eq_1) ?_|(with_reducible first|refine SB.c ?_ ?_<;>intro _|exact zad|refine fun (_:List AVal)=>?_)|refine dC1 zaa f0 ?_|refine dC1 zaa f1 ?_|refine dC1 zaa f2 ?_|refine dC1 zaa f3 ?_|refine dC1 zaD cn ?_|refine dC1 zaa g ?_|refine dC1 zas c0 ?_|refine dC1 zam c1 ?_|refine dC1 zam c2 ?_|refine CK.dp [0] [] zas q1 ?_|with_reducible refine zac ?_|omega
     (refine zci.mk [0] ?_<;>simp [kwt])
    |ok e k5=>
     have le3:=ze1 (by omega) r3
     have c3:=zwA (n:=n) hl (by omega) r3
     rw [r3] at ho
     simp only [PR.bind] at ho ⊢
     cases r4:zaU l [59] (k5) with
     |out=>exact absurd r4 zby
     |bad k'=>
      have q1:=za2 l n _ _ _ r4
      show AP _ _ _ _ _ _ _
      refine zbO (fun d=>if d=2 then 1 else 2) 3 zcR ?_
      repeat' first|refine Va (fA5 @kz zcb @exA.eq_1 @kA @lsA.eq_1) ?_|(with_reducible first|refine SB.c ?_ ?_<;>intro _|exact zad|refine fun (_:List AVal)=>?_)|refine dC1 zaa f0 ?_|refine dC1 zaa f1 ?_|refine dC1 zaa f2 ?_|refine dC1 zaa f3 ?_|refine dC1 zaD cn ?_|refine dC1 zaa g ?_|refine dC1 zas c0 ?_|refine dC1 zam c1 ?_|refine dC1 zam c2 ?_|refine dC1 zas c3 ?_|refine CK.dp [0] [] zam q1 ?_|with_reducible refine zac ?_|omega
      (refine zci.mk [0] ?_<;>simp [kwt])
     |ok u4 k6=>
      have le4:=zen (by omega) (by simp) r4
      have c4:=zbe l n _ _ _ r4 (by omega)
      rw [r4] at ho
      simp only [PR.bind] at ho ⊢
      refine zma zc5 (r:=PR.ok [smE 2 nm p e [] []] k6) (fun d=>if d=2 then 1 else 2) 3 zcR ?_ (hr:=rfl)
      repeat' first|refine Va (fA5 @kz zcb @exA.eq_1 @kA @lsA.eq_1) ?_|(with_reducible first|refine SB.c ?_ ?_<;>intro _|exact zad|refine fun (_:List AVal)=>?_)|refine dC1 zaa f0 ?_|refine dC1 zaa f1 ?_|refine dC1 zaa f2 ?_|refine dC1 zaa f3 ?_|refine dC1 zaD cn ?_|refine dC1 zaa g ?_|refine dC1 zas c0 ?_|refine dC1 zam c1 ?_|refine dC1 zam c2 ?_|refine dC1 zas c3 ?_|refine dC1 zam c4 ?_|with_reducible refine zac ?_|omega
      refine ⟨_,za0.nz,?_⟩
      simp only [St.nz,nzL,zbS,nzO,nz,zbf]
      (refine zay.mk [0] ?_ ?_<;>simp [kwr,zcb,zc5,smA,smE,zan,exZ,exK,Sm.kind,Sm.name,Sm.slot,Sm.size,Sm.place,Sm.value,Sm.body,Sm.els,Ex.op,Ex.value,Ex.name,Ex.slot,Ex.size,Ex.args])
theorem ztM (l:List TkD) (n m k:Nat) (hl:l.length≤100000) (hk:k≤l.length) (hB:∀ k,k≤l.length→(smF l m .block k).isOut=false→zjO lsA 186 [] l n k (smF l m .block k)) (e0:isT l k [105,102]=false) (e1:isT l k [119,104,105,108,101]=false) (e2:isT l k [115,101,110,100]=false) (e3:isT l k [111,117,116,112,117,116]=false) (nm:List UInt8) (k1:Nat) (hn:zdz l k=.ok nm k1) (e9:isT l k1 [91]=false)
  (ho:((zaU l [61] (k1)).bind fun _ k4=>(zbl l (k4)).bind fun e k5=>(zaU l [59] (k5)).bind fun _ k6=>PR.ok [smE 1 nm exZ e [] []] k6).isOut=false) :
  zjO zc5 197 [] l n k ((zaU l [61] (k1)).bind fun _ k4=>(zbl l (k4)).bind fun e k5=>(zaU l [59] (k5)).bind fun _ k6=>PR.ok [smE 1 nm exZ e [] []] k6):=by
 have f0:=zao l n k _ e0
 have f1:=zao l n k _ e1
 have f2:=zao l n k _ e2
 have f3:=zao l n k _ e3
 have cn:=zhC l n k k1 nm hn (by omega)
 have hk1:k1≤l.length:=by have:=za6 (l:=l) hk;rw [hn] at this;exact this.2
 have g:=zao l n k1 _ e9
 cases r0:zaU l [61] (k1) with
 |out=>exact absurd r0 zby
 |bad k'=>
  have q1:=za2 l n _ _ _ r0
  show AP _ _ _ _ _ _ _
  refine zbO (fun d=>if d=2 then 1 else 2) 3 zcR ?_
  repeat' first|refine Va (fA5 @kz zcb @exA.eq_1 @kA @lsA.eq_1) ?_|(with_reducible first|refine SB.c ?_ ?_<;>intro _|exact zad|refine fun (_:List AVal)=>?_)|refine dC1 zaa f0 ?_|refine dC1 zaa f1 ?_|refine dC1 zaa f2 ?_|refine dC1 zaa f3 ?_|refine dC1 zaD cn ?_|refine dC1 zaa g ?_|refine CK.dp [0] [] zam q1 ?_|with_reducible refine zac ?_|omega
  (refine zci.mk [0] ?_<;>simp [kwt])
 |ok u0 k4=>
  have le0:=zen (by omega) (by simp) r0
  have c0:=zbe l n _ _ _ r0 (by omega)
  rw [r0] at ho
  simp only [PR.bind] at ho ⊢
  cases r1:zbl l (k4) with
  |out=>exact absurd r1 (zc7 (by omega))
  |bad k'=>
   have q1:=zmb (n:=n) hl (by omega) r1
   show AP _ _ _ _ _ _ _
   refine zbO (fun d=>if d=2 then 1 else 2) 3 zcR ?_
   repeat' first|refine Va (fA5 @kz zcb @exA.eq_1 @kA @lsA.eq_1) ?_|(with_reducible first|refine SB.c ?_ ?_<;>intro _|exact zad|refine fun (_:List AVal)=>?_)|refine dC1 zaa f0 ?_|refine dC1 zaa f1 ?_|refine dC1 zaa f2 ?_|refine dC1 zaa f3 ?_|refine dC1 zaD cn ?_|refine dC1 zaa g ?_|refine dC1 zam c0 ?_|refine CK.dp [0] [] zas q1 ?_|with_reducible refine zac ?_|omega
   (refine zci.mk [0] ?_<;>simp [kwt])
  |ok e k5=>
   have le1:=ze1 (by omega) r1
   have c1:=zwA (n:=n) hl (by omega) r1
   rw [r1] at ho
   simp only [PR.bind] at ho ⊢
   cases r2:zaU l [59] (k5) with
   |out=>exact absurd r2 zby
   |bad k'=>
    have q1:=za2 l n _ _ _ r2
    show AP _ _ _ _ _ _ _
    refine zbO (fun d=>if d=2 then 1 else 2) 3 zcR ?_
    repeat' first|refine Va (fA5 @kz zcb @exA.eq_1 @kA @lsA.eq_1) ?_|(with_reducible first|refine SB.c ?_ ?_<;>intro _|exact zad|refine fun (_:List AVal)=>?_)|refine dC1 zaa f0 ?_|refine dC1 zaa f1 ?_|refine dC1 zaa f2 ?_|refine dC1 zaa f3 ?_|refine dC1 zaD cn ?_|refine dC1 zaa g ?_|refine dC1 zam c0 ?_|refine dC1 zas c1 ?_|refine CK.dp [0] [] zam q1 ?_|with_reducible refine zac ?_|omega
    (refine zci.mk [0] ?_<;>simp [kwt])
   |ok u2 k6=>
    have le2:=zen (by omega) (by simp) r2
    have c2:=zbe l n _ _ _ r2 (by omega)
    rw [r2] at ho
    simp only [PR.bind] at ho ⊢
    refine zma zc5 (r:=PR.ok [smE 1 nm exZ e [] []] k6) (fun d=>if d=2 then 1 else 2) 3 zcR ?_ (hr:=rfl)
    repeat' first|refine Va (fA5 @kz zcb @exA.eq_1 @kA @lsA.eq_1) ?_|(with_reducible first|refine SB.c ?_ ?_<;>intro _|exact zad|refine fun (_:List AVal)=>?_)|refine dC1 zaa f0 ?_|refine dC1 zaa f1 ?_|refine dC1 zaa f2 ?_|refine dC1 zaa f3 ?_|refine dC1 zaD cn ?_|refine dC1 zaa g ?_|refine dC1 zam c0 ?_|refine dC1 zas c1 ?_|refine dC1 zam c2 ?_|with_reducible refine zac ?_|omega
    refine ⟨_,za0.nz,?_⟩
    simp only [St.nz,nzL,zbS,nzO,nz,zbf]
    (refine zay.mk [0] ?_ ?_<;>simp [kwr,zcb,zc5,smA,smE,zan,exZ,exK,Sm.kind,Sm.name,Sm.slot,Sm.size,Sm.place,Sm.value,Sm.body,Sm.els,Ex.op,Ex.value,Ex.name,Ex.slot,Ex.size,Ex.args])
theorem ztN (l:List TkD) (n k k':Nat) (hl:l.length≤100000) (hk:k≤l.length) (e0:isT l k [105,102]=false) (e1:isT l k [119,104,105,108,101]=false) (e2:isT l k [115,101,110,100]=false) (e3:isT l k [111,117,116,112,117,116]=false) (hn:zdz l k=.bad k'):AP Tryz.prog gl 197 [.ref 0 0] (psO l n k) (fv l n k') (psO l n k'):=by
 have f0:=zao l n k _ e0
 have f1:=zao l n k _ e1
 have f2:=zao l n k _ e2
 have f3:=zao l n k _ e3
 have q:=ziB l n k k' hn hk
 refine zbO (fun d=>if d=2 then 1 else 2) 3 zcR ?_
 repeat' first|refine Va (fA2 @kz zcb) ?_|(with_reducible first|refine SB.c ?_ ?_<;>intro _|exact zad|refine fun (_:List AVal)=>?_)|refine dC1 zaa f0 ?_|refine dC1 zaa f1 ?_|refine dC1 zaa f2 ?_|refine dC1 zaa f3 ?_|refine CK.dp [0] [] zaD q ?_|with_reducible refine zac ?_|omega
 (refine zci.mk [0] ?_<;>simp [kwt])
end Go.Proofs.YtfinhhblcdkpgaaGreatDoor
