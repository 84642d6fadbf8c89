/- A part of the walk (Tryz_R5): its theorems have no condition beyond what they state. -/
import Derived.Test.YtfinhhblcdkpgaaGreatDoorR4
import Derived.Test.YtfinhhblcdkpgaaGreatDoorP8
set_option maxRecDepth 100000
set_option maxHeartbeats 64000000
set_option linter.unusedSimpArgs false
set_option linter.unusedVariables false
set_option linter.defProp false
namespace Go.Proofs.YtfinhhblcdkpgaaGreatDoor
open Go Go.Abs Go.RowKit
def zjX (l:List TkD) (n k:Nat):PR (List Sm)→Prop
 |.ok b k'=>AC Tryz.prog gl 108 [.ref 0 0] (okO l n k) (lsA b) (okO l n k')
 |.bad k'=>∃ b:List Sm,AC Tryz.prog gl 108 [.ref 0 0] (okO l n k) (lsA b) (flO l n k' (zar l n k'))
 |.out=>True
def zh3 (l:List TkD) (n k:Nat):PR (List Sm)→Prop
 |.ok b k'=>AC Tryz.prog gl 144 [.ref 0 0] (okO l n k) (zc5 b) (okO l n k')
 |.bad k'=>∃ s:Sm,AC Tryz.prog gl 144 [.ref 0 0] (okO l n k) (zc5 [s]) (flO l n k' (zar l n k'))
 |.out=>True
theorem zmi {l:List TkD} {n k k':Nat} {e:Ex} (hT:zbI l) (hl:l.length≤100000) (hk:k≤l.length) (h:zbl l k=.ok e k'):AC Tryz.prog gl 167 [.ref 0 0,.pv (.int .i64 0)] (okO l n k) (exA e) (okO l n k'):=by
 have:=znC l n k hT hl hk
 rw [h] at this
 exact this
theorem zhf {l:List TkD} {n k k':Nat} (hT:zbI l) (hl:l.length≤100000) (hk:k≤l.length) (h:zbl l k=.bad k'):∃ e,AC Tryz.prog gl 167 [.ref 0 0,.pv (.int .i64 0)] (okO l n k) (exA e) (flO l n k' (zar l n k')):=by
 have:=znC l n k hT hl hk
 rw [h] at this
 exact this
theorem zeR (l:List TkD) (n k:Nat) (b:Int):AC Tryz.prog gl 167 [.ref 0 0,.pv (.int .i64 0)] (flO l n k b) (exA exZ) (flO l n k b):=ztV l n k b 5 0 rfl
theorem zjY (l:List TkD) (n k:Nat) (b:Int):AC Tryz.prog gl 108 [.ref 0 0] (flO l n k b) (lsA []) (flO l n k b):=by
 have c1:=zaN l n k b [123]
 have c2:=zaN l n k b [125]
 refine zbw (fun _=>2) 3 zvG ?_
 repeat' first|refine Va (fA2 @kz zgk) ?_|(with_reducible first|refine SB.c ?_ ?_<;>intro _|exact zad)|refine dC1 zae c1 ?_|with_reducible refine zac ?_|omega
 refine zaI (ι:=Unit) (fun _=>⟨(.ref 0 0::.junk::.junk::.snil::jl 19 []),[some (flC l n k b),none,none]⟩) (fun _=>0) () WFn ?_
 intro _
 repeat' first|refine Va (fA2 @kz zgk) ?_|(with_reducible first|refine SB.c ?_ ?_<;>intro _|exact zad)|refine dC1 zae c2 ?_|with_reducible refine zac ?_|omega
 refine ⟨_,za0.nz,?_⟩
 simp only [St.nz,nzL,zbS,nzO,nz]
 (refine zay.mk [0] ?_ ?_<;>simp [kwr,zgk,lsA])
theorem zzG (l:List TkD) (n m k:Nat) (hT:zbI l) (hl:l.length≤100000) (hk:k≤l.length) (hB:∀ k,k≤l.length→(smF l m .block k).isOut=false→zjX l n k (smF l m .block k)) (e0:isT l k [105,102]=true) (e9:∀ e k1 b k2,zbl l (k+1)=.ok e k1→smF l m .block k1=.ok b k2→isT l k2 [101,108,115,101]=true)
  (ho:((zbl l (k+1)).bind fun e k1=>(smF l m .block (k1)).bind fun b k2=>(smF l m .block (k2+1)).bind fun c k3=>PR.ok [smE 3 [] exZ e b c] k3).isOut=false) :
  zh3 l n k ((zbl l (k+1)).bind fun e k1=>(smF l m .block (k1)).bind fun b k2=>(smF l m .block (k2+1)).bind fun c k3=>PR.ok [smE 3 [] exZ e b c] k3):=by
 have f0:=zdl l n k _ hT rfl (by omega) e0
 have hlt:=zau e0 (by simp)
 cases r0:zbl l (k+1) with
 |out=>exact absurd r0 (zc7 (by omega))
 |bad k'=>
  obtain ⟨g,q1⟩:=zhf (n:=n) hT hl (by omega) r0
  have z0:=zjY l n k' (zar l n k')
  have z1:=ziF l n k' (zar l n k') [101,108,115,101]
  refine ⟨smE 3 [] exZ g [] [],?_⟩
  refine zbw (fun d=>if d=2 then 1 else 2) 3 zcQ ?_
  repeat' first|refine Va (fA5 @kz zbb @exA.eq_1 @kA @lsA.eq_1) ?_|(with_reducible first|refine SB.c ?_ ?_<;>intro _|exact zad)|refine dC1 zab f0 ?_|refine dC1 zak q1 ?_|refine dC1 za5 z0 ?_|refine dC1 zab z1 ?_|with_reducible refine zac ?_|omega
  refine ⟨_,za0.nz,?_⟩
  simp only [St.nz,nzL,zbS,nzO,nz,zbf]
  (refine zay.mk [0] ?_ ?_<;>simp [kwr,zbb,zc5,smA,smE,zan,exZ,exK,Sm.kind,Sm.name,Sm.slot,Sm.size,Sm.place,Sm.value,Sm.body,Sm.els,Ex.op,Ex.value,Ex.name,Ex.slot,Ex.size,Ex.args])
 |ok e k1=>
  have le0:=ze1 (by omega) r0
  have c0:=zmi (n:=n) hT hl (by omega) r0
  rw [r0] at ho
  simp only [PR.bind] at ho ⊢
  cases r1:smF l m .block (k1) with
  |out=>rw [r1] at ho;cases ho
  |bad k'=>
   have q:=hB (k1) (by omega) (by rw [r1];rfl)
   rw [r1] at q
   obtain ⟨g,q1⟩:=q
   have z0:=ziF l n k' (zar l n k') [101,108,115,101]
   refine ⟨smE 3 [] exZ e g [],?_⟩
   refine zbw (fun d=>if d=2 then 1 else 2) 3 zcQ ?_
   repeat' first|refine Va (fA5 @kz zbb @exA.eq_1 @kA @lsA.eq_1) ?_|(with_reducible first|refine SB.c ?_ ?_<;>intro _|exact zad)|refine dC1 zab f0 ?_|refine dC1 zak c0 ?_|refine dC1 za5 q1 ?_|refine dC1 zab z0 ?_|with_reducible refine zac ?_|omega
   refine ⟨_,za0.nz,?_⟩
   simp only [St.nz,nzL,zbS,nzO,nz,zbf]
   (refine zay.mk [0] ?_ ?_<;>simp [kwr,zbb,zc5,smA,smE,zan,exZ,exK,Sm.kind,Sm.name,Sm.slot,Sm.size,Sm.place,Sm.value,Sm.body,Sm.els,Ex.op,Ex.value,Ex.name,Ex.slot,Ex.size,Ex.args])
  |ok b k2=>
   have le1:=zxi (by omega) r1
   have q1:=hB (k1) (by omega) (by rw [r1];rfl)
   rw [r1] at q1
   have c1:AC _ _ _ _ _ _ _:=q1
   rw [r1] at ho
   simp only [PR.bind] at ho ⊢
   have t2:=zdl l n (k2) _ hT rfl (by omega) (e9 _ _ _ _ r0 r1)
   have hlt2:=zau (e9 _ _ _ _ r0 r1) (by simp)
   cases r3:smF l m .block (k2+1) with
   |out=>rw [r3] at ho;cases ho
   |bad k'=>
    have q:=hB (k2+1) (by omega) (by rw [r3];rfl)
    rw [r3] at q
    obtain ⟨g,q1⟩:=q
    refine ⟨smE 3 [] exZ e b g,?_⟩
    refine zbw (fun d=>if d=2 then 1 else 2) 3 zcQ ?_
    repeat' first|refine Va (fA5 @kz zbb @exA.eq_1 @kA @lsA.eq_1) ?_|(with_reducible first|refine SB.c ?_ ?_<;>intro _|exact zad)|refine dC1 zab f0 ?_|refine dC1 zak c0 ?_|refine dC1 za5 c1 ?_|refine dC1 zab t2 ?_|refine dC1 za5 q1 ?_|with_reducible refine zac ?_|omega
    refine ⟨_,za0.nz,?_⟩
    simp only [St.nz,nzL,zbS,nzO,nz,zbf]
    (refine zay.mk [0] ?_ ?_<;>simp [kwr,zbb,zc5,smA,smE,zan,exZ,exK,Sm.kind,Sm.name,Sm.slot,Sm.size,Sm.place,Sm.value,Sm.body,Sm.els,Ex.op,Ex.value,Ex.name,Ex.slot,Ex.size,Ex.args])
   |ok c k3=>
    have le3:=zxi (by omega) r3
    have q3:=hB (k2+1) (by omega) (by rw [r3];rfl)
    rw [r3] at q3
    have c3:AC _ _ _ _ _ _ _:=q3
    rw [r3] at ho
    simp only [PR.bind] at ho ⊢
    show AC _ _ _ _ _ _ _
    refine zbw (fun d=>if d=2 then 1 else 2) 3 zcQ ?_
    repeat' first|refine Va (fA5 @kz zbb @exA.eq_1 @kA @lsA.eq_1) ?_|(with_reducible first|refine SB.c ?_ ?_<;>intro _|exact zad)|refine dC1 zab f0 ?_|refine dC1 zak c0 ?_|refine dC1 za5 c1 ?_|refine dC1 zab t2 ?_|refine dC1 za5 c3 ?_|with_reducible refine zac ?_|omega
    refine ⟨_,za0.nz,?_⟩
    simp only [St.nz,nzL,zbS,nzO,nz,zbf]
    (refine zay.mk [0] ?_ ?_<;>simp [kwr,zbb,zc5,smA,smE,zan,exZ,exK,Sm.kind,Sm.name,Sm.slot,Sm.size,Sm.place,Sm.value,Sm.body,Sm.els,Ex.op,Ex.value,Ex.name,Ex.slot,Ex.size,Ex.args])
theorem zzH (l:List TkD) (n m k:Nat) (hT:zbI l) (hl:l.length≤100000) (hk:k≤l.length) (hB:∀ k,k≤l.length→(smF l m .block k).isOut=false→zjX l n k (smF l m .block k)) (e0:isT l k [105,102]=true) (e9:∀ e k1 b k2,zbl l (k+1)=.ok e k1→smF l m .block k1=.ok b k2→isT l k2 [101,108,115,101]=false)
  (ho:((zbl l (k+1)).bind fun e k1=>(smF l m .block (k1)).bind fun b k2=>PR.ok [smE 3 [] exZ e b []] k2).isOut=false) :
  zh3 l n k ((zbl l (k+1)).bind fun e k1=>(smF l m .block (k1)).bind fun b k2=>PR.ok [smE 3 [] exZ e b []] k2):=by
 have f0:=zdl l n k _ hT rfl (by omega) e0
 have hlt:=zau e0 (by simp)
 cases r0:zbl l (k+1) with
 |out=>exact absurd r0 (zc7 (by omega))
 |bad k'=>
  obtain ⟨g,q1⟩:=zhf (n:=n) hT hl (by omega) r0
  have z0:=zjY l n k' (zar l n k')
  have z1:=ziF l n k' (zar l n k') [101,108,115,101]
  refine ⟨smE 3 [] exZ g [] [],?_⟩
  refine zbw (fun d=>if d=2 then 1 else 2) 3 zcQ ?_
  repeat' first|refine Va (fA5 @kz zbb @exA.eq_1 @kA @lsA.eq_1) ?_|(with_reducible first|refine SB.c ?_ ?_<;>intro _|exact zad)|refine dC1 zab f0 ?_|refine dC1 zak q1 ?_|refine dC1 za5 z0 ?_|refine dC1 zab z1 ?_|with_reducible refine zac ?_|omega
  refine ⟨_,za0.nz,?_⟩
  simp only [St.nz,nzL,zbS,nzO,nz,zbf]
  (refine zay.mk [0] ?_ ?_<;>simp [kwr,zbb,zc5,smA,smE,zan,exZ,exK,Sm.kind,Sm.name,Sm.slot,Sm.size,Sm.place,Sm.value,Sm.body,Sm.els,Ex.op,Ex.value,Ex.name,Ex.slot,Ex.size,Ex.args])
 |ok e k1=>
  have le0:=ze1 (by omega) r0
  have c0:=zmi (n:=n) hT hl (by omega) r0
  rw [r0] at ho
  simp only [PR.bind] at ho ⊢
  cases r1:smF l m .block (k1) with
  |out=>rw [r1] at ho;cases ho
  |bad k'=>
   have q:=hB (k1) (by omega) (by rw [r1];rfl)
   rw [r1] at q
   obtain ⟨g,q1⟩:=q
   have z0:=ziF l n k' (zar l n k') [101,108,115,101]
   refine ⟨smE 3 [] exZ e g [],?_⟩
   refine zbw (fun d=>if d=2 then 1 else 2) 3 zcQ ?_
   repeat' first|refine Va (fA5 @kz zbb @exA.eq_1 @kA @lsA.eq_1) ?_|(with_reducible first|refine SB.c ?_ ?_<;>intro _|exact zad)|refine dC1 zab f0 ?_|refine dC1 zak c0 ?_|refine dC1 za5 q1 ?_|refine dC1 zab z0 ?_|with_reducible refine zac ?_|omega
   refine ⟨_,za0.nz,?_⟩
   simp only [St.nz,nzL,zbS,nzO,nz,zbf]
   (refine zay.mk [0] ?_ ?_<;>simp [kwr,zbb,zc5,smA,smE,zan,exZ,exK,Sm.kind,Sm.name,Sm.slot,Sm.size,Sm.place,Sm.value,Sm.body,Sm.els,Ex.op,Ex.value,Ex.name,Ex.slot,Ex.size,Ex.args])
  |ok b k2=>
   have le1:=zxi (by omega) r1
   have q1:=hB (k1) (by omega) (by rw [r1];rfl)
   rw [r1] at q1
   have c1:AC _ _ _ _ _ _ _:=q1
   rw [r1] at ho
   simp only [PR.bind] at ho ⊢
   have t2:=zbi l n (k2) _ hT rfl (e9 _ _ _ _ r0 r1)
   show AC _ _ _ _ _ _ _
   refine zbw (fun d=>if d=2 then 1 else 2) 3 zcQ ?_
   repeat' first|refine Va (fA5 @kz zbb @exA.eq_1 @kA @lsA.eq_1) ?_|(with_reducible first|refine SB.c ?_ ?_<;>intro _|exact zad)|refine dC1 zab f0 ?_|refine dC1 zak c0 ?_|refine dC1 za5 c1 ?_|refine dC1 zab t2 ?_|with_reducible refine zac ?_|omega
   refine ⟨_,za0.nz,?_⟩
   simp only [St.nz,nzL,zbS,nzO,nz,zbf]
   (refine zay.mk [0] ?_ ?_<;>simp [kwr,zbb,zc5,smA,smE,zan,exZ,exK,Sm.kind,Sm.name,Sm.slot,Sm.size,Sm.place,Sm.value,Sm.body,Sm.els,Ex.op,Ex.value,Ex.name,Ex.slot,Ex.size,Ex.args])
theorem ztX (l:List TkD) (n m k:Nat) (hT:zbI l) (hl:l.length≤100000) (hk:k≤l.length) (hB:∀ k,k≤l.length→(smF l m .block k).isOut=false→zjX l n k (smF l m .block k)) (e0:isT l k [105,102]=false) (e1:isT l k [119,104,105,108,101]=true)
  (ho:((zbl l (k+1)).bind fun e k1=>(smF l m .block (k1)).bind fun b k2=>PR.ok [smE 4 [] exZ e b []] k2).isOut=false) :
  zh3 l n k ((zbl l (k+1)).bind fun e k1=>(smF l m .block (k1)).bind fun b k2=>PR.ok [smE 4 [] exZ e b []] k2):=by
 have f0:=zbi l n k _ hT rfl e0
 have f1:=zdl l n k _ hT rfl (by omega) e1
 have hlt:=zau e1 (by simp)
 cases r0:zbl l (k+1) with
 |out=>exact absurd r0 (zc7 (by omega))
 |bad k'=>
  obtain ⟨g,q1⟩:=zhf (n:=n) hT hl (by omega) r0
  have z0:=zjY l n k' (zar l n k')
  refine ⟨smE 4 [] exZ g [] [],?_⟩
  refine zbw (fun d=>if d=2 then 1 else 2) 3 zcQ ?_
  repeat' first|refine Va (fA5 @kz zbb @exA.eq_1 @kA @lsA.eq_1) ?_|(with_reducible first|refine SB.c ?_ ?_<;>intro _|exact zad)|refine dC1 zab f0 ?_|refine dC1 zab f1 ?_|refine dC1 zak q1 ?_|refine dC1 za5 z0 ?_|with_reducible refine zac ?_|omega
  refine ⟨_,za0.nz,?_⟩
  simp only [St.nz,nzL,zbS,nzO,nz,zbf]
  (refine zay.mk [0] ?_ ?_<;>simp [kwr,zbb,zc5,smA,smE,zan,exZ,exK,Sm.kind,Sm.name,Sm.slot,Sm.size,Sm.place,Sm.value,Sm.body,Sm.els,Ex.op,Ex.value,Ex.name,Ex.slot,Ex.size,Ex.args])
 |ok e k1=>
  have le0:=ze1 (by omega) r0
  have c0:=zmi (n:=n) hT hl (by omega) r0
  rw [r0] at ho
  simp only [PR.bind] at ho ⊢
  cases r1:smF l m .block (k1) with
  |out=>rw [r1] at ho;cases ho
  |bad k'=>
   have q:=hB (k1) (by omega) (by rw [r1];rfl)
   rw [r1] at q
   obtain ⟨g,q1⟩:=q
   refine ⟨smE 4 [] exZ e g [],?_⟩
   refine zbw (fun d=>if d=2 then 1 else 2) 3 zcQ ?_
   repeat' first|refine Va (fA5 @kz zbb @exA.eq_1 @kA @lsA.eq_1) ?_|(with_reducible first|refine SB.c ?_ ?_<;>intro _|exact zad)|refine dC1 zab f0 ?_|refine dC1 zab f1 ?_|refine dC1 zak c0 ?_|refine dC1 za5 q1 ?_|with_reducible refine zac ?_|omega
   refine ⟨_,za0.nz,?_⟩
   simp only [St.nz,nzL,zbS,nzO,nz,zbf]
   (refine zay.mk [0] ?_ ?_<;>simp [kwr,zbb,zc5,smA,smE,zan,exZ,exK,Sm.kind,Sm.name,Sm.slot,Sm.size,Sm.place,Sm.value,Sm.body,Sm.els,Ex.op,Ex.value,Ex.name,Ex.slot,Ex.size,Ex.args])
  |ok b k2=>
   have le1:=zxi (by omega) r1
   have q1:=hB (k1) (by omega) (by rw [r1];rfl)
   rw [r1] at q1
   have c1:AC _ _ _ _ _ _ _:=q1
   rw [r1] at ho
   simp only [PR.bind] at ho ⊢
   show AC _ _ _ _ _ _ _
   refine zbw (fun d=>if d=2 then 1 else 2) 3 zcQ ?_
   repeat' first|refine Va (fA5 @kz zbb @exA.eq_1 @kA @lsA.eq_1) ?_|(with_reducible first|refine SB.c ?_ ?_<;>intro _|exact zad)|refine dC1 zab f0 ?_|refine dC1 zab f1 ?_|refine dC1 zak c0 ?_|refine dC1 za5 c1 ?_|with_reducible refine zac ?_|omega
   refine ⟨_,za0.nz,?_⟩
   simp only [St.nz,nzL,zbS,nzO,nz,zbf]
   (refine zay.mk [0] ?_ ?_<;>simp [kwr,zbb,zc5,smA,smE,zan,exZ,exK,Sm.kind,Sm.name,Sm.slot,Sm.size,Sm.place,Sm.value,Sm.body,Sm.els,Ex.op,Ex.value,Ex.name,Ex.slot,Ex.size,Ex.args])
theorem zwL (l:List TkD) (n m k:Nat) (hT:zbI l) (hl:l.length≤100000) (hk:k≤l.length) (hB:∀ k,k≤l.length→(smF l m .block k).isOut=false→zjX l n k (smF l m .block k)) (e0:isT l k [105,102]=false) (e1:isT l k [119,104,105,108,101]=false) (e2:isT l k [115,101,110,100]=true)
  (ho:((zbl l (k+1)).bind fun p k1=>(zaU l [44] (k1)).bind fun _ k2=>(zbl l (k2)).bind fun e k3=>(zaU l [59] (k3)).bind fun _ k4=>PR.ok [smE 5 [] p e [] []] k4).isOut=false) :
  zh3 l n k ((zbl l (k+1)).bind fun p k1=>(zaU l [44] (k1)).bind fun _ k2=>(zbl l (k2)).bind fun e k3=>(zaU l [59] (k3)).bind fun _ k4=>PR.ok [smE 5 [] p e [] []] k4):=by
 have f0:=zbi l n k _ hT rfl e0
 have f1:=zbi l n k _ hT rfl e1
 have f2:=zdl l n k _ hT rfl (by omega) e2
 have hlt:=zau e2 (by simp)
 cases r0:zbl l (k+1) with
 |out=>exact absurd r0 (zc7 (by omega))
 |bad k'=>
  obtain ⟨g,q1⟩:=zhf (n:=n) hT hl (by omega) r0
  have z0:=zaN l n k' (zar l n k') [44]
  have z1:=zeR l n k' (zar l n k')
  have z2:=zaN l n k' (zar l n k') [59]
  refine ⟨smE 5 [] g exZ [] [],?_⟩
  refine zbw (fun d=>if d=2 then 1 else 2) 3 zcQ ?_
  repeat' first|refine Va (fA5 @kz zbb @exA.eq_1 @kA @lsA.eq_1) ?_|(with_reducible first|refine SB.c ?_ ?_<;>intro _|exact zad)|refine dC1 zab f0 ?_|refine dC1 zab f1 ?_|refine dC1 zab f2 ?_|refine dC1 zak q1 ?_|refine dC1 zae z0 ?_|refine dC1 zak z1 ?_|refine dC1 zae z2 ?_|with_reducible refine zac ?_|omega
  refine ⟨_,za0.nz,?_⟩
  simp only [St.nz,nzL,zbS,nzO,nz,zbf]
  (refine zay.mk [0] ?_ ?_<;>simp [kwr,zbb,zc5,smA,smE,zan,exZ,exK,Sm.kind,Sm.name,Sm.slot,Sm.size,Sm.place,Sm.value,Sm.body,Sm.els,Ex.op,Ex.value,Ex.name,Ex.slot,Ex.size,Ex.args])
 |ok p k1=>
  have le0:=ze1 (by omega) r0
  have c0:=zmi (n:=n) hT hl (by omega) r0
  rw [r0] at ho
  simp only [PR.bind] at ho ⊢
  cases r1:zaU l [44] (k1) with
  |out=>exact absurd r1 zby
  |bad k'=>
   have q1:=zbh l n (k1) k' _ hT rfl r1
   have z0:=zeR l n k' (zar l n k')
   have z1:=zaN l n k' (zar l n k') [59]
   refine ⟨smE 5 [] p exZ [] [],?_⟩
   refine zbw (fun d=>if d=2 then 1 else 2) 3 zcQ ?_
   repeat' first|refine Va (fA5 @kz zbb @exA.eq_1 @kA @lsA.eq_1) ?_|(with_reducible first|refine SB.c ?_ ?_<;>intro _|exact zad)|refine dC1 zab f0 ?_|refine dC1 zab f1 ?_|refine dC1 zab f2 ?_|refine dC1 zak c0 ?_|refine dC1 zae q1 ?_|refine dC1 zak z0 ?_|refine dC1 zae z1 ?_|with_reducible refine zac ?_|omega
   refine ⟨_,za0.nz,?_⟩
   simp only [St.nz,nzL,zbS,nzO,nz,zbf]
   (refine zay.mk [0] ?_ ?_<;>simp [kwr,zbb,zc5,smA,smE,zan,exZ,exK,Sm.kind,Sm.name,Sm.slot,Sm.size,Sm.place,Sm.value,Sm.body,Sm.els,Ex.op,Ex.value,Ex.name,Ex.slot,Ex.size,Ex.args])
  |ok u1 k2=>
   have le1:=zen (by omega) (by simp) r1
   have c1:=zbd l n (k1) (k2) _ hT rfl (by omega) r1
   rw [r1] at ho
   simp only [PR.bind] at ho ⊢
   cases r2:zbl l (k2) with
   |out=>exact absurd r2 (zc7 (by omega))
   |bad k'=>
    obtain ⟨g,q1⟩:=zhf (n:=n) hT hl (by omega) r2
    have z0:=zaN l n k' (zar l n k') [59]
    refine ⟨smE 5 [] p g [] [],?_⟩
    refine zbw (fun d=>if d=2 then 1 else 2) 3 zcQ ?_
    repeat' first|refine Va (fA5 @kz zbb @exA.eq_1 @kA @lsA.eq_1) ?_|(with_reducible first|refine SB.c ?_ ?_<;>intro _|exact zad)|refine dC1 zab f0 ?_|refine dC1 zab f1 ?_|refine dC1 zab f2 ?_|refine dC1 zak c0 ?_|refine dC1 zae c1 ?_|refine dC1 zak q1 ?_|refine dC1 zae z0 ?_|with_reducible refine zac ?_|omega
    refine ⟨_,za0.nz,?_⟩
    simp only [St.nz,nzL,zbS,nzO,nz,zbf]
    (refine zay.mk [0] ?_ ?_<;>simp [kwr,zbb,zc5,smA,smE,zan,exZ,exK,Sm.kind,Sm.name,Sm.slot,Sm.size,Sm.place,Sm.value,Sm.body,Sm.els,Ex.op,Ex.value,Ex.name,Ex.slot,Ex.size,Ex.args])
   |ok e k3=>
    have le2:=ze1 (by omega) r2
    have c2:=zmi (n:=n) hT hl (by omega) r2
    rw [r2] at ho
    simp only [PR.bind] at ho ⊢
    cases r3:zaU l [59] (k3) with
    |out=>exact absurd r3 zby
    |bad k'=>
     have q1:=zbh l n (k3) k' _ hT rfl r3
     refine ⟨smE 5 [] p e [] [],?_⟩
     refine zbw (fun d=>if d=2 then 1 else 2) 3 zcQ ?_
     repeat' first|refine Va (fA5 @kz zbb @exA.eq_1 @kA @lsA.eq_1) ?_|(with_reducible first|refine SB.c ?_ ?_<;>intro _|exact zad)|refine dC1 zab f0 ?_|refine dC1 zab f1 ?_|refine dC1 zab f2 ?_|refine dC1 zak c0 ?_|refine dC1 zae c1 ?_|refine dC1 zak c2 ?_|refine dC1 zae q1 ?_|with_reducible refine zac ?_|omega
     refine ⟨_,za0.nz,?_⟩
     simp only [St.nz,nzL,zbS,nzO,nz,zbf]
     (refine zay.mk [0] ?_ ?_<;>simp [kwr,zbb,zc5,smA,smE,zan,exZ,exK,Sm.kind,Sm.name,Sm.slot,Sm.size,Sm.place,Sm.value,Sm.body,Sm.els,Ex.op,Ex.value,Ex.name,Ex.slot,Ex.size,Ex.args])
    |ok u3 k4=>
     have le3:=zen (by omega) (by simp) r3
     have c3:=zbd l n (k3) (k4) _ hT rfl (by omega) r3
     rw [r3] at ho
     simp only [PR.bind] at ho ⊢
     show AC _ _ _ _ _ _ _
     refine zbw (fun d=>if d=2 then 1 else 2) 3 zcQ ?_
     repeat' first|refine Va (fA5 @kz zbb @exA.eq_1 @kA @lsA.eq_1) ?_|(with_reducible first|refine SB.c ?_ ?_<;>intro _|exact zad)|refine dC1 zab f0 ?_|refine dC1 zab f1 ?_|refine dC1 zab f2 ?_|refine dC1 zak c0 ?_|refine dC1 zae c1 ?_|refine dC1 zak c2 ?_|refine dC1 zae c3 ?_|with_reducible refine zac ?_|omega
     refine ⟨_,za0.nz,?_⟩
     simp only [St.nz,nzL,zbS,nzO,nz,zbf]
     (refine zay.mk [0] ?_ ?_<;>simp [kwr,zbb,zc5,smA,smE,zan,exZ,exK,Sm.kind,Sm.name,Sm.slot,Sm.size,Sm.place,Sm.value,Sm.body,Sm.els,Ex.op,Ex.value,Ex.name,Ex.slot,Ex.size,Ex.args])
theorem zzI (l:List TkD) (n m k:Nat) (hT:zbI l) (hl:l.length≤100000) (hk:k≤l.length) (hB:∀ k,k≤l.length→(smF l m .block k).isOut=false→zjX l n k (smF l m .block k)) (e0:isT l k [105,102]=false) (e1:isT l k [119,104,105,108,101]=false) (e2:isT l k [115,101,110,100]=false) (e3:isT l k [111,117,116,112,117,116]=true)
  (ho:((zbl l (k+1)).bind fun e k1=>(zaU l [59] (k1)).bind fun _ k2=>PR.ok [smE 6 [] exZ e [] []] k2).isOut=false) :
  zh3 l n k ((zbl l (k+1)).bind fun e k1=>(zaU l [59] (k1)).bind fun _ k2=>PR.ok [smE 6 [] exZ e [] []] k2):=by
 have f0:=zbi l n k _ hT rfl e0
 have f1:=zbi l n k _ hT rfl e1
 have f2:=zbi l n k _ hT rfl e2
 have f3:=zdl l n k _ hT rfl (by omega) e3
 have hlt:=zau e3 (by simp)
 cases r0:zbl l (k+1) with
 |out=>exact absurd r0 (zc7 (by omega))
 |bad k'=>
  obtain ⟨g,q1⟩:=zhf (n:=n) hT hl (by omega) r0
  have z0:=zaN l n k' (zar l n k') [59]
  refine ⟨smE 6 [] exZ g [] [],?_⟩
  refine zbw (fun d=>if d=2 then 1 else 2) 3 zcQ ?_
  repeat' first|refine Va (fA5 @kz zbb @exA.eq_1 @kA @lsA.eq_1) ?_|(with_reducible first|refine SB.c ?_ ?_<;>intro _|exact zad)|refine dC1 zab f0 ?_|refine dC1 zab f1 ?_|refine dC1 zab f2 ?_|refine dC1 zab f3 ?_|refine dC1 zak q1 ?_|refine dC1 zae z0 ?_|with_reducible refine zac ?_|omega
  refine ⟨_,za0.nz,?_⟩
  simp only [St.nz,nzL,zbS,nzO,nz,zbf]
  (refine zay.mk [0] ?_ ?_<;>simp [kwr,zbb,zc5,smA,smE,zan,exZ,exK,Sm.kind,Sm.name,Sm.slot,Sm.size,Sm.place,Sm.value,Sm.body,Sm.els,Ex.op,Ex.value,Ex.name,Ex.slot,Ex.size,Ex.args])
 |ok e k1=>
  have le0:=ze1 (by omega) r0
  have c0:=zmi (n:=n) hT hl (by omega) r0
  rw [r0] at ho
  simp only [PR.bind] at ho ⊢
  cases r1:zaU l [59] (k1) with
  |out=>exact absurd r1 zby
  |bad k'=>
   have q1:=zbh l n (k1) k' _ hT rfl r1
   refine ⟨smE 6 [] exZ e [] [],?_⟩
   refine zbw (fun d=>if d=2 then 1 else 2) 3 zcQ ?_
   repeat' first|refine Va (fA5 @kz zbb @exA.eq_1 @kA @lsA.eq_1) ?_|(with_reducible first|refine SB.c ?_ ?_<;>intro _|exact zad)|refine dC1 zab f0 ?_|refine dC1 zab f1 ?_|refine dC1 zab f2 ?_|refine dC1 zab f3 ?_|refine dC1 zak c0 ?_|refine dC1 zae q1 ?_|with_reducible refine zac ?_|omega
   refine ⟨_,za0.nz,?_⟩
   simp only [St.nz,nzL,zbS,nzO,nz,zbf]
   (refine zay.mk [0] ?_ ?_<;>simp [kwr,zbb,zc5,smA,smE,zan,exZ,exK,Sm.kind,Sm.name,Sm.slot,Sm.size,Sm.place,Sm.value,Sm.body,Sm.els,Ex.op,Ex.value,Ex.name,Ex.slot,Ex.size,Ex.args])
  |ok u1 k2=>
   have le1:=zen (by omega) (by simp) r1
   have c1:=zbd l n (k1) (k2) _ hT rfl (by omega) r1
   rw [r1] at ho
   simp only [PR.bind] at ho ⊢
   show AC _ _ _ _ _ _ _
   refine zbw (fun d=>if d=2 then 1 else 2) 3 zcQ ?_
   repeat' first|refine Va (fA5 @kz zbb @exA.eq_1 @kA @lsA.eq_1) ?_|(with_reducible first|refine SB.c ?_ ?_<;>intro _|exact zad)|refine dC1 zab f0 ?_|refine dC1 zab f1 ?_|refine dC1 zab f2 ?_|refine dC1 zab f3 ?_|refine dC1 zak c0 ?_|refine dC1 zae c1 ?_|with_reducible refine zac ?_|omega
   refine ⟨_,za0.nz,?_⟩
   simp only [St.nz,nzL,zbS,nzO,nz,zbf]
   (refine zay.mk [0] ?_ ?_<;>simp [kwr,zbb,zc5,smA,smE,zan,exZ,exK,Sm.kind,Sm.name,Sm.slot,Sm.size,Sm.place,Sm.value,Sm.body,Sm.els,Ex.op,Ex.value,Ex.name,Ex.slot,Ex.size,Ex.args])
theorem ztY (l:List TkD) (n m k:Nat) (hT:zbI l) (hl:l.length≤100000) (hk:k≤l.length) (hB:∀ k,k≤l.length→(smF l m .block k).isOut=false→zjX l n k (smF l m .block k)) (e0:isT l k [105,102]=false) (e1:isT l k [119,104,105,108,101]=false) (e2:isT l k [115,101,110,100]=false) (e3:isT l k [111,117,116,112,117,116]=false) (nm:List UInt8) (k1:Nat) (hn:zdz l k=.ok nm k1) (e9:isT l k1 [91]=true)
  (ho:((zbl l (k1+1)).bind fun p k2=>(zaU l [93] (k2)).bind fun _ k3=>(zaU l [61] (k3)).bind fun _ k4=>(zbl l (k4)).bind fun e k5=>(zaU l [59] (k5)).bind fun _ k6=>PR.ok [smE 2 nm p e [] []] k6).isOut=false) :
  zh3 l n k ((zbl l (k1+1)).bind fun p k2=>(zaU l [93] (k2)).bind fun _ k3=>(zaU l [61] (k3)).bind fun _ k4=>(zbl l (k4)).bind fun e k5=>(zaU l [59] (k5)).bind fun _ k6=>PR.ok [smE 2 nm p e [] []] k6):=by
 have f0:=zbi l n k _ hT rfl e0
 have f1:=zbi l n k _ hT rfl e1
 have f2:=zbi l n k _ hT rfl e2
 have f3:=zbi l n k _ hT rfl e3
 have cn:=zhd l n k k1 nm hn (by omega)
 have hk1:k1≤l.length:=by have:=za6 (l:=l) hk;rw [hn] at this;exact this.2
 have g9:=zco l n k1 [91] hT rfl
 rw [e9] at g9
 have hlt:=zau e9 (by simp)
 have hx1:zaU l [91] k1=.ok () (k1+1):=by unfold zaU;rw [if_pos e9]
 have g8:=zbd l n k1 (k1+1) _ hT rfl (by omega) hx1
 cases r0:zbl l (k1+1) with
 |out=>exact absurd r0 (zc7 (by omega))
 |bad k'=>
  obtain ⟨g,q1⟩:=zhf (n:=n) hT hl (by omega) r0
  have z0:=zaN l n k' (zar l n k') [93]
  have z1:=zaN l n k' (zar l n k') [61]
  have z2:=zeR l n k' (zar l n k')
  have z3:=zaN l n k' (zar l n k') [59]
  refine ⟨smE 2 nm g exZ [] [],?_⟩
  refine zbw (fun d=>if d=2 then 1 else 2) 3 zcQ ?_
  repeat' first|refine Va (fA5 @kz zbb @exA.eq_1 @kA @lsA.eq_1) ?_|(with_reducible first|refine SB.c ?_ ?_<;>intro _|exact zad)|refine dC1 zab f0 ?_|refine dC1 zab f1 ?_|refine dC1 zab f2 ?_|refine dC1 zab f3 ?_|refine dC1 zaG cn ?_|refine dC1 zal g9 ?_|refine dC1 zae g8 ?_|refine dC1 zak q1 ?_|refine dC1 zae z0 ?_|refine dC1 zae z1 ?_|refine dC1 zak z2 ?_|refine dC1 zae z3 ?_|with_reducible refine zac ?_|omega
  refine ⟨_,za0.nz,?_⟩
  simp only [St.nz,nzL,zbS,nzO,nz,zbf]
  (refine zay.mk [0] ?_ ?_<;>simp [kwr,zbb,zc5,smA,smE,zan,exZ,exK,Sm.kind,Sm.name,Sm.slot,Sm.size,Sm.place,Sm.value,Sm.body,Sm.els,Ex.op,Ex.value,Ex.name,Ex.slot,Ex.size,Ex.args])
 |ok p k2=>
  have le0:=ze1 (by omega) r0
  have c0:=zmi (n:=n) hT hl (by omega) r0
  rw [r0] at ho
  simp only [PR.bind] at ho ⊢
  cases r1:zaU l [93] (k2) with
  |out=>exact absurd r1 zby
  |bad k'=>
   have q1:=zbh l n (k2) k' _ hT rfl r1
   have z0:=zaN l n k' (zar l n k') [61]
   have z1:=zeR l n k' (zar l n k')
   have z2:=zaN l n k' (zar l n k') [59]
   refine ⟨smE 2 nm p exZ [] [],?_⟩
   refine zbw (fun d=>if d=2 then 1 else 2) 3 zcQ ?_
   repeat' first|refine Va (fA5 @kz zbb @exA.eq_1 @kA @lsA.eq_1) ?_|(with_reducible first|refine SB.c ?_ ?_<;>intro _|exact zad)|refine dC1 zab f0 ?_|refine dC1 zab f1 ?_|refine dC1 zab f2 ?_|refine dC1 zab f3 ?_|refine dC1 zaG cn ?_|refine dC1 zal g9 ?_|refine dC1 zae g8 ?_|refine dC1 zak c0 ?_|refine dC1 zae q1 ?_|refine dC1 zae z0 ?_|refine dC1 zak z1 ?_|refine dC1 zae z2 ?_|with_reducible refine zac ?_|omega
   refine ⟨_,za0.nz,?_⟩
   simp only [St.nz,nzL,zbS,nzO,nz,zbf]
   (refine zay.mk [0] ?_ ?_<;>simp [kwr,zbb,zc5,smA,smE,zan,exZ,exK,Sm.kind,Sm.name,Sm.slot,Sm.size,Sm.place,Sm.value,Sm.body,Sm.els,Ex.op,Ex.value,Ex.name,Ex.slot,Ex.size,Ex.args])
  |ok u1 k3=>
   have le1:=zen (by omega) (by simp) r1
   have c1:=zbd l n (k2) (k3) _ hT rfl (by omega) r1
   rw [r1] at ho
   simp only [PR.bind] at ho ⊢
   cases r2:zaU l [61] (k3) with
   |out=>exact absurd r2 zby
   |bad k'=>
    have q1:=zbh l n (k3) k' _ hT rfl r2
    have z0:=zeR l n k' (zar l n k')
    have z1:=zaN l n k' (zar l n k') [59]
    refine ⟨smE 2 nm p exZ [] [],?_⟩
    refine zbw (fun d=>if d=2 then 1 else 2) 3 zcQ ?_
    repeat' first|refine Va (fA5 @kz zbb @exA.eq_1 @kA @lsA.eq_1) ?_|(with_reducible first|refine SB.c ?_ ?_<;>intro _|exact zad)|refine dC1 zab f0 ?_|refine dC1 zab f1 ?_|refine dC1 zab f2 ?_|refine dC1 zab f3 ?_|refine dC1 zaG cn ?_|refine dC1 zal g9 ?_|refine dC1 zae g8 ?_|refine dC1 zak c0 ?_|refine dC1 zae c1 ?_|refine dC1 zae q1 ?_|refine dC1 zak z0 ?_|refine dC1 zae z1 ?_|with_reducible refine zac ?_|omega
    refine ⟨_,za0.nz,?_⟩
    simp only [St.nz,nzL,zbS,nzO,nz,zbf]
    (refine zay.mk [0] ?_ ?_<;>simp [kwr,zbb,zc5,smA,smE,zan,exZ,exK,Sm.kind,Sm.name,Sm.slot,Sm.size,Sm.place,Sm.value,Sm.body,Sm.els,Ex.op,Ex.value,Ex.name,Ex.slot,Ex.size,Ex.args])
   |ok u2 k4=>
    have le2:=zen (by omega) (by simp) r2
    have c2:=zbd l n (k3) (k4) _ hT rfl (by omega) r2
    rw [r2] at ho
    simp only [PR.bind] at ho ⊢
    cases r3:zbl l (k4) with
    |out=>exact absurd r3 (zc7 (by omega))
    |bad k'=>
     obtain ⟨g,q1⟩:=zhf (n:=n) hT hl (by omega) r3
     have z0:=zaN l n k' (zar l n k') [59]
     refine ⟨smE 2 nm p g [] [],?_⟩
     refine zbw (fun d=>if d=2 then 1 else 2) 3 zcQ ?_
     repeat' first|refine Va (fA5 @kz zbb @exA.eq_1 @kA @lsA.eq_1) ?_|(with_reducible first|refine SB.c ?_ ?_<;>intro _|exact zad)|refine dC1 zab f0 ?_|refine dC1 zab f1 ?_|refine dC1 zab f2 ?_|refine dC1 zab f3 ?_|refine dC1 zaG cn ?_|refine dC1 zal g9 ?_|refine dC1 zae g8 ?_|refine dC1 zak c0 ?_|refine dC1 zae c1 ?_|refine dC1 zae c2 ?_|refine dC1 zak q1 ?_|refine dC1 zae z0 ?_|with_reducible refine zac ?_|omega
     refine ⟨_,za0.nz,?_⟩
     simp only [St.nz,nzL,zbS,nzO,nz,zbf]
     (refine zay.mk [0] ?_ ?_<;>simp [kwr,zbb,zc5,smA,smE,zan,exZ,exK,Sm.kind,Sm.name,Sm.slot,Sm.size,Sm.place,Sm.value,Sm.body,Sm.els,Ex.op,Ex.value,Ex.name,Ex.slot,Ex.size,Ex.args])
    |ok e k5=>
     have le3:=ze1 (by omega) r3
     have c3:=zmi (n:=n) hT hl (by omega) r3
     rw [r3] at ho
     simp only [PR.bind] at ho ⊢
     cases r4:zaU l [59] (k5) with
     |out=>exact absurd r4 zby
     |bad k'=>
      have q1:=zbh l n (k5) k' _ hT rfl r4
      refine ⟨smE 2 nm p e [] [],?_⟩
      refine zbw (fun d=>if d=2 then 1 else 2) 3 zcQ ?_
      repeat' first|refine Va (fA5 @kz zbb @exA.eq_1 @kA @lsA.eq_1) ?_|(with_reducible first|refine SB.c ?_ ?_<;>intro _|exact zad)|refine dC1 zab f0 ?_|refine dC1 zab f1 ?_|refine dC1 zab f2 ?_|refine dC1 zab f3 ?_|refine dC1 zaG cn ?_|refine dC1 zal g9 ?_|refine dC1 zae g8 ?_|refine dC1 zak c0 ?_|refine dC1 zae c1 ?_|refine dC1 zae c2 ?_|refine dC1 zak c3 ?_|refine dC1 zae q1 ?_|with_reducible refine zac ?_|omega
      refine ⟨_,za0.nz,?_⟩
      simp only [St.nz,nzL,zbS,nzO,nz,zbf]
      (refine zay.mk [0] ?_ ?_<;>simp [kwr,zbb,zc5,smA,smE,zan,exZ,exK,Sm.kind,Sm.name,Sm.slot,Sm.size,Sm.place,Sm.value,Sm.body,Sm.els,Ex.op,Ex.value,Ex.name,Ex.slot,Ex.size,Ex.args])
     |ok u4 k6=>
      have le4:=zen (by omega) (by simp) r4
      have c4:=zbd l n (k5) (k6) _ hT rfl (by omega) r4
      rw [r4] at ho
      simp only [PR.bind] at ho ⊢
      show AC _ _ _ _ _ _ _
      refine zbw (fun d=>if d=2 then 1 else 2) 3 zcQ ?_
      repeat' first|refine Va (fA5 @kz zbb @exA.eq_1 @kA @lsA.eq_1) ?_|(with_reducible first|refine SB.c ?_ ?_<;>intro _|exact zad)|refine dC1 zab f0 ?_|refine dC1 zab f1 ?_|refine dC1 zab f2 ?_|refine dC1 zab f3 ?_|refine dC1 zaG cn ?_|refine dC1 zal g9 ?_|refine dC1 zae g8 ?_|refine dC1 zak c0 ?_|refine dC1 zae c1 ?_|refine dC1 zae c2 ?_|refine dC1 zak c3 ?_|refine dC1 zae c4 ?_|with_reducible refine zac ?_|omega
      refine ⟨_,za0.nz,?_⟩
      simp only [St.nz,nzL,zbS,nzO,nz,zbf]
      (refine zay.mk [0] ?_ ?_<;>simp [kwr,zbb,zc5,smA,smE,zan,exZ,exK,Sm.kind,Sm.name,Sm.slot,Sm.size,Sm.place,Sm.value,Sm.body,Sm.els,Ex.op,Ex.value,Ex.name,Ex.slot,Ex.size,Ex.args])
theorem zrp (l:List TkD) (n m k:Nat) (hT:zbI l) (hl:l.length≤100000) (hk:k≤l.length) (hB:∀ k,k≤l.length→(smF l m .block k).isOut=false→zjX l n k (smF l m .block k)) (e0:isT l k [105,102]=false) (e1:isT l k [119,104,105,108,101]=false) (e2:isT l k [115,101,110,100]=false) (e3:isT l k [111,117,116,112,117,116]=false) (nm:List UInt8) (k1:Nat) (hn:zdz l k=.ok nm k1) (e9:isT l k1 [91]=false)
  (ho:((zaU l [61] (k1)).bind fun _ k4=>(zbl l (k4)).bind fun e k5=>(zaU l [59] (k5)).bind fun _ k6=>PR.ok [smE 1 nm exZ e [] []] k6).isOut=false) :
  zh3 l n k ((zaU l [61] (k1)).bind fun _ k4=>(zbl l (k4)).bind fun e k5=>(zaU l [59] (k5)).bind fun _ k6=>PR.ok [smE 1 nm exZ e [] []] k6):=by
 have f0:=zbi l n k _ hT rfl e0
 have f1:=zbi l n k _ hT rfl e1
 have f2:=zbi l n k _ hT rfl e2
 have f3:=zbi l n k _ hT rfl e3
 have cn:=zhd l n k k1 nm hn (by omega)
 have hk1:k1≤l.length:=by have:=za6 (l:=l) hk;rw [hn] at this;exact this.2
 have g9:=zco l n k1 [91] hT rfl
 rw [e9] at g9
 cases r0:zaU l [61] (k1) with
 |out=>exact absurd r0 zby
 |bad k'=>
  have q1:=zbh l n (k1) k' _ hT rfl r0
  have z0:=zeR l n k' (zar l n k')
  have z1:=zaN l n k' (zar l n k') [59]
  refine ⟨smE 1 nm exZ exZ [] [],?_⟩
  refine zbw (fun d=>if d=2 then 1 else 2) 3 zcQ ?_
  repeat' first|refine Va (fA5 @kz zbb @exA.eq_1 @kA @lsA.eq_1) ?_|(with_reducible first|refine SB.c ?_ ?_<;>intro _|exact zad)|refine dC1 zab f0 ?_|refine dC1 zab f1 ?_|refine dC1 zab f2 ?_|refine dC1 zab f3 ?_|refine dC1 zaG cn ?_|refine dC1 zal g9 ?_|refine dC1 zae q1 ?_|refine dC1 zak z0 ?_|refine dC1 zae z1 ?_|with_reducible refine zac ?_|omega
  refine ⟨_,za0.nz,?_⟩
  simp only [St.nz,nzL,zbS,nzO,nz,zbf]
  (refine zay.mk [0] ?_ ?_<;>simp [kwr,zbb,zc5,smA,smE,zan,exZ,exK,Sm.kind,Sm.name,Sm.slot,Sm.size,Sm.place,Sm.value,Sm.body,Sm.els,Ex.op,Ex.value,Ex.name,Ex.slot,Ex.size,Ex.args])
 |ok u0 k4=>
  have le0:=zen (by omega) (by simp) r0
  have c0:=zbd l n (k1) (k4) _ hT rfl (by omega) r0
  rw [r0] at ho
  simp only [PR.bind] at ho ⊢
  cases r1:zbl l (k4) with
  |out=>exact absurd r1 (zc7 (by omega))
  |bad k'=>
   obtain ⟨g,q1⟩:=zhf (n:=n) hT hl (by omega) r1
   have z0:=zaN l n k' (zar l n k') [59]
   refine ⟨smE 1 nm exZ g [] [],?_⟩
   refine zbw (fun d=>if d=2 then 1 else 2) 3 zcQ ?_
   repeat' first|refine Va (fA5 @kz zbb @exA.eq_1 @kA @lsA.eq_1) ?_|(with_reducible first|refine SB.c ?_ ?_<;>intro _|exact zad)|refine dC1 zab f0 ?_|refine dC1 zab f1 ?_|refine dC1 zab f2 ?_|refine dC1 zab f3 ?_|refine dC1 zaG cn ?_|refine dC1 zal g9 ?_|refine dC1 zae c0 ?_|refine dC1 zak q1 ?_|refine dC1 zae z0 ?_|with_reducible refine zac ?_|omega
   refine ⟨_,za0.nz,?_⟩
   simp only [St.nz,nzL,zbS,nzO,nz,zbf]
   (refine zay.mk [0] ?_ ?_<;>simp [kwr,zbb,zc5,smA,smE,zan,exZ,exK,Sm.kind,Sm.name,Sm.slot,Sm.size,Sm.place,Sm.value,Sm.body,Sm.els,Ex.op,Ex.value,Ex.name,Ex.slot,Ex.size,Ex.args])
  |ok e k5=>
   have le1:=ze1 (by omega) r1
   have c1:=zmi (n:=n) hT hl (by omega) r1
   rw [r1] at ho
   simp only [PR.bind] at ho ⊢
   cases r2:zaU l [59] (k5) with
   |out=>exact absurd r2 zby
   |bad k'=>
    have q1:=zbh l n (k5) k' _ hT rfl r2
    refine ⟨smE 1 nm exZ e [] [],?_⟩
    refine zbw (fun d=>if d=2 then 1 else 2) 3 zcQ ?_
    repeat' first|refine Va (fA5 @kz zbb @exA.eq_1 @kA @lsA.eq_1) ?_|(with_reducible first|refine SB.c ?_ ?_<;>intro _|exact zad)|refine dC1 zab f0 ?_|refine dC1 zab f1 ?_|refine dC1 zab f2 ?_|refine dC1 zab f3 ?_|refine dC1 zaG cn ?_|refine dC1 zal g9 ?_|refine dC1 zae c0 ?_|refine dC1 zak c1 ?_|refine dC1 zae q1 ?_|with_reducible refine zac ?_|omega
    refine ⟨_,za0.nz,?_⟩
    simp only [St.nz,nzL,zbS,nzO,nz,zbf]
    (refine zay.mk [0] ?_ ?_<;>simp [kwr,zbb,zc5,smA,smE,zan,exZ,exK,Sm.kind,Sm.name,Sm.slot,Sm.size,Sm.place,Sm.value,Sm.body,Sm.els,Ex.op,Ex.value,Ex.name,Ex.slot,Ex.size,Ex.args])
   |ok u2 k6=>
    have le2:=zen (by omega) (by simp) r2
    have c2:=zbd l n (k5) (k6) _ hT rfl (by omega) r2
    rw [r2] at ho
    simp only [PR.bind] at ho ⊢
    show AC _ _ _ _ _ _ _
    refine zbw (fun d=>if d=2 then 1 else 2) 3 zcQ ?_
    repeat' first|refine Va (fA5 @kz zbb @exA.eq_1 @kA @lsA.eq_1) ?_|(with_reducible first|refine SB.c ?_ ?_<;>intro _|exact zad)|refine dC1 zab f0 ?_|refine dC1 zab f1 ?_|refine dC1 zab f2 ?_|refine dC1 zab f3 ?_|refine dC1 zaG cn ?_|refine dC1 zal g9 ?_|refine dC1 zae c0 ?_|refine dC1 zak c1 ?_|refine dC1 zae c2 ?_|with_reducible refine zac ?_|omega
    refine ⟨_,za0.nz,?_⟩
    simp only [St.nz,nzL,zbS,nzO,nz,zbf]
    (refine zay.mk [0] ?_ ?_<;>simp [kwr,zbb,zc5,smA,smE,zan,exZ,exK,Sm.kind,Sm.name,Sm.slot,Sm.size,Sm.place,Sm.value,Sm.body,Sm.els,Ex.op,Ex.value,Ex.name,Ex.slot,Ex.size,Ex.args])
theorem zrq (l:List TkD) (n k k':Nat) (hT:zbI l) (hl:l.length≤100000) (hk:k≤l.length) (e0:isT l k [105,102]=false) (e1:isT l k [119,104,105,108,101]=false) (e2:isT l k [115,101,110,100]=false) (e3:isT l k [111,117,116,112,117,116]=false) (hn:zdz l k=.bad k'):zh3 l n k (.bad k'):=by
 have f0:=zbi l n k _ hT rfl e0
 have f1:=zbi l n k _ hT rfl e1
 have f2:=zbi l n k _ hT rfl e2
 have f3:=zbi l n k _ hT rfl e3
 have q:=zhe l n k k' hn
 have z0:=zfQ l n k' (zar l n k') [91]
 have z1:=zaN l n k' (zar l n k') [61]
 have z2:=zeR l n k' (zar l n k')
 have z3:=zaN l n k' (zar l n k') [59]
 refine ⟨smE 1 [] exZ exZ [] [],?_⟩
 refine zbw (fun d=>if d=2 then 1 else 2) 3 zcQ ?_
 repeat' first|refine Va (fA5 @kz zbb @exA.eq_1 @kA @lsA.eq_1) ?_|(with_reducible first|refine SB.c ?_ ?_<;>intro _|exact zad)|refine dC1 zab f0 ?_|refine dC1 zab f1 ?_|refine dC1 zab f2 ?_|refine dC1 zab f3 ?_|refine dC1 zaG q ?_|refine dC1 zal z0 ?_|refine dC1 zae z1 ?_|refine dC1 zak z2 ?_|refine dC1 zae z3 ?_|with_reducible refine zac ?_|omega
 refine ⟨_,za0.nz,?_⟩
 simp only [St.nz,nzL,zbS,nzO,nz,zbf]
 (refine zay.mk [0] ?_ ?_<;>simp [kwr,zbb,zc5,smA,smE,zan,exZ,exK,Sm.kind,Sm.name,Sm.slot,Sm.size,Sm.place,Sm.value,Sm.body,Sm.els,Ex.op,Ex.value,Ex.name,Ex.slot,Ex.size,Ex.args])
end Go.Proofs.YtfinhhblcdkpgaaGreatDoor
