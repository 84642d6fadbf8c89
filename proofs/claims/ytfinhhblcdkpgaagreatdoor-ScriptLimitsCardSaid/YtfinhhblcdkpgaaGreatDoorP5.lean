/- A part of the walk (Tryz_P5): its theorems have no condition beyond what they state. -/
import Derived.Test.YtfinhhblcdkpgaaGreatDoorP4
set_option maxRecDepth 100000
set_option maxHeartbeats 64000000
set_option linter.unusedSimpArgs false
set_option linter.unusedVariables false
set_option linter.defProp false
namespace Go.Proofs.YtfinhhblcdkpgaaGreatDoor
open Go Go.Abs Go.RowKit
theorem ztI {l:List TkD} {k:Nat} (h:zd6 l k=true):k<l.length∧(l.getD k tk0).kind=2:=by simpa [zd6] using h
theorem zfv {l:List TkD} {k:Nat} (h:zd6 l k=false) (hk:k<l.length):((l.getD k tk0).kind==2)=false:=by
 unfold zd6 at h
 rw [decide_eq_true hk,Bool.true_and] at h
 exact h
theorem zwx (l:List TkD) (n k k':Nat) (v:Int) (hl:l.length≤100000) (h0:zd6 l k=true) (h:nmF l 0 k=.ok v k'):AC Tryz.prog gl 204 [.ref 0 0] (psO l n k) (exA (exC v)) (psO l n k'):=by
 obtain ⟨h1,h2⟩:=ztI h0
 have hk':(k:Int)<l.length:=by omega
 have hg:=zf1 l k h1
 rw [h2] at hg
 have c:=zhb l n k k' 0 v h (by omega)
 refine zax (fun d=>if d=2 then 1 else if d=3 then 2 else 3) 4 zgG ?_
 repeat' first|refine Va (fA5 @kz zdX h1 hk' hg) ?_|(with_reducible first|refine SB.c ?_ ?_<;>intro _|exact zad)|refine dC1 zb3 c ?_|with_reducible refine zac ?_|omega
 (refine zay.mk [0] ?_ ?_<;>simp [kwr,zdX,zCi])
theorem ztJ (l:List TkD) (n k k':Nat) (hl:l.length≤100000) (h0:zd6 l k=true) (h:nmF l 0 k=.bad k'):AP Tryz.prog gl 204 [.ref 0 0] (psO l n k) (fv l n k') (psO l n k'):=by
 obtain ⟨h1,h2⟩:=ztI h0
 have hk':(k:Int)<l.length:=by omega
 have hg:=zf1 l k h1
 rw [h2] at hg
 have c:=zfP l n k k' 0 h (by omega)
 refine zbO (fun d=>if d=2 then 1 else if d=3 then 2 else 3) 4 zgG ?_
 repeat' first|refine Va (fA5 @kz zdX h1 hk' hg) ?_|(with_reducible first|refine SB.c ?_ ?_<;>intro _|exact zad|refine fun (_:List AVal)=>?_)|refine CK.dp [0] [] zb3 c ?_|with_reducible refine zac ?_|omega
 (refine zci.mk [0] ?_<;>simp [kwt])
theorem zzr (l:List TkD) (n k:Nat) (hl:l.length≤100000) (h0:zd6 l k=false) (e0:isT l k [115,101,108,102]=true):AC Tryz.prog gl 204 [.ref 0 0] (psO l n k) (exA (exK 4)) (psO l n (k+1)):=by
 have h1:=zau e0 (by simp)
 have hk':(k:Int)<l.length:=by omega
 have hn:=zfv h0 h1
 have hg:=zf1 l k h1
 have t:=za3 l n k _ e0 (by omega)
 refine zax (fun d=>if d=2 then 1 else if d=3 then 2 else 3) 4 zgG ?_
 repeat' first|refine Va (fA6 @kz zdX h1 hk' hg hn) ?_|(with_reducible first|refine SB.c ?_ ?_<;>intro _|exact zad)|refine dC1 zaa t ?_|with_reducible refine zac ?_|omega
 (refine zay.mk [0] ?_ ?_<;>simp [kwr,zdX,zjr])
theorem zzs (l:List TkD) (n k:Nat) (hl:l.length≤100000) (h0:zd6 l k=false) (e0:isT l k [115,101,108,102]=false) (e1:isT l k [112,114,111,99,115]=true):AC Tryz.prog gl 204 [.ref 0 0] (psO l n k) (exA (exK 5)) (psO l n (k+1)):=by
 have h1:=zau e1 (by simp)
 have hk':(k:Int)<l.length:=by omega
 have hn:=zfv h0 h1
 have hg:=zf1 l k h1
 have f0:=zao l n k _ e0
 have t:=za3 l n k _ e1 (by omega)
 refine zax (fun d=>if d=2 then 1 else if d=3 then 2 else 3) 4 zgG ?_
 repeat' first|refine Va (fA6 @kz zdX h1 hk' hg hn) ?_|(with_reducible first|refine SB.c ?_ ?_<;>intro _|exact zad)|refine dC1 zaa f0 ?_|refine dC1 zaa t ?_|with_reducible refine zac ?_|omega
 (refine zay.mk [0] ?_ ?_<;>simp [kwr,zdX,zjr])
theorem zzt (l:List TkD) (n k:Nat) (hl:l.length≤100000) (h0:zd6 l k=false) (e0:isT l k [115,101,108,102]=false) (e1:isT l k [112,114,111,99,115]=false) (e2:isT l k [102,114,111,109]=true):AC Tryz.prog gl 204 [.ref 0 0] (psO l n k) (exA (exK 6)) (psO l n (k+1)):=by
 have h1:=zau e2 (by simp)
 have hk':(k:Int)<l.length:=by omega
 have hn:=zfv h0 h1
 have hg:=zf1 l k h1
 have f0:=zao l n k _ e0
 have f1:=zao l n k _ e1
 have t:=za3 l n k _ e2 (by omega)
 refine zax (fun d=>if d=2 then 1 else if d=3 then 2 else 3) 4 zgG ?_
 repeat' first|refine Va (fA6 @kz zdX h1 hk' hg hn) ?_|(with_reducible first|refine SB.c ?_ ?_<;>intro _|exact zad)|refine dC1 zaa f0 ?_|refine dC1 zaa f1 ?_|refine dC1 zaa t ?_|with_reducible refine zac ?_|omega
 (refine zay.mk [0] ?_ ?_<;>simp [kwr,zdX,zjr])
theorem zzu (l:List TkD) (n k:Nat) (hl:l.length≤100000) (h0:zd6 l k=false) (e0:isT l k [115,101,108,102]=false) (e1:isT l k [112,114,111,99,115]=false) (e2:isT l k [102,114,111,109]=false) (e3:isT l k [118,97,108,117,101]=true):AC Tryz.prog gl 204 [.ref 0 0] (psO l n k) (exA (exK 7)) (psO l n (k+1)):=by
 have h1:=zau e3 (by simp)
 have hk':(k:Int)<l.length:=by omega
 have hn:=zfv h0 h1
 have hg:=zf1 l k h1
 have f0:=zao l n k _ e0
 have f1:=zao l n k _ e1
 have f2:=zao l n k _ e2
 have t:=za3 l n k _ e3 (by omega)
 refine zax (fun d=>if d=2 then 1 else if d=3 then 2 else 3) 4 zgG ?_
 repeat' first|refine Va (fA6 @kz zdX h1 hk' hg hn) ?_|(with_reducible first|refine SB.c ?_ ?_<;>intro _|exact zad)|refine dC1 zaa f0 ?_|refine dC1 zaa f1 ?_|refine dC1 zaa f2 ?_|refine dC1 zaa t ?_|with_reducible refine zac ?_|omega
 (refine zay.mk [0] ?_ ?_<;>simp [kwr,zdX,zjr])
theorem zwy (l:List TkD) (n k:Nat) (r:PR Ex) (hl:l.length≤100000) (h0:zd6 l k=false) (e0:isT l k [115,101,108,102]=false) (e1:isT l k [112,114,111,99,115]=false) (e2:isT l k [102,114,111,109]=false) (e3:isT l k [118,97,108,117,101]=false) (e4:isT l k [40]=true) (hr:znv 199 [.pv (.int .i64 0)] l n (k+1) r) (hp:r.past (k+1) l.length) (ho:r.isOut=false) :
  znv 204 [] l n k (r.bind fun e k'=>(zaU l [41] k').bind fun _ k2=>.ok e k2):=by
 have h1:=zau e4 (by simp)
 have hk':(k:Int)<l.length:=by omega
 have hn:=zfv h0 h1
 have hg:=zf1 l k h1
 have f0:=zao l n k _ e0
 have f1:=zao l n k _ e1
 have f2:=zao l n k _ e2
 have f3:=zao l n k _ e3
 have t:=za3 l n k _ e4 (by omega)
 cases r with
 |out=>cases ho
 |bad k'=>
  have c:AP _ _ _ _ _ _ _:=hr
  show AP _ _ _ _ _ _ _
  refine zbO (fun d=>if d=2 then 1 else if d=3 then 2 else 3) 4 zgG ?_
  repeat' first|refine Va (fA6 @kz zdX h1 hk' hg hn) ?_|(with_reducible first|refine SB.c ?_ ?_<;>intro _|exact zad|refine fun (_:List AVal)=>?_)|refine dC1 zaa f0 ?_|refine dC1 zaa f1 ?_|refine dC1 zaa f2 ?_|refine dC1 zaa f3 ?_|refine dC1 zaa t ?_|refine CK.dp [0] [] zas c ?_|with_reducible refine zac ?_|omega
  (refine zci.mk [0] ?_<;>simp [kwt])
 |ok e k'=>
  have c:AC _ _ _ _ _ _ _:=hr
  have hp':k+1<k'∧k'≤l.length:=hp
  simp only [PR.bind]
  cases hx:zaU l [41] k' with
  |out=>have:=zbt (l:=l) (s:=[41]) (k:=k');rw [hx] at this;cases this
  |bad k2=>
   have c2:=za2 l n k' k2 _ hx
   show AP _ _ _ _ _ _ _
   refine zbO (fun d=>if d=2 then 1 else if d=3 then 2 else 3) 4 zgG ?_
   repeat' first|refine Va (fA8 @kz zdX @exA.eq_1 @kA h1 hk' hg hn) ?_|(with_reducible first|refine SB.c ?_ ?_<;>intro _|exact zad|refine fun (_:List AVal)=>?_)|refine dC1 zaa f0 ?_|refine dC1 zaa f1 ?_|refine dC1 zaa f2 ?_|refine dC1 zaa f3 ?_|refine dC1 zaa t ?_|refine dC1 zas c ?_|refine CK.dp [0] [] zam c2 ?_|with_reducible refine zac ?_|omega
   (refine zci.mk [0] ?_<;>simp [kwt])
  |ok u k2=>
   have c2:=zbe l n k' k2 _ hx (by omega)
   show AC _ _ _ _ _ _ _
   refine zax (fun d=>if d=2 then 1 else if d=3 then 2 else 3) 4 zgG ?_
   repeat' first|refine Va (fA8 @kz zdX @exA.eq_1 @kA h1 hk' hg hn) ?_|(with_reducible first|refine SB.c ?_ ?_<;>intro _|exact zad)|refine dC1 zaa f0 ?_|refine dC1 zaa f1 ?_|refine dC1 zaa f2 ?_|refine dC1 zaa f3 ?_|refine dC1 zaa t ?_|refine dC1 zas c ?_|refine dC1 zam c2 ?_|with_reducible refine zac ?_|omega
   (refine zay.mk [0] ?_ ?_<;>simp [kwr,zdX,exA,zb7,zbq])
theorem zrc (l:List TkD) (n k k':Nat) (hl:l.length≤100000) (hk:k≤l.length) (h0:zd6 l k=false) (e0:isT l k [115,101,108,102]=false) (e1:isT l k [112,114,111,99,115]=false) (e2:isT l k [102,114,111,109]=false) (e3:isT l k [118,97,108,117,101]=false) (e4:isT l k [40]=false) (h:zdz l k=.bad k'):AP Tryz.prog gl 204 [.ref 0 0] (psO l n k) (fv l n k') (psO l n k'):=by
 have c:=ziB l n k k' h hk
 have f0:=zao l n k _ e0
 have f1:=zao l n k _ e1
 have f2:=zao l n k _ e2
 have f3:=zao l n k _ e3
 have f4:=zao l n k _ e4
 refine zbO (fun d=>if d=2 then 1 else if d=3 then 2 else 3) 4 zgG ?_
 by_cases h1:k<l.length
 ·have hk':(k:Int)<l.length:=by omega
  have hn:=zfv h0 h1
  have hg:=zf1 l k h1
  repeat' first|refine Va (fA6 @kz zdX h1 hk' hg hn) ?_|(with_reducible first|refine SB.c ?_ ?_<;>intro _|exact zad|refine fun (_:List AVal)=>?_)|refine dC1 zaa f0 ?_|refine dC1 zaa f1 ?_|refine dC1 zaa f2 ?_|refine dC1 zaa f3 ?_|refine dC1 zaa f4 ?_|refine CK.dp [0] [] zaD c ?_|with_reducible refine zac ?_|omega
  (refine zci.mk [0] ?_<;>simp [kwt])
 ·have hk':¬ (k:Int)<l.length:=by omega
  repeat' first|refine Va (fA4 @kz zdX h1 hk') ?_|(with_reducible first|refine SB.c ?_ ?_<;>intro _|exact zad|refine fun (_:List AVal)=>?_)|refine dC1 zaa f0 ?_|refine dC1 zaa f1 ?_|refine dC1 zaa f2 ?_|refine dC1 zaa f3 ?_|refine dC1 zaa f4 ?_|refine CK.dp [0] [] zaD c ?_|with_reducible refine zac ?_|omega
  (refine zci.mk [0] ?_<;>simp [kwt])
theorem ztK (l:List TkD) (n k k1:Nat) (nm:List UInt8) (hl:l.length≤100000) (h0:zd6 l k=false) (e0:isT l k [115,101,108,102]=false) (e1:isT l k [112,114,111,99,115]=false) (e2:isT l k [102,114,111,109]=false) (e3:isT l k [118,97,108,117,101]=false) (e4:isT l k [40]=false) (h:zdz l k=.ok nm k1) (h2:isT l k1 [91]=false):AC Tryz.prog gl 204 [.ref 0 0] (psO l n k) (exA (exN nm)) (psO l n k1):=by
 have h1:k<l.length:=by
  unfold zdz at h
  split at h
  ·rename_i hc;exact hc.1
  ·cases h
 have hk':(k:Int)<l.length:=by omega
 have hn:=zfv h0 h1
 have hg:=zf1 l k h1
 have c:=zhC l n k k1 nm h (by omega)
 have f0:=zao l n k _ e0
 have f1:=zao l n k _ e1
 have f2:=zao l n k _ e2
 have f3:=zao l n k _ e3
 have f4:=zao l n k _ e4
 have g:=zao l n k1 _ h2
 refine zax (fun d=>if d=2 then 1 else if d=3 then 2 else 3) 4 zgG ?_
 repeat' first|refine Va (fA6 @kz zdX h1 hk' hg hn) ?_|(with_reducible first|refine SB.c ?_ ?_<;>intro _|exact zad)|refine dC1 zaa f0 ?_|refine dC1 zaa f1 ?_|refine dC1 zaa f2 ?_|refine dC1 zaa f3 ?_|refine dC1 zaa f4 ?_|refine dC1 zaD c ?_|refine dC1 zaa g ?_|with_reducible refine zac ?_|omega
 (refine zay.mk [0] ?_ ?_<;>simp [kwr,zdX,zy1])
theorem zwz (l:List TkD) (n k k1:Nat) (nm:List UInt8) (r:PR Ex) (hl:l.length≤100000) (h0:zd6 l k=false) (e0:isT l k [115,101,108,102]=false) (e1:isT l k [112,114,111,99,115]=false) (e2:isT l k [102,114,111,109]=false) (e3:isT l k [118,97,108,117,101]=false) (e4:isT l k [40]=false) (h:zdz l k=.ok nm k1) (h2:isT l k1 [91]=true)
  (hr:znv 199 [.pv (.int .i64 0)] l n (k1+1) r) (hp:r.past (k1+1) l.length) (ho:r.isOut=false) :
  znv 204 [] l n k (r.bind fun e k'=>(zaU l [93] k').bind fun _ k2=>.ok (exI nm e) k2):=by
 have h1:k<l.length:=by
  unfold zdz at h
  split at h
  ·rename_i hc;exact hc.1
  ·cases h
 have hk':(k:Int)<l.length:=by omega
 have hn:=zfv h0 h1
 have hg:=zf1 l k h1
 have c:=zhC l n k k1 nm h (by omega)
 have h3:=zau h2 (by simp)
 have f0:=zao l n k _ e0
 have f1:=zao l n k _ e1
 have f2:=zao l n k _ e2
 have f3:=zao l n k _ e3
 have f4:=zao l n k _ e4
 have g:=za3 l n k1 _ h2 (by omega)
 cases r with
 |out=>cases ho
 |bad k'=>
  have d:AP _ _ _ _ _ _ _:=hr
  show AP _ _ _ _ _ _ _
  refine zbO (fun d=>if d=2 then 1 else if d=3 then 2 else 3) 4 zgG ?_
  repeat' first|refine Va (fA6 @kz zdX h1 hk' hg hn) ?_|(with_reducible first|refine SB.c ?_ ?_<;>intro _|exact zad|refine fun (_:List AVal)=>?_)|refine dC1 zaa f0 ?_|refine dC1 zaa f1 ?_|refine dC1 zaa f2 ?_|refine dC1 zaa f3 ?_|refine dC1 zaa f4 ?_|refine dC1 zaD c ?_|refine dC1 zaa g ?_|refine CK.dp [0] [] zas d ?_|with_reducible refine zac ?_|omega
  (refine zci.mk [0] ?_<;>simp [kwt])
 |ok e k'=>
  have d:AC _ _ _ _ _ _ _:=hr
  have hp':k1+1<k'∧k'≤l.length:=hp
  simp only [PR.bind]
  cases hx:zaU l [93] k' with
  |out=>have:=zbt (l:=l) (s:=[93]) (k:=k');rw [hx] at this;cases this
  |bad k2=>
   have c2:=za2 l n k' k2 _ hx
   show AP _ _ _ _ _ _ _
   refine zbO (fun d=>if d=2 then 1 else if d=3 then 2 else 3) 4 zgG ?_
   repeat' first|refine Va (fA8 @kz zdX @exA.eq_1 @kA h1 hk' hg hn) ?_|(with_reducible first|refine SB.c ?_ ?_<;>intro _|exact zad|refine fun (_:List AVal)=>?_)|refine dC1 zaa f0 ?_|refine dC1 zaa f1 ?_|refine dC1 zaa f2 ?_|refine dC1 zaa f3 ?_|refine dC1 zaa f4 ?_|refine dC1 zaD c ?_|refine dC1 zaa g ?_|refine dC1 zas d ?_|refine CK.dp [0] [] zam c2 ?_|with_reducible refine zac ?_|omega
   (refine zci.mk [0] ?_<;>simp [kwt])
  |ok u k2=>
   have c2:=zbe l n k' k2 _ hx (by omega)
   show AC _ _ _ _ _ _ _
   refine zax (fun d=>if d=2 then 1 else if d=3 then 2 else 3) 4 zgG ?_
   repeat' first|refine Va (fA8 @kz zdX @exA.eq_1 @kA h1 hk' hg hn) ?_|(with_reducible first|refine SB.c ?_ ?_<;>intro _|exact zad)|refine dC1 zaa f0 ?_|refine dC1 zaa f1 ?_|refine dC1 zaa f2 ?_|refine dC1 zaa f3 ?_|refine dC1 zaa f4 ?_|refine dC1 zaD c ?_|refine dC1 zaa g ?_|refine dC1 zas d ?_|refine dC1 zam c2 ?_|with_reducible refine zac ?_|omega
   (refine zay.mk [0] ?_ ?_<;>simp [kwr,zdX,exI,exA,Ex.op,Ex.value,Ex.name,Ex.slot,Ex.size,Ex.args,zbC,zaC])
end Go.Proofs.YtfinhhblcdkpgaaGreatDoor
