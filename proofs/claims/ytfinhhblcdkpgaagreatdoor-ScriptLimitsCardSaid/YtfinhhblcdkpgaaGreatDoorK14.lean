/- The reference's resolver of a program. No condition. -/
import Derived.Test.YtfinhhblcdkpgaaGreatDoorK13
import Derived.Test.YtfinhhblcdkpgaaGreatDoorLib3
set_option maxRecDepth 100000
set_option maxHeartbeats 64000000
set_option linter.unusedSimpArgs false
set_option linter.unusedVariables false
set_option linter.defProp false
namespace Go.Proofs.YtfinhhblcdkpgaaGreatDoor
open Go Go.Abs
structure D1I (l:List VarD) where
 k:Nat
 hk:k≤l.length
 hd:∀ (i j:Nat) (a b:VarD),i<j→j<k→l[i]?=some a→l[j]?=some b→a.name≠b.name
structure D2I (l:List VarD) (k:Nat) (x:VarD) where
 j:Nat
 hj:j≤k
 hd:∀ (i:Nat) (a:VarD),i<j→l[i]?=some a→a.name≠x.name
structure S3I (l:List VarD) where
 k:Nat
 n:Int
 hk:k≤l.length
 h0:0≤n
 hn:n≤32
 eq:zmm n (l.drop k)=zmm 0 l
theorem zoO (p:PgD) (hp:szP p≤1000000000) :
  AC Tryz.prog gl 53 [pgA p] [] (.tup [cdA (zdv p).1,.pv (.int .i64 (zdv p).2)]) []:=by
 have hck:=ztF p hp
 have hp':=hp
 unfold szP at hp'
 have hr0:zdv p=if zcW zaT p≠0 then (cd0,zcW zaT p)
  else if p.vars.length > 16 then (cd0,4)
  else if zom p.vars=true then (cd0,2)
  else if zmm 0 p.vars=none then (cd0,4)
  else if (!zcv p.vars p.start || !zcv p.vars p.message || !zcv p.vars p.tick || !zcv p.vars p.input)=true then (cd0,2)
  else if (!(zb4 p.vars p.start).2 || !(zb4 p.vars p.message).2 || !(zb4 p.vars p.tick).2 || !(zb4 p.vars p.input).2)=true then (cd0,7)
  else (⟨zdu p.vars,(zb4 p.vars p.start).1,(zb4 p.vars p.message).1,(zb4 p.vars p.tick).1,(zb4 p.vars p.input).1⟩,0):=rfl
 generalize zdv p=res at *
 generalize zcW zaT p=ck at *
 unfold pgA at *
 by_cases h1:ck=0
 rotate_left
 ·have h1':(ck != 0)=true:=by simpa using h1
  rw [if_pos h1] at hr0
  subst hr0
  refine zap (fun d=>if d=1 then 0 else if d=2 then 1 else if d=9 then 2 else if d=10 then 3 else if d=174 then 5 else if d=189 then 5 else 9) 6 zFf ?_
  repeat' first|refine Va (fA4 zmL h1' @cdA.eq_1 @cd0.eq_1) ?_|(with_reducible first|refine SB.c ?_ ?_<;>intro _|exact zad)|refine CK.d0 zic hck ?_|with_reducible refine zac ?_|omega
 have h1':(ck != 0)=false:=by simpa using h1
 rw [if_neg (by simpa using h1)] at hr0
 by_cases h2:(p.vars.length:Int) > 16
 ·rw [if_pos (by omega)] at hr0
  subst hr0
  refine zap (fun d=>if d=1 then 0 else if d=2 then 1 else if d=9 then 2 else if d=10 then 3 else if d=174 then 5 else if d=189 then 5 else 9) 6 zFf ?_
  repeat' first|refine Va (fA5 zmL h1' h2 @cdA.eq_1 @cd0.eq_1) ?_|(with_reducible first|refine SB.c ?_ ?_<;>intro _|exact zad)|refine CK.d0 zic hck ?_|with_reducible refine zac ?_|omega
 rw [if_neg (by omega)] at hr0
 have c1:=zeQ p.vars (by omega) p.start (by omega)
 have c2:=zeQ p.vars (by omega) p.message (by omega)
 have c3:=zeQ p.vars (by omega) p.tick (by omega)
 have c4:=zeQ p.vars (by omega) p.input (by omega)
 have s1:=zhc p.vars (by omega) p.start (by omega)
 have s2:=zhc p.vars (by omega) p.message (by omega)
 have s3:=zhc p.vars (by omega) p.tick (by omega)
 have s4:=zhc p.vars (by omega) p.input (by omega)
 refine zap (fun d=>if d=1 then 0 else if d=2 then 1 else if d=9 then 2 else if d=10 then 3 else if d=174 then 5 else if d=189 then 5 else 9) 6 zFf ?_
 repeat' first|refine Va (fA3 zmL h1' h2) ?_|(with_reducible first|refine SB.c ?_ ?_<;>intro _|exact zad)|refine CK.d0 zic hck ?_|with_reducible refine zac ?_|omega
 refine zaI (ι:=D1I p.vars) (fun i=>⟨(.junk::.ref 0 0::.ref 1 0::.junk::.junk::.pv (.int .i64 i.k)::jl 186 []),[some (.cells [.pv (.slice (p.vars.map zat)),.pv (.slice (p.start.map zai)),.pv (.slice (p.message.map zai)),.pv (.slice (p.tick.map zai)),.pv (.slice (p.input.map zai))]),some (.cells [.snil,.snil,.snil,.snil,.snil]),none,none,none,none]⟩) (fun i=>p.vars.length - i.k) ⟨0,by simp,by intros;omega⟩ WFn ?_
 rintro ⟨k,hk,hd⟩
 by_cases hlt:k<p.vars.length
 ·have hlt':(k:Int)<p.vars.length:=by omega
  have hget:=zaA zat p.vars k hlt
  have hsome:p.vars[k]?=some p.vars[k]:=List.getElem?_eq_getElem hlt
  generalize p.vars[k]=x at *
  have hxe:zat x=[.str x.name,.int .i64 x.size,.int .i64 x.init]:=rfl
  have hw:=zaQ k (by omega)
  repeat' first|refine Va (fA2 zmL hlt') ?_|(with_reducible first|refine SB.c ?_ ?_<;>intro _|exact zad)|with_reducible refine zac ?_|omega
  refine zaI (ι:=D2I p.vars k x) (fun i=>⟨(.junk::.ref 0 0::.ref 1 0::.junk::.junk::.pv (.int .i64 k)::.pv (.int .i64 i.j)::jl 185 []),[some (.cells [.pv (.slice (p.vars.map zat)),.pv (.slice (p.start.map zai)),.pv (.slice (p.message.map zai)),.pv (.slice (p.tick.map zai)),.pv (.slice (p.input.map zai))]),some (.cells [.snil,.snil,.snil,.snil,.snil]),none,none,none,none]⟩) (fun i=>k - i.j) ⟨0,by simp,by intros;omega⟩ WFn ?_
  rintro ⟨j,hj,hdj⟩
  by_cases hjl:j<k
  ·have hjl':(j:Int)<k:=by omega
   have hjv:j<p.vars.length:=by omega
   have hgetj:=zaA zat p.vars j hjv
   have hsomej:p.vars[j]?=some p.vars[j]:=List.getElem?_eq_getElem hjv
   generalize p.vars[j]=y at *
   have hye:zat y=[.str y.name,.int .i64 y.size,.int .i64 y.init]:=rfl
   have hwj:=zaQ j (by omega)
   by_cases hxy:y.name=x.name
   ·have hdup:=zs7 p.vars j k y x hjl hsomej hsome hxy
    rw [if_pos hdup] at hr0
    subst hr0
    have hxy':(y.name==x.name)=true:=by simpa using hxy
    repeat' first|refine Va (zfA zmL hjl' hlt hjv hget hgetj hxe hye hxy' @cdA.eq_1 @cd0.eq_1) ?_|(with_reducible first|refine SB.c ?_ ?_<;>intro _|exact zad)|with_reducible refine zac ?_|omega
   ·have hxy':(y.name==x.name)=false:=by simpa using hxy
    repeat' first|refine Va (zj4 zmL hjl' hlt hjv hget hgetj hxe hye hxy' hwj) ?_|(with_reducible first|refine SB.c ?_ ?_<;>intro _|exact zad)|with_reducible refine zac ?_|omega
    exact ⟨⟨j+1,by omega,fun i a hi ha=>by
     by_cases hij:i<j
     ·exact hdj i a hij ha
     ·have:i=j:=by omega
      subst this
      rw [hsomej] at ha;cases ha;exact hxy⟩,WFn,by show k - (j+1)<k - j;omega⟩
  ·have hjl':¬ (j:Int)<k:=by omega
   have hjk:j=k:=by omega
   subst hjk
   repeat' first|refine Va (fA3 zmL hjl' hw) ?_|(with_reducible first|refine SB.c ?_ ?_<;>intro _|exact zad)|with_reducible refine zac ?_|omega
   exact ⟨⟨j+1,by omega,fun i i' a b hii hi' ha hb=>by
    by_cases hij:i'<j
    ·exact hd i i' a b hii hij ha hb
    ·have:i'=j:=by omega
     subst this
     rw [hsome] at hb;cases hb
     exact hdj i a hii ha⟩,WFn,by show p.vars.length - (j+1)<p.vars.length - j;omega⟩
 have hlt':¬ (k:Int)<p.vars.length:=by omega
 have hnd:=zkH p.vars (fun i j a b hij ha hb=>hd i j a b hij (by have:=(List.getElem?_eq_some_iff.1 hb).1;omega) ha hb)
 rw [hnd,if_neg (by simp)] at hr0
 repeat' first|refine Va (fA2 zmL hlt') ?_|(with_reducible first|refine SB.c ?_ ?_<;>intro _|exact zad)|with_reducible refine zac ?_|omega
 refine zaI (ι:=S3I p.vars) (fun i=>⟨(.junk::.ref 0 0::.ref 1 0::jl 4 (.pv (.int .i64 i.n)::.pv (.int .i64 i.k)::jl 183 [])),[some (.cells [.pv (.slice (p.vars.map zat)),.pv (.slice (p.start.map zai)),.pv (.slice (p.message.map zai)),.pv (.slice (p.tick.map zai)),.pv (.slice (p.input.map zai))]),some (.cells [.snil,.snil,.snil,.snil,.snil]),none,none,none,none]⟩) (fun i=>p.vars.length - i.k) ⟨0,0,by simp,by simp,by simp,by simp⟩ WFn ?_
 rintro ⟨k,n,hk,h0,hn,heq⟩
 by_cases hlt:k<p.vars.length
 ·have hlt':(k:Int)<p.vars.length:=by omega
  have hget:=zaA zat p.vars k hlt
  rw [List.drop_eq_getElem_cons hlt,zmm] at heq
  generalize p.vars[k]=x at *
  have hxe:zat x=[.str x.name,.int .i64 x.size,.int .i64 x.init]:=rfl
  have hx:=zhy x
  have cc:=zp4 x
  have hcc:znI (mx x.size 1) 2147483649=zc6 x:=rfl
  rw [hcc] at cc
  have hw:=zaQ k (by omega)
  have hwn:IntKind.i64.wrap (n+zc6 x)=n+zc6 x:=zaS _ (by omega) (by omega)
  by_cases hov:n+zc6 x > 32
  ·rw [if_pos hov] at heq
   rw [←heq,if_pos rfl] at hr0
   subst hr0
   repeat' first|refine Va (fA9 zmL hlt' hlt hget hxe hwn hov @cdA.eq_1 @cd0.eq_1) ?_|(with_reducible first|refine SB.c ?_ ?_<;>intro _|exact zad)|refine CK.d0 zik cc ?_|with_reducible refine zac ?_|omega
  ·rw [if_neg hov] at heq
   repeat' first|refine Va (fA8 zmL hlt' hlt hget hxe hwn hov hw) ?_|(with_reducible first|refine SB.c ?_ ?_<;>intro _|exact zad)|refine CK.d0 zik cc ?_|with_reducible refine zac ?_|omega
   exact ⟨⟨k+1,n+zc6 x,by omega,by omega,by omega,heq⟩,WFn,by show p.vars.length - (k+1)<p.vars.length - k;omega⟩
 have hlt':¬ (k:Int)<p.vars.length:=by omega
 rw [List.drop_eq_nil_of_le (by omega),zmm] at heq
 obtain ⟨hin,_⟩:=zlO p.vars 0 n (by omega) heq.symm
 have hin32:(zdu p.vars).length≤32:=by omega
 rw [←heq,if_neg (by simp)] at hr0
 simp only [r3A] at s1 s2 s3 s4
 generalize hd1:zcv p.vars p.start=b1 at *
 generalize hd2:zcv p.vars p.message=b2 at *
 generalize hd3:zcv p.vars p.tick=b3 at *
 generalize hd4:zcv p.vars p.input=b4 at *
 clear hd1 hd2 hd3 hd4 hck
 cases hdc:(!b1 || !b2 || !b3 || !b4)
 rotate_left
 ·rw [hdc,if_pos rfl] at hr0
  subst hr0
  clear s1 s2 s3 s4
  repeat' first|refine Va (fA5 zmL hlt' hdc @cdA.eq_1 @cd0.eq_1) ?_|(with_reducible first|refine SB.c ?_ ?_<;>intro _|exact zad)|refine CK.d0 zb6 c1 ?_|refine CK.d0 zb6 c2 ?_|refine CK.d0 zb6 c3 ?_|refine CK.d0 zb6 c4 ?_|with_reducible refine zac ?_|omega
 rw [hdc,if_neg (by simp)] at hr0
 generalize zb4 p.vars p.start=y1 at *
 generalize zb4 p.vars p.message=y2 at *
 generalize zb4 p.vars p.tick=y3 at *
 generalize zb4 p.vars p.input=y4 at *
 simp only [Bool.or_eq_false_iff,Bool.not_eq_eq_eq_not,Bool.not_false] at hdc
 obtain ⟨⟨⟨rfl,rfl⟩,rfl⟩,rfl⟩:=hdc
 cases hok:(!y1.2 || !y2.2 || !y3.2 || !y4.2)
 rotate_left
 ·rw [hok,if_pos rfl] at hr0
  subst hr0
  repeat' first|refine Va (fA5 zmL hlt' hok @cdA.eq_1 @cd0.eq_1) ?_|(with_reducible first|refine SB.c ?_ ?_<;>intro _|exact zad)|refine CK.d0 zb6 c1 ?_|refine CK.d0 zb6 c2 ?_|refine CK.d0 zb6 c3 ?_|refine CK.d0 zb6 c4 ?_|refine CK.d0 zcA s1 ?_|refine CK.d0 zcA s2 ?_|refine CK.d0 zcA s3 ?_|refine CK.d0 zcA s4 ?_|with_reducible refine zac ?_|omega
 rw [hok,if_neg (by simp)] at hr0
 simp only [Bool.or_eq_false_iff,Bool.not_eq_eq_eq_not,Bool.not_false] at hok
 obtain ⟨⟨⟨e1,e2⟩,e3⟩,e4⟩:=hok
 subst hr0
 repeat' first|refine Va (fA6 zmL hlt' e1 e2 e3 e4) ?_|(with_reducible first|refine SB.c ?_ ?_<;>intro _|exact zad)|refine CK.d0 zb6 c1 ?_|refine CK.d0 zb6 c2 ?_|refine CK.d0 zb6 c3 ?_|refine CK.d0 zb6 c4 ?_|refine CK.d0 zcA s1 ?_|refine CK.d0 zcA s2 ?_|refine CK.d0 zcA s3 ?_|refine CK.d0 zcA s4 ?_|with_reducible refine zac ?_|omega
 clear c1 c2 c3 c4 s1 s2 s3 s4
 (refine LW.weak (za0.nilRowC 2 0 4 1 rfl rfl rfl (by decide)) ?_;simp only [List.set_cons_zero,List.set_cons_succ])
 refine zaI (ι:={k:Nat // k≤p.vars.length}) (fun i=>⟨(.junk::.ref 0 0::.ref 1 0::jl 6 (.ref 2 0::.junk::.pv (.int .i64 i.1)::jl 180 [])),[some (.cells [.pv (.slice (p.vars.map zat)),.pv (.slice (p.start.map zai)),.pv (.slice (p.message.map zai)),.pv (.slice (p.tick.map zai)),.pv (.slice (p.input.map zai))]),some (.cells [.snil,.snil,.snil,.snil,.snil]),some (.cells [.row 4 (zdu (p.vars.take i.1)).length,.pv (.slice (y1.1.map zai)),.pv (.slice (y2.1.map zai)),.pv (.slice (y3.1.map zai)),.pv (.slice (y4.1.map zai))]),none,some (.row 1 ((zdu (p.vars.take i.1)).map zhO)),none]⟩) (fun i=>p.vars.length - i.1) ⟨0,by simp⟩ (WFe (by simp [kwf,zdu]) (by simp [kwf,zdu])) ?_
 rintro ⟨k,hk⟩
 by_cases hlt:k<p.vars.length
 ·have hlt':(k:Int)<p.vars.length:=by omega
  have hget:=zaA zat p.vars k hlt
  have htk:zdu (p.vars.take (k+1))=zdu (p.vars.take k)++zv8 p.vars[k]:=by
   rw [List.take_succ_eq_append_getElem hlt,zfn];simp [zdu]
  have hall:(zdu (p.vars.take (k+1))).length≤(zdu p.vars).length:=by
   have:=congrArg List.length (zfn (p.vars.take (k+1)) (p.vars.drop (k+1)))
   rw [List.take_append_drop,List.length_append] at this
   omega
  rw [htk,List.length_append] at hall
  generalize p.vars[k]=x at *
  have hxe:zat x=[.str x.name,.int .i64 x.size,.int .i64 x.init]:=rfl
  have h1l:=zis x
  have hw:=zaQ k (by omega)
  generalize hxs:zdu (p.vars.take k)=xs at *
  have hmx:=zGx x.size 1
  have hrm:=zc8 (xs.length+1) 8 (by omega)
  repeat' first|refine Va (fA6 zmL hlt' hlt hget hxe hrm) ?_|(with_reducible first|refine SB.c ?_ ?_<;>intro _|exact zad)|with_reducible refine zac ?_|omega
  refine zaI (ι:={j:Nat // 1≤j∧(j:Int)≤mx x.size 1}) (fun i=>⟨(.junk::.ref 0 0::.ref 1 0::jl 6 (.ref 2 0::.junk::.pv (.int .i64 k)::.pv (.int .i64 i.1)::jl 179 [])),[some (.cells [.pv (.slice (p.vars.map zat)),.pv (.slice (p.start.map zai)),.pv (.slice (p.message.map zai)),.pv (.slice (p.tick.map zai)),.pv (.slice (p.input.map zai))]),some (.cells [.snil,.snil,.snil,.snil,.snil]),some (.cells [.row 4 (xs.length+i.1),.pv (.slice (y1.1.map zai)),.pv (.slice (y2.1.map zai)),.pv (.slice (y3.1.map zai)),.pv (.slice (y4.1.map zai))]),none,some (.row 1 ((xs++x.init::List.replicate (i.1 - 1) 0).map zhO)),none]⟩) (fun i=>(mx x.size 1).toNat - i.1) ⟨1,by simp;omega⟩ (WTe [0,1,2,3,5,4] (by simp [kwt,zhO]) (by simp [kwt,zhO])) ?_
  rintro ⟨j,hj1,hj2⟩
  have hll:(xs++x.init::List.replicate (j - 1) 0).length=xs.length+j:=by simp;omega
  generalize hys:xs++x.init::List.replicate (j - 1) 0=ys at *
  by_cases hjl:(j:Int)<x.size
  ·have hm2:mx x.size 1=x.size:=by unfold mx zgs;split<;>omega
   have hrm2:=zc8 (xs.length+j+1) 8 (by omega)
   have hw3:=zaQ j (by omega)
   have hnx:xs++x.init::List.replicate (j+1 - 1) 0=ys++[0]:=by
    rw [←hys,show j+1 - 1=(j - 1)+1 by omega,List.replicate_succ'];simp
   have hnx2:List.map zhO xs++[PVal.int .i64 x.init]::List.replicate j [PVal.int .i64 0]=List.map zhO ys++[[PVal.int .i64 0]]:=by
    have:=congrArg (List.map zhO) hnx
    simpa [zhO] using this
   repeat' first|refine Va (fA9 zmL hlt' hlt hget hxe hjl hll hrm2 hw3) ?_|(with_reducible first|refine SB.c ?_ ?_<;>intro _|exact zad)|with_reducible refine zac ?_|omega
   exact ⟨⟨j+1,by omega,by omega⟩,(WTe [0,1,2,3,5,4] (by simp [kwt,hnx2,zhO,Nat.add_assoc]) (by simp [kwt,hnx2,zhO,Nat.add_assoc])),by show (mx x.size 1).toNat - (j+1)<(mx x.size 1).toNat - j;omega⟩
  ·have hend:zv8 x=x.init::List.replicate (j - 1) 0:=by
    unfold zv8
    have:x.size.toNat - 1=j - 1:=by unfold mx zgs at hj2;split at hj2<;>omega
    rw [this]
   have hfin:zdu (p.vars.take (k+1))=ys:=by rw [htk,hend,hys]
   repeat' first|refine Va (fA7 zmL hlt' hlt hget hxe hjl hw) ?_|(with_reducible first|refine SB.c ?_ ?_<;>intro _|exact zad)|with_reducible refine zac ?_|omega
   exact ⟨⟨k+1,by omega⟩,(WFe (by simp [kwf,hfin,hll]) (by simp [kwf,hfin,hll])),by show p.vars.length - (k+1)<p.vars.length - k;omega⟩
 ·have hlt':¬ (k:Int)<p.vars.length:=by omega
  have hke:k=p.vars.length:=by omega
  subst hke
  repeat' first|refine Va (fA4 zmL hlt' @List.take_length.{0} @cdA.eq_1) ?_|(with_reducible first|refine SB.c ?_ ?_<;>intro _|exact zad)|with_reducible refine zac ?_|omega
end Go.Proofs.YtfinhhblcdkpgaaGreatDoor
