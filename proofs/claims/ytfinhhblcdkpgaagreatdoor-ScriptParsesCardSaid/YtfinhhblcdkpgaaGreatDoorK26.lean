/- A text that is spoilt; equality of steps and of configs. No condition. -/
import Derived.Test.YtfinhhblcdkpgaaGreatDoorLib2
import Derived.Test.YtfinhhblcdkpgaaGreatDoorM1
import Derived.Test.YtfinhhblcdkpgaaGreatDoorK16
import Derived.Test.YtfinhhblcdkpgaaGreatDoorS2
import Derived.Test.YtfinhhblcdkpgaaGreatDoorLib4
set_option maxRecDepth 100000
set_option maxHeartbeats 64000000
set_option linter.unusedSimpArgs false
set_option linter.unusedVariables false
namespace Go.Proofs.YtfinhhblcdkpgaaGreatDoor
open Go Go.Abs Go.RowKit
theorem zq2 (xs:List UInt8) (hxs:xs.length≤1000) (a:Nat) (ha:a≤xs.length) (s:List UInt8) (hs:s.length≤100000000) :
  ∃ t a',a'≤xs.length∧t.length≤2 * s.length+20∧AC Tryz.prog gl 11 [.ref 0 0,.pv (.str s)] (cdO xs a) (.pv (.str t)) (cdO xs a'):=by
 by_cases h0:s=[]
 ·subst h0
  refine ⟨[],a,ha,by simp,?_⟩
  refine zat (fun _=>0) 1 zBn ?_
  refine Wk1 zgu ?_
  (refine zax.mk [0] ?_ ?_<;>simp [kwr,zgu])
 have hp:0<s.length:=List.length_pos_iff.2 h0
 have h0':((s.length:Int)==0)=false:=by simpa using h0
 have h0n:¬ (s.length:Int)=0:=by omega
 have cN1:=zbF xs a 256 (by omega) (by omega) (by omega)
 have n1:=za9 xs a 256 (by omega)
 have l1:=za0 xs a 256 ha
 generalize nxt xs a 256=A at *
 have cN2:=zbF xs A.2 256 (by omega) (by omega) (by omega)
 have n2:=za9 xs A.2 256 (by omega)
 have l2:=za0 xs A.2 256 l1
 generalize nxt xs A.2 256=B at *
 have cN3:=zbF xs B.2 11 (by omega) (by omega) (by omega)
 have n3:=za9 xs B.2 11 (by omega)
 have l3:=za0 xs B.2 11 l2
 generalize nxt xs B.2 11=C at *
 have cN4:=zbF xs C.2 5 (by omega) (by omega) (by omega)
 have n4:=za9 xs C.2 5 (by omega)
 have l4:=za0 xs C.2 5 l3
 generalize nxt xs C.2 5=D at *
 obtain ⟨i,hi⟩:=Int.eq_ofNat_of_zero_le n3.1
 rw [hi] at n3 cN3
 have hi2:i<11:=by omega
 obtain ⟨g1,g2⟩:=zAZ i hi2
 simp only [spT,List.map_cons,List.map_nil] at g1
 generalize hwt:spT.getD i []=w at *
 have hwt2:([[32],[10],[48],[45],[49],[120],[101,110,100,10],[99,111,109,109,105,116,10],[],[121,101,115],[57,50,50,51,51,55,50,48,51,54,56,53,52,55,55,53,56,48,56]]:List (List UInt8)).getD i []=w:=hwt
 rw [hwt2] at g1
 have w1:IntKind.i64.wrap (A.1 * 256)=A.1 * 256:=zay _ (by omega) (by omega)
 have w2:IntKind.i64.wrap (A.1 * 256+B.1)=A.1 * 256+B.1:=zay _ (by omega) (by omega)
 have t1:=Int.tmod_lt_of_pos (A.1 * 256+B.1) (show (0:Int)<s.length by omega)
 have t2:=Int.tmod_nonneg (s.length:Int) (show 0≤A.1 * 256+B.1 by omega)
 obtain ⟨k,hk⟩:=Int.eq_ofNat_of_zero_le t2
 rw [hk] at t1
 have hks:k<s.length:=by omega
 have c1:(k:Int)≤s.length:=by omega
 have c2:((k+1:Nat):Int)≤s.length:=by omega
 have hwk:=zaP k (by omega)
 have e1:(s.take k).length=k:=by simp;omega
 have e2:(s.take s.length).drop (k+1)=s.drop (k+1):=by rw [List.take_length]
 have e3:(s.take s.length).drop k=s.drop k:=by rw [List.take_length]
 have e4:(s.drop (k+1)).length=s.length - (k+1):=by simp
 have e5:(s.drop k).length=s.length - k:=by simp
 by_cases d0:D.1=0
 ·refine ⟨s.take k++s.drop (k+1),D.2,l4,by rw [List.length_append,e1,e4];omega,?_⟩
  refine zat (fun _=>0) 1 zBn ?_
  repeat' first|refine Va (zFO @kz zgu h0' h0n w1 w2 hk hi2 g1 d0 c1 c2 hwk e1 e2 e4) ?_|(with_reducible first|refine SB.c ?_ ?_<;>intro _|exact zak)|refine dC1 zae cN1 ?_|refine dC1 zae cN2 ?_|refine dC1 zae cN3 ?_|refine dC1 zae cN4 ?_|with_reducible refine zaj ?_|omega
  (refine zax.mk [0] ?_ ?_<;>simp [kwr,zgu])
 have d0':(D.1==0)=false:=by simpa using d0
 by_cases d1:D.1=1
 ·refine ⟨s.take k++w++s.drop k,D.2,l4,by rw [List.length_append,List.length_append,e1,e5];omega,?_⟩
  refine zat (fun _=>0) 1 zBn ?_
  repeat' first|refine Va (zFO @kz zgu h0' h0n w1 w2 hk hi2 g1 d1 c1 hwk e1 e3 e5 @List.length_append.{0}) ?_|(with_reducible first|refine SB.c ?_ ?_<;>intro _|exact zak)|refine dC1 zae cN1 ?_|refine dC1 zae cN2 ?_|refine dC1 zae cN3 ?_|refine dC1 zae cN4 ?_|with_reducible refine zaj ?_|omega
  (refine zax.mk [0] ?_ ?_<;>simp [kwr,zgu])
 have d1':(D.1==1)=false:=by simpa using d1
 by_cases d2:D.1=2
 ·refine ⟨s.take k++w++s.drop (k+1),D.2,l4,by rw [List.length_append,List.length_append,e1,e4];omega,?_⟩
  refine zat (fun _=>0) 1 zBn ?_
  repeat' first|simp -implicitDefEqProofs +contextual (maxSteps:=9000000) only [kx,↓ky,zgu,simprocAttr,h0',h0n,w1,w2,hk,hi2,g1,d2,c1,c2,hwk,e1,e2,e4,List.length_append,kz]|(with_reducible first|refine SB.c ?_ ?_<;>intro _|exact zak)|refine dC1 zae cN1 ?_|refine dC1 zae cN2 ?_|refine dC1 zae cN3 ?_|refine dC1 zae cN4 ?_|with_reducible refine zaj ?_|omega
  (refine zax.mk [0] ?_ ?_<;>simp [kwr,zgu])
 have d2':(D.1==2)=false:=by simpa using d2
 by_cases d3:D.1=3
 ·refine ⟨s.take k,D.2,l4,by rw [e1];omega,?_⟩
  refine zat (fun _=>0) 1 zBn ?_
  repeat' first|refine Va (zg8 @kz zgu h0' h0n w1 w2 hk hi2 g1 d3 c1 hwk) ?_|(with_reducible first|refine SB.c ?_ ?_<;>intro _|exact zak)|refine dC1 zae cN1 ?_|refine dC1 zae cN2 ?_|refine dC1 zae cN3 ?_|refine dC1 zae cN4 ?_|with_reducible refine zaj ?_|omega
  (refine zax.mk [0] ?_ ?_<;>simp [kwr,zgu])
 have d3':(D.1==3)=false:=by simpa using d3
 have cN5:=zbF xs D.2 2 (by omega) (by omega) (by omega)
 have l5:=za0 xs D.2 2 l4
 generalize nxt xs D.2 2=E at *
 have f1:=zq1 s k
 obtain ⟨f2,f3⟩:=zyy (s:=s) s.length k (by omega) (by omega)
 obtain ⟨F,hF⟩:∃ F,zoa s k=F:=⟨_,rfl⟩
 obtain ⟨T,hT⟩:∃ T,toF s k=T:=⟨_,rfl⟩
 rw [hF] at f1
 rw [hT] at f2 f3
 obtain ⟨U,hU⟩:∃ U,(if T<s.length then T+1 else T)=U:=⟨_,rfl⟩
 have hU2:k≤U∧U≤s.length:=by rw [←hU];split<;>omega
 have u1:(F:Int)≤s.length:=by omega
 have u2:(U:Int)≤s.length:=by omega
 have u3:(s.take F).length=F:=by simp;omega
 have u4:(s.take U).length=U:=by simp;omega
 have u5:(s.take s.length).drop U=s.drop U:=by rw [List.take_length]
 have u6:(s.take s.length).drop F=s.drop F:=by rw [List.take_length]
 have u7:(s.drop U).length=s.length - U:=by simp
 have u8:(s.drop F).length=s.length - F:=by simp
 refine ⟨if E.1=1 then s.take F++s.drop U else s.take U++s.drop F,E.2,l5,by split<;>(rw [List.length_append];omega),?_⟩
 obtain ⟨R,hR⟩:∃ R,R=(if E.1=1 then s.take F++s.drop U else s.take U++s.drop F):=⟨_,rfl⟩
 rw [←hR]
 refine zat (fun _=>0) 1 zBn ?_
 repeat' first|refine Va (zhQ @kz zgu h0' h0n w1 w2 hk hi2 g1 d0' d1' d2' d3') ?_|(with_reducible first|refine SB.c ?_ ?_<;>intro _|exact zak)|refine dC1 zae cN1 ?_|refine dC1 zae cN2 ?_|refine dC1 zae cN3 ?_|refine dC1 zae cN4 ?_|with_reducible refine zaj ?_|omega
 refine zaK (ι:={q:Nat // q≤k∧zoa s q=F}) (fun q=>⟨(.ref 0 0::.pv (.str s)::jl 3 (.pv (.int .i64 k)::.junk::.junk::.pv (.int .i64 q.1)::jl 110 [])),cdO xs D.2⟩) (fun q=>q.1) ⟨k,by omega,hF⟩ WFn ?_
 rintro ⟨q,hq,hqF⟩
 cases q with
 |succ q=>
  have hpos:((q+1:Nat):Int) > 0:=by omega
  have hwq:IntKind.i64.wrap (((q+1:Nat):Int) - 1)=(q:Int):=by rw [zay _ (by omega) (by omega)];omega
  have hql:q<s.length:=by omega
  have hb:=u8b (s.getD q 0) 10
  simp only [UInt8.reduceToNat,Int.cast_ofNat_Int] at hb
  by_cases hc:s.getD q 0=10
  ·have hb1:(s.getD q 0==10)=true:=by simpa using hc
   have hb2:(((s.getD q 0).toNat:Int) != 10)=false:=by rw [bne,hb,hb1];rfl
   rw [zoa,if_pos hc] at hqF
   refine Wk1 (fA5 zgu hpos hwq hql hb2) ?_
   refine zaK (ι:={z:Nat // z≤s.length∧toF s z=T}) (fun z=>⟨(.ref 0 0::.pv (.str s)::jl 6 (.pv (.int .i64 F)::.pv (.int .i64 z.1)::jl 109 [])),cdO xs D.2⟩) (fun z=>s.length - z.1) ⟨k,by omega,hT⟩ (WFe (by simp [kwf,hqF.symm]) (by simp [kwf,hqF.symm])) ?_
   rintro ⟨z,hz,hzT⟩
   by_cases hzl:z<s.length
   ·have hzl':(z:Int)<s.length:=by omega
    have hwz:=zaP z (by omega)
    have hbz:=u8b (s.getD z 0) 10
    simp only [UInt8.reduceToNat,Int.cast_ofNat_Int] at hbz
    by_cases hc2:s.getD z 0=10
    ·have hb3:(s.getD z 0==10)=true:=by simpa using hc2
     have hb4:(((s.getD z 0).toNat:Int) != 10)=false:=by rw [bne,hbz,hb3];rfl
     rw [zpu hzl hc2] at hzT
     subst hzT
     rw [if_pos hzl] at hU
     subst hU
     by_cases hE:E.1=1
     ·rw [if_pos hE] at hR
      subst hR
      repeat' first|refine Va (zg8 @kz zgu hzl hzl' hwz hb4 hE u1 u2 u3 u5 u7) ?_|(with_reducible first|refine SB.c ?_ ?_<;>intro _|exact zak)|refine dC1 zae cN5 ?_|with_reducible refine zaj ?_|omega
      (refine zax.mk [0] ?_ ?_<;>simp [kwr,zgu])
     ·have hE':(E.1==1)=false:=by simpa using hE
      rw [if_neg hE] at hR
      subst hR
      repeat' first|refine Va (zg8 @kz zgu hzl hzl' hwz hb4 hE' u1 u2 u4 u6 u8) ?_|(with_reducible first|refine SB.c ?_ ?_<;>intro _|exact zak)|refine dC1 zae cN5 ?_|with_reducible refine zaj ?_|omega
      (refine zax.mk [0] ?_ ?_<;>simp [kwr,zgu])
    ·have hb3:(s.getD z 0==10)=false:=by simpa using hc2
     have hb4:(((s.getD z 0).toNat:Int) != 10)=true:=by rw [bne,hbz,hb3];rfl
     rw [zu9 hzl hc2] at hzT
     refine Wk1 (fA5 zgu hzl hzl' hwz hb4) ?_
     exact ⟨⟨z+1,by omega,hzT⟩,WFn,by show s.length - (z+1)<s.length - z;omega⟩
   ·have hzl':¬ (z:Int)<s.length:=by omega
    rw [zmH hzl] at hzT
    subst hzT
    rw [if_neg hzl] at hU
    subst hU
    by_cases hE:E.1=1
    ·rw [if_pos hE] at hR
     subst hR
     repeat' first|refine Va (fA9 @kz zgu hzl' hE u1 u2 u3 u5 u7) ?_|(with_reducible first|refine SB.c ?_ ?_<;>intro _|exact zak)|refine dC1 zae cN5 ?_|with_reducible refine zaj ?_|omega
     (refine zax.mk [0] ?_ ?_<;>simp [kwr,zgu])
    ·have hE':(E.1==1)=false:=by simpa using hE
     rw [if_neg hE] at hR
     subst hR
     repeat' first|refine Va (fA9 @kz zgu hzl' hE' u1 u2 u4 u6 u8) ?_|(with_reducible first|refine SB.c ?_ ?_<;>intro _|exact zak)|refine dC1 zae cN5 ?_|with_reducible refine zaj ?_|omega
     (refine zax.mk [0] ?_ ?_<;>simp [kwr,zgu])
  ·have hb1:(s.getD q 0==10)=false:=by simpa using hc
   have hb2:(((s.getD q 0).toNat:Int) != 10)=true:=by rw [bne,hb,hb1];rfl
   rw [zoa,if_neg hc] at hqF
   refine Wk1 (fA5 zgu hpos hwq hql hb2) ?_
   exact ⟨⟨q,by omega,hqF⟩,WFn,Nat.lt_succ_self q⟩
 |zero=>
  rw [zoa] at hqF
  refine Wk1 zgu ?_
  refine zaK (ι:={z:Nat // z≤s.length∧toF s z=T}) (fun z=>⟨(.ref 0 0::.pv (.str s)::jl 6 (.pv (.int .i64 F)::.pv (.int .i64 z.1)::jl 109 [])),cdO xs D.2⟩) (fun z=>s.length - z.1) ⟨k,by omega,hT⟩ (WFe (by simp [kwf,hqF.symm]) (by simp [kwf,hqF.symm])) ?_
  rintro ⟨z,hz,hzT⟩
  by_cases hzl:z<s.length
  ·have hzl':(z:Int)<s.length:=by omega
   have hwz:=zaP z (by omega)
   have hbz:=u8b (s.getD z 0) 10
   simp only [UInt8.reduceToNat,Int.cast_ofNat_Int] at hbz
   by_cases hc2:s.getD z 0=10
   ·have hb3:(s.getD z 0==10)=true:=by simpa using hc2
    have hb4:(((s.getD z 0).toNat:Int) != 10)=false:=by rw [bne,hbz,hb3];rfl
    rw [zpu hzl hc2] at hzT
    subst hzT
    rw [if_pos hzl] at hU
    subst hU
    by_cases hE:E.1=1
    ·rw [if_pos hE] at hR
     subst hR
     repeat' first|refine Va (zg8 @kz zgu hzl hzl' hwz hb4 hE u1 u2 u3 u5 u7) ?_|(with_reducible first|refine SB.c ?_ ?_<;>intro _|exact zak)|refine dC1 zae cN5 ?_|with_reducible refine zaj ?_|omega
     (refine zax.mk [0] ?_ ?_<;>simp [kwr,zgu])
    ·have hE':(E.1==1)=false:=by simpa using hE
     rw [if_neg hE] at hR
     subst hR
     repeat' first|refine Va (zg8 @kz zgu hzl hzl' hwz hb4 hE' u1 u2 u4 u6 u8) ?_|(with_reducible first|refine SB.c ?_ ?_<;>intro _|exact zak)|refine dC1 zae cN5 ?_|with_reducible refine zaj ?_|omega
     (refine zax.mk [0] ?_ ?_<;>simp [kwr,zgu])
   ·have hb3:(s.getD z 0==10)=false:=by simpa using hc2
    have hb4:(((s.getD z 0).toNat:Int) != 10)=true:=by rw [bne,hbz,hb3];rfl
    rw [zu9 hzl hc2] at hzT
    refine Wk1 (fA5 zgu hzl hzl' hwz hb4) ?_
    exact ⟨⟨z+1,by omega,hzT⟩,WFn,by show s.length - (z+1)<s.length - z;omega⟩
  ·have hzl':¬ (z:Int)<s.length:=by omega
   rw [zmH hzl] at hzT
   subst hzT
   rw [if_neg hzl] at hU
   subst hU
   by_cases hE:E.1=1
   ·rw [if_pos hE] at hR
    subst hR
    repeat' first|refine Va (fA9 @kz zgu hzl' hE u1 u2 u3 u5 u7) ?_|(with_reducible first|refine SB.c ?_ ?_<;>intro _|exact zak)|refine dC1 zae cN5 ?_|with_reducible refine zaj ?_|omega
    (refine zax.mk [0] ?_ ?_<;>simp [kwr,zgu])
   ·have hE':(E.1==1)=false:=by simpa using hE
    rw [if_neg hE] at hR
    subst hR
    repeat' first|refine Va (fA9 @kz zgu hzl' hE' u1 u2 u4 u6 u8) ?_|(with_reducible first|refine SB.c ?_ ?_<;>intro _|exact zak)|refine dC1 zae cN5 ?_|with_reducible refine zaj ?_|omega
    (refine zax.mk [0] ?_ ?_<;>simp [kwr,zgu])
end Go.Proofs.YtfinhhblcdkpgaaGreatDoor
