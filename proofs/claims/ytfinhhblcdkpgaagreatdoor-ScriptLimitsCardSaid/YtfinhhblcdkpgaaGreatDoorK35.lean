/- The program's writing of a script. No condition. -/
import Derived.Test.YtfinhhblcdkpgaaGreatDoorK8
import Derived.Test.YtfinhhblcdkpgaaGreatDoorK34
import Derived.Test.YtfinhhblcdkpgaaGreatDoorLib4
set_option maxRecDepth 100000
set_option maxHeartbeats 64000000
set_option linter.unusedSimpArgs false
set_option linter.unusedVariables false
set_option linter.defProp false
namespace Go.Proofs.YtfinhhblcdkpgaaGreatDoor
open Go Go.Abs Go.RowKit
theorem ziy (n:Int) (h:-9223372036854775808≤n∧n≤9223372036854775807):AC Tryz.prog gl 35 [.pv (.int .i64 n)] [] (.pv (.str (itT n))) []:=by
 have:=zzc n h.1 h.2
 rw [zon n h.1 h.2] at this
 exact this
theorem zwr (x:StD) (hr:znl x=true):AC Tryz.prog gl 37 [stA x] [] (.tup [.pv (.str (zc3 x).1),.pv (.int .i64 (zc3 x).2)]) []:=by
 have w1:IntKind.i64.wrap 1=1:=by decide
 have w2:IntKind.i64.wrap 2=2:=by decide
 have cW:=zwl x.kind
 have hG:zc3 x=if wdF x.kind=[] then ([],17) else if zc1 x=false then ([],7) else (zaO x++[10],0):=rfl
 generalize zc3 x=G at *
 simp only [znl,Bool.and_eq_true] at hr
 obtain ⟨⟨⟨_,r1⟩,r2⟩,r3⟩:=hr
 have cI1:=ziy x.proc (zem r1)
 have cI2:=ziy x.place (zem r2)
 have cI3:=ziy x.value (zem r3)
 have l0:=ztB x.kind
 have l1:=zdB x.proc
 have l2:=zdB x.place
 have l3:=zdB x.value
 by_cases hw:wdF x.kind=[]
 ·rw [if_pos hw] at hG
  subst hG
  rw [hw] at cW
  unfold stA
  refine zap (fun _=>0) 2 zqM ?_
  repeat' first|refine Va zh1 ?_|(with_reducible first|refine SB.c ?_ ?_<;>intro _|exact zad)|refine CK.d0 zcm cW ?_|with_reducible refine zac ?_|omega
 rw [if_neg hw] at hG
 have hw':(wdF x.kind==[])=false:=by simpa using hw
 rcases zch x.kind with ⟨_,hsh⟩|⟨_,hsh⟩|⟨_,hsh⟩|⟨_,_,_,_,_,_,_,_,_,_,_,hsh⟩
 ·have cF:=zkM x hsh
  have hz:zc1 x=(x.proc==0&&x.value==0):=by simp [zc1,hsh]
  have hf:zaO x=wdF x.kind++[x.place].flatMap fun n=>32::itT n:=by simp [zaO,zit,hsh]
  simp only [List.flatMap_cons,List.flatMap_nil,List.append_nil,List.cons_append] at hf
  by_cases hzz:x.proc=0∧x.value=0
  ·obtain ⟨z0,z1⟩:=hzz
   rw [hz,if_neg (by simp [z0,z1]),hf] at hG
   subst hG
   unfold stA
   refine zap (fun _=>0) 2 zqM ?_
   repeat' first|refine Va (fA3 @kz zh1 hw') ?_|(with_reducible first|refine SB.c ?_ ?_<;>intro _|exact zad)|refine CK.d0 zcm cW ?_|refine CK.dx [0] [1] zaV cF ?_|with_reducible refine zac ?_|omega
   refine LW.rounds (zcl _ _) mixed 2 ?_
   repeat' first|refine Va (zkA zh1 @zbR w1 w2 @List.length_append.{0} @List.length_cons.{0} @List.length_nil.{0} @List.append_assoc.{0} @List.cons_append.{0} @List.nil_append.{0} z0 z1) ?_|(with_reducible first|refine SB.c ?_ ?_<;>intro _|exact zad)|refine CK.d0 zcS cI2 ?_|with_reducible refine zac ?_|omega
  ·rw [hz,if_pos (by simp at hzz ⊢;omega)] at hG
   subst hG
   by_cases h0:x.proc=0
   ·have z1:(x.value != 0)=true:=by simp;omega
    unfold stA
    refine zap (fun _=>0) 2 zqM ?_
    repeat' first|refine Va (fA3 @kz zh1 hw') ?_|(with_reducible first|refine SB.c ?_ ?_<;>intro _|exact zad)|refine CK.d0 zcm cW ?_|refine CK.dx [0] [1] zaV cF ?_|with_reducible refine zac ?_|omega
    refine LW.rounds (zcl _ _) mixed 2 ?_
    repeat' first|refine Va (zkA zh1 @zbR w1 w2 @List.length_append.{0} @List.length_cons.{0} @List.length_nil.{0} @List.append_assoc.{0} @List.cons_append.{0} @List.nil_append.{0} h0 z1) ?_|(with_reducible first|refine SB.c ?_ ?_<;>intro _|exact zad)|refine CK.d0 zcS cI2 ?_|with_reducible refine zac ?_|omega
   ·have z0:(x.proc != 0)=true:=by simpa using h0
    unfold stA
    refine zap (fun _=>0) 2 zqM ?_
    repeat' first|refine Va (fA3 @kz zh1 hw') ?_|(with_reducible first|refine SB.c ?_ ?_<;>intro _|exact zad)|refine CK.d0 zcm cW ?_|refine CK.dx [0] [1] zaV cF ?_|with_reducible refine zac ?_|omega
    refine LW.rounds (zcl _ _) mixed 2 ?_
    repeat' first|refine Va (zfA zh1 @zbR w1 w2 @List.length_append.{0} @List.length_cons.{0} @List.length_nil.{0} @List.append_assoc.{0} @List.cons_append.{0} @List.nil_append.{0} z0) ?_|(with_reducible first|refine SB.c ?_ ?_<;>intro _|exact zad)|refine CK.d0 zcS cI2 ?_|with_reducible refine zac ?_|omega
 ·have cF:=zkN x hsh
  have hz:zc1 x=(x.place==0):=by simp [zc1,hsh]
  have hf:zaO x=wdF x.kind++[x.proc,x.value].flatMap fun n=>32::itT n:=by simp [zaO,zit,hsh]
  simp only [List.flatMap_cons,List.flatMap_nil,List.append_nil,List.cons_append] at hf
  by_cases hzz:x.place=0
  ·have z0:=hzz
   rw [hz,if_neg (by simp [z0]),hf] at hG
   subst hG
   unfold stA
   refine zap (fun _=>0) 2 zqM ?_
   repeat' first|refine Va (fA3 @kz zh1 hw') ?_|(with_reducible first|refine SB.c ?_ ?_<;>intro _|exact zad)|refine CK.d0 zcm cW ?_|refine CK.dx [0] [1] zaV cF ?_|with_reducible refine zac ?_|omega
   refine LW.rounds (zcl _ _) mixed 3 ?_
   repeat' first|refine Va (zfA zh1 @zbR w1 w2 @List.length_append.{0} @List.length_cons.{0} @List.length_nil.{0} @List.append_assoc.{0} @List.cons_append.{0} @List.nil_append.{0} z0) ?_|(with_reducible first|refine SB.c ?_ ?_<;>intro _|exact zad)|refine CK.d0 zcS cI1 ?_|refine CK.d0 zcS cI3 ?_|with_reducible refine zac ?_|omega
  ·rw [hz,if_pos (by simp at hzz ⊢;omega)] at hG
   subst hG
   have z0:(x.place != 0)=true:=by simpa using hzz
   unfold stA
   refine zap (fun _=>0) 2 zqM ?_
   repeat' first|refine Va (fA3 @kz zh1 hw') ?_|(with_reducible first|refine SB.c ?_ ?_<;>intro _|exact zad)|refine CK.d0 zcm cW ?_|refine CK.dx [0] [1] zaV cF ?_|with_reducible refine zac ?_|omega
   refine LW.rounds (zcl _ _) mixed 3 ?_
   repeat' first|refine Va (zfA zh1 @zbR w1 w2 @List.length_append.{0} @List.length_cons.{0} @List.length_nil.{0} @List.append_assoc.{0} @List.cons_append.{0} @List.nil_append.{0} z0) ?_|(with_reducible first|refine SB.c ?_ ?_<;>intro _|exact zad)|refine CK.d0 zcS cI1 ?_|refine CK.d0 zcS cI3 ?_|with_reducible refine zac ?_|omega
 ·have cF:=zkO x hsh
  have hz:zc1 x=(x.place==0&&x.value==0):=by simp [zc1,hsh]
  have hf:zaO x=wdF x.kind++[x.proc].flatMap fun n=>32::itT n:=by simp [zaO,zit,hsh]
  simp only [List.flatMap_cons,List.flatMap_nil,List.append_nil,List.cons_append] at hf
  by_cases hzz:x.place=0∧x.value=0
  ·obtain ⟨z0,z1⟩:=hzz
   rw [hz,if_neg (by simp [z0,z1]),hf] at hG
   subst hG
   unfold stA
   refine zap (fun _=>0) 2 zqM ?_
   repeat' first|refine Va (fA3 @kz zh1 hw') ?_|(with_reducible first|refine SB.c ?_ ?_<;>intro _|exact zad)|refine CK.d0 zcm cW ?_|refine CK.dx [0] [1] zaV cF ?_|with_reducible refine zac ?_|omega
   refine LW.rounds (zcl _ _) mixed 2 ?_
   repeat' first|refine Va (zkA zh1 @zbR w1 w2 @List.length_append.{0} @List.length_cons.{0} @List.length_nil.{0} @List.append_assoc.{0} @List.cons_append.{0} @List.nil_append.{0} z0 z1) ?_|(with_reducible first|refine SB.c ?_ ?_<;>intro _|exact zad)|refine CK.d0 zcS cI1 ?_|with_reducible refine zac ?_|omega
  ·rw [hz,if_pos (by simp at hzz ⊢;omega)] at hG
   subst hG
   by_cases h0:x.place=0
   ·have z1:(x.value != 0)=true:=by simp;omega
    unfold stA
    refine zap (fun _=>0) 2 zqM ?_
    repeat' first|refine Va (fA3 @kz zh1 hw') ?_|(with_reducible first|refine SB.c ?_ ?_<;>intro _|exact zad)|refine CK.d0 zcm cW ?_|refine CK.dx [0] [1] zaV cF ?_|with_reducible refine zac ?_|omega
    refine LW.rounds (zcl _ _) mixed 2 ?_
    repeat' first|refine Va (zkA zh1 @zbR w1 w2 @List.length_append.{0} @List.length_cons.{0} @List.length_nil.{0} @List.append_assoc.{0} @List.cons_append.{0} @List.nil_append.{0} h0 z1) ?_|(with_reducible first|refine SB.c ?_ ?_<;>intro _|exact zad)|refine CK.d0 zcS cI1 ?_|with_reducible refine zac ?_|omega
   ·have z0:(x.place != 0)=true:=by simpa using h0
    unfold stA
    refine zap (fun _=>0) 2 zqM ?_
    repeat' first|refine Va (fA3 @kz zh1 hw') ?_|(with_reducible first|refine SB.c ?_ ?_<;>intro _|exact zad)|refine CK.d0 zcm cW ?_|refine CK.dx [0] [1] zaV cF ?_|with_reducible refine zac ?_|omega
    refine LW.rounds (zcl _ _) mixed 2 ?_
    repeat' first|refine Va (zfA zh1 @zbR w1 w2 @List.length_append.{0} @List.length_cons.{0} @List.length_nil.{0} @List.append_assoc.{0} @List.cons_append.{0} @List.nil_append.{0} z0) ?_|(with_reducible first|refine SB.c ?_ ?_<;>intro _|exact zad)|refine CK.d0 zcS cI1 ?_|with_reducible refine zac ?_|omega
 ·have cF:=zkP x hsh
  have hz:zc1 x=(x.proc==0&&x.place==0&&x.value==0):=by simp [zc1,hsh]
  have hf:zaO x=wdF x.kind++[].flatMap fun n=>32::itT n:=by simp [zaO,zit,hsh]
  simp only [List.flatMap_cons,List.flatMap_nil,List.append_nil,List.cons_append] at hf
  by_cases hzz:x.proc=0∧x.place=0∧x.value=0
  ·obtain ⟨z0,z1,z2⟩:=hzz
   rw [hz,if_neg (by simp [z0,z1,z2]),hf] at hG
   subst hG
   unfold stA
   refine zap (fun _=>0) 2 zqM ?_
   repeat' first|refine Va (fA3 @kz zh1 hw') ?_|(with_reducible first|refine SB.c ?_ ?_<;>intro _|exact zad)|refine CK.d0 zcm cW ?_|refine dC1 zaV cF ?_|with_reducible refine zac ?_|omega
   refine LW.rounds (zcl _ _) mixed 1 ?_
   repeat' first|refine Va (zru zh1 @zbR w1 w2 @List.length_append.{0} @List.length_cons.{0} @List.length_nil.{0} @List.append_assoc.{0} @List.cons_append.{0} @List.nil_append.{0} z0 z1 z2) ?_|(with_reducible first|refine SB.c ?_ ?_<;>intro _|exact zad)|with_reducible refine zac ?_|omega
  ·rw [hz,if_pos (by simp at hzz ⊢;omega)] at hG
   subst hG
   by_cases h0:x.proc=0
   ·by_cases h1:x.place=0
    ·have z2:(x.value != 0)=true:=by simp;omega
     unfold stA
     refine zap (fun _=>0) 2 zqM ?_
     repeat' first|refine Va (fA3 @kz zh1 hw') ?_|(with_reducible first|refine SB.c ?_ ?_<;>intro _|exact zad)|refine CK.d0 zcm cW ?_|refine dC1 zaV cF ?_|with_reducible refine zac ?_|omega
     refine LW.rounds (zcl _ _) mixed 1 ?_
     repeat' first|refine Va (zru zh1 @zbR w1 w2 @List.length_append.{0} @List.length_cons.{0} @List.length_nil.{0} @List.append_assoc.{0} @List.cons_append.{0} @List.nil_append.{0} h0 h1 z2) ?_|(with_reducible first|refine SB.c ?_ ?_<;>intro _|exact zad)|with_reducible refine zac ?_|omega
    ·have z1:(x.place != 0)=true:=by simpa using h1
     unfold stA
     refine zap (fun _=>0) 2 zqM ?_
     repeat' first|refine Va (fA3 @kz zh1 hw') ?_|(with_reducible first|refine SB.c ?_ ?_<;>intro _|exact zad)|refine CK.d0 zcm cW ?_|refine dC1 zaV cF ?_|with_reducible refine zac ?_|omega
     refine LW.rounds (zcl _ _) mixed 1 ?_
     repeat' first|refine Va (zkA zh1 @zbR w1 w2 @List.length_append.{0} @List.length_cons.{0} @List.length_nil.{0} @List.append_assoc.{0} @List.cons_append.{0} @List.nil_append.{0} h0 z1) ?_|(with_reducible first|refine SB.c ?_ ?_<;>intro _|exact zad)|with_reducible refine zac ?_|omega
   ·have z0:(x.proc != 0)=true:=by simpa using h0
    unfold stA
    refine zap (fun _=>0) 2 zqM ?_
    repeat' first|refine Va (fA3 @kz zh1 hw') ?_|(with_reducible first|refine SB.c ?_ ?_<;>intro _|exact zad)|refine CK.d0 zcm cW ?_|refine dC1 zaV cF ?_|with_reducible refine zac ?_|omega
    refine LW.rounds (zcl _ _) mixed 1 ?_
    repeat' first|refine Va (zfA zh1 @zbR w1 w2 @List.length_append.{0} @List.length_cons.{0} @List.length_nil.{0} @List.append_assoc.{0} @List.cons_append.{0} @List.nil_append.{0} z0) ?_|(with_reducible first|refine SB.c ?_ ?_<;>intro _|exact zad)|with_reducible refine zac ?_|omega
theorem zq6 (ps:List PgD) (protocol faults:Int) (l:List StD) (hp:∀ p ∈ ps,p=zq2) (hf:-9223372036854775808≤faults∧faults≤9223372036854775807) (hl:∀ x ∈ l,znl x=true) :
  AC Tryz.prog gl 19 [.pv (.slice (ps.map zjI)),.pv (.int .i64 protocol),.pv (.int .i64 faults),.pv (.slice (l.map zcw))] [] (.tup [.pv (.str (zcg ps protocol faults l).1),.pv (.int .i64 (zcg ps protocol faults l).2)]) []:=by
 generalize hG:zcg ps protocol faults l=G
 by_cases h1:protocol<1
 ·have:=zeO (ps:=ps) (faults:=faults) (l:=l) (.inl h1)
  rw [hG] at this
  subst this
  refine zap (fun _=>0) 0 zzZ ?_
  repeat' first|refine Va (fA2 zqE h1) ?_|(with_reducible first|refine SB.c ?_ ?_<;>intro _|exact zad)|with_reducible refine zac ?_|omega
 by_cases h2:protocol > 8
 ·have:=zeO (ps:=ps) (faults:=faults) (l:=l) (.inr h2)
  rw [hG] at this
  subst this
  refine zap (fun _=>0) 0 zzZ ?_
  repeat' first|refine Va (fA3 zqE h1 h2) ?_|(with_reducible first|refine SB.c ?_ ?_<;>intro _|exact zad)|with_reducible refine zac ?_|omega
 have hpr:¬ (protocol<1∨8<protocol):=by omega
 by_cases hmany:ps=[]∨5<ps.length∨400<l.length
 ·have:=zhT (faults:=faults) hpr hmany
  rw [hG] at this
  subst this
  by_cases h3:ps=[]
  ·subst h3
   refine zap (fun _=>0) 0 zzZ ?_
   repeat' first|refine Va (fA3 zqE h1 h2) ?_|(with_reducible first|refine SB.c ?_ ?_<;>intro _|exact zad)|with_reducible refine zac ?_|omega
  ·have h3':((ps.length:Int)==0)=false:=by simpa using h3
   by_cases h4:(ps.length:Int) > 5
   ·refine zap (fun _=>0) 0 zzZ ?_
    repeat' first|refine Va (fA5 zqE h1 h2 h3' h4) ?_|(with_reducible first|refine SB.c ?_ ?_<;>intro _|exact zad)|with_reducible refine zac ?_|omega
   ·have h5:(l.length:Int) > 400:=by
     rcases hmany with h|h|h
     ·exact absurd h h3
     ·omega
     ·omega
    refine zap (fun _=>0) 0 zzZ ?_
    repeat' first|refine Va (fA6 zqE h1 h2 h3' h4 h5) ?_|(with_reducible first|refine SB.c ?_ ?_<;>intro _|exact zad)|with_reducible refine zac ?_|omega
 have h3':((ps.length:Int)==0)=false:=by simpa using fun e=>hmany (.inl e)
 have h4:¬ (ps.length:Int) > 5:=fun h=>hmany (.inr (.inl (by omega)))
 have h5:¬ (l.length:Int) > 400:=fun h=>hmany (.inr (.inr (by omega)))
 obtain ⟨j,rfl⟩:∃ j:Nat,protocol=j:=⟨protocol.toNat,by omega⟩
 have hj1:1≤j:=by omega
 have hj2:j≤8:=by omega
 have hj9:j<9:=by omega
 have hcell:=ztw j hj9
 simp only [zlR,List.map_cons,List.map_nil] at hcell
 have cI:=ziy faults hf
 have k1:=zoC j hj1 hj2
 have k2:=zdB faults
 have k3:=zkS j hj1 hj2 faults
 have cW:=znj [] (zga j faults) (by simp;omega)
 simp only [List.nil_append] at cW
 have hft:zga j faults=[112,114,111,116,111,99,111,108,32]++prF j++[32]++itT faults++[10]:=rfl
 generalize zga j faults=t0 at *
 simp only [List.cons_append,List.nil_append,List.append_assoc] at hft
 rw [hft] at cW
 refine zap (fun d=>if d=10 then 0 else if d=12 then 5 else 6) 7 zzZ ?_
 repeat' first|refine Va (zHs @kz zqE h1 h2 h3' h4 h5 hj9 hcell @Nat.mul_one @List.length_append.{0} @List.length_cons.{0} @List.length_nil.{0} @List.cons_append.{0} @List.append_assoc.{0}) ?_|(with_reducible first|refine SB.c ?_ ?_<;>intro _|exact zad)|refine CK.d0 zcS cI ?_|refine CK.dx [0,1] [2] zgI cW ?_|with_reducible refine zac ?_|omega
 refine zaI (ι:=FpI ps) (fun i=>⟨(jl 3 (.pv (.slice (l.map zcw))::jl 6 (.ref 0 0::jl 37 (.pv (.slice (ps.map zjI))::.pv (.int .i64 ps.length)::.pv (.int .i64 i.k)::jl 37 [])))),[bH 2 (t0++(ps.take i.k).flatMap zc2).length,none,bB (t0++(ps.take i.k).flatMap zc2),none,none,none,none]⟩) (fun i=>ps.length - i.k) ⟨0,by omega,by simp⟩ (WFe (by simp [kwf,hft,List.append_assoc]) (by simp [kwf,hft,List.append_assoc])) ?_
 intro i
 have hbl:(t0++(ps.take i.k).flatMap zc2).length≤30000:=by
  have:=zha zc2 4110 zjJ (ps.take i.k)
  have hk:(ps.take i.k).length≤5:=by simp;omega
  rw [List.length_append]
  have:4110 * (ps.take i.k).length≤4110 * 5:=Nat.mul_le_mul_left _ hk
  omega
 by_cases hlt:i.k<ps.length
 ·have hlt':(i.k:Int)<ps.length:=by omega
  have hget:=zaA zjI ps i.k hlt
  have hpm:=hp ps[i.k] (List.getElem_mem hlt)
  have cF:=zq3 ps[i.k] hpm
  have hw:=zaQ i.k (by omega)
  have hpl:=zjJ ps[i.k]
  have hfl:=zl5 ps[i.k]
  have hts:(ps.take (i.k+1)).flatMap zc2=(ps.take i.k).flatMap zc2++zc2 ps[i.k]:=by
   rw [List.take_succ_eq_append_getElem hlt,List.flatMap_append];simp
  cases hb:znM ps[i.k]
  ·obtain ⟨nx,e1⟩:∃ nx:FpI ps,nx.k=i.k+1:=⟨i.next hlt hb,rfl⟩
   have hb0:(zkk ps[i.k]).2=0:=by simpa [znM] using hb
   have hpt:zc2 ps[i.k]=[112,114,111,99,101,115,115,10]++(zkk ps[i.k]).1++[101,110,100,10]:=rfl
   have hu:t0++(ps.take (i.k+1)).flatMap zc2=(t0++(ps.take i.k).flatMap zc2)++zc2 ps[i.k]:=by rw [hts];simp
   generalize t0++(ps.take i.k).flatMap zc2=u at *
   have cW2:=znj u (zc2 ps[i.k]) (by omega)
   rw [hb0] at cF
   rw [hpt] at cW2 hu
   generalize ps[i.k]=p at *
   generalize (zkk p).1=ft at *
   simp only [List.cons_append,List.nil_append] at cW2 hu
   unfold pgA at cF
   have hpe:zjI p=[.slice (p.vars.map zat),.slice (p.start.map zai),.slice (p.message.map zai),.slice (p.tick.map zai),.slice (p.input.map zai)]:=rfl
   repeat' first|refine Va (zj4 @kz zqE hlt' hlt hget hpe hw @List.length_append.{0} @List.length_cons.{0} @List.length_nil.{0}) ?_|(with_reducible first|refine SB.c ?_ ?_<;>intro _|exact zad)|refine CK.d0 zpk cF ?_|refine CK.dx [0,2] [3] zgI cW2 ?_|with_reducible refine zac ?_|omega
   exact ⟨nx,(WTe [0,1,3,2,4,5,6] (by simp [kwt,e1,hu]) (by simp [kwt,e1,hu])),by show _ - nx.k<_;rw [e1];omega⟩
  ·have hb0:(zkk ps[i.k]).2≠0:=by simpa [znM] using hb
   have:=zhU (faults:=faults) hpr hmany i.k hlt i.no hb
   rw [hG] at this
   subst this
   have hb0':((zkk ps[i.k]).2 != 0)=true:=by simpa using hb0
   generalize ps[i.k]=p at *
   unfold pgA at cF
   have hpe:zjI p=[.slice (p.vars.map zat),.slice (p.start.map zai),.slice (p.message.map zai),.slice (p.tick.map zai),.slice (p.input.map zai)]:=rfl
   repeat' first|refine Va (fA6 zqE hlt' hlt hget hpe hb0') ?_|(with_reducible first|refine SB.c ?_ ?_<;>intro _|exact zad)|refine CK.d0 zpk cF ?_|with_reducible refine zac ?_|omega
 have hlt':¬ (i.k:Int)<ps.length:=by omega
 have hik:ps.take i.k=ps:=List.take_of_length_le (by omega)
 have hpg:=i.no
 rw [hik] at hpg hbl
 generalize hv:t0++ps.flatMap zc2=v at *
 have cW3:=znj v [115,116,101,112,115,10] (by simp;omega)
 repeat' first|refine Va (fA5 @kz zqE hlt' hik hv) ?_|(with_reducible first|refine SB.c ?_ ?_<;>intro _|exact zad)|refine CK.dx [0,2] [3] zgI cW3 ?_|with_reducible refine zac ?_|omega
 generalize hv2:v++[115,116,101,112,115,10]=v2 at *
 have hvl:v2.length≤30010:=by rw [←hv2];simp;omega
 refine zaI (ι:=FsI l) (fun i=>⟨(jl 10 (.ref 0 0::jl 57 (.pv (.slice (l.map zcw))::.pv (.int .i64 l.length)::.pv (.int .i64 i.k)::jl 17 []))),[bH 3 (v2++(l.take i.k).flatMap fun x=>zaO x++[10]).length,none,none,bB (v2++(l.take i.k).flatMap fun x=>zaO x++[10]),none,none,none]⟩) (fun i=>l.length - i.k) ⟨0,by omega,by simp⟩ WFn ?_
 intro m
 have hbl2:(v2++(l.take m.k).flatMap fun x=>zaO x++[10]).length≤60000:=by
  have:=zha (fun x=>zaO x++[10]) 61 (fun x=>by have:=zix x;simp;omega) (l.take m.k)
  have hk:(l.take m.k).length≤400:=by simp;omega
  rw [List.length_append]
  have:61 * (l.take m.k).length≤61 * 400:=Nat.mul_le_mul_left _ hk
  omega
 by_cases hmt:m.k<l.length
 ·have hmt':(m.k:Int)<l.length:=by omega
  have hget:=zaA zcw l m.k hmt
  have cF:=zwr l[m.k] (hl _ (List.getElem_mem hmt))
  have hw:=zaQ m.k (by omega)
  have hwl:=zq5 l[m.k]
  have hbad:=zkT l[m.k]
  have hts:((l.take (m.k+1)).flatMap fun x=>zaO x++[10])=((l.take m.k).flatMap fun x=>zaO x++[10])++(zaO l[m.k]++[10]):=by
   rw [List.take_succ_eq_append_getElem hmt,List.flatMap_append];simp
  cases hb:zkm l[m.k]
  ·obtain ⟨nx,e1⟩:∃ nx:FsI l,nx.k=m.k+1:=⟨m.next hmt hb,rfl⟩
   have hok:=ztC _ hb
   rw [hok] at cF hwl
   have hu:v2++((l.take (m.k+1)).flatMap fun x=>zaO x++[10])=(v2++(l.take m.k).flatMap fun x=>zaO x++[10])++(zaO l[m.k]++[10]):=by rw [hts];simp
   generalize (v2++(l.take m.k).flatMap fun x=>zaO x++[10])=u at *
   have cW2:=znj u (zaO l[m.k]++[10]) (by dsimp only at hwl;omega)
   generalize l[m.k]=x at *
   generalize zaO x++[10]=lx at *
   have hxe:zcw x=[.int .i64 x.kind,.int .i64 x.proc,.int .i64 x.place,.int .i64 x.value]:=rfl
   unfold stA at cF
   repeat' first|refine Va (fA7 @kz zqE hmt' hmt hget hxe hw) ?_|(with_reducible first|refine SB.c ?_ ?_<;>intro _|exact zad)|refine CK.d0 zpl cF ?_|refine CK.dx [0,3] [4] zgI cW2 ?_|with_reducible refine zac ?_|omega
   exact ⟨nx,(WTe [0,1,2,4,3,5,6] (by simp [kwt,e1,hu]) (by simp [kwt,e1,hu])),by show _ - nx.k<_;rw [e1];omega⟩
  ·have:=zft (faults:=faults) hpr hmany hpg m.k hmt m.no hb
   rw [hG] at this
   subst this
   rw [hb] at hbad
   have hb0:(zc3 l[m.k]).2≠0:=by simpa using hbad.symm
   have hb0':((zc3 l[m.k]).2 != 0)=true:=by simpa using hb0
   generalize l[m.k]=x at *
   have hxe:zcw x=[.int .i64 x.kind,.int .i64 x.proc,.int .i64 x.place,.int .i64 x.value]:=rfl
   unfold stA at cF
   repeat' first|refine Va (fA6 zqE hmt' hmt hget hxe hb0') ?_|(with_reducible first|refine SB.c ?_ ?_<;>intro _|exact zad)|refine CK.d0 zpl cF ?_|with_reducible refine zac ?_|omega
 ·have hmt':¬ (m.k:Int)<l.length:=by omega
  have hmk:l.take m.k=l:=List.take_of_length_le (by omega)
  have hno:=m.no
  rw [hmk] at hno hbl2
  have:=zjK (faults:=faults) hpr hmany hpg hno
  have hst2:zfs ps j faults l=v2++l.flatMap fun x=>zaO x++[10]:=by
   rw [←hv2,←hv,hft]
   simp [zfs,zga]
  rw [hG,hst2] at this
  generalize hww:(v2++l.flatMap fun x=>zaO x++[10])=w at *
  have cL:=zy8 w
  have cS:=zte w
  by_cases hw:65536<w.length
  ·have hw':(w.length:Int) > 65536:=by omega
   rw [if_pos hw] at this
   subst this
   repeat' first|refine Va (fA6 @kz zqE hmt' hmk hww hw') ?_|(with_reducible first|refine SB.c ?_ ?_<;>intro _|exact zad)|refine CK.dx [0,3] [] zpm cL ?_|with_reducible refine zac ?_|omega
  ·have hw':¬ (w.length:Int) > 65536:=by omega
   rw [if_neg hw] at this
   subst this
   repeat' first|refine Va (fA6 @kz zqE hmt' hmk hww hw') ?_|(with_reducible first|refine SB.c ?_ ?_<;>intro _|exact zad)|refine CK.dx [0,3] [] zpm cL ?_|refine CK.dx [0,3] [] zia cS ?_|with_reducible refine zac ?_|omega
end Go.Proofs.YtfinhhblcdkpgaaGreatDoor
