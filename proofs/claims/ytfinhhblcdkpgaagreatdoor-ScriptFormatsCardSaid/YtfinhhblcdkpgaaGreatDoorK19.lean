/- The program's writing of a script. No condition. -/
import Derived.Test.YtfinhhblcdkpgaaGreatDoorN9a
import Derived.Test.YtfinhhblcdkpgaaGreatDoorW5
import Derived.Test.YtfinhhblcdkpgaaGreatDoorLib3
set_option maxRecDepth 100000
set_option maxHeartbeats 64000000
set_option linter.unusedSimpArgs false
set_option linter.unusedVariables false
set_option linter.defProp false
namespace Go.Proofs.YtfinhhblcdkpgaaGreatDoor
open Go Go.Abs Go.RowKit
theorem zhp (n:Int) (h:-9223372036854775808≤n∧n≤9223372036854775807):AC Tryz.prog gl 35 [.pv (.int .i64 n)] [] (.pv (.str (itT n))) []:=by
 have:=zky n h.1 h.2
 rw [zig n h.1 h.2] at this
 exact this
theorem zuj (x:StD) (hr:zkS x=true):AC Tryz.prog gl 37 [stA x] [] (.tup [.pv (.str (zcy x).1),.pv (.int .i64 (zcy x).2)]) []:=by
 have w1:IntKind.i64.wrap 1=1:=by decide
 have w2:IntKind.i64.wrap 2=2:=by decide
 have cW:=zt9 x.kind
 have hG:zcy x=if wdF x.kind=[] then ([],17) else if zdp x=false then ([],7) else (zbk x++[10],0):=rfl
 generalize zcy x=G at *
 simp only [zkS,Bool.and_eq_true] at hr
 obtain ⟨⟨⟨_,r1⟩,r2⟩,r3⟩:=hr
 have cI1:=zhp x.proc (zeD r1)
 have cI2:=zhp x.place (zeD r2)
 have cI3:=zhp x.value (zeD r3)
 have l0:=zrJ x.kind
 have l1:=zcv x.proc
 have l2:=zcv x.place
 have l3:=zcv x.value
 by_cases hw:wdF x.kind=[]
 ·rw [if_pos hw] at hG
  subst hG
  rw [hw] at cW
  unfold stA
  refine zam (fun _=>0) 2 zo5 ?_
  (repeat' (first|refine Va zgZ ?_|(with_reducible first|refine SB.c ?_ ?_<;>intro _|exact zac)|refine CK.d0 zbV cW ?_|with_reducible refine zab ?_|omega))
 rw [if_neg hw] at hG
 have hw':(wdF x.kind==[])=false:=by simpa using hw
 rcases zbS x.kind with ⟨_,hsh⟩|⟨_,hsh⟩|⟨_,hsh⟩|⟨_,_,_,_,_,_,_,_,_,_,_,hsh⟩
 ·have cF:=zjx x hsh
  have hz:zdp x=(x.proc==0&&x.value==0):=by simp [zdp,hsh]
  have hf:zbk x=wdF x.kind++[x.place].flatMap fun n=>32::itT n:=by simp [zbk,zwV,hsh]
  simp only [List.flatMap_cons,List.flatMap_nil,List.append_nil,List.cons_append] at hf
  by_cases hzz:x.proc=0∧x.value=0
  ·obtain ⟨z0,z1⟩:=hzz
   rw [hz,if_neg (by simp [z0,z1]),hf] at hG
   subst hG
   unfold stA
   refine zam (fun _=>0) 2 zo5 ?_
   (repeat' (first|refine Va (fA3 @kz zgZ hw') ?_|(with_reducible first|refine SB.c ?_ ?_<;>intro _|exact zac)|refine CK.d0 zbV cW ?_|refine CK.dx [0] [1] zaK cF ?_|with_reducible refine zab ?_|omega))
   refine LW.rounds (zck _ _) mixed 2 ?_
   (repeat' (first|refine Va (zmr zgZ @zbw w1 w2 @List.length_append.{0} @List.length_cons.{0} @List.length_nil.{0} @List.append_assoc.{0} @List.cons_append.{0} @List.nil_append.{0} z0 z1) ?_|(with_reducible first|refine SB.c ?_ ?_<;>intro _|exact zac)|refine CK.d0 zbL cI2 ?_|with_reducible refine zab ?_|omega))
  ·rw [hz,if_pos (by simp at hzz ⊢;omega)] at hG
   subst hG
   by_cases h0:x.proc=0
   ·have z1:(x.value != 0)=true:=by simp;omega
    unfold stA
    refine zam (fun _=>0) 2 zo5 ?_
    (repeat' (first|refine Va (fA3 @kz zgZ hw') ?_|(with_reducible first|refine SB.c ?_ ?_<;>intro _|exact zac)|refine CK.d0 zbV cW ?_|refine CK.dx [0] [1] zaK cF ?_|with_reducible refine zab ?_|omega))
    refine LW.rounds (zck _ _) mixed 2 ?_
    (repeat' (first|refine Va (zmr zgZ @zbw w1 w2 @List.length_append.{0} @List.length_cons.{0} @List.length_nil.{0} @List.append_assoc.{0} @List.cons_append.{0} @List.nil_append.{0} h0 z1) ?_|(with_reducible first|refine SB.c ?_ ?_<;>intro _|exact zac)|refine CK.d0 zbL cI2 ?_|with_reducible refine zab ?_|omega))
   ·have z0:(x.proc != 0)=true:=by simpa using h0
    unfold stA
    refine zam (fun _=>0) 2 zo5 ?_
    (repeat' (first|refine Va (fA3 @kz zgZ hw') ?_|(with_reducible first|refine SB.c ?_ ?_<;>intro _|exact zac)|refine CK.d0 zbV cW ?_|refine CK.dx [0] [1] zaK cF ?_|with_reducible refine zab ?_|omega))
    refine LW.rounds (zck _ _) mixed 2 ?_
    (repeat' (first|refine Va (zhT zgZ @zbw w1 w2 @List.length_append.{0} @List.length_cons.{0} @List.length_nil.{0} @List.append_assoc.{0} @List.cons_append.{0} @List.nil_append.{0} z0) ?_|(with_reducible first|refine SB.c ?_ ?_<;>intro _|exact zac)|refine CK.d0 zbL cI2 ?_|with_reducible refine zab ?_|omega))
 ·have cF:=zjy x hsh
  have hz:zdp x=(x.place==0):=by simp [zdp,hsh]
  have hf:zbk x=wdF x.kind++[x.proc,x.value].flatMap fun n=>32::itT n:=by simp [zbk,zwV,hsh]
  simp only [List.flatMap_cons,List.flatMap_nil,List.append_nil,List.cons_append] at hf
  by_cases hzz:x.place=0
  ·have z0:=hzz
   rw [hz,if_neg (by simp [z0]),hf] at hG
   subst hG
   unfold stA
   refine zam (fun _=>0) 2 zo5 ?_
   (repeat' (first|refine Va (fA3 @kz zgZ hw') ?_|(with_reducible first|refine SB.c ?_ ?_<;>intro _|exact zac)|refine CK.d0 zbV cW ?_|refine CK.dx [0] [1] zaK cF ?_|with_reducible refine zab ?_|omega))
   refine LW.rounds (zck _ _) mixed 3 ?_
   (repeat' (first|refine Va (zhT zgZ @zbw w1 w2 @List.length_append.{0} @List.length_cons.{0} @List.length_nil.{0} @List.append_assoc.{0} @List.cons_append.{0} @List.nil_append.{0} z0) ?_|(with_reducible first|refine SB.c ?_ ?_<;>intro _|exact zac)|refine CK.d0 zbL cI1 ?_|refine CK.d0 zbL cI3 ?_|with_reducible refine zab ?_|omega))
  ·rw [hz,if_pos (by simp at hzz ⊢;omega)] at hG
   subst hG
   have z0:(x.place != 0)=true:=by simpa using hzz
   unfold stA
   refine zam (fun _=>0) 2 zo5 ?_
   (repeat' (first|refine Va (fA3 @kz zgZ hw') ?_|(with_reducible first|refine SB.c ?_ ?_<;>intro _|exact zac)|refine CK.d0 zbV cW ?_|refine CK.dx [0] [1] zaK cF ?_|with_reducible refine zab ?_|omega))
   refine LW.rounds (zck _ _) mixed 3 ?_
   (repeat' (first|refine Va (zhT zgZ @zbw w1 w2 @List.length_append.{0} @List.length_cons.{0} @List.length_nil.{0} @List.append_assoc.{0} @List.cons_append.{0} @List.nil_append.{0} z0) ?_|(with_reducible first|refine SB.c ?_ ?_<;>intro _|exact zac)|refine CK.d0 zbL cI1 ?_|refine CK.d0 zbL cI3 ?_|with_reducible refine zab ?_|omega))
 ·have cF:=zjz x hsh
  have hz:zdp x=(x.place==0&&x.value==0):=by simp [zdp,hsh]
  have hf:zbk x=wdF x.kind++[x.proc].flatMap fun n=>32::itT n:=by simp [zbk,zwV,hsh]
  simp only [List.flatMap_cons,List.flatMap_nil,List.append_nil,List.cons_append] at hf
  by_cases hzz:x.place=0∧x.value=0
  ·obtain ⟨z0,z1⟩:=hzz
   rw [hz,if_neg (by simp [z0,z1]),hf] at hG
   subst hG
   unfold stA
   refine zam (fun _=>0) 2 zo5 ?_
   (repeat' (first|refine Va (fA3 @kz zgZ hw') ?_|(with_reducible first|refine SB.c ?_ ?_<;>intro _|exact zac)|refine CK.d0 zbV cW ?_|refine CK.dx [0] [1] zaK cF ?_|with_reducible refine zab ?_|omega))
   refine LW.rounds (zck _ _) mixed 2 ?_
   (repeat' (first|refine Va (zmr zgZ @zbw w1 w2 @List.length_append.{0} @List.length_cons.{0} @List.length_nil.{0} @List.append_assoc.{0} @List.cons_append.{0} @List.nil_append.{0} z0 z1) ?_|(with_reducible first|refine SB.c ?_ ?_<;>intro _|exact zac)|refine CK.d0 zbL cI1 ?_|with_reducible refine zab ?_|omega))
  ·rw [hz,if_pos (by simp at hzz ⊢;omega)] at hG
   subst hG
   by_cases h0:x.place=0
   ·have z1:(x.value != 0)=true:=by simp;omega
    unfold stA
    refine zam (fun _=>0) 2 zo5 ?_
    (repeat' (first|refine Va (fA3 @kz zgZ hw') ?_|(with_reducible first|refine SB.c ?_ ?_<;>intro _|exact zac)|refine CK.d0 zbV cW ?_|refine CK.dx [0] [1] zaK cF ?_|with_reducible refine zab ?_|omega))
    refine LW.rounds (zck _ _) mixed 2 ?_
    (repeat' (first|refine Va (zmr zgZ @zbw w1 w2 @List.length_append.{0} @List.length_cons.{0} @List.length_nil.{0} @List.append_assoc.{0} @List.cons_append.{0} @List.nil_append.{0} h0 z1) ?_|(with_reducible first|refine SB.c ?_ ?_<;>intro _|exact zac)|refine CK.d0 zbL cI1 ?_|with_reducible refine zab ?_|omega))
   ·have z0:(x.place != 0)=true:=by simpa using h0
    unfold stA
    refine zam (fun _=>0) 2 zo5 ?_
    (repeat' (first|refine Va (fA3 @kz zgZ hw') ?_|(with_reducible first|refine SB.c ?_ ?_<;>intro _|exact zac)|refine CK.d0 zbV cW ?_|refine CK.dx [0] [1] zaK cF ?_|with_reducible refine zab ?_|omega))
    refine LW.rounds (zck _ _) mixed 2 ?_
    (repeat' (first|refine Va (zhT zgZ @zbw w1 w2 @List.length_append.{0} @List.length_cons.{0} @List.length_nil.{0} @List.append_assoc.{0} @List.cons_append.{0} @List.nil_append.{0} z0) ?_|(with_reducible first|refine SB.c ?_ ?_<;>intro _|exact zac)|refine CK.d0 zbL cI1 ?_|with_reducible refine zab ?_|omega))
 ·have cF:=zjA x hsh
  have hz:zdp x=(x.proc==0&&x.place==0&&x.value==0):=by simp [zdp,hsh]
  have hf:zbk x=wdF x.kind++[].flatMap fun n=>32::itT n:=by simp [zbk,zwV,hsh]
  simp only [List.flatMap_cons,List.flatMap_nil,List.append_nil,List.cons_append] at hf
  by_cases hzz:x.proc=0∧x.place=0∧x.value=0
  ·obtain ⟨z0,z1,z2⟩:=hzz
   rw [hz,if_neg (by simp [z0,z1,z2]),hf] at hG
   subst hG
   unfold stA
   refine zam (fun _=>0) 2 zo5 ?_
   (repeat' (first|refine Va (fA3 @kz zgZ hw') ?_|(with_reducible first|refine SB.c ?_ ?_<;>intro _|exact zac)|refine CK.d0 zbV cW ?_|refine dC1 zaK cF ?_|with_reducible refine zab ?_|omega))
   refine LW.rounds (zck _ _) mixed 1 ?_
   (repeat' (first|refine Va (zoZ zgZ @zbw w1 w2 @List.length_append.{0} @List.length_cons.{0} @List.length_nil.{0} @List.append_assoc.{0} @List.cons_append.{0} @List.nil_append.{0} z0 z1 z2) ?_|(with_reducible first|refine SB.c ?_ ?_<;>intro _|exact zac)|with_reducible refine zab ?_|omega))
  ·rw [hz,if_pos (by simp at hzz ⊢;omega)] at hG
   subst hG
   by_cases h0:x.proc=0
   ·by_cases h1:x.place=0
    ·have z2:(x.value != 0)=true:=by simp;omega
     unfold stA
     refine zam (fun _=>0) 2 zo5 ?_
     (repeat' (first|refine Va (fA3 @kz zgZ hw') ?_|(with_reducible first|refine SB.c ?_ ?_<;>intro _|exact zac)|refine CK.d0 zbV cW ?_|refine dC1 zaK cF ?_|with_reducible refine zab ?_|omega))
     refine LW.rounds (zck _ _) mixed 1 ?_
     (repeat' (first|refine Va (zoZ zgZ @zbw w1 w2 @List.length_append.{0} @List.length_cons.{0} @List.length_nil.{0} @List.append_assoc.{0} @List.cons_append.{0} @List.nil_append.{0} h0 h1 z2) ?_|(with_reducible first|refine SB.c ?_ ?_<;>intro _|exact zac)|with_reducible refine zab ?_|omega))
    ·have z1:(x.place != 0)=true:=by simpa using h1
     unfold stA
     refine zam (fun _=>0) 2 zo5 ?_
     (repeat' (first|refine Va (fA3 @kz zgZ hw') ?_|(with_reducible first|refine SB.c ?_ ?_<;>intro _|exact zac)|refine CK.d0 zbV cW ?_|refine dC1 zaK cF ?_|with_reducible refine zab ?_|omega))
     refine LW.rounds (zck _ _) mixed 1 ?_
     (repeat' (first|refine Va (zmr zgZ @zbw w1 w2 @List.length_append.{0} @List.length_cons.{0} @List.length_nil.{0} @List.append_assoc.{0} @List.cons_append.{0} @List.nil_append.{0} h0 z1) ?_|(with_reducible first|refine SB.c ?_ ?_<;>intro _|exact zac)|with_reducible refine zab ?_|omega))
   ·have z0:(x.proc != 0)=true:=by simpa using h0
    unfold stA
    refine zam (fun _=>0) 2 zo5 ?_
    (repeat' (first|refine Va (fA3 @kz zgZ hw') ?_|(with_reducible first|refine SB.c ?_ ?_<;>intro _|exact zac)|refine CK.d0 zbV cW ?_|refine dC1 zaK cF ?_|with_reducible refine zab ?_|omega))
    refine LW.rounds (zck _ _) mixed 1 ?_
    (repeat' (first|refine Va (zhT zgZ @zbw w1 w2 @List.length_append.{0} @List.length_cons.{0} @List.length_nil.{0} @List.append_assoc.{0} @List.cons_append.{0} @List.nil_append.{0} z0) ?_|(with_reducible first|refine SB.c ?_ ?_<;>intro _|exact zac)|with_reducible refine zab ?_|omega))
theorem zjD (ps:List PgD) (protocol faults:Int) (l:List StD) (hp:∀ p ∈ ps,szP p≤1000000∧rgP p=true) (hf:-9223372036854775808≤faults∧faults≤9223372036854775807) (hl:∀ x ∈ l,zkS x=true) :
  AC Tryz.prog gl 19 [.pv (.slice (ps.map zd3)),.pv (.int .i64 protocol),.pv (.int .i64 faults),.pv (.slice (l.map za7))] [] (.tup [.pv (.str (zaI ps protocol faults l).1),.pv (.int .i64 (zaI ps protocol faults l).2)]) []:=by
 generalize hG:zaI ps protocol faults l=G
 by_cases h1:protocol<1
 ·have:=zd4 (ps:=ps) (faults:=faults) (l:=l) (.inl h1)
  rw [hG] at this
  subst this
  refine zam (fun _=>0) 0 zxx ?_
  (repeat' (first|refine Va (fA2 zo0 h1) ?_|(with_reducible first|refine SB.c ?_ ?_<;>intro _|exact zac)|with_reducible refine zab ?_|omega))
 by_cases h2:protocol > 8
 ·have:=zd4 (ps:=ps) (faults:=faults) (l:=l) (.inr h2)
  rw [hG] at this
  subst this
  refine zam (fun _=>0) 0 zxx ?_
  (repeat' (first|refine Va (fA3 zo0 h1 h2) ?_|(with_reducible first|refine SB.c ?_ ?_<;>intro _|exact zac)|with_reducible refine zab ?_|omega))
 have hpr:¬ (protocol<1∨8<protocol):=by omega
 by_cases hmany:ps=[]∨5<ps.length∨400<l.length
 ·have:=zgT (faults:=faults) hpr hmany
  rw [hG] at this
  subst this
  by_cases h3:ps=[]
  ·subst h3
   refine zam (fun _=>0) 0 zxx ?_
   (repeat' (first|refine Va (fA3 zo0 h1 h2) ?_|(with_reducible first|refine SB.c ?_ ?_<;>intro _|exact zac)|with_reducible refine zab ?_|omega))
  ·have h3':((ps.length:Int)==0)=false:=by simpa using h3
   by_cases h4:(ps.length:Int) > 5
   ·refine zam (fun _=>0) 0 zxx ?_
    (repeat' (first|refine Va (fA5 zo0 h1 h2 h3' h4) ?_|(with_reducible first|refine SB.c ?_ ?_<;>intro _|exact zac)|with_reducible refine zab ?_|omega))
   ·have h5:(l.length:Int) > 400:=by
     rcases hmany with h|h|h
     ·exact absurd h h3
     ·omega
     ·omega
    refine zam (fun _=>0) 0 zxx ?_
    (repeat' (first|refine Va (fA6 zo0 h1 h2 h3' h4 h5) ?_|(with_reducible first|refine SB.c ?_ ?_<;>intro _|exact zac)|with_reducible refine zab ?_|omega))
 have h3':((ps.length:Int)==0)=false:=by simpa using fun e=>hmany (.inl e)
 have h4:¬ (ps.length:Int) > 5:=fun h=>hmany (.inr (.inl (by omega)))
 have h5:¬ (l.length:Int) > 400:=fun h=>hmany (.inr (.inr (by omega)))
 obtain ⟨j,rfl⟩:∃ j:Nat,protocol=j:=⟨protocol.toNat,by omega⟩
 have hj1:1≤j:=by omega
 have hj2:j≤8:=by omega
 have hj9:j<9:=by omega
 have hcell:=zrA j hj9
 simp only [zlF,List.map_cons,List.map_nil] at hcell
 have cI:=zhp faults hf
 have k1:=zmW j hj1 hj2
 have k2:=zcv faults
 have k3:=zjB j hj1 hj2 faults
 have cW:=zlD [] (zfg j faults) (by simp;omega)
 simp only [List.nil_append] at cW
 have hft:zfg j faults=[112,114,111,116,111,99,111,108,32]++prF j++[32]++itT faults++[10]:=rfl
 generalize zfg j faults=t0 at *
 simp only [List.cons_append,List.nil_append,List.append_assoc] at hft
 rw [hft] at cW
 refine zam (fun d=>if d=10 then 0 else if d=12 then 5 else 6) 7 zxx ?_
 (repeat' (first|refine Va (zDv @kz zo0 h1 h2 h3' h4 h5 hj9 hcell @Nat.mul_one @List.length_append.{0} @List.length_cons.{0} @List.length_nil.{0} @List.cons_append.{0} @List.append_assoc.{0}) ?_|(with_reducible first|refine SB.c ?_ ?_<;>intro _|exact zac)|refine CK.d0 zbL cI ?_|refine CK.dx [0,1] [2] zfV cW ?_|with_reducible refine zab ?_|omega))
 refine za6 (ι:=FpI ps) (fun i=>⟨(jl 3 (.pv (.slice (l.map za7))::jl 6 (.ref 0 0::jl 37 (.pv (.slice (ps.map zd3))::.pv (.int .i64 ps.length)::.pv (.int .i64 i.k)::jl 37 [])))),[bH 2 (t0++(ps.take i.k).flatMap zcx).length,none,bB (t0++(ps.take i.k).flatMap zcx),none,none,none,none]⟩) (fun i=>ps.length - i.k) ⟨0,by omega,by simp⟩ (WFe (by simp [kwf,hft,List.append_assoc]) (by simp [kwf,hft,List.append_assoc])) ?_
 intro i
 have hbl:(t0++(ps.take i.k).flatMap zcx).length≤30000:=by
  have:=zgg zcx 4110 ziz (ps.take i.k)
  have hk:(ps.take i.k).length≤5:=by simp;omega
  rw [List.length_append]
  have:4110 * (ps.take i.k).length≤4110 * 5:=Nat.mul_le_mul_left _ hk
  omega
 by_cases hlt:i.k<ps.length
 ·have hlt':(i.k:Int)<ps.length:=by omega
  have hget:=zaN zd3 ps i.k hlt
  have hpm:=hp ps[i.k] (List.getElem_mem hlt)
  have cF:=zrI ps[i.k] hpm.1 hpm.2
  have hw:=zbc i.k (by omega)
  have hpl:=ziz ps[i.k]
  have hfl:=zkI ps[i.k]
  have hts:(ps.take (i.k+1)).flatMap zcx=(ps.take i.k).flatMap zcx++zcx ps[i.k]:=by
   rw [List.take_succ_eq_append_getElem hlt,List.flatMap_append];simp
  cases hb:zl6 ps[i.k]
  ·obtain ⟨nx,e1⟩:∃ nx:FpI ps,nx.k=i.k+1:=⟨i.next hlt hb,rfl⟩
   have hb0:(ziM ps[i.k]).2=0:=by simpa [zl6] using hb
   have hpt:zcx ps[i.k]=[112,114,111,99,101,115,115,10]++(ziM ps[i.k]).1++[101,110,100,10]:=rfl
   have hu:t0++(ps.take (i.k+1)).flatMap zcx=(t0++(ps.take i.k).flatMap zcx)++zcx ps[i.k]:=by rw [hts];simp
   generalize t0++(ps.take i.k).flatMap zcx=u at *
   have cW2:=zlD u (zcx ps[i.k]) (by omega)
   rw [hb0] at cF
   rw [hpt] at cW2 hu
   generalize ps[i.k]=p at *
   generalize (ziM p).1=ft at *
   simp only [List.cons_append,List.nil_append] at cW2 hu
   unfold pgA at cF
   have hpe:zd3 p=[.slice (p.vars.map zas),.slice (p.start.map zah),.slice (p.message.map zah),.slice (p.tick.map zah),.slice (p.input.map zah)]:=rfl
   (repeat' (first|refine Va (zpB @kz zo0 hlt' hlt hget hpe hw @List.length_append.{0} @List.length_cons.{0} @List.length_nil.{0}) ?_|(with_reducible first|refine SB.c ?_ ?_<;>intro _|exact zac)|refine CK.d0 znB cF ?_|refine CK.dx [0,2] [3] zfV cW2 ?_|with_reducible refine zab ?_|omega))
   exact ⟨nx,(WTe [0,1,3,2,4,5,6] (by simp [kwt,e1,hu]) (by simp [kwt,e1,hu])),by show _ - nx.k<_;rw [e1];omega⟩
  ·have hb0:(ziM ps[i.k]).2≠0:=by simpa [zl6] using hb
   have:=zgU (faults:=faults) hpr hmany i.k hlt i.no hb
   rw [hG] at this
   subst this
   have hb0':((ziM ps[i.k]).2 != 0)=true:=by simpa using hb0
   generalize ps[i.k]=p at *
   unfold pgA at cF
   have hpe:zd3 p=[.slice (p.vars.map zas),.slice (p.start.map zah),.slice (p.message.map zah),.slice (p.tick.map zah),.slice (p.input.map zah)]:=rfl
   (repeat' (first|refine Va (fA6 zo0 hlt' hlt hget hpe hb0') ?_|(with_reducible first|refine SB.c ?_ ?_<;>intro _|exact zac)|refine CK.d0 znB cF ?_|with_reducible refine zab ?_|omega))
 have hlt':¬ (i.k:Int)<ps.length:=by omega
 have hik:ps.take i.k=ps:=List.take_of_length_le (by omega)
 have hpg:=i.no
 rw [hik] at hpg hbl
 generalize hv:t0++ps.flatMap zcx=v at *
 have cW3:=zlD v [115,116,101,112,115,10] (by simp;omega)
 (repeat' (first|refine Va (fA5 @kz zo0 hlt' hik hv) ?_|(with_reducible first|refine SB.c ?_ ?_<;>intro _|exact zac)|refine CK.dx [0,2] [3] zfV cW3 ?_|with_reducible refine zab ?_|omega))
 generalize hv2:v++[115,116,101,112,115,10]=v2 at *
 have hvl:v2.length≤30010:=by rw [←hv2];simp;omega
 refine za6 (ι:=FsI l) (fun i=>⟨(jl 10 (.ref 0 0::jl 57 (.pv (.slice (l.map za7))::.pv (.int .i64 l.length)::.pv (.int .i64 i.k)::jl 17 []))),[bH 3 (v2++(l.take i.k).flatMap fun x=>zbk x++[10]).length,none,none,bB (v2++(l.take i.k).flatMap fun x=>zbk x++[10]),none,none,none]⟩) (fun i=>l.length - i.k) ⟨0,by omega,by simp⟩ WFn ?_
 intro m
 have hbl2:(v2++(l.take m.k).flatMap fun x=>zbk x++[10]).length≤60000:=by
  have:=zgg (fun x=>zbk x++[10]) 61 (fun x=>by have:=zho x;simp;omega) (l.take m.k)
  have hk:(l.take m.k).length≤400:=by simp;omega
  rw [List.length_append]
  have:61 * (l.take m.k).length≤61 * 400:=Nat.mul_le_mul_left _ hk
  omega
 by_cases hmt:m.k<l.length
 ·have hmt':(m.k:Int)<l.length:=by omega
  have hget:=zaN za7 l m.k hmt
  have cF:=zuj l[m.k] (hl _ (List.getElem_mem hmt))
  have hw:=zbc m.k (by omega)
  have hwl:=zpj l[m.k]
  have hbad:=zjC l[m.k]
  have hts:((l.take (m.k+1)).flatMap fun x=>zbk x++[10])=((l.take m.k).flatMap fun x=>zbk x++[10])++(zbk l[m.k]++[10]):=by
   rw [List.take_succ_eq_append_getElem hmt,List.flatMap_append];simp
  cases hb:zi5 l[m.k]
  ·obtain ⟨nx,e1⟩:∃ nx:FsI l,nx.k=m.k+1:=⟨m.next hmt hb,rfl⟩
   have hok:=zrK _ hb
   rw [hok] at cF hwl
   have hu:v2++((l.take (m.k+1)).flatMap fun x=>zbk x++[10])=(v2++(l.take m.k).flatMap fun x=>zbk x++[10])++(zbk l[m.k]++[10]):=by rw [hts];simp
   generalize (v2++(l.take m.k).flatMap fun x=>zbk x++[10])=u at *
   have cW2:=zlD u (zbk l[m.k]++[10]) (by dsimp only at hwl;omega)
   generalize l[m.k]=x at *
   generalize zbk x++[10]=lx at *
   have hxe:za7 x=[.int .i64 x.kind,.int .i64 x.proc,.int .i64 x.place,.int .i64 x.value]:=rfl
   unfold stA at cF
   (repeat' (first|refine Va (fA7 @kz zo0 hmt' hmt hget hxe hw) ?_|(with_reducible first|refine SB.c ?_ ?_<;>intro _|exact zac)|refine CK.d0 znC cF ?_|refine CK.dx [0,3] [4] zfV cW2 ?_|with_reducible refine zab ?_|omega))
   exact ⟨nx,(WTe [0,1,2,4,3,5,6] (by simp [kwt,e1,hu]) (by simp [kwt,e1,hu])),by show _ - nx.k<_;rw [e1];omega⟩
  ·have:=zeI (faults:=faults) hpr hmany hpg m.k hmt m.no hb
   rw [hG] at this
   subst this
   rw [hb] at hbad
   have hb0:(zcy l[m.k]).2≠0:=by simpa using hbad.symm
   have hb0':((zcy l[m.k]).2 != 0)=true:=by simpa using hb0
   generalize l[m.k]=x at *
   have hxe:za7 x=[.int .i64 x.kind,.int .i64 x.proc,.int .i64 x.place,.int .i64 x.value]:=rfl
   unfold stA at cF
   (repeat' (first|refine Va (fA6 zo0 hmt' hmt hget hxe hb0') ?_|(with_reducible first|refine SB.c ?_ ?_<;>intro _|exact zac)|refine CK.d0 znC cF ?_|with_reducible refine zab ?_|omega))
 ·have hmt':¬ (m.k:Int)<l.length:=by omega
  have hmk:l.take m.k=l:=List.take_of_length_le (by omega)
  have hno:=m.no
  rw [hmk] at hno hbl2
  have:=ziA (faults:=faults) hpr hmany hpg hno
  have hst2:zeG ps j faults l=v2++l.flatMap fun x=>zbk x++[10]:=by
   rw [←hv2,←hv,hft]
   simp [zeG,zfg]
  rw [hG,hst2] at this
  generalize hww:(v2++l.flatMap fun x=>zbk x++[10])=w at *
  have cL:=zwR w
  have cS:=zrp w
  by_cases hw:65536<w.length
  ·have hw':(w.length:Int) > 65536:=by omega
   rw [if_pos hw] at this
   subst this
   (repeat' (first|refine Va (fA6 @kz zo0 hmt' hmk hww hw') ?_|(with_reducible first|refine SB.c ?_ ?_<;>intro _|exact zac)|refine CK.dx [0,3] [] znD cL ?_|with_reducible refine zab ?_|omega))
  ·have hw':¬ (w.length:Int) > 65536:=by omega
   rw [if_neg hw] at this
   subst this
   (repeat' (first|refine Va (fA6 @kz zo0 hmt' hmk hww hw') ?_|(with_reducible first|refine SB.c ?_ ?_<;>intro _|exact zac)|refine CK.dx [0,3] [] znD cL ?_|refine CK.dx [0,3] [] zg8 cS ?_|with_reducible refine zab ?_|omega))
end Go.Proofs.YtfinhhblcdkpgaaGreatDoor
