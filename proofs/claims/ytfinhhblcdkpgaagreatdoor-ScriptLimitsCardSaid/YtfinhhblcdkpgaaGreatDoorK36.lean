/- The reference's writing of a script. No condition. -/
import Derived.Test.YtfinhhblcdkpgaaGreatDoorK5
import Derived.Test.YtfinhhblcdkpgaaGreatDoorK34
import Derived.Test.YtfinhhblcdkpgaaGreatDoorLib4
set_option maxRecDepth 100000
set_option maxHeartbeats 64000000
set_option linter.unusedSimpArgs false
set_option linter.unusedVariables false
set_option linter.defProp false
namespace Go.Proofs.YtfinhhblcdkpgaaGreatDoor
open Go Go.Abs Go.RowKit
theorem zrl (ps:List PgD) (protocol faults:Int) (l:List StD) (hp:∀ p ∈ ps,p=zq2) (hf:-9223372036854775808≤faults∧faults≤9223372036854775807) (hl:∀ x ∈ l,znl x=true) :
  AC Tryz.prog gl 10 [.pv (.slice (ps.map zjI)),.pv (.int .i64 protocol),.pv (.int .i64 faults),.pv (.slice (l.map zcw))] [] (.tup [.pv (.str (zcg ps protocol faults l).1),.pv (.int .i64 (zcg ps protocol faults l).2)]) []:=by
 generalize hG:zcg ps protocol faults l=G
 have cR:=zjD protocol
 by_cases h1:protocol<1∨8<protocol
 ·have:=zeO (ps:=ps) (faults:=faults) (l:=l) h1
  rw [hG] at this
  subst this
  have hpf:prF protocol=[]:=by unfold prF;rw [if_pos h1]
  rw [hpf] at cR
  refine zap (fun _=>0) 0 zB4 ?_
  repeat' first|refine Va zjc ?_|(with_reducible first|refine SB.c ?_ ?_<;>intro _|exact zad)|refine CK.d0 zeD cR ?_|with_reducible refine zac ?_|omega
 have hpr:=h1
 obtain ⟨j,rfl⟩:∃ j:Nat,protocol=j:=⟨protocol.toNat,by omega⟩
 have hj1:1≤j:=by omega
 have hj2:j≤8:=by omega
 have hne:(prF (j:Int)==[])=false:=by simpa using zCE j hj1 hj2
 by_cases hmany:ps=[]∨5<ps.length∨400<l.length
 ·have:=zhT (faults:=faults) hpr hmany
  rw [hG] at this
  subst this
  by_cases h3:ps=[]
  ·subst h3
   refine zap (fun _=>0) 0 zB4 ?_
   repeat' first|refine Va (fA2 zjc hne) ?_|(with_reducible first|refine SB.c ?_ ?_<;>intro _|exact zad)|refine CK.d0 zeD cR ?_|with_reducible refine zac ?_|omega
  ·have h3':¬ (ps.length:Int)<1:=by have:=List.length_pos_iff.2 h3;omega
   by_cases h4:(ps.length:Int) > 5
   ·refine zap (fun _=>0) 0 zB4 ?_
    repeat' first|refine Va (fA4 zjc hne h3' h4) ?_|(with_reducible first|refine SB.c ?_ ?_<;>intro _|exact zad)|refine CK.d0 zeD cR ?_|with_reducible refine zac ?_|omega
   ·have h5:(l.length:Int) > 400:=by
     rcases hmany with h|h|h
     ·exact absurd h h3
     ·omega
     ·omega
    refine zap (fun _=>0) 0 zB4 ?_
    repeat' first|refine Va (fA5 zjc hne h3' h4 h5) ?_|(with_reducible first|refine SB.c ?_ ?_<;>intro _|exact zad)|refine CK.d0 zeD cR ?_|with_reducible refine zac ?_|omega
 have h3':¬ (ps.length:Int)<1:=fun h=>hmany (.inl (List.eq_nil_of_length_eq_zero (by omega)))
 have h4:¬ (ps.length:Int) > 5:=fun h=>hmany (.inr (.inl (by omega)))
 have h5:¬ (l.length:Int) > 400:=fun h=>hmany (.inr (.inr (by omega)))
 have cI:=zlZ faults hf.1 hf.2
 have k1:=zoC j hj1 hj2
 have k2:=zdB faults
 have k3:=zkS j hj1 hj2 faults
 have hft:zga j faults=[112,114,111,116,111,99,111,108,32]++prF j++[32]++itT faults++[10]:=rfl
 generalize zga j faults=t0 at *
 simp only [List.cons_append,List.nil_append,List.append_assoc] at hft
 refine zap (fun _=>0) 1 zB4 ?_
 repeat' first|refine Va (zj4 zjc hne h3' h4 h5 @List.length_append.{0} @List.length_cons.{0} @List.length_nil.{0} @List.cons_append.{0} @List.append_assoc.{0}) ?_|(with_reducible first|refine SB.c ?_ ?_<;>intro _|exact zad)|refine CK.d0 zeD cR ?_|refine CK.d0 zgH cI ?_|with_reducible refine zac ?_|omega
 refine zaI (ι:=FpI ps) (fun i=>⟨(.pv (.slice (ps.map zjI))::.junk::.junk::.pv (.slice (l.map zcw))::jl 6 (.pv (.str (t0++(ps.take i.k).flatMap zc2))::.pv (.int .i64 i.k)::jl 110 [])),[none]⟩) (fun i=>ps.length - i.k) ⟨0,by omega,by simp⟩ (WFe (by simp [kwf,hft,List.append_assoc]) (by simp [kwf,hft,List.append_assoc])) ?_
 intro i
 have hbl:(t0++(ps.take i.k).flatMap zc2).length≤30000:=by
  have:=zha zc2 4110 zjJ (ps.take i.k)
  have hk:(ps.take i.k).length≤5:=by simp;omega
  rw [List.length_append]
  have:4110 * (ps.take i.k).length≤4110 * 5:=Nat.mul_le_mul_left _ hk
  omega
 by_cases hlt:i.k<ps.length
 ·have hlt':(i.k:Int)<ps.length:=by omega
  have hget:=zaA zjI ps i.k hlt
  have hpm:=hp ps[i.k] (List.getElem_mem hlt)
  have cF:=zoz ps[i.k] hpm
  have hw:=zaQ i.k (by omega)
  have hfl:=zl5 ps[i.k]
  have hts:(ps.take (i.k+1)).flatMap zc2=(ps.take i.k).flatMap zc2++zc2 ps[i.k]:=by
   rw [List.take_succ_eq_append_getElem hlt,List.flatMap_append];simp
  cases hb:znM ps[i.k]
  ·obtain ⟨nx,e1⟩:∃ nx:FpI ps,nx.k=i.k+1:=⟨i.next hlt hb,rfl⟩
   have hb0:(zkk ps[i.k]).2=0:=by simpa [znM] using hb
   have hpt:zc2 ps[i.k]=[112,114,111,99,101,115,115,10]++(zkk ps[i.k]).1++[101,110,100,10]:=rfl
   have hu:t0++(ps.take (i.k+1)).flatMap zc2=(t0++(ps.take i.k).flatMap zc2)++zc2 ps[i.k]:=by rw [hts];simp
   generalize t0++(ps.take i.k).flatMap zc2=u at *
   rw [hb0] at cF
   rw [hpt] at hu
   generalize ps[i.k]=p at *
   generalize (zkk p).1=ft at *
   simp only [List.cons_append,List.nil_append] at hu
   unfold pgA at cF
   have hpe:zjI p=[.slice (p.vars.map zat),.slice (p.start.map zai),.slice (p.message.map zai),.slice (p.tick.map zai),.slice (p.input.map zai)]:=rfl
   repeat' first|refine Va (fA9 zjc hlt' hlt hget hpe hw @List.length_append.{0} @List.length_cons.{0} @List.length_nil.{0}) ?_|(with_reducible first|refine SB.c ?_ ?_<;>intro _|exact zad)|refine CK.d0 zpj cF ?_|with_reducible refine zac ?_|omega
   exact ⟨nx,(WFe (by simp [kwf,e1,hu]) (by simp [kwf,e1,hu])),by show _ - nx.k<_;rw [e1];omega⟩
  ·have hb0:(zkk ps[i.k]).2≠0:=by simpa [znM] using hb
   have:=zhU (faults:=faults) hpr hmany i.k hlt i.no hb
   rw [hG] at this
   subst this
   have hb0':((zkk ps[i.k]).2 != 0)=true:=by simpa using hb0
   generalize ps[i.k]=p at *
   unfold pgA at cF
   have hpe:zjI p=[.slice (p.vars.map zat),.slice (p.start.map zai),.slice (p.message.map zai),.slice (p.tick.map zai),.slice (p.input.map zai)]:=rfl
   repeat' first|refine Va (fA6 zjc hlt' hlt hget hpe hb0') ?_|(with_reducible first|refine SB.c ?_ ?_<;>intro _|exact zad)|refine CK.d0 zpj cF ?_|with_reducible refine zac ?_|omega
 have hlt':¬ (i.k:Int)<ps.length:=by omega
 have hik:ps.take i.k=ps:=List.take_of_length_le (by omega)
 have hpg:=i.no
 rw [hik] at hpg hbl
 generalize hv:t0++ps.flatMap zc2=v at *
 repeat' first|refine Va (fA6 zjc hlt' hik hv @List.length_cons.{0} @List.length_nil.{0}) ?_|(with_reducible first|refine SB.c ?_ ?_<;>intro _|exact zad)|with_reducible refine zac ?_|omega
 generalize hv2:v++[115,116,101,112,115,10]=v2 at *
 have hvl:v2.length≤30010:=by rw [←hv2];simp;omega
 refine zaI (ι:=FsI l) (fun i=>⟨(jl 3 (.pv (.slice (l.map zcw))::jl 6 (.pv (.str (v2++(l.take i.k).flatMap fun x=>zaO x++[10]))::jl 3 (.pv (.int .i64 i.k)::jl 107 [])))),[none]⟩) (fun i=>l.length - i.k) ⟨0,by omega,by simp⟩ (WFe (by simp [kwf,hv2]) (by simp [kwf,hv2])) ?_
 intro m
 have hbl2:(v2++(l.take m.k).flatMap fun x=>zaO x++[10]).length≤60000:=by
  have:=zha (fun x=>zaO x++[10]) 61 (fun x=>by have:=zix x;simp;omega) (l.take m.k)
  have hk:(l.take m.k).length≤400:=by simp;omega
  rw [List.length_append]
  have:61 * (l.take m.k).length≤61 * 400:=Nat.mul_le_mul_left _ hk
  omega
 by_cases hmt:m.k<l.length
 ·have hmt':(m.k:Int)<l.length:=by omega
  have hget:=zaA zcw l m.k hmt
  have hrg:=hl l[m.k] (List.getElem_mem hmt)
  have cL:=zbZ l[m.k] hrg
  have cW:=zlW l[m.k].kind
  have cS:=zl0 l[m.k].kind
  have hw:=zaQ m.k (by omega)
  have hll:=zix l[m.k]
  have hbad:=zkT l[m.k]
  have hts:((l.take (m.k+1)).flatMap fun x=>zaO x++[10])=((l.take m.k).flatMap fun x=>zaO x++[10])++(zaO l[m.k]++[10]):=by
   rw [List.take_succ_eq_append_getElem hmt,List.flatMap_append];simp
  by_cases hwd:wdF l[m.k].kind=[]
  ·have hb:zkm l[m.k]=true:=by simp [zkm,hwd]
   have hwf:zc3 l[m.k]=([],17):=by unfold zc3;rw [if_pos hwd]
   have:=zft (faults:=faults) hpr hmany hpg m.k hmt m.no hb
   rw [hG,hwf] at this
   subst this
   rw [hwd] at cW
   generalize l[m.k]=x at *
   have hxe:zcw x=[.int .i64 x.kind,.int .i64 x.proc,.int .i64 x.place,.int .i64 x.value]:=rfl
   repeat' first|refine Va (fA5 zjc hmt' hmt hget hxe) ?_|(with_reducible first|refine SB.c ?_ ?_<;>intro _|exact zad)|refine CK.d0 zaB cW ?_|with_reducible refine zac ?_|omega
  have hwd':(wdF l[m.k].kind==[])=false:=by simpa using hwd
  cases hz:zc1 l[m.k]
  ·have hb:zkm l[m.k]=true:=by simp [zkm,hz]
   have hwf:zc3 l[m.k]=([],7):=by unfold zc3;rw [if_neg hwd,if_pos hz]
   have:=zft (faults:=faults) hpr hmany hpg m.k hmt m.no hb
   rw [hG,hwf] at this
   subst this
   clear hts hll hrg cL hb hwf hbad
   generalize l[m.k]=x at *
   have hxe:zcw x=[.int .i64 x.kind,.int .i64 x.proc,.int .i64 x.place,.int .i64 x.value]:=rfl
   rcases zch x.kind with ⟨_,hsh⟩|⟨_,hsh⟩|⟨_,hsh⟩|⟨_,_,_,_,_,_,_,_,_,_,_,hsh⟩
   ·rw [hsh] at cS
    replace cS:AC Tryz.prog gl 29 [.pv (.int .i64 x.kind)] [] (.tup [.pv (.bool true),.pv (.bool false),.pv (.bool false)]) []:=cS
    simp only [zc1,hsh] at hz
    by_cases h0:x.proc=0
    ·have z1:(x.value != 0)=true:=by simp [h0] at hz;simpa using hz
     repeat' first|refine Va (fA8 zjc hmt' hmt hget hxe hwd' h0 z1) ?_|(with_reducible first|refine SB.c ?_ ?_<;>intro _|exact zad)|refine CK.d0 zaB cW ?_|refine CK.d0 zaH cS ?_|with_reducible refine zac ?_|omega
    ·have z0:(x.proc != 0)=true:=by simpa using h0
     repeat' first|refine Va (fA7 zjc hmt' hmt hget hxe hwd' z0) ?_|(with_reducible first|refine SB.c ?_ ?_<;>intro _|exact zad)|refine CK.d0 zaB cW ?_|refine CK.d0 zaH cS ?_|with_reducible refine zac ?_|omega
   ·rw [hsh] at cS
    replace cS:AC Tryz.prog gl 29 [.pv (.int .i64 x.kind)] [] (.tup [.pv (.bool false),.pv (.bool true),.pv (.bool true)]) []:=cS
    simp only [zc1,hsh] at hz
    have z0:(x.place != 0)=true:=by simpa using hz
    repeat' first|refine Va (fA7 zjc hmt' hmt hget hxe hwd' z0) ?_|(with_reducible first|refine SB.c ?_ ?_<;>intro _|exact zad)|refine CK.d0 zaB cW ?_|refine CK.d0 zaH cS ?_|with_reducible refine zac ?_|omega
   ·rw [hsh] at cS
    replace cS:AC Tryz.prog gl 29 [.pv (.int .i64 x.kind)] [] (.tup [.pv (.bool false),.pv (.bool true),.pv (.bool false)]) []:=cS
    simp only [zc1,hsh] at hz
    by_cases h0:x.place=0
    ·have z1:(x.value != 0)=true:=by simp [h0] at hz;simpa using hz
     repeat' first|refine Va (fA8 zjc hmt' hmt hget hxe hwd' h0 z1) ?_|(with_reducible first|refine SB.c ?_ ?_<;>intro _|exact zad)|refine CK.d0 zaB cW ?_|refine CK.d0 zaH cS ?_|with_reducible refine zac ?_|omega
    ·have z0:(x.place != 0)=true:=by simpa using h0
     repeat' first|refine Va (fA7 zjc hmt' hmt hget hxe hwd' z0) ?_|(with_reducible first|refine SB.c ?_ ?_<;>intro _|exact zad)|refine CK.d0 zaB cW ?_|refine CK.d0 zaH cS ?_|with_reducible refine zac ?_|omega
   ·rw [hsh] at cS
    replace cS:AC Tryz.prog gl 29 [.pv (.int .i64 x.kind)] [] (.tup [.pv (.bool false),.pv (.bool false),.pv (.bool false)]) []:=cS
    simp only [zc1,hsh] at hz
    by_cases h0:x.place=0
    ·by_cases h1:x.proc=0
     ·have z2:(x.value != 0)=true:=by simp [h0,h1] at hz;simpa using hz
      repeat' first|refine Va (fA9 zjc hmt' hmt hget hxe hwd' h0 h1 z2) ?_|(with_reducible first|refine SB.c ?_ ?_<;>intro _|exact zad)|refine CK.d0 zaB cW ?_|refine CK.d0 zaH cS ?_|with_reducible refine zac ?_|omega
     ·have z1:(x.proc != 0)=true:=by simpa using h1
      repeat' first|refine Va (fA8 zjc hmt' hmt hget hxe hwd' h0 z1) ?_|(with_reducible first|refine SB.c ?_ ?_<;>intro _|exact zad)|refine CK.d0 zaB cW ?_|refine CK.d0 zaH cS ?_|with_reducible refine zac ?_|omega
    ·have z0:(x.place != 0)=true:=by simpa using h0
     repeat' first|refine Va (fA7 zjc hmt' hmt hget hxe hwd' z0) ?_|(with_reducible first|refine SB.c ?_ ?_<;>intro _|exact zad)|refine CK.d0 zaB cW ?_|refine CK.d0 zaH cS ?_|with_reducible refine zac ?_|omega
  ·have hb:zkm l[m.k]=false:=by simp [zkm,hz,hwd]
   obtain ⟨nx,e1⟩:∃ nx:FsI l,nx.k=m.k+1:=⟨m.next hmt hb,rfl⟩
   have hu:v2++((l.take (m.k+1)).flatMap fun x=>zaO x++[10])=(v2++(l.take m.k).flatMap fun x=>zaO x++[10])++(zaO l[m.k]++[10]):=by rw [hts];simp
   generalize (v2++(l.take m.k).flatMap fun x=>zaO x++[10])=u at *
   clear hts hb hbad hrg
   generalize l[m.k]=x at *
   generalize zaO x=lx at *
   unfold stA at cL
   have hxe:zcw x=[.int .i64 x.kind,.int .i64 x.proc,.int .i64 x.place,.int .i64 x.value]:=rfl
   rcases zch x.kind with ⟨_,hsh⟩|⟨_,hsh⟩|⟨_,hsh⟩|⟨_,_,_,_,_,_,_,_,_,_,_,hsh⟩
   ·rw [hsh] at cS
    replace cS:AC Tryz.prog gl 29 [.pv (.int .i64 x.kind)] [] (.tup [.pv (.bool true),.pv (.bool false),.pv (.bool false)]) []:=cS
    simp only [zc1,hsh,Bool.and_eq_true,beq_iff_eq] at hz
    simp only [hz] at cL
    repeat' first|refine Va (zfA zjc hmt' hmt hget hxe hwd' hz hw @List.length_append.{0} @List.length_cons.{0} @List.length_nil.{0}) ?_|(with_reducible first|refine SB.c ?_ ?_<;>intro _|exact zad)|refine CK.d0 zaB cW ?_|refine CK.d0 zaH cS ?_|refine CK.d0 zbn cL ?_|with_reducible refine zac ?_|omega
    exact ⟨nx,(WFe (by simp [kwf,e1,hu]) (by simp [kwf,e1,hu])),by show _ - nx.k<_;rw [e1];omega⟩
   ·rw [hsh] at cS
    replace cS:AC Tryz.prog gl 29 [.pv (.int .i64 x.kind)] [] (.tup [.pv (.bool false),.pv (.bool true),.pv (.bool true)]) []:=cS
    simp only [zc1,hsh,Bool.and_eq_true,beq_iff_eq] at hz
    simp only [hz] at cL
    repeat' first|refine Va (zfA zjc hmt' hmt hget hxe hwd' hz hw @List.length_append.{0} @List.length_cons.{0} @List.length_nil.{0}) ?_|(with_reducible first|refine SB.c ?_ ?_<;>intro _|exact zad)|refine CK.d0 zaB cW ?_|refine CK.d0 zaH cS ?_|refine CK.d0 zbn cL ?_|with_reducible refine zac ?_|omega
    exact ⟨nx,(WFe (by simp [kwf,e1,hu]) (by simp [kwf,e1,hu])),by show _ - nx.k<_;rw [e1];omega⟩
   ·rw [hsh] at cS
    replace cS:AC Tryz.prog gl 29 [.pv (.int .i64 x.kind)] [] (.tup [.pv (.bool false),.pv (.bool true),.pv (.bool false)]) []:=cS
    simp only [zc1,hsh,Bool.and_eq_true,beq_iff_eq] at hz
    simp only [hz] at cL
    repeat' first|refine Va (zfA zjc hmt' hmt hget hxe hwd' hz hw @List.length_append.{0} @List.length_cons.{0} @List.length_nil.{0}) ?_|(with_reducible first|refine SB.c ?_ ?_<;>intro _|exact zad)|refine CK.d0 zaB cW ?_|refine CK.d0 zaH cS ?_|refine CK.d0 zbn cL ?_|with_reducible refine zac ?_|omega
    exact ⟨nx,(WFe (by simp [kwf,e1,hu]) (by simp [kwf,e1,hu])),by show _ - nx.k<_;rw [e1];omega⟩
   ·rw [hsh] at cS
    replace cS:AC Tryz.prog gl 29 [.pv (.int .i64 x.kind)] [] (.tup [.pv (.bool false),.pv (.bool false),.pv (.bool false)]) []:=cS
    simp only [zc1,hsh,Bool.and_eq_true,beq_iff_eq] at hz
    simp only [hz] at cL
    repeat' first|refine Va (zfA zjc hmt' hmt hget hxe hwd' hz hw @List.length_append.{0} @List.length_cons.{0} @List.length_nil.{0}) ?_|(with_reducible first|refine SB.c ?_ ?_<;>intro _|exact zad)|refine CK.d0 zaB cW ?_|refine CK.d0 zaH cS ?_|refine CK.d0 zbn cL ?_|with_reducible refine zac ?_|omega
    exact ⟨nx,(WFe (by simp [kwf,e1,hu]) (by simp [kwf,e1,hu])),by show _ - nx.k<_;rw [e1];omega⟩
 ·have hmt':¬ (m.k:Int)<l.length:=by omega
  have hmk:l.take m.k=l:=List.take_of_length_le (by omega)
  have hno:=m.no
  rw [hmk] at hno hbl2
  have:=zjK (faults:=faults) hpr hmany hpg hno
  have hst2:zfs ps j faults l=v2++l.flatMap fun x=>zaO x++[10]:=by
   rw [←hv2,←hv,hft]
   simp [zfs,zga]
  rw [hG,hst2] at this
  generalize hww:(v2++l.flatMap fun x=>zaO x++[10])=w at *
  by_cases hw:65536<w.length
  ·have hw':(w.length:Int) > 65536:=by omega
   rw [if_pos hw] at this
   subst this
   repeat' first|refine Va (fA5 zjc hmt' hmk hww hw') ?_|(with_reducible first|refine SB.c ?_ ?_<;>intro _|exact zad)|with_reducible refine zac ?_|omega
  ·have hw':¬ (w.length:Int) > 65536:=by omega
   rw [if_neg hw] at this
   subst this
   repeat' first|refine Va (fA5 zjc hmt' hmk hww hw') ?_|(with_reducible first|refine SB.c ?_ ?_<;>intro _|exact zad)|with_reducible refine zac ?_|omega
end Go.Proofs.YtfinhhblcdkpgaaGreatDoor
