/- The reference's writing of a script. No condition. -/
import Derived.Test.YtfinhhblcdkpgaaGreatDoorLib2
import Derived.Test.YtfinhhblcdkpgaaGreatDoorK5
import Derived.Test.YtfinhhblcdkpgaaGreatDoorW7
import Derived.Test.YtfinhhblcdkpgaaGreatDoorLib3
set_option maxRecDepth 100000
set_option maxHeartbeats 64000000
set_option linter.unusedSimpArgs false
set_option linter.unusedVariables false
namespace Go.Proofs.YtfinhhblcdkpgaaGreatDoor
open Go Go.Abs Go.RowKit
theorem zso (ps:List PgD) (protocol faults:Int) (l:List StD) (hp:∀ p ∈ ps,szP p≤1000000∧rgP p=true) (hf:-9223372036854775808≤faults∧faults≤9223372036854775807) (hl:∀ x ∈ l,zqv x=true) :
  AC Tryz.prog gl 10 [.pv (.slice (ps.map zkU)),.pv (.int .i64 protocol),.pv (.int .i64 faults),.pv (.slice (l.map zcw))] [] (.tup [.pv (.str (zcC ps protocol faults l).1),.pv (.int .i64 (zcC ps protocol faults l).2)]) []:=by
 generalize hG:zcC ps protocol faults l=G
 have cR:=zkf protocol
 by_cases h1:protocol<1∨8<protocol
 ·have:=zmD (ps:=ps) (faults:=faults) (l:=l) h1
  rw [hG] at this
  subst this
  have hpf:prF protocol=[]:=by unfold prF;rw [if_pos h1]
  rw [hpf] at cR
  refine zas (fun _=>0) 0 zDr ?_
  refine Wk0 (fA2 zjH (CE.mk zeU cR))
 have hpr:=h1
 obtain ⟨j,rfl⟩:∃ j:Nat,protocol=j:=⟨protocol.toNat,by omega⟩
 have hj1:1≤j:=by omega
 have hj2:j≤8:=by omega
 have hne:(prF (j:Int)==[])=false:=by simpa using zEe j hj1 hj2
 by_cases hmany:ps=[]∨5<ps.length∨400<l.length
 ·have:=znZ (faults:=faults) hpr hmany
  rw [hG] at this
  subst this
  by_cases h3:ps=[]
  ·subst h3
   refine zas (fun _=>0) 0 zDr ?_
   refine Wk0 (fA3 zjH hne (CE.mk zeU cR))
  ·have h3':¬ (ps.length:Int)<1:=by have:=List.length_pos_iff.2 h3;omega
   by_cases h4:(ps.length:Int) > 5
   ·refine zas (fun _=>0) 0 zDr ?_
    refine Wk0 (fA5 zjH hne h3' h4 (CE.mk zeU cR))
   ·have h5:(l.length:Int) > 400:=by
     rcases hmany with h|h|h
     ·exact absurd h h3
     ·omega
     ·omega
    refine zas (fun _=>0) 0 zDr ?_
    refine Wk0 (fA6 zjH hne h3' h4 h5 (CE.mk zeU cR))
 have h3':¬ (ps.length:Int)<1:=fun h=>hmany (.inl (List.eq_nil_of_length_eq_zero (by omega)))
 have h4:¬ (ps.length:Int) > 5:=fun h=>hmany (.inr (.inl (by omega)))
 have h5:¬ (l.length:Int) > 400:=fun h=>hmany (.inr (.inr (by omega)))
 have cI:=zmr faults hf.1 hf.2
 have k1:=zu0 j hj1 hj2
 have k2:=zeA faults
 have k3:=zsi j hj1 hj2 faults
 have hft:zlk j faults=[112,114,111,116,111,99,111,108,32]++prF j++[32]++itT faults++[10]:=rfl
 generalize zlk j faults=t0 at *
 simp only [List.cons_append,List.nil_append,List.append_assoc] at hft
 refine zas (fun _=>0) 1 zDr ?_
 repeat' first|refine Va (zgj zjH hne h3' h4 h5 @List.length_append.{0} @List.length_cons.{0} @List.length_nil.{0} @List.cons_append.{0} @List.append_assoc.{0}) ?_|(with_reducible first|refine SB.c ?_ ?_<;>intro _|exact zak)|refine CK.d0 zeU cR ?_|refine CK.d0 zhe cI ?_|with_reducible refine zaj ?_|omega
 refine zaK (ι:=FpI ps) (fun i=>⟨(.pv (.slice (ps.map zkU))::.junk::.junk::.pv (.slice (l.map zcw))::jl 6 (.pv (.str (t0++(ps.take i.k).flatMap zgS))::.pv (.int .i64 i.k)::jl 110 [])),[none]⟩) (fun i=>ps.length - i.k) ⟨0,by omega,by simp⟩ (WFe (by simp [kwf,hft,List.append_assoc]) (by simp [kwf,hft,List.append_assoc])) ?_
 intro i
 have hbl:(t0++(ps.take i.k).flatMap zgS).length≤30000:=by
  have:=zmC zgS 4110 zu1 (ps.take i.k)
  have hk:(ps.take i.k).length≤5:=by simp;omega
  rw [List.length_append]
  have:4110 * (ps.take i.k).length≤4110 * 5:=Nat.mul_le_mul_left _ hk
  omega
 by_cases hlt:i.k<ps.length
 ·have hlt':(i.k:Int)<ps.length:=by omega
  have hget:=zaE zkU ps i.k hlt
  have hpm:=hp ps[i.k] (List.getElem_mem hlt)
  have cF:=zsn ps[i.k] hpm.1 hpm.2
  have hw:=zaP i.k (by omega)
  have hfl:=zqR ps[i.k]
  have hts:(ps.take (i.k+1)).flatMap zgS=(ps.take i.k).flatMap zgS++zgS ps[i.k]:=by
   rw [List.take_succ_eq_append_getElem hlt,List.flatMap_append];simp
  cases hb:zrY ps[i.k]
  ·obtain ⟨nx,e1⟩:∃ nx:FpI ps,nx.k=i.k+1:=⟨i.next hlt hb,rfl⟩
   have hb0:(zqp ps[i.k]).2=0:=by simpa [zrY] using hb
   have hpt:zgS ps[i.k]=[112,114,111,99,101,115,115,10]++(zqp ps[i.k]).1++[101,110,100,10]:=rfl
   have hu:t0++(ps.take (i.k+1)).flatMap zgS=(t0++(ps.take i.k).flatMap zgS)++zgS ps[i.k]:=by rw [hts];simp
   generalize t0++(ps.take i.k).flatMap zgS=u at *
   rw [hb0] at cF
   rw [hpt] at hu
   generalize ps[i.k]=p at *
   generalize (zqp p).1=ft at *
   simp only [List.cons_append,List.nil_append] at hu
   unfold pgA at cF
   have hpe:zkU p=[.slice (p.vars.map zav),.slice (p.start.map zah),.slice (p.message.map zah),.slice (p.tick.map zah),.slice (p.input.map zah)]:=rfl
   repeat' first|refine Va (fA9 zjH hlt' hlt hget hpe hw @List.length_append.{0} @List.length_cons.{0} @List.length_nil.{0}) ?_|(with_reducible first|refine SB.c ?_ ?_<;>intro _|exact zak)|refine CK.d0 zp5 cF ?_|with_reducible refine zaj ?_|omega
   exact ⟨nx,(WFe (by simp [kwf,e1,hu]) (by simp [kwf,e1,hu])),by show _ - nx.k<_;rw [e1];omega⟩
  ·have hb0:(zqp ps[i.k]).2≠0:=by simpa [zrY] using hb
   have:=zn0 (faults:=faults) hpr hmany i.k hlt i.no hb
   rw [hG] at this
   subst this
   have hb0':((zqp ps[i.k]).2 != 0)=true:=by simpa using hb0
   generalize ps[i.k]=p at *
   unfold pgA at cF
   have hpe:zkU p=[.slice (p.vars.map zav),.slice (p.start.map zah),.slice (p.message.map zah),.slice (p.tick.map zah),.slice (p.input.map zah)]:=rfl
   refine Wk0 (fA7 zjH hlt' hlt hget hpe hb0' (CE.mk zp5 cF))
 have hlt':¬ (i.k:Int)<ps.length:=by omega
 have hik:ps.take i.k=ps:=List.take_of_length_le (by omega)
 have hpg:=i.no
 rw [hik] at hpg hbl
 generalize hv:t0++ps.flatMap zgS=v at *
 repeat' first|refine Va (fA6 zjH hlt' hik hv @List.length_cons.{0} @List.length_nil.{0}) ?_|(with_reducible first|refine SB.c ?_ ?_<;>intro _|exact zak)|with_reducible refine zaj ?_|omega
 generalize hv2:v++[115,116,101,112,115,10]=v2 at *
 have hvl:v2.length≤30010:=by rw [←hv2];simp;omega
 refine zaK (ι:=FsI l) (fun i=>⟨(jl 3 (.pv (.slice (l.map zcw))::jl 6 (.pv (.str (v2++(l.take i.k).flatMap fun x=>zbf x++[10]))::jl 3 (.pv (.int .i64 i.k)::jl 107 [])))),[none]⟩) (fun i=>l.length - i.k) ⟨0,by omega,by simp⟩ (WFe (by simp [kwf,hv2]) (by simp [kwf,hv2])) ?_
 intro m
 have hbl2:(v2++(l.take m.k).flatMap fun x=>zbf x++[10]).length≤60000:=by
  have:=zmC (fun x=>zbf x++[10]) 61 (fun x=>by have:=zqQ x;simp;omega) (l.take m.k)
  have hk:(l.take m.k).length≤400:=by simp;omega
  rw [List.length_append]
  have:61 * (l.take m.k).length≤61 * 400:=Nat.mul_le_mul_left _ hk
  omega
 by_cases hmt:m.k<l.length
 ·have hmt':(m.k:Int)<l.length:=by omega
  have hget:=zaE zcw l m.k hmt
  have hrg:=hl l[m.k] (List.getElem_mem hmt)
  have cL:=zb8 l[m.k] hrg
  have cW:=zmo l[m.k].kind
  have cS:=zms l[m.k].kind
  have hw:=zaP m.k (by omega)
  have hll:=zqQ l[m.k]
  have hbad:=zsj l[m.k]
  have hts:((l.take (m.k+1)).flatMap fun x=>zbf x++[10])=((l.take m.k).flatMap fun x=>zbf x++[10])++(zbf l[m.k]++[10]):=by
   rw [List.take_succ_eq_append_getElem hmt,List.flatMap_append];simp
  by_cases hwd:wdF l[m.k].kind=[]
  ·have hb:zmR l[m.k]=true:=by simp [zmR,hwd]
   have hwf:zhJ l[m.k]=([],17):=by unfold zhJ;rw [if_pos hwd]
   have:=ziD (faults:=faults) hpr hmany hpg m.k hmt m.no hb
   rw [hG,hwf] at this
   subst this
   rw [hwd] at cW
   generalize l[m.k]=x at *
   have hxe:zcw x=[.int .i64 x.kind,.int .i64 x.proc,.int .i64 x.place,.int .i64 x.value]:=rfl
   refine Wk0 (fA6 zjH hmt' hmt hget hxe (CE.mk zaF cW))
  have hwd':(wdF l[m.k].kind==[])=false:=by simpa using hwd
  cases hz:zeB l[m.k]
  ·have hb:zmR l[m.k]=true:=by simp [zmR,hz]
   have hwf:zhJ l[m.k]=([],7):=by unfold zhJ;rw [if_neg hwd,if_pos hz]
   have:=ziD (faults:=faults) hpr hmany hpg m.k hmt m.no hb
   rw [hG,hwf] at this
   subst this
   clear hts hll hrg cL hb hwf hbad
   generalize l[m.k]=x at *
   have hxe:zcw x=[.int .i64 x.kind,.int .i64 x.proc,.int .i64 x.place,.int .i64 x.value]:=rfl
   rcases zcs x.kind with ⟨_,hsh⟩|⟨_,hsh⟩|⟨_,hsh⟩|⟨_,_,_,_,_,_,_,_,_,_,_,hsh⟩
   ·rw [hsh] at cS
    replace cS:AC Tryz.prog gl 29 [.pv (.int .i64 x.kind)] [] (.tup [.pv (.bool true),.pv (.bool false),.pv (.bool false)]) []:=cS
    simp only [zeB,hsh] at hz
    by_cases h0:x.proc=0
    ·have z1:(x.value != 0)=true:=by simp [h0] at hz;simpa using hz
     refine Wk0 (zgj zjH hmt' hmt hget hxe hwd' h0 z1 (CE.mk zaF cW) (CE.mk zaI cS))
    ·have z0:(x.proc != 0)=true:=by simpa using h0
     refine Wk0 (fA9 zjH hmt' hmt hget hxe hwd' z0 (CE.mk zaF cW) (CE.mk zaI cS))
   ·rw [hsh] at cS
    replace cS:AC Tryz.prog gl 29 [.pv (.int .i64 x.kind)] [] (.tup [.pv (.bool false),.pv (.bool true),.pv (.bool true)]) []:=cS
    simp only [zeB,hsh] at hz
    have z0:(x.place != 0)=true:=by simpa using hz
    refine Wk0 (fA9 zjH hmt' hmt hget hxe hwd' z0 (CE.mk zaF cW) (CE.mk zaI cS))
   ·rw [hsh] at cS
    replace cS:AC Tryz.prog gl 29 [.pv (.int .i64 x.kind)] [] (.tup [.pv (.bool false),.pv (.bool true),.pv (.bool false)]) []:=cS
    simp only [zeB,hsh] at hz
    by_cases h0:x.place=0
    ·have z1:(x.value != 0)=true:=by simp [h0] at hz;simpa using hz
     refine Wk0 (zgj zjH hmt' hmt hget hxe hwd' h0 z1 (CE.mk zaF cW) (CE.mk zaI cS))
    ·have z0:(x.place != 0)=true:=by simpa using h0
     refine Wk0 (fA9 zjH hmt' hmt hget hxe hwd' z0 (CE.mk zaF cW) (CE.mk zaI cS))
   ·rw [hsh] at cS
    replace cS:AC Tryz.prog gl 29 [.pv (.int .i64 x.kind)] [] (.tup [.pv (.bool false),.pv (.bool false),.pv (.bool false)]) []:=cS
    simp only [zeB,hsh] at hz
    by_cases h0:x.place=0
    ·by_cases h1:x.proc=0
     ·have z2:(x.value != 0)=true:=by simp [h0,h1] at hz;simpa using hz
      refine Wk0 (zg7 zjH hmt' hmt hget hxe hwd' h0 h1 z2 (CE.mk zaF cW) (CE.mk zaI cS))
     ·have z1:(x.proc != 0)=true:=by simpa using h1
      refine Wk0 (zgj zjH hmt' hmt hget hxe hwd' h0 z1 (CE.mk zaF cW) (CE.mk zaI cS))
    ·have z0:(x.place != 0)=true:=by simpa using h0
     refine Wk0 (fA9 zjH hmt' hmt hget hxe hwd' z0 (CE.mk zaF cW) (CE.mk zaI cS))
  ·have hb:zmR l[m.k]=false:=by simp [zmR,hz,hwd]
   obtain ⟨nx,e1⟩:∃ nx:FsI l,nx.k=m.k+1:=⟨m.next hmt hb,rfl⟩
   have hu:v2++((l.take (m.k+1)).flatMap fun x=>zbf x++[10])=(v2++(l.take m.k).flatMap fun x=>zbf x++[10])++(zbf l[m.k]++[10]):=by rw [hts];simp
   generalize (v2++(l.take m.k).flatMap fun x=>zbf x++[10])=u at *
   clear hts hb hbad hrg
   generalize l[m.k]=x at *
   generalize zbf x=lx at *
   unfold stA at cL
   have hxe:zcw x=[.int .i64 x.kind,.int .i64 x.proc,.int .i64 x.place,.int .i64 x.value]:=rfl
   rcases zcs x.kind with ⟨_,hsh⟩|⟨_,hsh⟩|⟨_,hsh⟩|⟨_,_,_,_,_,_,_,_,_,_,_,hsh⟩
   ·rw [hsh] at cS
    replace cS:AC Tryz.prog gl 29 [.pv (.int .i64 x.kind)] [] (.tup [.pv (.bool true),.pv (.bool false),.pv (.bool false)]) []:=cS
    simp only [zeB,hsh,Bool.and_eq_true,beq_iff_eq] at hz
    simp only [hz] at cL
    repeat' first|refine Va (zg7 zjH hmt' hmt hget hxe hwd' hz hw @List.length_append.{0} @List.length_cons.{0} @List.length_nil.{0}) ?_|(with_reducible first|refine SB.c ?_ ?_<;>intro _|exact zak)|refine CK.d0 zaF cW ?_|refine CK.d0 zaI cS ?_|refine CK.d0 zbs cL ?_|with_reducible refine zaj ?_|omega
    exact ⟨nx,(WFe (by simp [kwf,e1,hu]) (by simp [kwf,e1,hu])),by show _ - nx.k<_;rw [e1];omega⟩
   ·rw [hsh] at cS
    replace cS:AC Tryz.prog gl 29 [.pv (.int .i64 x.kind)] [] (.tup [.pv (.bool false),.pv (.bool true),.pv (.bool true)]) []:=cS
    simp only [zeB,hsh,Bool.and_eq_true,beq_iff_eq] at hz
    simp only [hz] at cL
    repeat' first|refine Va (zg7 zjH hmt' hmt hget hxe hwd' hz hw @List.length_append.{0} @List.length_cons.{0} @List.length_nil.{0}) ?_|(with_reducible first|refine SB.c ?_ ?_<;>intro _|exact zak)|refine CK.d0 zaF cW ?_|refine CK.d0 zaI cS ?_|refine CK.d0 zbs cL ?_|with_reducible refine zaj ?_|omega
    exact ⟨nx,(WFe (by simp [kwf,e1,hu]) (by simp [kwf,e1,hu])),by show _ - nx.k<_;rw [e1];omega⟩
   ·rw [hsh] at cS
    replace cS:AC Tryz.prog gl 29 [.pv (.int .i64 x.kind)] [] (.tup [.pv (.bool false),.pv (.bool true),.pv (.bool false)]) []:=cS
    simp only [zeB,hsh,Bool.and_eq_true,beq_iff_eq] at hz
    simp only [hz] at cL
    repeat' first|refine Va (zg7 zjH hmt' hmt hget hxe hwd' hz hw @List.length_append.{0} @List.length_cons.{0} @List.length_nil.{0}) ?_|(with_reducible first|refine SB.c ?_ ?_<;>intro _|exact zak)|refine CK.d0 zaF cW ?_|refine CK.d0 zaI cS ?_|refine CK.d0 zbs cL ?_|with_reducible refine zaj ?_|omega
    exact ⟨nx,(WFe (by simp [kwf,e1,hu]) (by simp [kwf,e1,hu])),by show _ - nx.k<_;rw [e1];omega⟩
   ·rw [hsh] at cS
    replace cS:AC Tryz.prog gl 29 [.pv (.int .i64 x.kind)] [] (.tup [.pv (.bool false),.pv (.bool false),.pv (.bool false)]) []:=cS
    simp only [zeB,hsh,Bool.and_eq_true,beq_iff_eq] at hz
    simp only [hz] at cL
    repeat' first|refine Va (zg7 zjH hmt' hmt hget hxe hwd' hz hw @List.length_append.{0} @List.length_cons.{0} @List.length_nil.{0}) ?_|(with_reducible first|refine SB.c ?_ ?_<;>intro _|exact zak)|refine CK.d0 zaF cW ?_|refine CK.d0 zaI cS ?_|refine CK.d0 zbs cL ?_|with_reducible refine zaj ?_|omega
    exact ⟨nx,(WFe (by simp [kwf,e1,hu]) (by simp [kwf,e1,hu])),by show _ - nx.k<_;rw [e1];omega⟩
 ·have hmt':¬ (m.k:Int)<l.length:=by omega
  have hmk:l.take m.k=l:=List.take_of_length_le (by omega)
  have hno:=m.no
  rw [hmk] at hno hbl2
  have:=zpl (faults:=faults) hpr hmany hpg hno
  have hst2:zig ps j faults l=v2++l.flatMap fun x=>zbf x++[10]:=by
   rw [←hv2,←hv,hft]
   simp [zig,zlk]
  rw [hG,hst2] at this
  generalize hww:(v2++l.flatMap fun x=>zbf x++[10])=w at *
  by_cases hw:65536<w.length
  ·have hw':(w.length:Int) > 65536:=by omega
   rw [if_pos hw] at this
   subst this
   refine Wk0 (fA5 zjH hmt' hmk hww hw')
  ·have hw':¬ (w.length:Int) > 65536:=by omega
   rw [if_neg hw] at this
   subst this
   refine Wk0 (fA5 zjH hmt' hmk hww hw')
end Go.Proofs.YtfinhhblcdkpgaaGreatDoor
