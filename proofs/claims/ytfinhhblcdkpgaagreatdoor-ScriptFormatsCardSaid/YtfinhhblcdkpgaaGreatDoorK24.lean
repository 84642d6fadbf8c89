/- The reference's writing of a script. No condition. -/
import Derived.Test.YtfinhhblcdkpgaaGreatDoorK7
import Derived.Test.YtfinhhblcdkpgaaGreatDoorW7
import Derived.Test.YtfinhhblcdkpgaaGreatDoorLib3
set_option maxRecDepth 100000
set_option maxHeartbeats 64000000
set_option linter.unusedSimpArgs false
set_option linter.unusedVariables false
set_option linter.defProp false
namespace Go.Proofs.YtfinhhblcdkpgaaGreatDoor
open Go Go.Abs Go.RowKit
theorem zjI (ps:List PgD) (protocol faults:Int) (l:List StD) (hp:∀ p ∈ ps,szP p≤1000000∧rgP p=true) (hf:-9223372036854775808≤faults∧faults≤9223372036854775807) (hl:∀ x ∈ l,zkS x=true) :
  AC Tryz.prog gl 10 [.pv (.slice (ps.map zd3)),.pv (.int .i64 protocol),.pv (.int .i64 faults),.pv (.slice (l.map za7))] [] (.tup [.pv (.str (zaI ps protocol faults l).1),.pv (.int .i64 (zaI ps protocol faults l).2)]) []:=by
 generalize hG:zaI ps protocol faults l=G
 have cR:=zmM protocol
 by_cases h1:protocol<1∨8<protocol
 ·have:=zd4 (ps:=ps) (faults:=faults) (l:=l) h1
  rw [hG] at this
  subst this
  have hpf:prF protocol=[]:=by unfold prF;rw [if_pos h1]
  rw [hpf] at cR
  refine zam (fun _=>0) 0 zzB ?_
  (repeat' (first|refine Va zhW ?_|(with_reducible first|refine SB.c ?_ ?_<;>intro _|exact zac)|refine CK.d0 zfT cR ?_|with_reducible refine zab ?_|omega))
 have hpr:=h1
 obtain ⟨j,rfl⟩:∃ j:Nat,protocol=j:=⟨protocol.toNat,by omega⟩
 have hj1:1≤j:=by omega
 have hj2:j≤8:=by omega
 have hne:(prF (j:Int)==[])=false:=by simpa using zz0 j hj1 hj2
 by_cases hmany:ps=[]∨5<ps.length∨400<l.length
 ·have:=zgT (faults:=faults) hpr hmany
  rw [hG] at this
  subst this
  by_cases h3:ps=[]
  ·subst h3
   refine zam (fun _=>0) 0 zzB ?_
   (repeat' (first|refine Va (fA2 zhW hne) ?_|(with_reducible first|refine SB.c ?_ ?_<;>intro _|exact zac)|refine CK.d0 zfT cR ?_|with_reducible refine zab ?_|omega))
  ·have h3':¬ (ps.length:Int)<1:=by have:=List.length_pos_iff.2 h3;omega
   by_cases h4:(ps.length:Int) > 5
   ·refine zam (fun _=>0) 0 zzB ?_
    (repeat' (first|refine Va (fA4 zhW hne h3' h4) ?_|(with_reducible first|refine SB.c ?_ ?_<;>intro _|exact zac)|refine CK.d0 zfT cR ?_|with_reducible refine zab ?_|omega))
   ·have h5:(l.length:Int) > 400:=by
     rcases hmany with h|h|h
     ·exact absurd h h3
     ·omega
     ·omega
    refine zam (fun _=>0) 0 zzB ?_
    (repeat' (first|refine Va (fA5 zhW hne h3' h4 h5) ?_|(with_reducible first|refine SB.c ?_ ?_<;>intro _|exact zac)|refine CK.d0 zfT cR ?_|with_reducible refine zab ?_|omega))
 have h3':¬ (ps.length:Int)<1:=fun h=>hmany (.inl (List.eq_nil_of_length_eq_zero (by omega)))
 have h4:¬ (ps.length:Int) > 5:=fun h=>hmany (.inr (.inl (by omega)))
 have h5:¬ (l.length:Int) > 400:=fun h=>hmany (.inr (.inr (by omega)))
 have cI:=zkD faults hf.1 hf.2
 have k1:=zmW j hj1 hj2
 have k2:=zcv faults
 have k3:=zjB j hj1 hj2 faults
 have hft:zfg j faults=[112,114,111,116,111,99,111,108,32]++prF j++[32]++itT faults++[10]:=rfl
 generalize zfg j faults=t0 at *
 simp only [List.cons_append,List.nil_append,List.append_assoc] at hft
 refine zam (fun _=>0) 1 zzB ?_
 (repeat' (first|refine Va (zpB zhW hne h3' h4 h5 @List.length_append.{0} @List.length_cons.{0} @List.length_nil.{0} @List.cons_append.{0} @List.append_assoc.{0}) ?_|(with_reducible first|refine SB.c ?_ ?_<;>intro _|exact zac)|refine CK.d0 zfT cR ?_|refine CK.d0 zfU cI ?_|with_reducible refine zab ?_|omega))
 refine za6 (ι:=FpI ps) (fun i=>⟨(.pv (.slice (ps.map zd3))::.junk::.junk::.pv (.slice (l.map za7))::jl 6 (.pv (.str (t0++(ps.take i.k).flatMap zcx))::.pv (.int .i64 i.k)::jl 110 [])),[none]⟩) (fun i=>ps.length - i.k) ⟨0,by omega,by simp⟩ (WFe (by simp [kwf,hft,List.append_assoc]) (by simp [kwf,hft,List.append_assoc])) ?_
 intro i
 have hbl:(t0++(ps.take i.k).flatMap zcx).length≤30000:=by
  have:=zgg zcx 4110 ziz (ps.take i.k)
  have hk:(ps.take i.k).length≤5:=by simp;omega
  rw [List.length_append]
  have:4110 * (ps.take i.k).length≤4110 * 5:=Nat.mul_le_mul_left _ hk
  omega
 by_cases hlt:i.k<ps.length
 ·have hlt':(i.k:Int)<ps.length:=by omega
  have hget:=zaN zd3 ps i.k hlt
  have hpm:=hp ps[i.k] (List.getElem_mem hlt)
  have cF:=zpx ps[i.k] hpm.1 hpm.2
  have hw:=zbc i.k (by omega)
  have hfl:=zkI ps[i.k]
  have hts:(ps.take (i.k+1)).flatMap zcx=(ps.take i.k).flatMap zcx++zcx ps[i.k]:=by
   rw [List.take_succ_eq_append_getElem hlt,List.flatMap_append];simp
  cases hb:zl6 ps[i.k]
  ·obtain ⟨nx,e1⟩:∃ nx:FpI ps,nx.k=i.k+1:=⟨i.next hlt hb,rfl⟩
   have hb0:(ziM ps[i.k]).2=0:=by simpa [zl6] using hb
   have hpt:zcx ps[i.k]=[112,114,111,99,101,115,115,10]++(ziM ps[i.k]).1++[101,110,100,10]:=rfl
   have hu:t0++(ps.take (i.k+1)).flatMap zcx=(t0++(ps.take i.k).flatMap zcx)++zcx ps[i.k]:=by rw [hts];simp
   generalize t0++(ps.take i.k).flatMap zcx=u at *
   rw [hb0] at cF
   rw [hpt] at hu
   generalize ps[i.k]=p at *
   generalize (ziM p).1=ft at *
   simp only [List.cons_append,List.nil_append] at hu
   unfold pgA at cF
   have hpe:zd3 p=[.slice (p.vars.map zas),.slice (p.start.map zah),.slice (p.message.map zah),.slice (p.tick.map zah),.slice (p.input.map zah)]:=rfl
   (repeat' (first|refine Va (fA9 zhW hlt' hlt hget hpe hw @List.length_append.{0} @List.length_cons.{0} @List.length_nil.{0}) ?_|(with_reducible first|refine SB.c ?_ ?_<;>intro _|exact zac)|refine CK.d0 znz cF ?_|with_reducible refine zab ?_|omega))
   exact ⟨nx,(WFe (by simp [kwf,e1,hu]) (by simp [kwf,e1,hu])),by show _ - nx.k<_;rw [e1];omega⟩
  ·have hb0:(ziM ps[i.k]).2≠0:=by simpa [zl6] using hb
   have:=zgU (faults:=faults) hpr hmany i.k hlt i.no hb
   rw [hG] at this
   subst this
   have hb0':((ziM ps[i.k]).2 != 0)=true:=by simpa using hb0
   generalize ps[i.k]=p at *
   unfold pgA at cF
   have hpe:zd3 p=[.slice (p.vars.map zas),.slice (p.start.map zah),.slice (p.message.map zah),.slice (p.tick.map zah),.slice (p.input.map zah)]:=rfl
   (repeat' (first|refine Va (fA6 zhW hlt' hlt hget hpe hb0') ?_|(with_reducible first|refine SB.c ?_ ?_<;>intro _|exact zac)|refine CK.d0 znz cF ?_|with_reducible refine zab ?_|omega))
 have hlt':¬ (i.k:Int)<ps.length:=by omega
 have hik:ps.take i.k=ps:=List.take_of_length_le (by omega)
 have hpg:=i.no
 rw [hik] at hpg hbl
 generalize hv:t0++ps.flatMap zcx=v at *
 (repeat' (first|refine Va (fA6 zhW hlt' hik hv @List.length_cons.{0} @List.length_nil.{0}) ?_|(with_reducible first|refine SB.c ?_ ?_<;>intro _|exact zac)|with_reducible refine zab ?_|omega))
 generalize hv2:v++[115,116,101,112,115,10]=v2 at *
 have hvl:v2.length≤30010:=by rw [←hv2];simp;omega
 refine za6 (ι:=FsI l) (fun i=>⟨(jl 3 (.pv (.slice (l.map za7))::jl 6 (.pv (.str (v2++(l.take i.k).flatMap fun x=>zbk x++[10]))::jl 3 (.pv (.int .i64 i.k)::jl 107 [])))),[none]⟩) (fun i=>l.length - i.k) ⟨0,by omega,by simp⟩ (WFe (by simp [kwf,hv2]) (by simp [kwf,hv2])) ?_
 intro m
 have hbl2:(v2++(l.take m.k).flatMap fun x=>zbk x++[10]).length≤60000:=by
  have:=zgg (fun x=>zbk x++[10]) 61 (fun x=>by have:=zho x;simp;omega) (l.take m.k)
  have hk:(l.take m.k).length≤400:=by simp;omega
  rw [List.length_append]
  have:61 * (l.take m.k).length≤61 * 400:=Nat.mul_le_mul_left _ hk
  omega
 by_cases hmt:m.k<l.length
 ·have hmt':(m.k:Int)<l.length:=by omega
  have hget:=zaN za7 l m.k hmt
  have hrg:=hl l[m.k] (List.getElem_mem hmt)
  have cL:=zmN l[m.k] hrg
  have cW:=zn5 l[m.k].kind
  have cS:=zn6 l[m.k].kind
  have hw:=zbc m.k (by omega)
  have hll:=zho l[m.k]
  have hbad:=zjC l[m.k]
  have hts:((l.take (m.k+1)).flatMap fun x=>zbk x++[10])=((l.take m.k).flatMap fun x=>zbk x++[10])++(zbk l[m.k]++[10]):=by
   rw [List.take_succ_eq_append_getElem hmt,List.flatMap_append];simp
  by_cases hwd:wdF l[m.k].kind=[]
  ·have hb:zi5 l[m.k]=true:=by simp [zi5,hwd]
   have hwf:zcy l[m.k]=([],17):=by unfold zcy;rw [if_pos hwd]
   have:=zeI (faults:=faults) hpr hmany hpg m.k hmt m.no hb
   rw [hG,hwf] at this
   subst this
   rw [hwd] at cW
   generalize l[m.k]=x at *
   have hxe:za7 x=[.int .i64 x.kind,.int .i64 x.proc,.int .i64 x.place,.int .i64 x.value]:=rfl
   (repeat' (first|refine Va (fA5 zhW hmt' hmt hget hxe) ?_|(with_reducible first|refine SB.c ?_ ?_<;>intro _|exact zac)|refine CK.d0 zbf cW ?_|with_reducible refine zab ?_|omega))
  have hwd':(wdF l[m.k].kind==[])=false:=by simpa using hwd
  cases hz:zdp l[m.k]
  ·have hb:zi5 l[m.k]=true:=by simp [zi5,hz]
   have hwf:zcy l[m.k]=([],7):=by unfold zcy;rw [if_neg hwd,if_pos hz]
   have:=zeI (faults:=faults) hpr hmany hpg m.k hmt m.no hb
   rw [hG,hwf] at this
   subst this
   clear hts hll hrg cL hb hwf hbad
   generalize l[m.k]=x at *
   have hxe:za7 x=[.int .i64 x.kind,.int .i64 x.proc,.int .i64 x.place,.int .i64 x.value]:=rfl
   rcases zbS x.kind with ⟨_,hsh⟩|⟨_,hsh⟩|⟨_,hsh⟩|⟨_,_,_,_,_,_,_,_,_,_,_,hsh⟩
   ·rw [hsh] at cS
    replace cS:AC Tryz.prog gl 29 [.pv (.int .i64 x.kind)] [] (.tup [.pv (.bool true),.pv (.bool false),.pv (.bool false)]) []:=cS
    simp only [zdp,hsh] at hz
    by_cases h0:x.proc=0
    ·have z1:(x.value != 0)=true:=by simp [h0] at hz;simpa using hz
     (repeat' (first|refine Va (fA8 zhW hmt' hmt hget hxe hwd' h0 z1) ?_|(with_reducible first|refine SB.c ?_ ?_<;>intro _|exact zac)|refine CK.d0 zbf cW ?_|refine CK.d0 zbs cS ?_|with_reducible refine zab ?_|omega))
    ·have z0:(x.proc != 0)=true:=by simpa using h0
     (repeat' (first|refine Va (fA7 zhW hmt' hmt hget hxe hwd' z0) ?_|(with_reducible first|refine SB.c ?_ ?_<;>intro _|exact zac)|refine CK.d0 zbf cW ?_|refine CK.d0 zbs cS ?_|with_reducible refine zab ?_|omega))
   ·rw [hsh] at cS
    replace cS:AC Tryz.prog gl 29 [.pv (.int .i64 x.kind)] [] (.tup [.pv (.bool false),.pv (.bool true),.pv (.bool true)]) []:=cS
    simp only [zdp,hsh] at hz
    have z0:(x.place != 0)=true:=by simpa using hz
    (repeat' (first|refine Va (fA7 zhW hmt' hmt hget hxe hwd' z0) ?_|(with_reducible first|refine SB.c ?_ ?_<;>intro _|exact zac)|refine CK.d0 zbf cW ?_|refine CK.d0 zbs cS ?_|with_reducible refine zab ?_|omega))
   ·rw [hsh] at cS
    replace cS:AC Tryz.prog gl 29 [.pv (.int .i64 x.kind)] [] (.tup [.pv (.bool false),.pv (.bool true),.pv (.bool false)]) []:=cS
    simp only [zdp,hsh] at hz
    by_cases h0:x.place=0
    ·have z1:(x.value != 0)=true:=by simp [h0] at hz;simpa using hz
     (repeat' (first|refine Va (fA8 zhW hmt' hmt hget hxe hwd' h0 z1) ?_|(with_reducible first|refine SB.c ?_ ?_<;>intro _|exact zac)|refine CK.d0 zbf cW ?_|refine CK.d0 zbs cS ?_|with_reducible refine zab ?_|omega))
    ·have z0:(x.place != 0)=true:=by simpa using h0
     (repeat' (first|refine Va (fA7 zhW hmt' hmt hget hxe hwd' z0) ?_|(with_reducible first|refine SB.c ?_ ?_<;>intro _|exact zac)|refine CK.d0 zbf cW ?_|refine CK.d0 zbs cS ?_|with_reducible refine zab ?_|omega))
   ·rw [hsh] at cS
    replace cS:AC Tryz.prog gl 29 [.pv (.int .i64 x.kind)] [] (.tup [.pv (.bool false),.pv (.bool false),.pv (.bool false)]) []:=cS
    simp only [zdp,hsh] at hz
    by_cases h0:x.place=0
    ·by_cases h1:x.proc=0
     ·have z2:(x.value != 0)=true:=by simp [h0,h1] at hz;simpa using hz
      (repeat' (first|refine Va (fA9 zhW hmt' hmt hget hxe hwd' h0 h1 z2) ?_|(with_reducible first|refine SB.c ?_ ?_<;>intro _|exact zac)|refine CK.d0 zbf cW ?_|refine CK.d0 zbs cS ?_|with_reducible refine zab ?_|omega))
     ·have z1:(x.proc != 0)=true:=by simpa using h1
      (repeat' (first|refine Va (fA8 zhW hmt' hmt hget hxe hwd' h0 z1) ?_|(with_reducible first|refine SB.c ?_ ?_<;>intro _|exact zac)|refine CK.d0 zbf cW ?_|refine CK.d0 zbs cS ?_|with_reducible refine zab ?_|omega))
    ·have z0:(x.place != 0)=true:=by simpa using h0
     (repeat' (first|refine Va (fA7 zhW hmt' hmt hget hxe hwd' z0) ?_|(with_reducible first|refine SB.c ?_ ?_<;>intro _|exact zac)|refine CK.d0 zbf cW ?_|refine CK.d0 zbs cS ?_|with_reducible refine zab ?_|omega))
  ·have hb:zi5 l[m.k]=false:=by simp [zi5,hz,hwd]
   obtain ⟨nx,e1⟩:∃ nx:FsI l,nx.k=m.k+1:=⟨m.next hmt hb,rfl⟩
   have hu:v2++((l.take (m.k+1)).flatMap fun x=>zbk x++[10])=(v2++(l.take m.k).flatMap fun x=>zbk x++[10])++(zbk l[m.k]++[10]):=by rw [hts];simp
   generalize (v2++(l.take m.k).flatMap fun x=>zbk x++[10])=u at *
   clear hts hb hbad hrg
   generalize l[m.k]=x at *
   generalize zbk x=lx at *
   unfold stA at cL
   have hxe:za7 x=[.int .i64 x.kind,.int .i64 x.proc,.int .i64 x.place,.int .i64 x.value]:=rfl
   rcases zbS x.kind with ⟨_,hsh⟩|⟨_,hsh⟩|⟨_,hsh⟩|⟨_,_,_,_,_,_,_,_,_,_,_,hsh⟩
   ·rw [hsh] at cS
    replace cS:AC Tryz.prog gl 29 [.pv (.int .i64 x.kind)] [] (.tup [.pv (.bool true),.pv (.bool false),.pv (.bool false)]) []:=cS
    simp only [zdp,hsh,Bool.and_eq_true,beq_iff_eq] at hz
    simp only [hz] at cL
    (repeat' (first|refine Va (zhT zhW hmt' hmt hget hxe hwd' hz hw @List.length_append.{0} @List.length_cons.{0} @List.length_nil.{0}) ?_|(with_reducible first|refine SB.c ?_ ?_<;>intro _|exact zac)|refine CK.d0 zbf cW ?_|refine CK.d0 zbs cS ?_|refine CK.d0 zg7 cL ?_|with_reducible refine zab ?_|omega))
    exact ⟨nx,(WFe (by simp [kwf,e1,hu]) (by simp [kwf,e1,hu])),by show _ - nx.k<_;rw [e1];omega⟩
   ·rw [hsh] at cS
    replace cS:AC Tryz.prog gl 29 [.pv (.int .i64 x.kind)] [] (.tup [.pv (.bool false),.pv (.bool true),.pv (.bool true)]) []:=cS
    simp only [zdp,hsh,Bool.and_eq_true,beq_iff_eq] at hz
    simp only [hz] at cL
    (repeat' (first|refine Va (zhT zhW hmt' hmt hget hxe hwd' hz hw @List.length_append.{0} @List.length_cons.{0} @List.length_nil.{0}) ?_|(with_reducible first|refine SB.c ?_ ?_<;>intro _|exact zac)|refine CK.d0 zbf cW ?_|refine CK.d0 zbs cS ?_|refine CK.d0 zg7 cL ?_|with_reducible refine zab ?_|omega))
    exact ⟨nx,(WFe (by simp [kwf,e1,hu]) (by simp [kwf,e1,hu])),by show _ - nx.k<_;rw [e1];omega⟩
   ·rw [hsh] at cS
    replace cS:AC Tryz.prog gl 29 [.pv (.int .i64 x.kind)] [] (.tup [.pv (.bool false),.pv (.bool true),.pv (.bool false)]) []:=cS
    simp only [zdp,hsh,Bool.and_eq_true,beq_iff_eq] at hz
    simp only [hz] at cL
    (repeat' (first|refine Va (zhT zhW hmt' hmt hget hxe hwd' hz hw @List.length_append.{0} @List.length_cons.{0} @List.length_nil.{0}) ?_|(with_reducible first|refine SB.c ?_ ?_<;>intro _|exact zac)|refine CK.d0 zbf cW ?_|refine CK.d0 zbs cS ?_|refine CK.d0 zg7 cL ?_|with_reducible refine zab ?_|omega))
    exact ⟨nx,(WFe (by simp [kwf,e1,hu]) (by simp [kwf,e1,hu])),by show _ - nx.k<_;rw [e1];omega⟩
   ·rw [hsh] at cS
    replace cS:AC Tryz.prog gl 29 [.pv (.int .i64 x.kind)] [] (.tup [.pv (.bool false),.pv (.bool false),.pv (.bool false)]) []:=cS
    simp only [zdp,hsh,Bool.and_eq_true,beq_iff_eq] at hz
    simp only [hz] at cL
    (repeat' (first|refine Va (zhT zhW hmt' hmt hget hxe hwd' hz hw @List.length_append.{0} @List.length_cons.{0} @List.length_nil.{0}) ?_|(with_reducible first|refine SB.c ?_ ?_<;>intro _|exact zac)|refine CK.d0 zbf cW ?_|refine CK.d0 zbs cS ?_|refine CK.d0 zg7 cL ?_|with_reducible refine zab ?_|omega))
    exact ⟨nx,(WFe (by simp [kwf,e1,hu]) (by simp [kwf,e1,hu])),by show _ - nx.k<_;rw [e1];omega⟩
 ·have hmt':¬ (m.k:Int)<l.length:=by omega
  have hmk:l.take m.k=l:=List.take_of_length_le (by omega)
  have hno:=m.no
  rw [hmk] at hno hbl2
  have:=ziA (faults:=faults) hpr hmany hpg hno
  have hst2:zeG ps j faults l=v2++l.flatMap fun x=>zbk x++[10]:=by
   rw [←hv2,←hv,hft]
   simp [zeG,zfg]
  rw [hG,hst2] at this
  generalize hww:(v2++l.flatMap fun x=>zbk x++[10])=w at *
  by_cases hw:65536<w.length
  ·have hw':(w.length:Int) > 65536:=by omega
   rw [if_pos hw] at this
   subst this
   (repeat' (first|refine Va (fA5 zhW hmt' hmk hww hw') ?_|(with_reducible first|refine SB.c ?_ ?_<;>intro _|exact zac)|with_reducible refine zab ?_|omega))
  ·have hw':¬ (w.length:Int) > 65536:=by omega
   rw [if_neg hw] at this
   subst this
   (repeat' (first|refine Va (fA5 zhW hmt' hmk hww hw') ?_|(with_reducible first|refine SB.c ?_ ?_<;>intro _|exact zac)|with_reducible refine zab ?_|omega))
end Go.Proofs.YtfinhhblcdkpgaaGreatDoor
