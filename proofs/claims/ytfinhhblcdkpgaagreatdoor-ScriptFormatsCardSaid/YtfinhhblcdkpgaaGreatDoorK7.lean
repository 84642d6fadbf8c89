/- The reference's texts of numbers and of steps. No condition. -/
import Derived.Test.YtfinhhblcdkpgaaGreatDoorK4
import Derived.Test.YtfinhhblcdkpgaaGreatDoorLib3
set_option maxRecDepth 100000
set_option maxHeartbeats 64000000
set_option linter.unusedSimpArgs false
set_option linter.unusedVariables false
set_option linter.defProp false
namespace Go.Proofs.YtfinhhblcdkpgaaGreatDoor
open Go Go.Abs Go.RowKit
structure DuI (n:Nat) where
 m:Nat
 f:Nat
 acc:List UInt8
 hm:m<10 ^ f
 hl:acc.length+f≤20
 hb:m≤9223372036854775808
 eq:dg f m++acc=dg 20 n
theorem zkD (n:Int) (h0:-9223372036854775808≤n) (h1:n≤9223372036854775807):AC Tryz.prog gl 27 [.pv (.int .i64 n)] [] (.pv (.str (itT n))) []:=by
 by_cases h:n≥0
 ·have cD:=zdO n h1
  have e:itT n=zdm n:=by unfold itT;rw [if_neg (by omega)]
  rw [e]
  refine zam (fun _=>0) 0 zDJ ?_
  (repeat' (first|refine Va (fA2 zAu h) ?_|(with_reducible first|refine SB.c ?_ ?_<;>intro _|exact zac)|refine CK.d0 zfW cD ?_|with_reducible refine zab ?_|omega))
 ·have e:itT n=45::dg 20 (-n).toNat:=by
   unfold itT zdm
   rw [if_pos (by omega),if_neg (by omega)]
  rw [e]
  have hu:IntKind.u64.wrap (IntKind.i64.wrap (-n))=(((-n).toNat:Nat):Int):=by
   by_cases hm:n=-9223372036854775808
   ·subst hm;decide
   ·rw [zat _ (by omega) (by omega),IntWalk.u64_in _ ⟨by omega,by omega⟩];omega
  have hu':IntKind.u64.wrap (IntKind.i64.wrap (-n))=max (-n) 0:=by rw [hu];omega
  refine zam (fun _=>0) 0 zDJ ?_
  (repeat' (first|refine Va (fA3 zAu h hu) ?_|(with_reducible first|refine SB.c ?_ ?_<;>intro _|exact zac)|with_reducible refine zab ?_|omega))
  refine za6 (ι:=DuI (-n).toNat) (fun i=>⟨(jl 3 (.pv (.str i.acc)::.pv (.int .u64 i.m)::jl 21 [])),[]⟩) (fun i=>i.m) ⟨(-n).toNat,20,[],by omega,by simp,by omega,by simp⟩ (WFe (by simp [kwf,hu']) (by simp [kwf,hu'])) ?_
  rintro ⟨m,f,acc,hm,hl,hb,heq⟩
  by_cases hz:m=0
  ·subst hz
   rw [zcY,List.nil_append] at heq
   subst heq
   (repeat' (first|refine Va zAu ?_|(with_reducible first|refine SB.c ?_ ?_<;>intro _|exact zac)|with_reducible refine zab ?_|omega))
  ·have hp:(m:Int) > 0:=by omega
   have e1:(m:Int).tmod 10=((m % 10:Nat):Int):=by rw [Int.tmod_eq_emod_of_nonneg (by omega)];omega
   have e2:(m:Int).tdiv 10=((m / 10:Nat):Int):=by rw [Int.tdiv_eq_ediv_of_nonneg (by omega)];omega
   have hr:m % 10<10:=Nat.mod_lt _ (by omega)
   have e3:IntKind.u64.wrap (48+((m % 10:Nat):Int))=((48+m % 10:Nat):Int):=by rw [IntWalk.u64_in _ ⟨by omega,by omega⟩];omega
   have e7:IntKind.u64.wrap ((m % 10:Nat):Int)=((m % 10:Nat):Int):=IntWalk.u64_in _ ⟨by omega,by omega⟩
   have e4:IntKind.u8.wrap ((48+m % 10:Nat):Int)=((48+m % 10:Nat):Int):=IntWalk.u8_in _ ⟨by omega,by omega⟩
   have e5:IntKind.u64.wrap ((m / 10:Nat):Int)=((m / 10:Nat):Int):=IntWalk.u64_in _ ⟨by omega,by omega⟩
   have e6:zfH [((48+m % 10:Nat):Int)]=[UInt8.ofNat (48+m % 10)]:=rfl
   obtain ⟨f',rfl⟩:∃ f',f=f'+1:=by
    cases f with
    |zero=>exact absurd (by simpa using hm) hz
    |succ f'=>exact ⟨f',rfl⟩
   rw [zdB _ _ hz,List.append_assoc] at heq
   (repeat' (first|refine Va (fA9 zAu hp e1 e2 e3 e4 e5 e6 e7) ?_|(with_reducible first|refine SB.c ?_ ?_<;>intro _|exact zac)|with_reducible refine zab ?_|omega))
   exact ⟨⟨m / 10,f',UInt8.ofNat (48+m % 10)::acc,by rw [Nat.pow_succ] at hm;omega,by simp;omega,by omega,heq⟩,WFn,by simp;omega⟩
theorem zn6 (k:Int):AC Tryz.prog gl 29 [.pv (.int .i64 k)] [] (.tup [.pv (.bool (shF k==1)),.pv (.bool (shF k==2 || shF k==3)),.pv (.bool (shF k==2))]) []:=by
 rcases zbS k with ⟨h1,h2⟩|⟨h1,h2⟩|⟨h1,h2⟩|⟨a1,a2,a3,a4,a5,a6,a7,a8,a9,a10,a11,h2⟩
 ·rw [h2]
  rcases h1 with rfl|rfl|rfl<;>(refine zam (fun _=>0) 0 zAF ?_;(repeat' (first|refine Va (fA3 zAv @Bool.or_false @Bool.or_true) ?_|(with_reducible first|refine SB.c ?_ ?_<;>intro _|exact zac)|with_reducible refine zab ?_|omega)))
 ·rw [h2]
  rcases h1 with rfl|rfl|rfl<;>(refine zam (fun _=>0) 0 zAF ?_;(repeat' (first|refine Va (fA3 zAv @Bool.or_false @Bool.or_true) ?_|(with_reducible first|refine SB.c ?_ ?_<;>intro _|exact zac)|with_reducible refine zab ?_|omega)))
 ·rw [h2]
  rcases h1 with rfl|rfl|rfl|rfl|rfl<;>(refine zam (fun _=>0) 0 zAF ?_;(repeat' (first|refine Va (fA3 zAv @Bool.or_false @Bool.or_true) ?_|(with_reducible first|refine SB.c ?_ ?_<;>intro _|exact zac)|with_reducible refine zab ?_|omega)))
 ·rw [h2]
  refine zam (fun _=>0) 0 zAF ?_
  (repeat' (first|refine Va (zoZ zAv a1 a2 a3 a4 a5 a6 a7 a8 a9 a10 a11 @Bool.or_false) ?_|(with_reducible first|refine SB.c ?_ ?_<;>intro _|exact zac)|with_reducible refine zab ?_|omega))
theorem zzY (k:Int):(wdF k).length≤10:=by
 by_cases h:k<1∨14<k
 ·unfold wdF;rw [if_pos h];simp
 ·refine zf8 (fun k=>(wdF k).length≤10) ?_ k (by omega) (by omega)
  decide
theorem zmN (x:StD) (hr:zkS x=true):AC Tryz.prog gl 30 [stA x] [] (.pv (.str (zbk x))) []:=by
 simp only [zkS,Bool.and_eq_true] at hr
 obtain ⟨⟨⟨_,h1⟩,h2⟩,h3⟩:=hr
 have h1:=zeD h1
 have h2:=zeD h2
 have h3:=zeD h3
 have c1:=zkD x.proc h1.1 h1.2
 have c2:=zkD x.place h2.1 h2.2
 have c3:=zkD x.value h3.1 h3.2
 have cS:=zn6 x.kind
 have cW:=zn5 x.kind
 have l1:=zcv x.proc
 have l2:=zcv x.place
 have l3:=zcv x.value
 have l4:=zzY x.kind
 unfold zbk zwV stA
 rcases zbS x.kind with ⟨_,h2⟩|⟨_,h2⟩|⟨_,h2⟩|⟨_,_,_,_,_,_,_,_,_,_,_,h2⟩
 ·rw [h2] at cS ⊢
  replace cS:AC Tryz.prog gl 29 [.pv (.int .i64 x.kind)] [] (.tup [.pv (.bool true),.pv (.bool false),.pv (.bool false)]) []:=cS
  refine zam (fun _=>0) 1 zAG ?_
  (repeat' (first|refine Va (fA7 zAw @List.flatMap_cons.{0,0} @List.flatMap_nil.{0,0} @List.append_nil.{0} @List.cons_append.{0} @List.nil_append.{0} @List.append_assoc.{0}) ?_|(with_reducible first|refine SB.c ?_ ?_<;>intro _|exact zac)|refine CK.d0 zbs cS ?_|refine CK.d0 zbf cW ?_|refine CK.d0 zfU c2 ?_|with_reducible refine zab ?_|omega))
 ·rw [h2] at cS ⊢
  replace cS:AC Tryz.prog gl 29 [.pv (.int .i64 x.kind)] [] (.tup [.pv (.bool false),.pv (.bool true),.pv (.bool true)]) []:=cS
  refine zam (fun _=>0) 1 zAG ?_
  (repeat' (first|refine Va (fA9 zAw @List.flatMap_cons.{0,0} @List.flatMap_nil.{0,0} @List.append_nil.{0} @List.cons_append.{0} @List.nil_append.{0} @List.append_assoc.{0} @List.length_append.{0} @List.length_cons.{0}) ?_|(with_reducible first|refine SB.c ?_ ?_<;>intro _|exact zac)|refine CK.d0 zbs cS ?_|refine CK.d0 zbf cW ?_|refine CK.d0 zfU c1 ?_|refine CK.d0 zfU c3 ?_|with_reducible refine zab ?_|omega))
 ·rw [h2] at cS ⊢
  replace cS:AC Tryz.prog gl 29 [.pv (.int .i64 x.kind)] [] (.tup [.pv (.bool false),.pv (.bool true),.pv (.bool false)]) []:=cS
  refine zam (fun _=>0) 1 zAG ?_
  (repeat' (first|refine Va (fA7 zAw @List.flatMap_cons.{0,0} @List.flatMap_nil.{0,0} @List.append_nil.{0} @List.cons_append.{0} @List.nil_append.{0} @List.append_assoc.{0}) ?_|(with_reducible first|refine SB.c ?_ ?_<;>intro _|exact zac)|refine CK.d0 zbs cS ?_|refine CK.d0 zbf cW ?_|refine CK.d0 zfU c1 ?_|with_reducible refine zab ?_|omega))
 ·rw [h2] at cS ⊢
  replace cS:AC Tryz.prog gl 29 [.pv (.int .i64 x.kind)] [] (.tup [.pv (.bool false),.pv (.bool false),.pv (.bool false)]) []:=cS
  refine zam (fun _=>0) 1 zAG ?_
  (repeat' (first|refine Va (fA3 zAw @List.flatMap_nil.{0,0} @List.append_nil.{0}) ?_|(with_reducible first|refine SB.c ?_ ?_<;>intro _|exact zac)|refine CK.d0 zbs cS ?_|refine CK.d0 zbf cW ?_|with_reducible refine zab ?_|omega))
def zw2 (c:CdD):List PVal:=[.slice (c.init.map zt0),.slice (c.start.map zah),.slice (c.message.map zah),.slice (c.tick.map zah),.slice (c.input.map zah)]
abbrev rdO (ls:List (List UInt8)) (torn:Bool) (k:Nat) (cs:List CdD) (p f:Int) (xs:List StD):List (Option AObj):=
 [some (.cells [.pv (.slice (ls.map zu1)),.pv (.bool torn),.pv (.int .i64 k),.row 1 cs.length,.pv (.int .i64 p),.pv (.int .i64 f),.row 2 xs.length]),some (.row 5 (cs.map zw2)),some (.row 4 (xs.map za7))]
theorem zio (ls:List (List UInt8)) (torn:Bool) (k:Nat) (cs:List CdD) (p f:Int) (xs:List StD) (hk:k≤1000000000) (hl:ls.length≤1000000000) :
  AC Tryz.prog gl 60 [.ref 0 0] (rdO ls torn k cs p f xs) (.tup [.pv (.str (ls.getD k [])),.pv (.bool (decide (k<ls.length)))]) (rdO ls torn (k+1) cs p f xs):=by
 have hw:=zbc k (by omega)
 by_cases h:k<ls.length
 ·have h1:¬ (((k+1:Nat):Int) > ls.length):=by omega
  have h2:(((k+1:Nat):Int)) - 1=k:=by omega
  have h3:IntKind.i64.wrap (((k+1:Nat):Int) - 1)=k:=by rw [zat _ (by omega) (by omega)];omega
  have hget:=zaN zu1 ls k h
  have hg2:ls.getD k []=ls[k]:=by rw [List.getD_eq_getElem?_getD,List.getElem?_eq_getElem h];rfl
  rw [decide_eq_true h,hg2]
  generalize ls[k]=x at *
  replace hget:(ls.map zu1).getD k []=[.str x]:=hget
  refine zay (fun _=>3) 4 zAI ?_
  (repeat' (first|refine Va (fA6 zuQ hw h1 h3 h hget) ?_|(with_reducible first|refine SB.c ?_ ?_<;>intro _|exact zac)|with_reducible refine zab ?_|omega))
  (refine zaJ.mk [0,1,2] ?_ ?_<;>simp [kwr,zuQ])
 ·have h1:(((k+1:Nat):Int) > ls.length):=by omega
  have hg2:ls.getD k []=[]:=by rw [List.getD_eq_getElem?_getD,List.getElem?_eq_none (by omega)];rfl
  rw [decide_eq_false h,hg2]
  refine zay (fun _=>3) 4 zAI ?_
  (repeat' (first|refine Va (fA3 zuQ hw h1) ?_|(with_reducible first|refine SB.c ?_ ?_<;>intro _|exact zac)|with_reducible refine zab ?_|omega))
  (refine zaJ.mk [0,1,2] ?_ ?_<;>simp [kwr,zuQ])
end Go.Proofs.YtfinhhblcdkpgaaGreatDoor
