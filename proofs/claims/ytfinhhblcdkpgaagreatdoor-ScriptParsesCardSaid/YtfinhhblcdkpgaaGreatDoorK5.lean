/- The reference's texts of numbers and of steps. No condition. -/
import Derived.Test.YtfinhhblcdkpgaaGreatDoorLib2
import Derived.Test.YtfinhhblcdkpgaaGreatDoorK4
set_option maxRecDepth 100000
set_option maxHeartbeats 64000000
set_option linter.unusedSimpArgs false
set_option linter.unusedVariables false
namespace Go.Proofs.YtfinhhblcdkpgaaGreatDoor
open Go Go.Abs Go.RowKit
structure DuI (n:Nat) where
 m:Nat
 f:Nat
 acc:List UInt8
 hm:m<10 ^ f
 hl:acc.length+f≤20
 hb:m≤9223372036854775808
 eq:dg f m++acc=dg 20 n
theorem zmr (n:Int) (h0:-9223372036854775808≤n) (h1:n≤9223372036854775807):AC Tryz.prog gl 27 [.pv (.int .i64 n)] [] (.pv (.str (itT n))) []:=by
 by_cases h:n≥0
 ·have cD:=zeN n h1
  have e:itT n=zei n:=by unfold itT;rw [if_neg (by omega)]
  rw [e]
  refine zas (fun _=>0) 0 zH2 ?_
  refine Wk0 (fA3 zEG h (CE.mk zhf cD))
 ·have e:itT n=45::dg 20 (-n).toNat:=by
   unfold itT zei
   rw [if_pos (by omega),if_neg (by omega)]
  rw [e]
  have hu:IntKind.u64.wrap (IntKind.i64.wrap (-n))=(((-n).toNat:Nat):Int):=by
   by_cases hm:n=-9223372036854775808
   ·subst hm;decide
   ·rw [zay _ (by omega) (by omega),IntWalk.u64_in _ ⟨by omega,by omega⟩];omega
  have hu':IntKind.u64.wrap (IntKind.i64.wrap (-n))=max (-n) 0:=by rw [hu];omega
  refine zas (fun _=>0) 0 zH2 ?_
  refine Wk1 (fA3 zEG h hu) ?_
  refine zaK (ι:=DuI (-n).toNat) (fun i=>⟨(jl 3 (.pv (.str i.acc)::.pv (.int .u64 i.m)::jl 21 [])),[]⟩) (fun i=>i.m) ⟨(-n).toNat,20,[],by omega,by simp,by omega,by simp⟩ (WFe (by simp [kwf,hu']) (by simp [kwf,hu'])) ?_
  rintro ⟨m,f,acc,hm,hl,hb,heq⟩
  by_cases hz:m=0
  ·subst hz
   rw [zdN,List.nil_append] at heq
   subst heq
   refine Wk0 zEG
  ·have hp:(m:Int) > 0:=by omega
   have e1:(m:Int).tmod 10=((m % 10:Nat):Int):=by rw [Int.tmod_eq_emod_of_nonneg (by omega)];omega
   have e2:(m:Int).tdiv 10=((m / 10:Nat):Int):=by rw [Int.tdiv_eq_ediv_of_nonneg (by omega)];omega
   have hr:m % 10<10:=Nat.mod_lt _ (by omega)
   have e3:IntKind.u64.wrap (48+((m % 10:Nat):Int))=((48+m % 10:Nat):Int):=by rw [IntWalk.u64_in _ ⟨by omega,by omega⟩];omega
   have e7:IntKind.u64.wrap ((m % 10:Nat):Int)=((m % 10:Nat):Int):=IntWalk.u64_in _ ⟨by omega,by omega⟩
   have e4:IntKind.u8.wrap ((48+m % 10:Nat):Int)=((48+m % 10:Nat):Int):=IntWalk.u8_in _ ⟨by omega,by omega⟩
   have e5:IntKind.u64.wrap ((m / 10:Nat):Int)=((m / 10:Nat):Int):=IntWalk.u64_in _ ⟨by omega,by omega⟩
   have e6:zgZ [((48+m % 10:Nat):Int)]=[UInt8.ofNat (48+m % 10)]:=rfl
   obtain ⟨f',rfl⟩:∃ f',f=f'+1:=by
    cases f with
    |zero=>exact absurd (by simpa using hm) hz
    |succ f'=>exact ⟨f',rfl⟩
   rw [zey _ _ hz,List.append_assoc] at heq
   repeat' first|refine Va (fA9 zEG hp e1 e2 e3 e4 e5 e6 e7) ?_|(with_reducible first|refine SB.c ?_ ?_<;>intro _|exact zak)|with_reducible refine zaj ?_|omega
   exact ⟨⟨m / 10,f',UInt8.ofNat (48+m % 10)::acc,by rw [Nat.pow_succ] at hm;omega,by simp;omega,by omega,heq⟩,WFn,by simp;omega⟩
theorem zms (k:Int):AC Tryz.prog gl 29 [.pv (.int .i64 k)] [] (.tup [.pv (.bool (shF k==1)),.pv (.bool (shF k==2 || shF k==3)),.pv (.bool (shF k==2))]) []:=by
 rcases zcs k with ⟨h1,h2⟩|⟨h1,h2⟩|⟨h1,h2⟩|⟨a1,a2,a3,a4,a5,a6,a7,a8,a9,a10,a11,h2⟩
 ·rw [h2]
  rcases h1 with rfl|rfl|rfl<;>(refine zas (fun _=>0) 0 zEQ ?_;(repeat' (first|refine Va (fA3 zEH @Bool.or_false @Bool.or_true) ?_|(with_reducible first|refine SB.c ?_ ?_<;>intro _|exact zak)|with_reducible refine zaj ?_|omega)))
 ·rw [h2]
  rcases h1 with rfl|rfl|rfl<;>(refine zas (fun _=>0) 0 zEQ ?_;(repeat' (first|refine Va (fA3 zEH @Bool.or_false @Bool.or_true) ?_|(with_reducible first|refine SB.c ?_ ?_<;>intro _|exact zak)|with_reducible refine zaj ?_|omega)))
 ·rw [h2]
  rcases h1 with rfl|rfl|rfl|rfl|rfl<;>(refine zas (fun _=>0) 0 zEQ ?_;(repeat' (first|refine Va (fA3 zEH @Bool.or_false @Bool.or_true) ?_|(with_reducible first|refine SB.c ?_ ?_<;>intro _|exact zak)|with_reducible refine zaj ?_|omega)))
 ·rw [h2]
  refine zas (fun _=>0) 0 zEQ ?_
  refine Wk0 (zhQ zEH a1 a2 a3 a4 a5 a6 a7 a8 a9 a10 a11 @Bool.or_false)
theorem zD7 (k:Int):(wdF k).length≤10:=by
 by_cases h:k<1∨14<k
 ·unfold wdF;rw [if_pos h];simp
 ·refine zf6 (fun k=>(wdF k).length≤10) ?_ k (by omega) (by omega)
  decide
theorem zb8 (x:StD) (hr:zqv x=true):AC Tryz.prog gl 30 [stA x] [] (.pv (.str (zbf x))) []:=by
 simp only [zqv,Bool.and_eq_true] at hr
 obtain ⟨⟨⟨_,h1⟩,h2⟩,h3⟩:=hr
 have h1:=zfG h1
 have h2:=zfG h2
 have h3:=zfG h3
 have c1:=zmr x.proc h1.1 h1.2
 have c2:=zmr x.place h2.1 h2.2
 have c3:=zmr x.value h3.1 h3.2
 have cS:=zms x.kind
 have cW:=zmo x.kind
 have l1:=zeA x.proc
 have l2:=zeA x.place
 have l3:=zeA x.value
 have l4:=zD7 x.kind
 unfold zbf zli stA
 rcases zcs x.kind with ⟨_,h2⟩|⟨_,h2⟩|⟨_,h2⟩|⟨_,_,_,_,_,_,_,_,_,_,_,h2⟩
 ·rw [h2] at cS ⊢
  replace cS:AC Tryz.prog gl 29 [.pv (.int .i64 x.kind)] [] (.tup [.pv (.bool true),.pv (.bool false),.pv (.bool false)]) []:=cS
  refine zas (fun _=>0) 1 zER ?_
  repeat' first|refine Va (fA7 zEI @List.flatMap_cons.{0,0} @List.flatMap_nil.{0,0} @List.append_nil.{0} @List.cons_append.{0} @List.nil_append.{0} @List.append_assoc.{0}) ?_|(with_reducible first|refine SB.c ?_ ?_<;>intro _|exact zak)|refine CK.d0 zaI cS ?_|refine CK.d0 zaF cW ?_|refine CK.d0 zhe c2 ?_|with_reducible refine zaj ?_|omega
 ·rw [h2] at cS ⊢
  replace cS:AC Tryz.prog gl 29 [.pv (.int .i64 x.kind)] [] (.tup [.pv (.bool false),.pv (.bool true),.pv (.bool true)]) []:=cS
  refine zas (fun _=>0) 1 zER ?_
  repeat' first|refine Va (fA9 zEI @List.flatMap_cons.{0,0} @List.flatMap_nil.{0,0} @List.append_nil.{0} @List.cons_append.{0} @List.nil_append.{0} @List.append_assoc.{0} @List.length_append.{0} @List.length_cons.{0}) ?_|(with_reducible first|refine SB.c ?_ ?_<;>intro _|exact zak)|refine CK.d0 zaI cS ?_|refine CK.d0 zaF cW ?_|refine CK.d0 zhe c1 ?_|refine CK.d0 zhe c3 ?_|with_reducible refine zaj ?_|omega
 ·rw [h2] at cS ⊢
  replace cS:AC Tryz.prog gl 29 [.pv (.int .i64 x.kind)] [] (.tup [.pv (.bool false),.pv (.bool true),.pv (.bool false)]) []:=cS
  refine zas (fun _=>0) 1 zER ?_
  repeat' first|refine Va (fA7 zEI @List.flatMap_cons.{0,0} @List.flatMap_nil.{0,0} @List.append_nil.{0} @List.cons_append.{0} @List.nil_append.{0} @List.append_assoc.{0}) ?_|(with_reducible first|refine SB.c ?_ ?_<;>intro _|exact zak)|refine CK.d0 zaI cS ?_|refine CK.d0 zaF cW ?_|refine CK.d0 zhe c1 ?_|with_reducible refine zaj ?_|omega
 ·rw [h2] at cS ⊢
  replace cS:AC Tryz.prog gl 29 [.pv (.int .i64 x.kind)] [] (.tup [.pv (.bool false),.pv (.bool false),.pv (.bool false)]) []:=cS
  refine zas (fun _=>0) 1 zER ?_
  repeat' first|refine Va (fA3 zEI @List.flatMap_nil.{0,0} @List.append_nil.{0}) ?_|(with_reducible first|refine SB.c ?_ ?_<;>intro _|exact zak)|refine CK.d0 zaI cS ?_|refine CK.d0 zaF cW ?_|with_reducible refine zaj ?_|omega
end Go.Proofs.YtfinhhblcdkpgaaGreatDoor
