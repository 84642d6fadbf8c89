/- The reference's texts of numbers and of steps. No condition. -/
import Derived.Test.YtfinhhblcdkpgaaGreatDoorK4
set_option maxRecDepth 100000
set_option maxHeartbeats 64000000
set_option linter.unusedSimpArgs false
set_option linter.unusedVariables false
set_option linter.defProp false
namespace Go.Proofs.YtfinhhblcdkpgaaGreatDoor
open Go Go.Abs Go.RowKit
structure DuI (n:Nat) where
 m:Nat
 f:Nat
 acc:List UInt8
 hm:m<10 ^ f
 hl:acc.length+f≤20
 hb:m≤9223372036854775808
 eq:dg f m++acc=dg 20 n
theorem zlZ (n:Int) (h0:-9223372036854775808≤n) (h1:n≤9223372036854775807):AC Tryz.prog gl 27 [.pv (.int .i64 n)] [] (.pv (.str (itT n))) []:=by
 by_cases h:n≥0
 ·have cD:=zqT n h1
  have e:itT n=zeV n:=by unfold itT;rw [if_neg (by omega)]
  rw [e]
  refine zap (fun _=>0) 0 zGr ?_
  repeat' first|refine Va (fA2 zC9 h) ?_|(with_reducible first|refine SB.c ?_ ?_<;>intro _|exact zad)|refine CK.d0 zvQ cD ?_|with_reducible refine zac ?_|omega
 ·have e:itT n=45::dg 20 (-n).toNat:=by
   unfold itT zeV
   rw [if_pos (by omega),if_neg (by omega)]
  rw [e]
  have hu:IntKind.u64.wrap (IntKind.i64.wrap (-n))=(((-n).toNat:Nat):Int):=by
   by_cases hm:n=-9223372036854775808
   ·subst hm;decide
   ·rw [zaS _ (by omega) (by omega),IntWalk.u64_in _ ⟨by omega,by omega⟩];omega
  have hu':IntKind.u64.wrap (IntKind.i64.wrap (-n))=max (-n) 0:=by rw [hu];omega
  refine zap (fun _=>0) 0 zGr ?_
  repeat' first|refine Va (fA3 zC9 h hu) ?_|(with_reducible first|refine SB.c ?_ ?_<;>intro _|exact zad)|with_reducible refine zac ?_|omega
  refine zaI (ι:=DuI (-n).toNat) (fun i=>⟨(jl 3 (.pv (.str i.acc)::.pv (.int .u64 i.m)::jl 21 [])),[]⟩) (fun i=>i.m) ⟨(-n).toNat,20,[],by omega,by simp,by omega,by simp⟩ (WFe (by simp [kwf,hu']) (by simp [kwf,hu'])) ?_
  rintro ⟨m,f,acc,hm,hl,hb,heq⟩
  by_cases hz:m=0
  ·subst hz
   rw [zdA,List.nil_append] at heq
   subst heq
   repeat' first|refine Va zC9 ?_|(with_reducible first|refine SB.c ?_ ?_<;>intro _|exact zad)|with_reducible refine zac ?_|omega
  ·have hp:(m:Int) > 0:=by omega
   have e1:(m:Int).tmod 10=((m % 10:Nat):Int):=by rw [Int.tmod_eq_emod_of_nonneg (by omega)];omega
   have e2:(m:Int).tdiv 10=((m / 10:Nat):Int):=by rw [Int.tdiv_eq_ediv_of_nonneg (by omega)];omega
   have hr:m % 10<10:=Nat.mod_lt _ (by omega)
   have e3:IntKind.u64.wrap (48+((m % 10:Nat):Int))=((48+m % 10:Nat):Int):=by rw [IntWalk.u64_in _ ⟨by omega,by omega⟩];omega
   have e7:IntKind.u64.wrap ((m % 10:Nat):Int)=((m % 10:Nat):Int):=IntWalk.u64_in _ ⟨by omega,by omega⟩
   have e4:IntKind.u8.wrap ((48+m % 10:Nat):Int)=((48+m % 10:Nat):Int):=IntWalk.u8_in _ ⟨by omega,by omega⟩
   have e5:IntKind.u64.wrap ((m / 10:Nat):Int)=((m / 10:Nat):Int):=IntWalk.u64_in _ ⟨by omega,by omega⟩
   have e6:zgc [((48+m % 10:Nat):Int)]=[UInt8.ofNat (48+m % 10)]:=rfl
   obtain ⟨f',rfl⟩:∃ f',f=f'+1:=by
    cases f with
    |zero=>exact absurd (by simpa using hm) hz
    |succ f'=>exact ⟨f',rfl⟩
   rw [zel _ _ hz,List.append_assoc] at heq
   repeat' first|refine Va (fA9 zC9 hp e1 e2 e3 e4 e5 e6 e7) ?_|(with_reducible first|refine SB.c ?_ ?_<;>intro _|exact zad)|with_reducible refine zac ?_|omega
   exact ⟨⟨m / 10,f',UInt8.ofNat (48+m % 10)::acc,by rw [Nat.pow_succ] at hm;omega,by simp;omega,by omega,heq⟩,WFn,by simp;omega⟩
theorem zl0 (k:Int):AC Tryz.prog gl 29 [.pv (.int .i64 k)] [] (.tup [.pv (.bool (shF k==1)),.pv (.bool (shF k==2 || shF k==3)),.pv (.bool (shF k==2))]) []:=by
 rcases zch k with ⟨h1,h2⟩|⟨h1,h2⟩|⟨h1,h2⟩|⟨a1,a2,a3,a4,a5,a6,a7,a8,a9,a10,a11,h2⟩
 ·rw [h2]
  rcases h1 with rfl|rfl|rfl<;>(refine zap (fun _=>0) 0 zDh ?_;(repeat' (first|refine Va (fA3 zDa @Bool.or_false @Bool.or_true) ?_|(with_reducible first|refine SB.c ?_ ?_<;>intro _|exact zad)|with_reducible refine zac ?_|omega)))
 ·rw [h2]
  rcases h1 with rfl|rfl|rfl<;>(refine zap (fun _=>0) 0 zDh ?_;(repeat' (first|refine Va (fA3 zDa @Bool.or_false @Bool.or_true) ?_|(with_reducible first|refine SB.c ?_ ?_<;>intro _|exact zad)|with_reducible refine zac ?_|omega)))
 ·rw [h2]
  rcases h1 with rfl|rfl|rfl|rfl|rfl<;>(refine zap (fun _=>0) 0 zDh ?_;(repeat' (first|refine Va (fA3 zDa @Bool.or_false @Bool.or_true) ?_|(with_reducible first|refine SB.c ?_ ?_<;>intro _|exact zad)|with_reducible refine zac ?_|omega)))
 ·rw [h2]
  refine zap (fun _=>0) 0 zDh ?_
  repeat' first|refine Va (zru zDa a1 a2 a3 a4 a5 a6 a7 a8 a9 a10 a11 @Bool.or_false) ?_|(with_reducible first|refine SB.c ?_ ?_<;>intro _|exact zad)|with_reducible refine zac ?_|omega
theorem zCC (k:Int):(wdF k).length≤10:=by
 by_cases h:k<1∨14<k
 ·unfold wdF;rw [if_pos h];simp
 ·refine zeM (fun k=>(wdF k).length≤10) ?_ k (by omega) (by omega)
  decide
theorem zbZ (x:StD) (hr:znl x=true):AC Tryz.prog gl 30 [stA x] [] (.pv (.str (zaO x))) []:=by
 simp only [znl,Bool.and_eq_true] at hr
 obtain ⟨⟨⟨_,h1⟩,h2⟩,h3⟩:=hr
 have h1:=zem h1
 have h2:=zem h2
 have h3:=zem h3
 have c1:=zlZ x.proc h1.1 h1.2
 have c2:=zlZ x.place h2.1 h2.2
 have c3:=zlZ x.value h3.1 h3.2
 have cS:=zl0 x.kind
 have cW:=zlW x.kind
 have l1:=zdB x.proc
 have l2:=zdB x.place
 have l3:=zdB x.value
 have l4:=zCC x.kind
 unfold zaO zit stA
 rcases zch x.kind with ⟨_,h2⟩|⟨_,h2⟩|⟨_,h2⟩|⟨_,_,_,_,_,_,_,_,_,_,_,h2⟩
 ·rw [h2] at cS ⊢
  replace cS:AC Tryz.prog gl 29 [.pv (.int .i64 x.kind)] [] (.tup [.pv (.bool true),.pv (.bool false),.pv (.bool false)]) []:=cS
  refine zap (fun _=>0) 1 zDi ?_
  repeat' first|refine Va (fA7 zDb @List.flatMap_cons.{0,0} @List.flatMap_nil.{0,0} @List.append_nil.{0} @List.cons_append.{0} @List.nil_append.{0} @List.append_assoc.{0}) ?_|(with_reducible first|refine SB.c ?_ ?_<;>intro _|exact zad)|refine CK.d0 zaH cS ?_|refine CK.d0 zaB cW ?_|refine CK.d0 zgH c2 ?_|with_reducible refine zac ?_|omega
 ·rw [h2] at cS ⊢
  replace cS:AC Tryz.prog gl 29 [.pv (.int .i64 x.kind)] [] (.tup [.pv (.bool false),.pv (.bool true),.pv (.bool true)]) []:=cS
  refine zap (fun _=>0) 1 zDi ?_
  repeat' first|refine Va (fA9 zDb @List.flatMap_cons.{0,0} @List.flatMap_nil.{0,0} @List.append_nil.{0} @List.cons_append.{0} @List.nil_append.{0} @List.append_assoc.{0} @List.length_append.{0} @List.length_cons.{0}) ?_|(with_reducible first|refine SB.c ?_ ?_<;>intro _|exact zad)|refine CK.d0 zaH cS ?_|refine CK.d0 zaB cW ?_|refine CK.d0 zgH c1 ?_|refine CK.d0 zgH c3 ?_|with_reducible refine zac ?_|omega
 ·rw [h2] at cS ⊢
  replace cS:AC Tryz.prog gl 29 [.pv (.int .i64 x.kind)] [] (.tup [.pv (.bool false),.pv (.bool true),.pv (.bool false)]) []:=cS
  refine zap (fun _=>0) 1 zDi ?_
  repeat' first|refine Va (fA7 zDb @List.flatMap_cons.{0,0} @List.flatMap_nil.{0,0} @List.append_nil.{0} @List.cons_append.{0} @List.nil_append.{0} @List.append_assoc.{0}) ?_|(with_reducible first|refine SB.c ?_ ?_<;>intro _|exact zad)|refine CK.d0 zaH cS ?_|refine CK.d0 zaB cW ?_|refine CK.d0 zgH c1 ?_|with_reducible refine zac ?_|omega
 ·rw [h2] at cS ⊢
  replace cS:AC Tryz.prog gl 29 [.pv (.int .i64 x.kind)] [] (.tup [.pv (.bool false),.pv (.bool false),.pv (.bool false)]) []:=cS
  refine zap (fun _=>0) 1 zDi ?_
  repeat' first|refine Va (fA3 zDb @List.flatMap_nil.{0,0} @List.append_nil.{0}) ?_|(with_reducible first|refine SB.c ?_ ?_<;>intro _|exact zad)|refine CK.d0 zaH cS ?_|refine CK.d0 zaB cW ?_|with_reducible refine zac ?_|omega
end Go.Proofs.YtfinhhblcdkpgaaGreatDoor
