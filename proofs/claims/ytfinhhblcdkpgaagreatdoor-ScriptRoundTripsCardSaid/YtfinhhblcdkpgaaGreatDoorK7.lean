/- Words, names, fields of steps. No condition. -/
import Derived.Test.YtfinhhblcdkpgaaGreatDoorK2
import Derived.Test.YtfinhhblcdkpgaaGreatDoorLib3
set_option maxRecDepth 100000
set_option maxHeartbeats 64000000
set_option linter.unusedSimpArgs false
set_option linter.unusedVariables false
set_option linter.defProp false
namespace Go.Proofs.YtfinhhblcdkpgaaGreatDoor
open Go Go.Abs Go.RowKit
theorem zvi (k:Int):AC Tryz.prog gl 14 [.pv (.int .i64 k)] [] (.pv (.str (wdF k))) []:=by
 by_cases h:k<1
 ·have e:wdF k=[]:=by unfold wdF;rw [if_pos (.inl h)]
  rw [e]
  refine zaK (fun _=>0) 0 zEb ?_
  (repeat' (first|refine Va (fA2 zDR h) ?_|(with_reducible first|refine SB.c ?_ ?_<;>intro _|exact zad)|with_reducible refine zac ?_|omega))
 ·by_cases h2:14<k
  ·have e:wdF k=[]:=by unfold wdF;rw [if_pos (.inr h2)]
   have h2':k > 14:=h2
   rw [e]
   refine zaK (fun _=>0) 0 zEb ?_
   (repeat' (first|refine Va (fA4 zDR h h2 h2') ?_|(with_reducible first|refine SB.c ?_ ?_<;>intro _|exact zad)|with_reducible refine zac ?_|omega))
  ·refine zfb (fun k=>AC Tryz.prog gl 14 [.pv (.int .i64 k)] [] (.pv (.str (wdF k))) []) ?_ k (by omega) (by omega)
   refine ⟨?_,?_,?_,?_,?_,?_,?_,?_,?_,?_,?_,?_,?_,?_⟩<;>(refine zaK (fun _=>0) 0 zEb ?_;(repeat' (first|refine Va (fA5 zDR @wdF.eq_1 @zvf.eq_1 @or_self @if_false.{0}) ?_|(with_reducible first|refine SB.c ?_ ?_<;>intro _|exact zad)|with_reducible refine zac ?_|omega)))
abbrev stO (x:StD):Option AObj:=some (.cells [.pv (.int .i64 x.kind),.pv (.int .i64 x.proc),.pv (.int .i64 x.place),.pv (.int .i64 x.value)])
theorem zdz (k:Int):((k=1∨k=4∨k=5)∧shF k=1)∨((k=2∨k=3∨k=10)∧shF k=2)∨((k=6∨k=7∨k=8∨k=9∨k=12)∧shF k=3)∨(k≠1∧k≠2∧k≠3∧k≠4∧k≠5∧k≠6∧k≠7∧k≠8∧k≠9∧k≠10∧k≠12∧shF k=0):=by
 unfold shF
 by_cases h1:k=1∨k=4∨k=5
 ·exact .inl ⟨h1,if_pos h1⟩
 ·rw [if_neg h1]
  by_cases h2:k=2∨k=3∨k=10
  ·exact .inr (.inl ⟨h2,if_pos h2⟩)
  ·rw [if_neg h2]
   by_cases h3:k=6∨k=7∨k=8∨k=9∨k=12
   ·exact .inr (.inr (.inl ⟨h3,if_pos h3⟩))
   ·rw [if_neg h3]
    exact .inr (.inr (.inr ⟨by omega,by omega,by omega,by omega,by omega,by omega,by omega,by omega,by omega,by omega,by omega,rfl⟩))
theorem zjM (x:StD) (h:shF x.kind=1):AC Tryz.prog gl 58 [.ref 0 0] [stO x] (.csl 1 1 1) [stO x,some (.cells [.ref 0 2])]:=by
 rcases zdz x.kind with ⟨h1,_⟩|⟨_,h2⟩|⟨_,h2⟩|⟨_,_,_,_,_,_,_,_,_,_,_,h2⟩<;>try (rw [h] at h2;cases h2)
 rcases h1 with h1|h1|h1 <;>
 ·refine zax (fun _=>1) 2 zCr ?_
  (repeat' (first|refine Va (fA2 zv7 h1) ?_|(with_reducible first|refine SB.c ?_ ?_<;>intro _|exact zad)|with_reducible refine zac ?_|omega))
  (refine zaI.mk [0,1] ?_ ?_<;>simp [kwr,zv7])
theorem zjN (x:StD) (h:shF x.kind=2):AC Tryz.prog gl 58 [.ref 0 0] [stO x] (.csl 1 2 1) [stO x,some (.cells [.ref 0 1,.ref 0 3])]:=by
 rcases zdz x.kind with ⟨_,h2⟩|⟨h1,_⟩|⟨_,h2⟩|⟨_,_,_,_,_,_,_,_,_,_,_,h2⟩<;>try (rw [h] at h2;cases h2)
 rcases h1 with h1|h1|h1 <;>
 ·refine zax (fun _=>1) 2 zCr ?_
  (repeat' (first|refine Va (fA2 zv7 h1) ?_|(with_reducible first|refine SB.c ?_ ?_<;>intro _|exact zad)|with_reducible refine zac ?_|omega))
  (refine zaI.mk [0,1] ?_ ?_<;>simp [kwr,zv7])
theorem zjO (x:StD) (h:shF x.kind=3):AC Tryz.prog gl 58 [.ref 0 0] [stO x] (.csl 1 1 1) [stO x,some (.cells [.ref 0 1])]:=by
 rcases zdz x.kind with ⟨_,h2⟩|⟨_,h2⟩|⟨h1,_⟩|⟨_,_,_,_,_,_,_,_,_,_,_,h2⟩<;>try (rw [h] at h2;cases h2)
 rcases h1 with h1|h1|h1|h1|h1 <;>
 ·refine zax (fun _=>1) 2 zCr ?_
  (repeat' (first|refine Va (fA2 zv7 h1) ?_|(with_reducible first|refine SB.c ?_ ?_<;>intro _|exact zad)|with_reducible refine zac ?_|omega))
  (refine zaI.mk [0,1] ?_ ?_<;>simp [kwr,zv7])
theorem zjP (x:StD) (h:shF x.kind=0):AC Tryz.prog gl 58 [.ref 0 0] [stO x] .snil [stO x]:=by
 rcases zdz x.kind with ⟨_,h2⟩|⟨_,h2⟩|⟨_,h2⟩|⟨a1,a2,a3,a4,a5,a6,a7,a8,a9,a10,a11,_⟩<;>try (rw [h] at h2;cases h2)
 refine zax (fun _=>1) 2 zCr ?_
 (repeat' (first|refine Va (zn9 zv7 a1 a2 a3 a4 a5 a6 a7 a8 a9 a10 a11) ?_|(with_reducible first|refine SB.c ?_ ?_<;>intro _|exact zad)|with_reducible refine zac ?_|omega))
 (refine zaI.mk [0] ?_ ?_<;>simp [kwr,zv7])
def zyo (c:CdD):List PVal:=[.slice (c.init.map zl1),.slice (c.start.map zam),.slice (c.message.map zam),.slice (c.tick.map zam),.slice (c.input.map zam)]
abbrev rdO (ls:List (List UInt8)) (torn:Bool) (k:Nat) (cs:List CdD) (p f:Int) (xs:List StD):List (Option AObj):=
 [some (.cells [.pv (.slice (ls.map zwg)),.pv (.bool torn),.pv (.int .i64 k),.row 1 cs.length,.pv (.int .i64 p),.pv (.int .i64 f),.row 2 xs.length]),some (.row 5 (cs.map zyo)),some (.row 4 (xs.map zcE))]
theorem ziu (ls:List (List UInt8)) (torn:Bool) (k:Nat) (cs:List CdD) (p f:Int) (xs:List StD) (hk:k≤1000000000) (hl:ls.length≤1000000000) :
  AC Tryz.prog gl 60 [.ref 0 0] (rdO ls torn k cs p f xs) (.tup [.pv (.str (ls.getD k [])),.pv (.bool (decide (k<ls.length)))]) (rdO ls torn (k+1) cs p f xs):=by
 have hw:=zbu k (by omega)
 by_cases h:k<ls.length
 ·have h1:¬ (((k+1:Nat):Int) > ls.length):=by omega
  have h2:(((k+1:Nat):Int)) - 1=k:=by omega
  have h3:IntKind.i64.wrap (((k+1:Nat):Int) - 1)=k:=by rw [zaB _ (by omega) (by omega)];omega
  have hget:=zaV zwg ls k h
  have hg2:ls.getD k []=ls[k]:=by rw [List.getD_eq_getElem?_getD,List.getElem?_eq_getElem h];rfl
  rw [decide_eq_true h,hg2]
  generalize ls[k]=x at *
  replace hget:(ls.map zwg).getD k []=[.str x]:=hget
  refine zax (fun _=>3) 4 zCs ?_
  (repeat' (first|refine Va (fA6 zv8 hw h1 h3 h hget) ?_|(with_reducible first|refine SB.c ?_ ?_<;>intro _|exact zad)|with_reducible refine zac ?_|omega))
  (refine zaI.mk [0,1,2] ?_ ?_<;>simp [kwr,zv8])
 ·have h1:(((k+1:Nat):Int) > ls.length):=by omega
  have hg2:ls.getD k []=[]:=by rw [List.getD_eq_getElem?_getD,List.getElem?_eq_none (by omega)];rfl
  rw [decide_eq_false h,hg2]
  refine zax (fun _=>3) 4 zCs ?_
  (repeat' (first|refine Va (fA3 zv8 hw h1) ?_|(with_reducible first|refine SB.c ?_ ?_<;>intro _|exact zad)|with_reducible refine zac ?_|omega))
  (refine zaI.mk [0,1,2] ?_ ?_<;>simp [kwr,zv8])
end Go.Proofs.YtfinhhblcdkpgaaGreatDoor
