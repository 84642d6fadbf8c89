/- Words, names, fields of steps. No condition. -/
import Derived.Test.YtfinhhblcdkpgaaGreatDoorK2
import Derived.Test.YtfinhhblcdkpgaaGreatDoorLib3
set_option maxRecDepth 100000
set_option maxHeartbeats 64000000
set_option linter.unusedSimpArgs false
set_option linter.unusedVariables false
set_option linter.defProp false
namespace Go.Proofs.YtfinhhblcdkpgaaGreatDoor
open Go Go.Abs Go.RowKit
theorem zt9 (k:Int):AC Tryz.prog gl 14 [.pv (.int .i64 k)] [] (.pv (.str (wdF k))) []:=by
 by_cases h:k<1
 ·have e:wdF k=[]:=by unfold wdF;rw [if_pos (.inl h)]
  rw [e]
  refine zam (fun _=>0) 0 zCv ?_
  (repeat' (first|refine Va (fA2 zCa h) ?_|(with_reducible first|refine SB.c ?_ ?_<;>intro _|exact zac)|with_reducible refine zab ?_|omega))
 ·by_cases h2:14<k
  ·have e:wdF k=[]:=by unfold wdF;rw [if_pos (.inr h2)]
   have h2':k > 14:=h2
   rw [e]
   refine zam (fun _=>0) 0 zCv ?_
   (repeat' (first|refine Va (fA4 zCa h h2 h2') ?_|(with_reducible first|refine SB.c ?_ ?_<;>intro _|exact zac)|with_reducible refine zab ?_|omega))
  ·refine zf8 (fun k=>AC Tryz.prog gl 14 [.pv (.int .i64 k)] [] (.pv (.str (wdF k))) []) ?_ k (by omega) (by omega)
   refine ⟨?_,?_,?_,?_,?_,?_,?_,?_,?_,?_,?_,?_,?_,?_⟩<;>(refine zam (fun _=>0) 0 zCv ?_;(repeat' (first|refine Va (fA5 zCa @wdF.eq_1 @zsd.eq_1 @or_self @if_false.{0}) ?_|(with_reducible first|refine SB.c ?_ ?_<;>intro _|exact zac)|with_reducible refine zab ?_|omega)))
theorem zn5 (k:Int):AC Tryz.prog gl 15 [.pv (.int .i64 k)] [] (.pv (.str (wdF k))) []:=by
 by_cases h:k<0
 ·have e:wdF k=[]:=by unfold wdF;rw [if_pos (by omega)]
  rw [e]
  refine zam (fun _=>0) 0 zAD ?_
  (repeat' (first|refine Va (fA2 zAo h) ?_|(with_reducible first|refine SB.c ?_ ?_<;>intro _|exact zac)|with_reducible refine zab ?_|omega))
 ·by_cases h2:15≤k
  ·have e:wdF k=[]:=by unfold wdF;rw [if_pos (by omega)]
   have h2':k≥15:=h2
   rw [e]
   refine zam (fun _=>0) 0 zAD ?_
   (repeat' (first|refine Va (fA4 zAo h h2 h2') ?_|(with_reducible first|refine SB.c ?_ ?_<;>intro _|exact zac)|with_reducible refine zab ?_|omega))
  ·by_cases h0:k=0
   ·subst h0
    refine zam (fun _=>0) 0 zAD ?_
    (repeat' (first|refine Va (fA5 zAo @wdF.eq_1 @true_or @or_self @if_true.{0}) ?_|(with_reducible first|refine SB.c ?_ ?_<;>intro _|exact zac)|with_reducible refine zab ?_|omega))
   ·refine zf8 (fun k=>AC Tryz.prog gl 15 [.pv (.int .i64 k)] [] (.pv (.str (wdF k))) []) ?_ k (by omega) (by omega)
    refine ⟨?_,?_,?_,?_,?_,?_,?_,?_,?_,?_,?_,?_,?_,?_⟩<;>(refine zam (fun _=>0) 0 zAD ?_;(repeat' (first|refine Va (fA5 zAo @wdF.eq_1 @zsd.eq_1 @or_self @if_false.{0}) ?_|(with_reducible first|refine SB.c ?_ ?_<;>intro _|exact zac)|with_reducible refine zab ?_|omega)))
theorem zua (P:Int→Prop) (h:P 1∧P 2∧P 3∧P 4∧P 5∧P 6∧P 7∧P 8) (k:Int) (h1:1≤k) (h2:k≤8):P k:=by
 obtain ⟨a1,a2,a3,a4,a5,a6,a7,a8⟩:=h
 have:k=1∨k=2∨k=3∨k=4∨k=5∨k=6∨k=7∨k=8:=by omega
 rcases this with rfl|rfl|rfl|rfl|rfl|rfl|rfl|rfl<;>assumption
theorem zmM (k:Int):AC Tryz.prog gl 26 [.pv (.int .i64 k)] [] (.pv (.str (prF k))) []:=by
 by_cases h:k<0
 ·have e:prF k=[]:=by unfold prF;rw [if_pos (by omega)]
  rw [e]
  refine zam (fun _=>0) 0 zAE ?_
  (repeat' (first|refine Va (fA2 zAt h) ?_|(with_reducible first|refine SB.c ?_ ?_<;>intro _|exact zac)|with_reducible refine zab ?_|omega))
 ·by_cases h2:9≤k
  ·have e:prF k=[]:=by unfold prF;rw [if_pos (by omega)]
   have h2':k≥9:=h2
   rw [e]
   refine zam (fun _=>0) 0 zAE ?_
   (repeat' (first|refine Va (fA4 zAt h h2 h2') ?_|(with_reducible first|refine SB.c ?_ ?_<;>intro _|exact zac)|with_reducible refine zab ?_|omega))
  ·by_cases h0:k=0
   ·subst h0
    refine zam (fun _=>0) 0 zAE ?_
    (repeat' (first|refine Va (fA5 zAt @prF.eq_1 @true_or @or_self @if_true.{0}) ?_|(with_reducible first|refine SB.c ?_ ?_<;>intro _|exact zac)|with_reducible refine zab ?_|omega))
   ·refine zua (fun k=>AC Tryz.prog gl 26 [.pv (.int .i64 k)] [] (.pv (.str (prF k))) []) ?_ k (by omega) (by omega)
    refine ⟨?_,?_,?_,?_,?_,?_,?_,?_⟩<;>(refine zam (fun _=>0) 0 zAE ?_;(repeat' (first|refine Va (fA5 zAt @prF.eq_1 @zlF.eq_1 @or_self @if_false.{0}) ?_|(with_reducible first|refine SB.c ?_ ?_<;>intro _|exact zac)|with_reducible refine zab ?_|omega)))
abbrev stO (x:StD):Option AObj:=some (.cells [.pv (.int .i64 x.kind),.pv (.int .i64 x.proc),.pv (.int .i64 x.place),.pv (.int .i64 x.value)])
theorem zbS (k:Int):((k=1∨k=4∨k=5)∧shF k=1)∨((k=2∨k=3∨k=10)∧shF k=2)∨((k=6∨k=7∨k=8∨k=9∨k=12)∧shF k=3)∨(k≠1∧k≠2∧k≠3∧k≠4∧k≠5∧k≠6∧k≠7∧k≠8∧k≠9∧k≠10∧k≠12∧shF k=0):=by
 unfold shF
 by_cases h1:k=1∨k=4∨k=5
 ·exact .inl ⟨h1,if_pos h1⟩
 ·rw [if_neg h1]
  by_cases h2:k=2∨k=3∨k=10
  ·exact .inr (.inl ⟨h2,if_pos h2⟩)
  ·rw [if_neg h2]
   by_cases h3:k=6∨k=7∨k=8∨k=9∨k=12
   ·exact .inr (.inr (.inl ⟨h3,if_pos h3⟩))
   ·rw [if_neg h3]
    exact .inr (.inr (.inr ⟨by omega,by omega,by omega,by omega,by omega,by omega,by omega,by omega,by omega,by omega,by omega,rfl⟩))
theorem zjx (x:StD) (h:shF x.kind=1):AC Tryz.prog gl 58 [.ref 0 0] [stO x] (.csl 1 1 1) [stO x,some (.cells [.ref 0 2])]:=by
 rcases zbS x.kind with ⟨h1,_⟩|⟨_,h2⟩|⟨_,h2⟩|⟨_,_,_,_,_,_,_,_,_,_,_,h2⟩<;>try (rw [h] at h2;cases h2)
 rcases h1 with h1|h1|h1 <;>
 ·refine zay (fun _=>1) 2 zAH ?_
  (repeat' (first|refine Va (fA2 zuP h1) ?_|(with_reducible first|refine SB.c ?_ ?_<;>intro _|exact zac)|with_reducible refine zab ?_|omega))
  (refine zaJ.mk [0,1] ?_ ?_<;>simp [kwr,zuP])
theorem zjy (x:StD) (h:shF x.kind=2):AC Tryz.prog gl 58 [.ref 0 0] [stO x] (.csl 1 2 1) [stO x,some (.cells [.ref 0 1,.ref 0 3])]:=by
 rcases zbS x.kind with ⟨_,h2⟩|⟨h1,_⟩|⟨_,h2⟩|⟨_,_,_,_,_,_,_,_,_,_,_,h2⟩<;>try (rw [h] at h2;cases h2)
 rcases h1 with h1|h1|h1 <;>
 ·refine zay (fun _=>1) 2 zAH ?_
  (repeat' (first|refine Va (fA2 zuP h1) ?_|(with_reducible first|refine SB.c ?_ ?_<;>intro _|exact zac)|with_reducible refine zab ?_|omega))
  (refine zaJ.mk [0,1] ?_ ?_<;>simp [kwr,zuP])
theorem zjz (x:StD) (h:shF x.kind=3):AC Tryz.prog gl 58 [.ref 0 0] [stO x] (.csl 1 1 1) [stO x,some (.cells [.ref 0 1])]:=by
 rcases zbS x.kind with ⟨_,h2⟩|⟨_,h2⟩|⟨h1,_⟩|⟨_,_,_,_,_,_,_,_,_,_,_,h2⟩<;>try (rw [h] at h2;cases h2)
 rcases h1 with h1|h1|h1|h1|h1 <;>
 ·refine zay (fun _=>1) 2 zAH ?_
  (repeat' (first|refine Va (fA2 zuP h1) ?_|(with_reducible first|refine SB.c ?_ ?_<;>intro _|exact zac)|with_reducible refine zab ?_|omega))
  (refine zaJ.mk [0,1] ?_ ?_<;>simp [kwr,zuP])
theorem zjA (x:StD) (h:shF x.kind=0):AC Tryz.prog gl 58 [.ref 0 0] [stO x] .snil [stO x]:=by
 rcases zbS x.kind with ⟨_,h2⟩|⟨_,h2⟩|⟨_,h2⟩|⟨a1,a2,a3,a4,a5,a6,a7,a8,a9,a10,a11,_⟩<;>try (rw [h] at h2;cases h2)
 refine zay (fun _=>1) 2 zAH ?_
 (repeat' (first|refine Va (zmr zuP a1 a2 a3 a4 a5 a6 a7 a8 a9 a10 a11) ?_|(with_reducible first|refine SB.c ?_ ?_<;>intro _|exact zac)|with_reducible refine zab ?_|omega))
 (refine zaJ.mk [0] ?_ ?_<;>simp [kwr,zuP])
end Go.Proofs.YtfinhhblcdkpgaaGreatDoor
