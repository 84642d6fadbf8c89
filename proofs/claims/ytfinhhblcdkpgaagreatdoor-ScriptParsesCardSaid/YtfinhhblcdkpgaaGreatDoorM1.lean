/- A part of the walk (Tryz_M1): its theorems have no condition beyond what they state. -/
import Derived.Test.YtfinhhblcdkpgaaGreatDoorLib2
import Derived.Test.YtfinhhblcdkpgaaGreatDoorT0
import Derived.Test.YtfinhhblcdkpgaaGreatDoorLib3
set_option maxRecDepth 100000
set_option maxHeartbeats 64000000
set_option linter.unusedSimpArgs false
set_option linter.unusedVariables false
namespace Go.Proofs.YtfinhhblcdkpgaaGreatDoor
open Go Go.Abs
abbrev cdO (cs:List UInt8) (k:Nat):List (Option AObj):=[some (.cells [.pv (.slice (cs.map zol)),.pv (.int .i64 k)])]
theorem zAV (cs:List UInt8) (k:Nat):AC Tryz.prog gl 33 [.ref 0 0] (cdO cs k) (.pv (.bool (decide ((k:Int)<cs.length)))) (cdO cs k):=by
 refine zat (fun _=>0) 1 zJI ?_
 refine Wk1 zHY ?_
 (refine zax.mk [0] ?_ ?_<;>simp [kwr,zHY])
theorem zbF (cs:List UInt8) (k:Nat) (n:Int) (hn:0<n) (hc:cs.length≤1000000) (hn2:n≤1000000):AC Tryz.prog gl 16 [.ref 0 0,.pv (.int .i64 n)] (cdO cs k) (.pv (.int .i64 (nxt cs k n).1)) (cdO cs (nxt cs k n).2):=by
 unfold nxt
 have hl:=zAV cs k
 by_cases hk:k<cs.length
 ·rw [if_pos hk]
  have hk':(k:Int)<cs.length:=by omega
  rw [decide_eq_true hk'] at hl
  have hw:=zaP k (by omega)
  have hs:IntKind.i64.wrap (((k+1:Nat):Int) - 1)=(k:Int):=by rw [zay _ (by omega) (by omega)];omega
  have hget:(cs.map zol).getD k []=[.int .u8 ((cs.getD k 0).toNat:Int)]:=by simp [List.getD,hk,zol]
  have hlt:(cs.getD k 0).toNat<256:=(cs.getD k 0).toNat_lt
  generalize (cs.getD k 0).toNat=c at *
  have e1:IntKind.i64.wrap (c:Int)=c:=zay _ (by omega) (by omega)
  have h0:0≤(c:Int).tmod n:=Int.tmod_nonneg _ (by omega)
  have h1:(c:Int).tmod n<n:=Int.tmod_lt_of_pos _ hn
  have e4:¬ n=0:=by omega
  generalize hm:(c:Int).tmod n=m at *
  have e3:IntKind.i64.wrap m=m:=zay _ (by omega) (by omega)
  refine zat (fun _=>0) 1 zH0 ?_
  refine Wk1 (zg8 @kz zEC hk hk' hw hs hget e1 hm e3 e4 (cX [0] [] zp6 hl)) ?_
  (refine zax.mk [0] ?_ ?_<;>simp [kwr,zEC])
 ·rw [if_neg hk]
  have hk':¬ (k:Int)<cs.length:=by omega
  rw [decide_eq_false hk'] at hl
  refine zat (fun _=>0) 1 zH0 ?_
  refine Wk1 (fA5 @kz zEC hk hk' (cX [0] [] zp6 hl)) ?_
  (refine zax.mk [0] ?_ ?_<;>simp [kwr,zEC])
theorem zEg (cs:List UInt8) (n:Nat) (hn:n≤1000000):AC Tryz.prog gl 24 [.pv (.slice (cs.map zol)),.pv (.int .i64 n)] [] (.ref 0 0) (cdO (cs.take n) 0):=by
 refine zat (fun _=>0) 1 zJF ?_
 by_cases h:cs.length > n
 ·have h':(cs.length:Int) > n:=by omega
  have h2:(n:Int)≤cs.length:=by omega
  have e:(cs.map zol).take n=(cs.take n).map zol:=by rw [List.map_take]
  refine Wk1 (fA4 zEE h' h2 e) ?_
  (refine zax.mk [0] ?_ ?_<;>simp [kwr,zEE])
 ·have h':¬ (cs.length:Int) > n:=by omega
  have e:cs.take n=cs:=List.take_of_length_le (by omega)
  rw [e]
  refine Wk1 (fA2 zEE h') ?_
  (refine zax.mk [0] ?_ ?_<;>simp [kwr,zEE])
theorem zij (xs:List UInt8) (hxs:xs.length≤1000) (d:Nat) (hd:d≤1000) (rec:Nat→Ex × Nat) (hr:∀ a≤xs.length,(rec a).2≤xs.length) (hrec:1<d→∀ a≤xs.length,AC Tryz.prog gl 69 [.ref 0 0,.pv (.int .i64 ((d:Int) - 1))] (cdO xs a) (exA (rec a).1) (cdO xs (rec a).2)) (a:Nat) (q:Int × Nat) (hl1:q.2≤xs.length) (c12:AC Tryz.prog gl 16 [.ref 0 0,.pv (.int .i64 12)] (cdO xs a) (.pv (.int .i64 q.1)) (cdO xs q.2)) (hq:q.1=0∨q.1=1∨(q.1=8∧d≤1)∨(q.1=9∧d≤1)):AC Tryz.prog gl 69 [.ref 0 0,.pv (.int .i64 d)] (cdO xs a) (exA (exL 1 (nxt xs q.2 5).1 [] [])) (cdO xs (nxt xs q.2 5).2):=by
 have hwd:IntKind.i64.wrap ((d:Int) - 1)=(d:Int) - 1:=zay _ (by omega) (by omega)
 have c:=zbF xs q.2 5 (by omega) (by omega) (by omega)
 have hm:=za9 xs q.2 5 (by omega)
 generalize nxt xs q.2 5=m at *
 rcases hq with hq|hq|⟨hq,hs⟩|⟨hq,hs⟩
 ·rw [hq] at c12
  clear hq
  refine zat (fun d=>if d=4 then 1 else 2) 3 znk ?_
  repeat' first|refine Va (fA6 @kz zfT @kA @exA.eq_1 @Bool.and_false hwd) ?_|(with_reducible first|refine SB.c ?_ ?_<;>intro _|exact zak)|refine dC1 zae c12 ?_|refine dC1 zae c ?_|with_reducible refine zaj ?_|omega
  (refine zax.mk [0] ?_ ?_<;>simp [kwr,zfT,exA,exL,Ex.op_mk,Ex.value_mk,Ex.name_mk,Ex.slot_mk,Ex.size_mk,Ex.args_mk,zaQ,zcf,zaP])
 ·rw [hq] at c12
  clear hq
  refine zat (fun d=>if d=4 then 1 else 2) 3 znk ?_
  repeat' first|refine Va (fA6 @kz zfT @kA @exA.eq_1 @Bool.and_false hwd) ?_|(with_reducible first|refine SB.c ?_ ?_<;>intro _|exact zak)|refine dC1 zae c12 ?_|refine dC1 zae c ?_|with_reducible refine zaj ?_|omega
  (refine zax.mk [0] ?_ ?_<;>simp [kwr,zfT,exA,exL,Ex.op_mk,Ex.value_mk,Ex.name_mk,Ex.slot_mk,Ex.size_mk,Ex.args_mk,zaQ,zcf,zaP])
 ·rw [hq] at c12
  have hs':(d:Int)≤1:=by omega
  have hw8:IntKind.i64.wrap 0=0:=by decide
  refine zat (fun d=>if d=4 then 1 else 2) 3 znk ?_
  repeat' first|refine Va (fA8 @kz zfT @kA @exA.eq_1 hs' hw8 @Bool.and_false hwd) ?_|(with_reducible first|refine SB.c ?_ ?_<;>intro _|exact zak)|refine dC1 zae c12 ?_|refine dC1 zae c ?_|with_reducible refine zaj ?_|omega
  (refine zax.mk [0] ?_ ?_<;>simp [kwr,zfT,exA,exL,Ex.op_mk,Ex.value_mk,Ex.name_mk,Ex.slot_mk,Ex.size_mk,Ex.args_mk,zaQ,zcf,zaP])
 ·rw [hq] at c12
  have hs':(d:Int)≤1:=by omega
  have hw8:IntKind.i64.wrap 1=1:=by decide
  refine zat (fun d=>if d=4 then 1 else 2) 3 znk ?_
  repeat' first|refine Va (fA8 @kz zfT @kA @exA.eq_1 hs' hw8 @Bool.and_false hwd) ?_|(with_reducible first|refine SB.c ?_ ?_<;>intro _|exact zak)|refine dC1 zae c12 ?_|refine dC1 zae c ?_|with_reducible refine zaj ?_|omega
  (refine zax.mk [0] ?_ ?_<;>simp [kwr,zfT,exA,exL,Ex.op_mk,Ex.value_mk,Ex.name_mk,Ex.slot_mk,Ex.size_mk,Ex.args_mk,zaQ,zcf,zaP])
theorem zik (xs:List UInt8) (hxs:xs.length≤1000) (d:Nat) (hd:d≤1000) (rec:Nat→Ex × Nat) (hr:∀ a≤xs.length,(rec a).2≤xs.length) (hrec:1<d→∀ a≤xs.length,AC Tryz.prog gl 69 [.ref 0 0,.pv (.int .i64 ((d:Int) - 1))] (cdO xs a) (exA (rec a).1) (cdO xs (rec a).2)) (a:Nat) (q:Int × Nat) (hl1:q.2≤xs.length) (c12:AC Tryz.prog gl 16 [.ref 0 0,.pv (.int .i64 12)] (cdO xs a) (.pv (.int .i64 q.1)) (cdO xs q.2)) (hq:q.1=2∨q.1=3∨(q.1=10∧d≤1)∨(q.1=11∧d≤1)):AC Tryz.prog gl 69 [.ref 0 0,.pv (.int .i64 d)] (cdO xs a) (exA (exL 2 0 (zum (nxt xs q.2 3).1) [])) (cdO xs (nxt xs q.2 3).2):=by
 have hwd:IntKind.i64.wrap ((d:Int) - 1)=(d:Int) - 1:=zay _ (by omega) (by omega)
 have c:=zbF xs q.2 3 (by omega) (by omega) (by omega)
 have hm:=za9 xs q.2 3 (by omega)
 generalize nxt xs q.2 3=m at *
 rcases hq with hq|hq|⟨hq,hs⟩|⟨hq,hs⟩
 ·rw [hq] at c12
  clear hq
  rcases (show m.1=0∨m.1=1∨m.1=2 by omega) with hi|hi|hi
  all_goals (
   refine zat (fun d=>if d=4 then 1 else 2) 3 znk ?_
   repeat' first|refine Va (fA7 @kz zfT @kA @exA.eq_1 @Bool.and_false hwd hi) ?_|(with_reducible first|refine SB.c ?_ ?_<;>intro _|exact zak)|refine dC1 zae c12 ?_|refine dC1 zae c ?_|with_reducible refine zaj ?_|omega
   (refine zax.mk [0] ?_ ?_<;>simp [kwr,zfT,exA,exL,Ex.op_mk,Ex.value_mk,Ex.name_mk,Ex.slot_mk,Ex.size_mk,Ex.args_mk,zaQ,zcf,zum,hi]))
 ·rw [hq] at c12
  clear hq
  rcases (show m.1=0∨m.1=1∨m.1=2 by omega) with hi|hi|hi
  all_goals (
   refine zat (fun d=>if d=4 then 1 else 2) 3 znk ?_
   repeat' first|refine Va (fA7 @kz zfT @kA @exA.eq_1 @Bool.and_false hwd hi) ?_|(with_reducible first|refine SB.c ?_ ?_<;>intro _|exact zak)|refine dC1 zae c12 ?_|refine dC1 zae c ?_|with_reducible refine zaj ?_|omega
   (refine zax.mk [0] ?_ ?_<;>simp [kwr,zfT,exA,exL,Ex.op_mk,Ex.value_mk,Ex.name_mk,Ex.slot_mk,Ex.size_mk,Ex.args_mk,zaQ,zcf,zum,hi]))
 ·rw [hq] at c12
  have hs':(d:Int)≤1:=by omega
  have hw8:IntKind.i64.wrap 2=2:=by decide
  rcases (show m.1=0∨m.1=1∨m.1=2 by omega) with hi|hi|hi
  all_goals (
   refine zat (fun d=>if d=4 then 1 else 2) 3 znk ?_
   repeat' first|refine Va (fA9 @kz zfT @kA @exA.eq_1 hs' hw8 @Bool.and_false hwd hi) ?_|(with_reducible first|refine SB.c ?_ ?_<;>intro _|exact zak)|refine dC1 zae c12 ?_|refine dC1 zae c ?_|with_reducible refine zaj ?_|omega
   (refine zax.mk [0] ?_ ?_<;>simp [kwr,zfT,exA,exL,Ex.op_mk,Ex.value_mk,Ex.name_mk,Ex.slot_mk,Ex.size_mk,Ex.args_mk,zaQ,zcf,zum,hi]))
 ·rw [hq] at c12
  have hs':(d:Int)≤1:=by omega
  have hw8:IntKind.i64.wrap 3=3:=by decide
  rcases (show m.1=0∨m.1=1∨m.1=2 by omega) with hi|hi|hi
  all_goals (
   refine zat (fun d=>if d=4 then 1 else 2) 3 znk ?_
   repeat' first|refine Va (fA9 @kz zfT @kA @exA.eq_1 hs' hw8 @Bool.and_false hwd hi) ?_|(with_reducible first|refine SB.c ?_ ?_<;>intro _|exact zak)|refine dC1 zae c12 ?_|refine dC1 zae c ?_|with_reducible refine zaj ?_|omega
   (refine zax.mk [0] ?_ ?_<;>simp [kwr,zfT,exA,exL,Ex.op_mk,Ex.value_mk,Ex.name_mk,Ex.slot_mk,Ex.size_mk,Ex.args_mk,zaQ,zcf,zum,hi]))
theorem zu4 (xs:List UInt8) (hxs:xs.length≤1000) (d:Nat) (hd:d≤1000) (rec:Nat→Ex × Nat) (hr:∀ a≤xs.length,(rec a).2≤xs.length) (hrec:1<d→∀ a≤xs.length,AC Tryz.prog gl 69 [.ref 0 0,.pv (.int .i64 ((d:Int) - 1))] (cdO xs a) (exA (rec a).1) (cdO xs (rec a).2)) (a:Nat) (q:Int × Nat) (hl1:q.2≤xs.length) (c12:AC Tryz.prog gl 16 [.ref 0 0,.pv (.int .i64 12)] (cdO xs a) (.pv (.int .i64 q.1)) (cdO xs q.2)) (hq:q.1=4):AC Tryz.prog gl 69 [.ref 0 0,.pv (.int .i64 d)] (cdO xs a) (exA (exL 7 0 [] [])) (cdO xs q.2):=by
 have hwd:IntKind.i64.wrap ((d:Int) - 1)=(d:Int) - 1:=zay _ (by omega) (by omega)
 rcases hq with hq
 ·rw [hq] at c12
  clear hq
  refine zat (fun d=>if d=4 then 1 else 2) 3 znk ?_
  refine Wk1 (fA7 @kz zfT @kA @exA.eq_1 @Bool.and_false hwd (cX [0] [] zae c12)) ?_
  (refine zax.mk [0] ?_ ?_<;>simp [kwr,zfT,exA,exL,Ex.op_mk,Ex.value_mk,Ex.name_mk,Ex.slot_mk,Ex.size_mk,Ex.args_mk,zaQ,zcf,zaP])
theorem zu5 (xs:List UInt8) (hxs:xs.length≤1000) (d:Nat) (hd:d≤1000) (rec:Nat→Ex × Nat) (hr:∀ a≤xs.length,(rec a).2≤xs.length) (hrec:1<d→∀ a≤xs.length,AC Tryz.prog gl 69 [.ref 0 0,.pv (.int .i64 ((d:Int) - 1))] (cdO xs a) (exA (rec a).1) (cdO xs (rec a).2)) (a:Nat) (q:Int × Nat) (hl1:q.2≤xs.length) (c12:AC Tryz.prog gl 16 [.ref 0 0,.pv (.int .i64 12)] (cdO xs a) (.pv (.int .i64 q.1)) (cdO xs q.2)) (hq:q.1=5):AC Tryz.prog gl 69 [.ref 0 0,.pv (.int .i64 d)] (cdO xs a) (exA (exL (opN (nxt xs q.2 3).1) 0 [] [])) (cdO xs (nxt xs q.2 3).2):=by
 have hwd:IntKind.i64.wrap ((d:Int) - 1)=(d:Int) - 1:=zay _ (by omega) (by omega)
 have c:=zbF xs q.2 3 (by omega) (by omega) (by omega)
 have hm:=za9 xs q.2 3 (by omega)
 generalize nxt xs q.2 3=m at *
 rcases hq with hq
 ·rw [hq] at c12
  clear hq
  rcases (show m.1=0∨m.1=1∨m.1=2 by omega) with hi|hi|hi
  all_goals (
   refine zat (fun d=>if d=4 then 1 else 2) 3 znk ?_
   repeat' first|refine Va (fA7 @kz zfT @kA @exA.eq_1 @Bool.and_false hwd hi) ?_|(with_reducible first|refine SB.c ?_ ?_<;>intro _|exact zak)|refine dC1 zae c12 ?_|refine dC1 zae c ?_|with_reducible refine zaj ?_|omega
   (refine zax.mk [0] ?_ ?_<;>simp [kwr,zfT,exA,exL,Ex.op_mk,Ex.value_mk,Ex.name_mk,Ex.slot_mk,Ex.size_mk,Ex.args_mk,zaQ,zcf,opN,hi]))
theorem zpo (xs:List UInt8) (hxs:xs.length≤1000) (d:Nat) (hd:d≤1000) (rec:Nat→Ex × Nat) (hr:∀ a≤xs.length,(rec a).2≤xs.length) (hrec:1<d→∀ a≤xs.length,AC Tryz.prog gl 69 [.ref 0 0,.pv (.int .i64 ((d:Int) - 1))] (cdO xs a) (exA (rec a).1) (cdO xs (rec a).2)) (a:Nat) (q:Int × Nat) (hl1:q.2≤xs.length) (c12:AC Tryz.prog gl 16 [.ref 0 0,.pv (.int .i64 12)] (cdO xs a) (.pv (.int .i64 q.1)) (cdO xs q.2)) (hq:q.1=6∨(q.1=7∧d≤1)):AC Tryz.prog gl 69 [.ref 0 0,.pv (.int .i64 d)] (cdO xs a) (exA (exL 1 (1+(nxt xs q.2 200).1) [] [])) (cdO xs (nxt xs q.2 200).2):=by
 have hwd:IntKind.i64.wrap ((d:Int) - 1)=(d:Int) - 1:=zay _ (by omega) (by omega)
 have c:=zbF xs q.2 200 (by omega) (by omega) (by omega)
 have hm:=za9 xs q.2 200 (by omega)
 generalize nxt xs q.2 200=m at *
 have hw1:IntKind.i64.wrap (1+m.1)=1+m.1:=zay _ (by omega) (by omega)
 rcases hq with hq|⟨hq,hs⟩
 ·rw [hq] at c12
  clear hq
  refine zat (fun d=>if d=4 then 1 else 2) 3 znk ?_
  repeat' first|refine Va (fA9 @kz zfT @kA @exA.eq_1 @Bool.and_false hwd hw1 @Bool.true_or @Bool.or_true) ?_|(with_reducible first|refine SB.c ?_ ?_<;>intro _|exact zak)|refine dC1 zae c12 ?_|refine dC1 zae c ?_|with_reducible refine zaj ?_|omega
  (refine zax.mk [0] ?_ ?_<;>simp [kwr,zfT,exA,exL,Ex.op_mk,Ex.value_mk,Ex.name_mk,Ex.slot_mk,Ex.size_mk,Ex.args_mk,zaQ,zcf,zaP])
 ·rw [hq] at c12
  have hs':(d:Int)≤1:=by omega
  refine zat (fun d=>if d=4 then 1 else 2) 3 znk ?_
  repeat' first|refine Va (zgj @kz zfT @kA @exA.eq_1 hs' @Bool.and_false hwd hw1 @Bool.true_or @Bool.or_true) ?_|(with_reducible first|refine SB.c ?_ ?_<;>intro _|exact zak)|refine dC1 zae c12 ?_|refine dC1 zae c ?_|with_reducible refine zaj ?_|omega
  (refine zax.mk [0] ?_ ?_<;>simp [kwr,zfT,exA,exL,Ex.op_mk,Ex.value_mk,Ex.name_mk,Ex.slot_mk,Ex.size_mk,Ex.args_mk,zaQ,zcf,zaP])
theorem zAW (xs:List UInt8) (hxs:xs.length≤1000) (d:Nat) (hd:d≤1000) (rec:Nat→Ex × Nat) (hr:∀ a≤xs.length,(rec a).2≤xs.length) (hrec:1<d→∀ a≤xs.length,AC Tryz.prog gl 69 [.ref 0 0,.pv (.int .i64 ((d:Int) - 1))] (cdO xs a) (exA (rec a).1) (cdO xs (rec a).2)) (a:Nat) (q:Int × Nat) (hl1:q.2≤xs.length) (c12:AC Tryz.prog gl 16 [.ref 0 0,.pv (.int .i64 12)] (cdO xs a) (.pv (.int .i64 q.1)) (cdO xs q.2)) (hq:(q.1=7∧¬ d≤1)):AC Tryz.prog gl 69 [.ref 0 0,.pv (.int .i64 d)] (cdO xs a) (exA (exL 3 0 (zyq (nxt xs q.2 2).1) [(rec (nxt xs q.2 2).2).1])) (cdO xs (rec (nxt xs q.2 2).2).2):=by
 have hwd:IntKind.i64.wrap ((d:Int) - 1)=(d:Int) - 1:=zay _ (by omega) (by omega)
 have hd1:1<d:=by omega
 have c:=zbF xs q.2 2 (by omega) (by omega) (by omega)
 have hm:=za9 xs q.2 2 (by omega)
 have cr:=hrec hd1 (nxt xs q.2 2).2 (za0 _ _ _ hl1)
 generalize nxt xs q.2 2=m at *
 have hye:=zaz (rec m.2).1
 generalize rec m.2=y at *
 rcases hq with ⟨hq,hs⟩
 ·rw [hq] at c12
  have hs':¬ (d:Int)≤1:=by omega
  rcases (show m.1=0∨m.1=1 by omega) with hi|hi
  all_goals (
   refine zat (fun d=>if d=4 then 1 else 2) 3 znk ?_
   repeat' first|refine Va (fA8 @kz zfT @kA @exA.eq_1 hs' @Bool.and_false hwd hi) ?_|(with_reducible first|refine SB.c ?_ ?_<;>intro _|exact zak)|refine dC1 zae c12 ?_|refine dC1 zae c ?_|refine dC1 zbg cr ?_|with_reducible refine zaj ?_|omega
   (refine zax.mk [0] ?_ ?_<;>simp [kwr,zfT,exA,exL,Ex.op_mk,Ex.value_mk,Ex.name_mk,Ex.slot_mk,Ex.size_mk,Ex.args_mk,zaQ,zcf,zyq,hi,hye]))
theorem zAX (xs:List UInt8) (hxs:xs.length≤1000) (d:Nat) (hd:d≤1000) (rec:Nat→Ex × Nat) (hr:∀ a≤xs.length,(rec a).2≤xs.length) (hrec:1<d→∀ a≤xs.length,AC Tryz.prog gl 69 [.ref 0 0,.pv (.int .i64 ((d:Int) - 1))] (cdO xs a) (exA (rec a).1) (cdO xs (rec a).2)) (a:Nat) (q:Int × Nat) (hl1:q.2≤xs.length) (c12:AC Tryz.prog gl 16 [.ref 0 0,.pv (.int .i64 12)] (cdO xs a) (.pv (.int .i64 q.1)) (cdO xs q.2)) (hq:(q.1=8∧¬ d≤1)):AC Tryz.prog gl 69 [.ref 0 0,.pv (.int .i64 d)] (cdO xs a) (exA (exL (8+(nxt xs q.2 2).1) 0 [] [(rec (nxt xs q.2 2).2).1])) (cdO xs (rec (nxt xs q.2 2).2).2):=by
 have hwd:IntKind.i64.wrap ((d:Int) - 1)=(d:Int) - 1:=zay _ (by omega) (by omega)
 have hd1:1<d:=by omega
 have c:=zbF xs q.2 2 (by omega) (by omega) (by omega)
 have hm:=za9 xs q.2 2 (by omega)
 have cr:=hrec hd1 (nxt xs q.2 2).2 (za0 _ _ _ hl1)
 generalize nxt xs q.2 2=m at *
 have hye:=zaz (rec m.2).1
 generalize rec m.2=y at *
 have hw1:IntKind.i64.wrap (8+m.1)=8+m.1:=zay _ (by omega) (by omega)
 rcases hq with ⟨hq,hs⟩
 ·rw [hq] at c12
  have hs':¬ (d:Int)≤1:=by omega
  refine zat (fun d=>if d=4 then 1 else 2) 3 znk ?_
  repeat' first|refine Va (fA8 @kz zfT @kA @exA.eq_1 hs' @Bool.and_false hwd hw1) ?_|(with_reducible first|refine SB.c ?_ ?_<;>intro _|exact zak)|refine dC1 zae c12 ?_|refine dC1 zae c ?_|refine dC1 zbg cr ?_|with_reducible refine zaj ?_|omega
  (refine zax.mk [0] ?_ ?_<;>simp [kwr,zfT,exA,exL,Ex.op_mk,Ex.value_mk,Ex.name_mk,Ex.slot_mk,Ex.size_mk,Ex.args_mk,zaQ,zcf,hye])
theorem zpp (xs:List UInt8) (hxs:xs.length≤1000) (d:Nat) (hd:d≤1000) (rec:Nat→Ex × Nat) (hr:∀ a≤xs.length,(rec a).2≤xs.length) (hrec:1<d→∀ a≤xs.length,AC Tryz.prog gl 69 [.ref 0 0,.pv (.int .i64 ((d:Int) - 1))] (cdO xs a) (exA (rec a).1) (cdO xs (rec a).2)) (a:Nat) (q:Int × Nat) (hl1:q.2≤xs.length) (c12:AC Tryz.prog gl 16 [.ref 0 0,.pv (.int .i64 12)] (cdO xs a) (.pv (.int .i64 q.1)) (cdO xs q.2)) (hq:(q.1=9∧¬ d≤1)∨(q.1=10∧¬ d≤1)∨(q.1=11∧¬ d≤1)):AC Tryz.prog gl 69 [.ref 0 0,.pv (.int .i64 d)] (cdO xs a) (exA (exL (10+(nxt xs (rec q.2).2 13).1) 0 [] [(rec q.2).1,(rec (nxt xs (rec q.2).2 13).2).1])) (cdO xs (rec (nxt xs (rec q.2).2 13).2).2):=by
 have hwd:IntKind.i64.wrap ((d:Int) - 1)=(d:Int) - 1:=zay _ (by omega) (by omega)
 have hd1:1<d:=by omega
 have c1:=hrec hd1 q.2 hl1
 have hl2:=hr q.2 hl1
 have hy1:=zaz (rec q.2).1
 generalize rec q.2=y1 at *
 have c:=zbF xs y1.2 13 (by omega) (by omega) (by omega)
 have hm:=za9 xs y1.2 13 (by omega)
 have c2:=hrec hd1 (nxt xs y1.2 13).2 (za0 _ _ _ hl2)
 generalize nxt xs y1.2 13=m at *
 have hy2:=zaz (rec m.2).1
 generalize rec m.2=y2 at *
 have hw1:IntKind.i64.wrap (10+m.1)=10+m.1:=zay _ (by omega) (by omega)
 rcases hq with ⟨hq,hs⟩|⟨hq,hs⟩|⟨hq,hs⟩
 ·rw [hq] at c12
  have hs':¬ (d:Int)≤1:=by omega
  refine zat (fun d=>if d=4 then 1 else 2) 3 znk ?_
  repeat' first|refine Va (fA8 @kz zfT @kA @exA.eq_1 hs' @Bool.and_false hwd hw1) ?_|(with_reducible first|refine SB.c ?_ ?_<;>intro _|exact zak)|refine dC1 zae c12 ?_|refine dC1 zae c ?_|refine dC1 zbg c1 ?_|refine dC1 zbg c2 ?_|with_reducible refine zaj ?_|omega
  (refine zax.mk [0] ?_ ?_<;>simp [kwr,zfT,exA,exL,Ex.op_mk,Ex.value_mk,Ex.name_mk,Ex.slot_mk,Ex.size_mk,Ex.args_mk,zaQ,zcf,hy1,hy2])
 ·rw [hq] at c12
  have hs':¬ (d:Int)≤1:=by omega
  refine zat (fun d=>if d=4 then 1 else 2) 3 znk ?_
  repeat' first|refine Va (fA8 @kz zfT @kA @exA.eq_1 hs' @Bool.and_false hwd hw1) ?_|(with_reducible first|refine SB.c ?_ ?_<;>intro _|exact zak)|refine dC1 zae c12 ?_|refine dC1 zae c ?_|refine dC1 zbg c1 ?_|refine dC1 zbg c2 ?_|with_reducible refine zaj ?_|omega
  (refine zax.mk [0] ?_ ?_<;>simp [kwr,zfT,exA,exL,Ex.op_mk,Ex.value_mk,Ex.name_mk,Ex.slot_mk,Ex.size_mk,Ex.args_mk,zaQ,zcf,hy1,hy2])
 ·rw [hq] at c12
  have hs':¬ (d:Int)≤1:=by omega
  refine zat (fun d=>if d=4 then 1 else 2) 3 znk ?_
  repeat' first|refine Va (fA8 @kz zfT @kA @exA.eq_1 hs' @Bool.and_false hwd hw1) ?_|(with_reducible first|refine SB.c ?_ ?_<;>intro _|exact zak)|refine dC1 zae c12 ?_|refine dC1 zae c ?_|refine dC1 zbg c1 ?_|refine dC1 zbg c2 ?_|with_reducible refine zaj ?_|omega
  (refine zax.mk [0] ?_ ?_<;>simp [kwr,zfT,exA,exL,Ex.op_mk,Ex.value_mk,Ex.name_mk,Ex.slot_mk,Ex.size_mk,Ex.args_mk,zaQ,zcf,hy1,hy2])
theorem zu6 (xs:List UInt8) (hxs:xs.length≤1000) (d:Nat) (hd:d≤1000) (rec:Nat→Ex × Nat) (hr:∀ a≤xs.length,(rec a).2≤xs.length)
  (hrec:1<d→∀ a≤xs.length,AC Tryz.prog gl 69 [.ref 0 0,.pv (.int .i64 ((d:Int) - 1))] (cdO xs a) (exA (rec a).1) (cdO xs (rec a).2)) (a:Nat) (ha:a≤xs.length) :
  AC Tryz.prog gl 69 [.ref 0 0,.pv (.int .i64 d)] (cdO xs a) (exA (zdg xs rec (decide (d≤1)) a).1) (cdO xs (zdg xs rec (decide (d≤1)) a).2):=by
 have h12:=za9 xs a 12 (by omega)
 have hl1:=za0 xs a 12 ha
 have c12:=zbF xs a 12 (by omega) (by omega) (by omega)
 unfold zdg kF
 generalize nxt xs a 12=q at *
 have hq:q.1=0∨q.1=1∨q.1=2∨q.1=3∨q.1=4∨q.1=5∨q.1=6∨q.1=7∨q.1=8∨q.1=9∨q.1=10∨q.1=11:=by omega
 by_cases hs:d≤1
 ·rcases hq with h|h|h|h|h|h|h|h|h|h|h|h
  ·have:=zij xs hxs d hd rec hr hrec a q hl1 c12 (by omega)
   simpa only [h,hs,decide_true,decide_false,Bool.true_and,Bool.false_and,Bool.false_eq_true,if_false,if_true,ge_iff_le,Int.reduceLE,Int.reduceLT,Int.reduceSub,Int.reduceEq,or_true,or_false,true_or,false_or,decide_eq_true_eq,not_true_eq_false,not_false_eq_true,↓reduceIte,reduceCtorEq] using this
  ·have:=zij xs hxs d hd rec hr hrec a q hl1 c12 (by omega)
   simpa only [h,hs,decide_true,decide_false,Bool.true_and,Bool.false_and,Bool.false_eq_true,if_false,if_true,ge_iff_le,Int.reduceLE,Int.reduceLT,Int.reduceSub,Int.reduceEq,or_true,or_false,true_or,false_or,decide_eq_true_eq,not_true_eq_false,not_false_eq_true,↓reduceIte,reduceCtorEq] using this
  ·have:=zik xs hxs d hd rec hr hrec a q hl1 c12 (by omega)
   simpa only [h,hs,decide_true,decide_false,Bool.true_and,Bool.false_and,Bool.false_eq_true,if_false,if_true,ge_iff_le,Int.reduceLE,Int.reduceLT,Int.reduceSub,Int.reduceEq,or_true,or_false,true_or,false_or,decide_eq_true_eq,not_true_eq_false,not_false_eq_true,↓reduceIte,reduceCtorEq] using this
  ·have:=zik xs hxs d hd rec hr hrec a q hl1 c12 (by omega)
   simpa only [h,hs,decide_true,decide_false,Bool.true_and,Bool.false_and,Bool.false_eq_true,if_false,if_true,ge_iff_le,Int.reduceLE,Int.reduceLT,Int.reduceSub,Int.reduceEq,or_true,or_false,true_or,false_or,decide_eq_true_eq,not_true_eq_false,not_false_eq_true,↓reduceIte,reduceCtorEq] using this
  ·have:=zu4 xs hxs d hd rec hr hrec a q hl1 c12 (by omega)
   simpa only [h,hs,decide_true,decide_false,Bool.true_and,Bool.false_and,Bool.false_eq_true,if_false,if_true,ge_iff_le,Int.reduceLE,Int.reduceLT,Int.reduceSub,Int.reduceEq,or_true,or_false,true_or,false_or,decide_eq_true_eq,not_true_eq_false,not_false_eq_true,↓reduceIte,reduceCtorEq] using this
  ·have:=zu5 xs hxs d hd rec hr hrec a q hl1 c12 (by omega)
   simpa only [h,hs,decide_true,decide_false,Bool.true_and,Bool.false_and,Bool.false_eq_true,if_false,if_true,ge_iff_le,Int.reduceLE,Int.reduceLT,Int.reduceSub,Int.reduceEq,or_true,or_false,true_or,false_or,decide_eq_true_eq,not_true_eq_false,not_false_eq_true,↓reduceIte,reduceCtorEq] using this
  ·have:=zpo xs hxs d hd rec hr hrec a q hl1 c12 (by omega)
   simpa only [h,hs,decide_true,decide_false,Bool.true_and,Bool.false_and,Bool.false_eq_true,if_false,if_true,ge_iff_le,Int.reduceLE,Int.reduceLT,Int.reduceSub,Int.reduceEq,or_true,or_false,true_or,false_or,decide_eq_true_eq,not_true_eq_false,not_false_eq_true,↓reduceIte,reduceCtorEq] using this
  ·have:=zpo xs hxs d hd rec hr hrec a q hl1 c12 (by omega)
   simpa only [h,hs,decide_true,decide_false,Bool.true_and,Bool.false_and,Bool.false_eq_true,if_false,if_true,ge_iff_le,Int.reduceLE,Int.reduceLT,Int.reduceSub,Int.reduceEq,or_true,or_false,true_or,false_or,decide_eq_true_eq,not_true_eq_false,not_false_eq_true,↓reduceIte,reduceCtorEq] using this
  ·have:=zij xs hxs d hd rec hr hrec a q hl1 c12 (by omega)
   simpa only [h,hs,decide_true,decide_false,Bool.true_and,Bool.false_and,Bool.false_eq_true,if_false,if_true,ge_iff_le,Int.reduceLE,Int.reduceLT,Int.reduceSub,Int.reduceEq,or_true,or_false,true_or,false_or,decide_eq_true_eq,not_true_eq_false,not_false_eq_true,↓reduceIte,reduceCtorEq] using this
  ·have:=zij xs hxs d hd rec hr hrec a q hl1 c12 (by omega)
   simpa only [h,hs,decide_true,decide_false,Bool.true_and,Bool.false_and,Bool.false_eq_true,if_false,if_true,ge_iff_le,Int.reduceLE,Int.reduceLT,Int.reduceSub,Int.reduceEq,or_true,or_false,true_or,false_or,decide_eq_true_eq,not_true_eq_false,not_false_eq_true,↓reduceIte,reduceCtorEq] using this
  ·have:=zik xs hxs d hd rec hr hrec a q hl1 c12 (by omega)
   simpa only [h,hs,decide_true,decide_false,Bool.true_and,Bool.false_and,Bool.false_eq_true,if_false,if_true,ge_iff_le,Int.reduceLE,Int.reduceLT,Int.reduceSub,Int.reduceEq,or_true,or_false,true_or,false_or,decide_eq_true_eq,not_true_eq_false,not_false_eq_true,↓reduceIte,reduceCtorEq] using this
  ·have:=zik xs hxs d hd rec hr hrec a q hl1 c12 (by omega)
   simpa only [h,hs,decide_true,decide_false,Bool.true_and,Bool.false_and,Bool.false_eq_true,if_false,if_true,ge_iff_le,Int.reduceLE,Int.reduceLT,Int.reduceSub,Int.reduceEq,or_true,or_false,true_or,false_or,decide_eq_true_eq,not_true_eq_false,not_false_eq_true,↓reduceIte,reduceCtorEq] using this
 ·rcases hq with h|h|h|h|h|h|h|h|h|h|h|h
  ·have:=zij xs hxs d hd rec hr hrec a q hl1 c12 (by omega)
   simpa only [h,hs,decide_true,decide_false,Bool.true_and,Bool.false_and,Bool.false_eq_true,if_false,if_true,ge_iff_le,Int.reduceLE,Int.reduceLT,Int.reduceSub,Int.reduceEq,or_true,or_false,true_or,false_or,decide_eq_true_eq,not_true_eq_false,not_false_eq_true,↓reduceIte,reduceCtorEq] using this
  ·have:=zij xs hxs d hd rec hr hrec a q hl1 c12 (by omega)
   simpa only [h,hs,decide_true,decide_false,Bool.true_and,Bool.false_and,Bool.false_eq_true,if_false,if_true,ge_iff_le,Int.reduceLE,Int.reduceLT,Int.reduceSub,Int.reduceEq,or_true,or_false,true_or,false_or,decide_eq_true_eq,not_true_eq_false,not_false_eq_true,↓reduceIte,reduceCtorEq] using this
  ·have:=zik xs hxs d hd rec hr hrec a q hl1 c12 (by omega)
   simpa only [h,hs,decide_true,decide_false,Bool.true_and,Bool.false_and,Bool.false_eq_true,if_false,if_true,ge_iff_le,Int.reduceLE,Int.reduceLT,Int.reduceSub,Int.reduceEq,or_true,or_false,true_or,false_or,decide_eq_true_eq,not_true_eq_false,not_false_eq_true,↓reduceIte,reduceCtorEq] using this
  ·have:=zik xs hxs d hd rec hr hrec a q hl1 c12 (by omega)
   simpa only [h,hs,decide_true,decide_false,Bool.true_and,Bool.false_and,Bool.false_eq_true,if_false,if_true,ge_iff_le,Int.reduceLE,Int.reduceLT,Int.reduceSub,Int.reduceEq,or_true,or_false,true_or,false_or,decide_eq_true_eq,not_true_eq_false,not_false_eq_true,↓reduceIte,reduceCtorEq] using this
  ·have:=zu4 xs hxs d hd rec hr hrec a q hl1 c12 (by omega)
   simpa only [h,hs,decide_true,decide_false,Bool.true_and,Bool.false_and,Bool.false_eq_true,if_false,if_true,ge_iff_le,Int.reduceLE,Int.reduceLT,Int.reduceSub,Int.reduceEq,or_true,or_false,true_or,false_or,decide_eq_true_eq,not_true_eq_false,not_false_eq_true,↓reduceIte,reduceCtorEq] using this
  ·have:=zu5 xs hxs d hd rec hr hrec a q hl1 c12 (by omega)
   simpa only [h,hs,decide_true,decide_false,Bool.true_and,Bool.false_and,Bool.false_eq_true,if_false,if_true,ge_iff_le,Int.reduceLE,Int.reduceLT,Int.reduceSub,Int.reduceEq,or_true,or_false,true_or,false_or,decide_eq_true_eq,not_true_eq_false,not_false_eq_true,↓reduceIte,reduceCtorEq] using this
  ·have:=zpo xs hxs d hd rec hr hrec a q hl1 c12 (by omega)
   simpa only [h,hs,decide_true,decide_false,Bool.true_and,Bool.false_and,Bool.false_eq_true,if_false,if_true,ge_iff_le,Int.reduceLE,Int.reduceLT,Int.reduceSub,Int.reduceEq,or_true,or_false,true_or,false_or,decide_eq_true_eq,not_true_eq_false,not_false_eq_true,↓reduceIte,reduceCtorEq] using this
  ·have:=zAW xs hxs d hd rec hr hrec a q hl1 c12 (by omega)
   simpa only [h,hs,decide_true,decide_false,Bool.true_and,Bool.false_and,Bool.false_eq_true,if_false,if_true,ge_iff_le,Int.reduceLE,Int.reduceLT,Int.reduceSub,Int.reduceEq,or_true,or_false,true_or,false_or,decide_eq_true_eq,not_true_eq_false,not_false_eq_true,↓reduceIte,reduceCtorEq] using this
  ·have:=zAX xs hxs d hd rec hr hrec a q hl1 c12 (by omega)
   simpa only [h,hs,decide_true,decide_false,Bool.true_and,Bool.false_and,Bool.false_eq_true,if_false,if_true,ge_iff_le,Int.reduceLE,Int.reduceLT,Int.reduceSub,Int.reduceEq,or_true,or_false,true_or,false_or,decide_eq_true_eq,not_true_eq_false,not_false_eq_true,↓reduceIte,reduceCtorEq] using this
  ·have:=zpp xs hxs d hd rec hr hrec a q hl1 c12 (by omega)
   simpa only [h,hs,decide_true,decide_false,Bool.true_and,Bool.false_and,Bool.false_eq_true,if_false,if_true,ge_iff_le,Int.reduceLE,Int.reduceLT,Int.reduceSub,Int.reduceEq,or_true,or_false,true_or,false_or,decide_eq_true_eq,not_true_eq_false,not_false_eq_true,↓reduceIte,reduceCtorEq] using this
  ·have:=zpp xs hxs d hd rec hr hrec a q hl1 c12 (by omega)
   simpa only [h,hs,decide_true,decide_false,Bool.true_and,Bool.false_and,Bool.false_eq_true,if_false,if_true,ge_iff_le,Int.reduceLE,Int.reduceLT,Int.reduceSub,Int.reduceEq,or_true,or_false,true_or,false_or,decide_eq_true_eq,not_true_eq_false,not_false_eq_true,↓reduceIte,reduceCtorEq] using this
  ·have:=zpp xs hxs d hd rec hr hrec a q hl1 c12 (by omega)
   simpa only [h,hs,decide_true,decide_false,Bool.true_and,Bool.false_and,Bool.false_eq_true,if_false,if_true,ge_iff_le,Int.reduceLE,Int.reduceLT,Int.reduceSub,Int.reduceEq,or_true,or_false,true_or,false_or,decide_eq_true_eq,not_true_eq_false,not_false_eq_true,↓reduceIte,reduceCtorEq] using this
theorem zcX (xs:List UInt8) (hxs:xs.length≤1000):∀ (d:Nat),d≤1000→∀ (a:Nat),a≤xs.length→AC Tryz.prog gl 69 [.ref 0 0,.pv (.int .i64 d)] (cdO xs a) (exA (zbk xs d a).1) (cdO xs (zbk xs d a).2)
 |0,hd,a,ha=>zu6 xs hxs 0 hd _ (fun a h=>h) (fun h=>by omega) a ha
 |d+1,hd,a,ha=>zu6 xs hxs (d+1) hd (zbk xs d) (fun a h=>zbP xs d a h) (fun _ a h=>by
   have:=zcX xs hxs d (by omega) a h
   rw [show (((d+1:Nat):Int) - 1)=(d:Int) by omega];exact this) a ha
end Go.Proofs.YtfinhhblcdkpgaaGreatDoor
