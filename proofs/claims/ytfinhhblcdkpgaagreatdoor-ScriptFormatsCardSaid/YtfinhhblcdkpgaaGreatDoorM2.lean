/- A part of the walk (Tryz_M2): its theorems have no condition beyond what they state. -/
import Derived.Test.YtfinhhblcdkpgaaGreatDoorM1
import Derived.Test.YtfinhhblcdkpgaaGreatDoorLib3
set_option maxRecDepth 100000
set_option maxHeartbeats 64000000
set_option linter.unusedSimpArgs false
set_option linter.unusedVariables false
set_option linter.defProp false
namespace Go.Proofs.YtfinhhblcdkpgaaGreatDoor
open Go Go.Abs
structure StI (xs:List UInt8) (rec:Int→Nat→List Sm × Nat) (small:Bool) (R:List Sm × Nat) where
 n:Nat
 L:List Sm
 a:Nat
 ha:a≤xs.length
 hn:L.length+n≤1000
 eq:(L++(za4 xs rec small n a).1,(za4 xs rec small n a).2)=R
theorem zm5 (xs:List UInt8) (hxs:xs.length≤1000) (d:Nat) (hd:d≤1000) (hs:d≤1) (rec:Int→Nat→List Sm × Nat) (hr:∀ m a,a≤xs.length→(rec m a).2≤xs.length)
  (hrec:1<d→∀ (m:Int) (a:Nat),0≤m→m≤10→a≤xs.length→AC Tryz.prog gl 46 [.ref 0 0,.pv (.int .i64 m),.pv (.int .i64 ((d:Int) - 1))] (cdO xs a) (.pv (.slice ((rec m a).1.map zah))) (cdO xs (rec m a).2))
  (most:Int) (hm0:0≤most) (hm1:most≤10) (a0:Nat) (ha0:a0≤xs.length) :
  AC Tryz.prog gl 46 [.ref 0 0,.pv (.int .i64 most),.pv (.int .i64 d)] (cdO xs a0) (.pv (.slice ((zca xs rec true most a0).1.map zah))) (cdO xs (zca xs rec true most a0).2):=by
 have hs':(d:Int)≤1:=by omega
 have hwd:IntKind.i64.wrap ((d:Int) - 1)=(d:Int) - 1:=zat _ (by omega) (by omega)
 have hwm:IntKind.i64.wrap (most+1)=most+1:=zat _ (by omega) (by omega)
 have cN:=zaT xs a0 (most+1) (by omega) (by omega) (by omega)
 have hN:=zaM xs a0 (most+1) (by omega)
 have hNl:=zaG xs a0 (most+1) ha0
 unfold zca
 generalize nxt xs a0 (most+1)=N at *
 obtain ⟨N1,hN1⟩:=Int.eq_ofNat_of_zero_le hN.1
 rw [hN1,Int.toNat_natCast]
 rw [hN1] at cN
 obtain ⟨R,hR⟩:∃ R,R=za4 xs rec true N1 N.2:=⟨_,rfl⟩
 rw [←hR]
 have w0:IntKind.i64.wrap 0=0:=by decide
 have w1:IntKind.i64.wrap 1=1:=by decide
 have w2:IntKind.i64.wrap 2=2:=by decide
 refine zg0 (fun _=>2) 3 zDN ?_
 (repeat' (first|refine Va (fA3 @kz zl4 hwm) ?_|(with_reducible first|refine SB.c ?_ ?_<;>intro _|exact zac)|refine dC1 zae cN ?_|with_reducible refine zab ?_|omega))
 (refine LW.weak (zbK.nilRow 7 1 18 rfl rfl (by decide)) ?_;simp only [List.set_cons_zero,List.set_cons_succ])
 refine za6 (ι:=StI xs rec true R) (fun i=>⟨(.ref 0 0::.junk::.pv (.int .i64 d)::jl 4 (.row 1 i.L.length::.pv (.int .i64 i.n)::jl 95 [])),[some (.cells [.pv (.slice (xs.map zl5)),.pv (.int .i64 i.a)]),some (.row 18 (i.L.map zah)),none]⟩) (fun i=>i.n) ⟨N1,[],N.2,hNl,by simp;omega,by rw [hR];simp⟩ WFn ?_
 rintro ⟨n,L,a,ha,hn,heq⟩
 cases n with
 |zero=>
  simp only [za4,List.append_nil] at heq
  subst heq
  (repeat' (first|refine Va zl4 ?_|(with_reducible first|refine SB.c ?_ ?_<;>intro _|exact zac)|with_reducible refine zab ?_|omega))
  refine ⟨_,zbK.freeze 1 rfl,?_⟩
  simp only [St.frz,zgI,frz,zgJ,List.map_cons,List.map_nil,List.set_cons_zero,List.set_cons_succ,List.length_map,if_true,if_false,↓reduceIte,Nat.reduceEqDiff,eq_self,reduceCtorEq,Nat.succ_ne_self]
  (refine zaJ.mk [0] ?_ ?_<;>simp [kwr,zl4])
 |succ n=>
  have hpos:((n+1:Nat):Int) > 0:=by omega
  have hwn:IntKind.i64.wrap (((n+1:Nat):Int) - 1)=(n:Int):=by rw [zat _ (by omega) (by omega)];omega
  have h12:=zaM xs a 10 (by omega)
  have hl1:=zaG xs a 10 ha
  have c12:=zaT xs a 10 (by omega) (by omega) (by omega)
  have hSa:=zfy xs rec true a ha hr
  rw [za4] at heq
  obtain ⟨S,hst⟩:∃ S,S=zbu xs rec true a:=⟨_,rfl⟩
  rw [←hst] at heq hSa
  unfold zbu kF at hst
  dsimp only at hst
  have hrm:=zej (L.length+1) 232 (by omega)
  skip
  generalize nxt xs a 10=q at *
  have hcase:(q.1=0∨q.1=1∨q.1=2∨q.1=7∨q.1=8∨q.1=9)∨(q.1=3)∨(q.1=4∨q.1=5)∨(q.1=6):=by omega
  rcases hcase with hq|hq|hq|hq
  ·rcases hq with hq|hq|hq|hq|hq|hq
   all_goals (
    rw [hq] at c12
    simp only [hq,decide_true,decide_false,Bool.true_and,Bool.false_and,Bool.false_eq_true,if_false,if_true,ge_iff_le,Int.reduceLE,Int.reduceLT,Int.reduceSub,Int.reduceEq,or_true,or_false,true_or,false_or,decide_eq_true_eq,not_true_eq_false,not_false_eq_true,↓reduceIte,reduceCtorEq] at hst
    have hS1:S.1=_:=congrArg Prod.fst hst
    have hS2:S.2=_:=congrArg Prod.snd hst
    simp only at hS1 hS2
    have c:=zaT xs q.2 3 (by omega) (by omega) (by omega)
    have hm:=zaM xs q.2 3 (by omega)
    have ce:=zcf xs hxs 3 (by omega) (nxt xs q.2 3).2 (zaG _ _ _ hl1)
    simp only [Int.cast_ofNat_Int] at ce
    generalize nxt xs q.2 3=m at *
    generalize za2 xs 3 m.2=e at *
    rcases (show m.1=0∨m.1=1∨m.1=2 by omega) with hi|hi|hi
    all_goals (
     (repeat' (first|refine Va (zy9 @kz zl4 @kA @exA.eq_1 hs' hpos hwn hrm hwd @Bool.and_false w0 w1 w2 hi) ?_|(with_reducible first|refine SB.c ?_ ?_<;>intro _|exact zac)|refine dC1 zae c12 ?_|refine dC1 zae c ?_|refine dC1 zaX ce ?_|with_reducible refine zab ?_|omega))
     exact ⟨⟨n,L++[S.1],S.2,hSa,by simp;omega,by rw [←heq];simp⟩,(WTe [0,2,1] (by simp [kwt,hS1,hS2,List.map_append,List.map_cons,List.map_nil,zar,smL,ex0,Sm.kind,Sm.name,Sm.slot,Sm.size,Sm.place,Sm.value,Sm.body,Sm.els,Ex.op_mk,Ex.value_mk,Ex.name_mk,Ex.slot_mk,Ex.size_mk,Ex.args_mk,zrj,hi]) (by simp [kwt,hS1,hS2,List.map_append,List.map_cons,List.map_nil,zar,smL,ex0,Sm.kind,Sm.name,Sm.slot,Sm.size,Sm.place,Sm.value,Sm.body,Sm.els,Ex.op_mk,Ex.value_mk,Ex.name_mk,Ex.slot_mk,Ex.size_mk,Ex.args_mk,zrj,hi])),by show n<n+1;omega⟩))
  ·rcases hq with hq
   all_goals (
    rw [hq] at c12
    simp only [hq,decide_true,decide_false,Bool.true_and,Bool.false_and,Bool.false_eq_true,if_false,if_true,ge_iff_le,Int.reduceLE,Int.reduceLT,Int.reduceSub,Int.reduceEq,or_true,or_false,true_or,false_or,decide_eq_true_eq,not_true_eq_false,not_false_eq_true,↓reduceIte,reduceCtorEq] at hst
    have hS1:S.1=_:=congrArg Prod.fst hst
    have hS2:S.2=_:=congrArg Prod.snd hst
    simp only at hS1 hS2
    have c:=zaT xs q.2 2 (by omega) (by omega) (by omega)
    have hm:=zaM xs q.2 2 (by omega)
    have ce:=zcf xs hxs 2 (by omega) (nxt xs q.2 2).2 (zaG _ _ _ hl1)
    have ce2:=zcf xs hxs 2 (by omega) (za2 xs 2 (nxt xs q.2 2).2).2 (zbj _ _ _ (zaG _ _ _ hl1))
    simp only [Int.cast_ofNat_Int] at ce ce2
    generalize nxt xs q.2 2=m at *
    generalize za2 xs 2 m.2=e at *
    generalize za2 xs 2 e.2=e2 at *
    rcases (show m.1=0∨m.1=1 by omega) with hi|hi
    all_goals (
     (repeat' (first|refine Va (zy9 @kz zl4 @kA @exA.eq_1 hs' hpos hwn hrm hwd @Bool.and_false w0 w1 w2 hi) ?_|(with_reducible first|refine SB.c ?_ ?_<;>intro _|exact zac)|refine dC1 zae c12 ?_|refine dC1 zae c ?_|refine dC1 zaX ce ?_|refine dC1 zaX ce2 ?_|with_reducible refine zab ?_|omega))
     exact ⟨⟨n,L++[S.1],S.2,hSa,by simp;omega,by rw [←heq];simp⟩,(WTe [0,2,1] (by simp [kwt,hS1,hS2,List.map_append,List.map_cons,List.map_nil,zar,smL,ex0,Sm.kind,Sm.name,Sm.slot,Sm.size,Sm.place,Sm.value,Sm.body,Sm.els,Ex.op_mk,Ex.value_mk,Ex.name_mk,Ex.slot_mk,Ex.size_mk,Ex.args_mk,zuV,hi]) (by simp [kwt,hS1,hS2,List.map_append,List.map_cons,List.map_nil,zar,smL,ex0,Sm.kind,Sm.name,Sm.slot,Sm.size,Sm.place,Sm.value,Sm.body,Sm.els,Ex.op_mk,Ex.value_mk,Ex.name_mk,Ex.slot_mk,Ex.size_mk,Ex.args_mk,zuV,hi])),by show n<n+1;omega⟩))
  ·rcases hq with hq|hq
   all_goals (
    rw [hq] at c12
    simp only [hq,decide_true,decide_false,Bool.true_and,Bool.false_and,Bool.false_eq_true,if_false,if_true,ge_iff_le,Int.reduceLE,Int.reduceLT,Int.reduceSub,Int.reduceEq,or_true,or_false,true_or,false_or,decide_eq_true_eq,not_true_eq_false,not_false_eq_true,↓reduceIte,reduceCtorEq] at hst
    have hS1:S.1=_:=congrArg Prod.fst hst
    have hS2:S.2=_:=congrArg Prod.snd hst
    simp only at hS1 hS2
    have ce:=zcf xs hxs 2 (by omega) q.2 hl1
    have ce2:=zcf xs hxs 2 (by omega) (za2 xs 2 q.2).2 (zbj _ _ _ hl1)
    simp only [Int.cast_ofNat_Int] at ce ce2
    generalize za2 xs 2 q.2=e at *
    generalize za2 xs 2 e.2=e2 at *
    (repeat' (first|refine Va (zoZ @kz zl4 @kA @exA.eq_1 hs' hpos hwn hrm hwd @Bool.and_false w0 w1 w2) ?_|(with_reducible first|refine SB.c ?_ ?_<;>intro _|exact zac)|refine dC1 zae c12 ?_|refine dC1 zaX ce ?_|refine dC1 zaX ce2 ?_|with_reducible refine zab ?_|omega))
    exact ⟨⟨n,L++[S.1],S.2,hSa,by simp;omega,by rw [←heq];simp⟩,(WTe [0,2,1] (by simp [kwt,hS1,hS2,List.map_append,List.map_cons,List.map_nil,zar,smL,ex0,Sm.kind,Sm.name,Sm.slot,Sm.size,Sm.place,Sm.value,Sm.body,Sm.els,Ex.op_mk,Ex.value_mk,Ex.name_mk,Ex.slot_mk,Ex.size_mk,Ex.args_mk]) (by simp [kwt,hS1,hS2,List.map_append,List.map_cons,List.map_nil,zar,smL,ex0,Sm.kind,Sm.name,Sm.slot,Sm.size,Sm.place,Sm.value,Sm.body,Sm.els,Ex.op_mk,Ex.value_mk,Ex.name_mk,Ex.slot_mk,Ex.size_mk,Ex.args_mk])),by show n<n+1;omega⟩)
  ·rcases hq with hq
   all_goals (
    rw [hq] at c12
    simp only [hq,decide_true,decide_false,Bool.true_and,Bool.false_and,Bool.false_eq_true,if_false,if_true,ge_iff_le,Int.reduceLE,Int.reduceLT,Int.reduceSub,Int.reduceEq,or_true,or_false,true_or,false_or,decide_eq_true_eq,not_true_eq_false,not_false_eq_true,↓reduceIte,reduceCtorEq] at hst
    have hS1:S.1=_:=congrArg Prod.fst hst
    have hS2:S.2=_:=congrArg Prod.snd hst
    simp only at hS1 hS2
    have ce:=zcf xs hxs 2 (by omega) q.2 hl1
    simp only [Int.cast_ofNat_Int] at ce
    generalize za2 xs 2 q.2=e at *
    (repeat' (first|refine Va (zoZ @kz zl4 @kA @exA.eq_1 hs' hpos hwn hrm hwd @Bool.and_false w0 w1 w2) ?_|(with_reducible first|refine SB.c ?_ ?_<;>intro _|exact zac)|refine dC1 zae c12 ?_|refine dC1 zaX ce ?_|with_reducible refine zab ?_|omega))
    exact ⟨⟨n,L++[S.1],S.2,hSa,by simp;omega,by rw [←heq];simp⟩,(WTe [0,2,1] (by simp [kwt,hS1,hS2,List.map_append,List.map_cons,List.map_nil,zar,smL,ex0,Sm.kind,Sm.name,Sm.slot,Sm.size,Sm.place,Sm.value,Sm.body,Sm.els,Ex.op_mk,Ex.value_mk,Ex.name_mk,Ex.slot_mk,Ex.size_mk,Ex.args_mk]) (by simp [kwt,hS1,hS2,List.map_append,List.map_cons,List.map_nil,zar,smL,ex0,Sm.kind,Sm.name,Sm.slot,Sm.size,Sm.place,Sm.value,Sm.body,Sm.els,Ex.op_mk,Ex.value_mk,Ex.name_mk,Ex.slot_mk,Ex.size_mk,Ex.args_mk])),by show n<n+1;omega⟩)
theorem zr2 (xs:List UInt8) (hxs:xs.length≤1000) (d:Nat) (hd:d≤1000) (hs:¬ d≤1) (rec:Int→Nat→List Sm × Nat) (hr:∀ m a,a≤xs.length→(rec m a).2≤xs.length)
  (hrec:1<d→∀ (m:Int) (a:Nat),0≤m→m≤10→a≤xs.length→AC Tryz.prog gl 46 [.ref 0 0,.pv (.int .i64 m),.pv (.int .i64 ((d:Int) - 1))] (cdO xs a) (.pv (.slice ((rec m a).1.map zah))) (cdO xs (rec m a).2))
  (most:Int) (hm0:0≤most) (hm1:most≤10) (a0:Nat) (ha0:a0≤xs.length) :
  AC Tryz.prog gl 46 [.ref 0 0,.pv (.int .i64 most),.pv (.int .i64 d)] (cdO xs a0) (.pv (.slice ((zca xs rec false most a0).1.map zah))) (cdO xs (zca xs rec false most a0).2):=by
 have hs':¬ (d:Int)≤1:=by omega
 have hwd:IntKind.i64.wrap ((d:Int) - 1)=(d:Int) - 1:=zat _ (by omega) (by omega)
 have hwm:IntKind.i64.wrap (most+1)=most+1:=zat _ (by omega) (by omega)
 have cN:=zaT xs a0 (most+1) (by omega) (by omega) (by omega)
 have hN:=zaM xs a0 (most+1) (by omega)
 have hNl:=zaG xs a0 (most+1) ha0
 unfold zca
 generalize nxt xs a0 (most+1)=N at *
 obtain ⟨N1,hN1⟩:=Int.eq_ofNat_of_zero_le hN.1
 rw [hN1,Int.toNat_natCast]
 rw [hN1] at cN
 obtain ⟨R,hR⟩:∃ R,R=za4 xs rec false N1 N.2:=⟨_,rfl⟩
 rw [←hR]
 have w0:IntKind.i64.wrap 0=0:=by decide
 have w1:IntKind.i64.wrap 1=1:=by decide
 have w2:IntKind.i64.wrap 2=2:=by decide
 refine zg0 (fun _=>2) 3 zDN ?_
 (repeat' (first|refine Va (fA3 @kz zl4 hwm) ?_|(with_reducible first|refine SB.c ?_ ?_<;>intro _|exact zac)|refine dC1 zae cN ?_|with_reducible refine zab ?_|omega))
 (refine LW.weak (zbK.nilRow 7 1 18 rfl rfl (by decide)) ?_;simp only [List.set_cons_zero,List.set_cons_succ])
 refine za6 (ι:=StI xs rec false R) (fun i=>⟨(.ref 0 0::.junk::.pv (.int .i64 d)::jl 4 (.row 1 i.L.length::.pv (.int .i64 i.n)::jl 95 [])),[some (.cells [.pv (.slice (xs.map zl5)),.pv (.int .i64 i.a)]),some (.row 18 (i.L.map zah)),none]⟩) (fun i=>i.n) ⟨N1,[],N.2,hNl,by simp;omega,by rw [hR];simp⟩ WFn ?_
 rintro ⟨n,L,a,ha,hn,heq⟩
 cases n with
 |zero=>
  simp only [za4,List.append_nil] at heq
  subst heq
  (repeat' (first|refine Va zl4 ?_|(with_reducible first|refine SB.c ?_ ?_<;>intro _|exact zac)|with_reducible refine zab ?_|omega))
  refine ⟨_,zbK.freeze 1 rfl,?_⟩
  simp only [St.frz,zgI,frz,zgJ,List.map_cons,List.map_nil,List.set_cons_zero,List.set_cons_succ,List.length_map,if_true,if_false,↓reduceIte,Nat.reduceEqDiff,eq_self,reduceCtorEq,Nat.succ_ne_self]
  (refine zaJ.mk [0] ?_ ?_<;>simp [kwr,zl4])
 |succ n=>
  have hpos:((n+1:Nat):Int) > 0:=by omega
  have hwn:IntKind.i64.wrap (((n+1:Nat):Int) - 1)=(n:Int):=by rw [zat _ (by omega) (by omega)];omega
  have h12:=zaM xs a 10 (by omega)
  have hl1:=zaG xs a 10 ha
  have c12:=zaT xs a 10 (by omega) (by omega) (by omega)
  have hSa:=zfy xs rec false a ha hr
  rw [za4] at heq
  obtain ⟨S,hst⟩:∃ S,S=zbu xs rec false a:=⟨_,rfl⟩
  rw [←hst] at heq hSa
  unfold zbu kF at hst
  dsimp only at hst
  have hrm:=zej (L.length+1) 232 (by omega)
  have hd1:1<d:=by omega
  generalize nxt xs a 10=q at *
  have hcase:(q.1=0∨q.1=1∨q.1=2)∨(q.1=3)∨(q.1=4∨q.1=5)∨(q.1=6)∨(q.1=7∨q.1=8)∨(q.1=9):=by omega
  rcases hcase with hq|hq|hq|hq|hq|hq
  ·rcases hq with hq|hq|hq
   all_goals (
    rw [hq] at c12
    simp only [hq,decide_true,decide_false,Bool.true_and,Bool.false_and,Bool.false_eq_true,if_false,if_true,ge_iff_le,Int.reduceLE,Int.reduceLT,Int.reduceSub,Int.reduceEq,or_true,or_false,true_or,false_or,decide_eq_true_eq,not_true_eq_false,not_false_eq_true,↓reduceIte,reduceCtorEq] at hst
    have hS1:S.1=_:=congrArg Prod.fst hst
    have hS2:S.2=_:=congrArg Prod.snd hst
    simp only at hS1 hS2
    have c:=zaT xs q.2 3 (by omega) (by omega) (by omega)
    have hm:=zaM xs q.2 3 (by omega)
    have ce:=zcf xs hxs 3 (by omega) (nxt xs q.2 3).2 (zaG _ _ _ hl1)
    simp only [Int.cast_ofNat_Int] at ce
    generalize nxt xs q.2 3=m at *
    generalize za2 xs 3 m.2=e at *
    rcases (show m.1=0∨m.1=1∨m.1=2 by omega) with hi|hi|hi
    all_goals (
     (repeat' (first|refine Va (zy9 @kz zl4 @kA @exA.eq_1 hs' hpos hwn hrm hwd @Bool.and_false w0 w1 w2 hi) ?_|(with_reducible first|refine SB.c ?_ ?_<;>intro _|exact zac)|refine dC1 zae c12 ?_|refine dC1 zae c ?_|refine dC1 zaX ce ?_|with_reducible refine zab ?_|omega))
     exact ⟨⟨n,L++[S.1],S.2,hSa,by simp;omega,by rw [←heq];simp⟩,(WTe [0,2,1] (by simp [kwt,hS1,hS2,List.map_append,List.map_cons,List.map_nil,zar,smL,ex0,Sm.kind,Sm.name,Sm.slot,Sm.size,Sm.place,Sm.value,Sm.body,Sm.els,Ex.op_mk,Ex.value_mk,Ex.name_mk,Ex.slot_mk,Ex.size_mk,Ex.args_mk,zrj,hi]) (by simp [kwt,hS1,hS2,List.map_append,List.map_cons,List.map_nil,zar,smL,ex0,Sm.kind,Sm.name,Sm.slot,Sm.size,Sm.place,Sm.value,Sm.body,Sm.els,Ex.op_mk,Ex.value_mk,Ex.name_mk,Ex.slot_mk,Ex.size_mk,Ex.args_mk,zrj,hi])),by show n<n+1;omega⟩))
  ·rcases hq with hq
   all_goals (
    rw [hq] at c12
    simp only [hq,decide_true,decide_false,Bool.true_and,Bool.false_and,Bool.false_eq_true,if_false,if_true,ge_iff_le,Int.reduceLE,Int.reduceLT,Int.reduceSub,Int.reduceEq,or_true,or_false,true_or,false_or,decide_eq_true_eq,not_true_eq_false,not_false_eq_true,↓reduceIte,reduceCtorEq] at hst
    have hS1:S.1=_:=congrArg Prod.fst hst
    have hS2:S.2=_:=congrArg Prod.snd hst
    simp only at hS1 hS2
    have c:=zaT xs q.2 2 (by omega) (by omega) (by omega)
    have hm:=zaM xs q.2 2 (by omega)
    have ce:=zcf xs hxs 2 (by omega) (nxt xs q.2 2).2 (zaG _ _ _ hl1)
    have ce2:=zcf xs hxs 2 (by omega) (za2 xs 2 (nxt xs q.2 2).2).2 (zbj _ _ _ (zaG _ _ _ hl1))
    simp only [Int.cast_ofNat_Int] at ce ce2
    generalize nxt xs q.2 2=m at *
    generalize za2 xs 2 m.2=e at *
    generalize za2 xs 2 e.2=e2 at *
    rcases (show m.1=0∨m.1=1 by omega) with hi|hi
    all_goals (
     (repeat' (first|refine Va (zy9 @kz zl4 @kA @exA.eq_1 hs' hpos hwn hrm hwd @Bool.and_false w0 w1 w2 hi) ?_|(with_reducible first|refine SB.c ?_ ?_<;>intro _|exact zac)|refine dC1 zae c12 ?_|refine dC1 zae c ?_|refine dC1 zaX ce ?_|refine dC1 zaX ce2 ?_|with_reducible refine zab ?_|omega))
     exact ⟨⟨n,L++[S.1],S.2,hSa,by simp;omega,by rw [←heq];simp⟩,(WTe [0,2,1] (by simp [kwt,hS1,hS2,List.map_append,List.map_cons,List.map_nil,zar,smL,ex0,Sm.kind,Sm.name,Sm.slot,Sm.size,Sm.place,Sm.value,Sm.body,Sm.els,Ex.op_mk,Ex.value_mk,Ex.name_mk,Ex.slot_mk,Ex.size_mk,Ex.args_mk,zuV,hi]) (by simp [kwt,hS1,hS2,List.map_append,List.map_cons,List.map_nil,zar,smL,ex0,Sm.kind,Sm.name,Sm.slot,Sm.size,Sm.place,Sm.value,Sm.body,Sm.els,Ex.op_mk,Ex.value_mk,Ex.name_mk,Ex.slot_mk,Ex.size_mk,Ex.args_mk,zuV,hi])),by show n<n+1;omega⟩))
  ·rcases hq with hq|hq
   all_goals (
    rw [hq] at c12
    simp only [hq,decide_true,decide_false,Bool.true_and,Bool.false_and,Bool.false_eq_true,if_false,if_true,ge_iff_le,Int.reduceLE,Int.reduceLT,Int.reduceSub,Int.reduceEq,or_true,or_false,true_or,false_or,decide_eq_true_eq,not_true_eq_false,not_false_eq_true,↓reduceIte,reduceCtorEq] at hst
    have hS1:S.1=_:=congrArg Prod.fst hst
    have hS2:S.2=_:=congrArg Prod.snd hst
    simp only at hS1 hS2
    have ce:=zcf xs hxs 2 (by omega) q.2 hl1
    have ce2:=zcf xs hxs 2 (by omega) (za2 xs 2 q.2).2 (zbj _ _ _ hl1)
    simp only [Int.cast_ofNat_Int] at ce ce2
    generalize za2 xs 2 q.2=e at *
    generalize za2 xs 2 e.2=e2 at *
    (repeat' (first|refine Va (zoZ @kz zl4 @kA @exA.eq_1 hs' hpos hwn hrm hwd @Bool.and_false w0 w1 w2) ?_|(with_reducible first|refine SB.c ?_ ?_<;>intro _|exact zac)|refine dC1 zae c12 ?_|refine dC1 zaX ce ?_|refine dC1 zaX ce2 ?_|with_reducible refine zab ?_|omega))
    exact ⟨⟨n,L++[S.1],S.2,hSa,by simp;omega,by rw [←heq];simp⟩,(WTe [0,2,1] (by simp [kwt,hS1,hS2,List.map_append,List.map_cons,List.map_nil,zar,smL,ex0,Sm.kind,Sm.name,Sm.slot,Sm.size,Sm.place,Sm.value,Sm.body,Sm.els,Ex.op_mk,Ex.value_mk,Ex.name_mk,Ex.slot_mk,Ex.size_mk,Ex.args_mk]) (by simp [kwt,hS1,hS2,List.map_append,List.map_cons,List.map_nil,zar,smL,ex0,Sm.kind,Sm.name,Sm.slot,Sm.size,Sm.place,Sm.value,Sm.body,Sm.els,Ex.op_mk,Ex.value_mk,Ex.name_mk,Ex.slot_mk,Ex.size_mk,Ex.args_mk])),by show n<n+1;omega⟩)
  ·rcases hq with hq
   all_goals (
    rw [hq] at c12
    simp only [hq,decide_true,decide_false,Bool.true_and,Bool.false_and,Bool.false_eq_true,if_false,if_true,ge_iff_le,Int.reduceLE,Int.reduceLT,Int.reduceSub,Int.reduceEq,or_true,or_false,true_or,false_or,decide_eq_true_eq,not_true_eq_false,not_false_eq_true,↓reduceIte,reduceCtorEq] at hst
    have hS1:S.1=_:=congrArg Prod.fst hst
    have hS2:S.2=_:=congrArg Prod.snd hst
    simp only at hS1 hS2
    have ce:=zcf xs hxs 2 (by omega) q.2 hl1
    simp only [Int.cast_ofNat_Int] at ce
    generalize za2 xs 2 q.2=e at *
    (repeat' (first|refine Va (zoZ @kz zl4 @kA @exA.eq_1 hs' hpos hwn hrm hwd @Bool.and_false w0 w1 w2) ?_|(with_reducible first|refine SB.c ?_ ?_<;>intro _|exact zac)|refine dC1 zae c12 ?_|refine dC1 zaX ce ?_|with_reducible refine zab ?_|omega))
    exact ⟨⟨n,L++[S.1],S.2,hSa,by simp;omega,by rw [←heq];simp⟩,(WTe [0,2,1] (by simp [kwt,hS1,hS2,List.map_append,List.map_cons,List.map_nil,zar,smL,ex0,Sm.kind,Sm.name,Sm.slot,Sm.size,Sm.place,Sm.value,Sm.body,Sm.els,Ex.op_mk,Ex.value_mk,Ex.name_mk,Ex.slot_mk,Ex.size_mk,Ex.args_mk]) (by simp [kwt,hS1,hS2,List.map_append,List.map_cons,List.map_nil,zar,smL,ex0,Sm.kind,Sm.name,Sm.slot,Sm.size,Sm.place,Sm.value,Sm.body,Sm.els,Ex.op_mk,Ex.value_mk,Ex.name_mk,Ex.slot_mk,Ex.size_mk,Ex.args_mk])),by show n<n+1;omega⟩)
  ·rcases hq with hq|hq
   all_goals (
    rw [hq] at c12
    simp only [hq,decide_true,decide_false,Bool.true_and,Bool.false_and,Bool.false_eq_true,if_false,if_true,ge_iff_le,Int.reduceLE,Int.reduceLT,Int.reduceSub,Int.reduceEq,or_true,or_false,true_or,false_or,decide_eq_true_eq,not_true_eq_false,not_false_eq_true,↓reduceIte,reduceCtorEq] at hst
    have hS1:S.1=_:=congrArg Prod.fst hst
    have hS2:S.2=_:=congrArg Prod.snd hst
    simp only at hS1 hS2
    have ce:=zcf xs hxs 2 (by omega) q.2 hl1
    have c2:=hrec hd1 2 (za2 xs 2 q.2).2 (by omega) (by omega) (zbj _ _ _ hl1)
    have c3:=hrec hd1 1 (rec 2 (za2 xs 2 q.2).2).2 (by omega) (by omega) (hr _ _ (zbj _ _ _ hl1))
    simp only [Int.cast_ofNat_Int] at ce
    generalize za2 xs 2 q.2=e at *
    generalize rec 2 e.2=b at *
    generalize rec 1 b.2=l at *
    (repeat' (first|refine Va (zoZ @kz zl4 @kA @exA.eq_1 hs' hpos hwn hrm hwd @Bool.and_false w0 w1 w2) ?_|(with_reducible first|refine SB.c ?_ ?_<;>intro _|exact zac)|refine dC1 zae c12 ?_|refine dC1 zaX ce ?_|refine dC1 zdT c2 ?_|refine dC1 zdT c3 ?_|with_reducible refine zab ?_|omega))
    exact ⟨⟨n,L++[S.1],S.2,hSa,by simp;omega,by rw [←heq];simp⟩,(WTe [0,2,1] (by simp [kwt,hS1,hS2,List.map_append,List.map_cons,List.map_nil,zar,smL,ex0,Sm.kind,Sm.name,Sm.slot,Sm.size,Sm.place,Sm.value,Sm.body,Sm.els,Ex.op_mk,Ex.value_mk,Ex.name_mk,Ex.slot_mk,Ex.size_mk,Ex.args_mk]) (by simp [kwt,hS1,hS2,List.map_append,List.map_cons,List.map_nil,zar,smL,ex0,Sm.kind,Sm.name,Sm.slot,Sm.size,Sm.place,Sm.value,Sm.body,Sm.els,Ex.op_mk,Ex.value_mk,Ex.name_mk,Ex.slot_mk,Ex.size_mk,Ex.args_mk])),by show n<n+1;omega⟩)
  ·rcases hq with hq
   all_goals (
    rw [hq] at c12
    simp only [hq,decide_true,decide_false,Bool.true_and,Bool.false_and,Bool.false_eq_true,if_false,if_true,ge_iff_le,Int.reduceLE,Int.reduceLT,Int.reduceSub,Int.reduceEq,or_true,or_false,true_or,false_or,decide_eq_true_eq,not_true_eq_false,not_false_eq_true,↓reduceIte,reduceCtorEq] at hst
    have hS1:S.1=_:=congrArg Prod.fst hst
    have hS2:S.2=_:=congrArg Prod.snd hst
    simp only at hS1 hS2
    have ce:=zcf xs hxs 2 (by omega) q.2 hl1
    have c2:=hrec hd1 2 (za2 xs 2 q.2).2 (by omega) (by omega) (zbj _ _ _ hl1)
    simp only [Int.cast_ofNat_Int] at ce
    generalize za2 xs 2 q.2=e at *
    generalize rec 2 e.2=b at *
    (repeat' (first|refine Va (zoZ @kz zl4 @kA @exA.eq_1 hs' hpos hwn hrm hwd @Bool.and_false w0 w1 w2) ?_|(with_reducible first|refine SB.c ?_ ?_<;>intro _|exact zac)|refine dC1 zae c12 ?_|refine dC1 zaX ce ?_|refine dC1 zdT c2 ?_|with_reducible refine zab ?_|omega))
    exact ⟨⟨n,L++[S.1],S.2,hSa,by simp;omega,by rw [←heq];simp⟩,(WTe [0,2,1] (by simp [kwt,hS1,hS2,List.map_append,List.map_cons,List.map_nil,zar,smL,ex0,Sm.kind,Sm.name,Sm.slot,Sm.size,Sm.place,Sm.value,Sm.body,Sm.els,Ex.op_mk,Ex.value_mk,Ex.name_mk,Ex.slot_mk,Ex.size_mk,Ex.args_mk]) (by simp [kwt,hS1,hS2,List.map_append,List.map_cons,List.map_nil,zar,smL,ex0,Sm.kind,Sm.name,Sm.slot,Sm.size,Sm.place,Sm.value,Sm.body,Sm.els,Ex.op_mk,Ex.value_mk,Ex.name_mk,Ex.slot_mk,Ex.size_mk,Ex.args_mk])),by show n<n+1;omega⟩)
theorem zos (xs:List UInt8) (hxs:xs.length≤1000) (d:Nat) (hd:d≤1000) (rec:Int→Nat→List Sm × Nat) (hr:∀ m a,a≤xs.length→(rec m a).2≤xs.length)
  (hrec:1<d→∀ (m:Int) (a:Nat),0≤m→m≤10→a≤xs.length→AC Tryz.prog gl 46 [.ref 0 0,.pv (.int .i64 m),.pv (.int .i64 ((d:Int) - 1))] (cdO xs a) (.pv (.slice ((rec m a).1.map zah))) (cdO xs (rec m a).2))
  (most:Int) (hm0:0≤most) (hm1:most≤10) (a0:Nat) (ha0:a0≤xs.length) :
  AC Tryz.prog gl 46 [.ref 0 0,.pv (.int .i64 most),.pv (.int .i64 d)] (cdO xs a0) (.pv (.slice ((zca xs rec (decide (d≤1)) most a0).1.map zah))) (cdO xs (zca xs rec (decide (d≤1)) most a0).2):=by
 by_cases hs:d≤1
 ·rw [decide_eq_true hs];exact zm5 xs hxs d hd hs rec hr hrec most hm0 hm1 a0 ha0
 ·rw [decide_eq_false hs];exact zr2 xs hxs d hd hs rec hr hrec most hm0 hm1 a0 ha0
theorem zgi (xs:List UInt8) (hxs:xs.length≤1000):∀ (d:Nat),d≤1000→∀ (m:Int) (a:Nat),0≤m→m≤10→a≤xs.length→AC Tryz.prog gl 46 [.ref 0 0,.pv (.int .i64 m),.pv (.int .i64 d)] (cdO xs a) (.pv (.slice ((zb3 xs d m a).1.map zah))) (cdO xs (zb3 xs d m a).2)
 |0,hd,m,a,h0,h1,ha=>zos xs hxs 0 hd _ (fun _ _ h=>h) (fun h=>by omega) m h0 h1 a ha
 |d+1,hd,m,a,h0,h1,ha=>zos xs hxs (d+1) hd (zb3 xs d) (fun m a h=>zcu xs d m a h) (fun _ m a h0 h1 h=>by
   have:=zgi xs hxs d (by omega) m a h0 h1 h
   rw [show (((d+1:Nat):Int) - 1)=(d:Int) by omega];exact this) m h0 h1 a ha
theorem zm6 (xs:List UInt8) (hxs:xs.length≤1000) (a:Nat) (ha:a≤xs.length):AC Tryz.prog gl 18 [.ref 0 0] (cdO xs a) (.pv (.str (zlB xs a).1)) (cdO xs (zlB xs a).2):=by
 have c1:=zaT xs a 8 (by omega) (by omega) (by omega)
 unfold zlB
 generalize nxt xs a 8=q at *
 by_cases h7:q.1=7
 ·rw [if_pos h7]
  have c2:=zaT xs q.2 14 (by omega) (by omega) (by omega)
  have hm:=zaM xs q.2 14 (by omega)
  generalize nxt xs q.2 14=m at *
  obtain ⟨i,hi⟩:=Int.eq_ofNat_of_zero_le hm.1
  rw [hi] at hm c2 ⊢
  have hi2:i<14:=by omega
  have hg:([[PVal.str [120]],[PVal.str [121]],[PVal.str [122]],[PVal.str [99,111,117,110,116]],[PVal.str [97,49]],[PVal.str [95,98]],[PVal.str [118,97,114]],[PVal.str [49,97]],[PVal.str []],[PVal.str [102,114,111,109]],[PVal.str [97,98,99,100,101,102,103,104,105,106,107,108,109,110,111,112]],[PVal.str [97,98,99,100,101,102,103,104,105,106,107,108,109,110,111,112,113]],[PVal.str [120,32,121]],[PVal.str [88]]]:List (List PVal)).getD i []=[PVal.str (nmL.getD i [])]:=zti (fun s=>[PVal.str s]) nmL i [] hi2
  refine zay (fun _=>0) 1 zDI ?_
  (repeat' (first|refine Va (fA5 @kz zAr h7 hi2 hg) ?_|(with_reducible first|refine SB.c ?_ ?_<;>intro _|exact zac)|refine dC1 zae c1 ?_|refine dC1 zae c2 ?_|with_reducible refine zab ?_|omega))
  (refine zaJ.mk [0] ?_ ?_<;>simp [kwr,zAr])
 ·rw [if_neg h7]
  have h7':(q.1==7)=false:=by simpa using h7
  have c2:=zaT xs q.2 6 (by omega) (by omega) (by omega)
  have hm:=zaM xs q.2 6 (by omega)
  generalize nxt xs q.2 6=m at *
  obtain ⟨i,hi⟩:=Int.eq_ofNat_of_zero_le hm.1
  rw [hi] at hm c2 ⊢
  have hi2:i<14:=by omega
  have hg:([[PVal.str [120]],[PVal.str [121]],[PVal.str [122]],[PVal.str [99,111,117,110,116]],[PVal.str [97,49]],[PVal.str [95,98]],[PVal.str [118,97,114]],[PVal.str [49,97]],[PVal.str []],[PVal.str [102,114,111,109]],[PVal.str [97,98,99,100,101,102,103,104,105,106,107,108,109,110,111,112]],[PVal.str [97,98,99,100,101,102,103,104,105,106,107,108,109,110,111,112,113]],[PVal.str [120,32,121]],[PVal.str [88]]]:List (List PVal)).getD i []=[PVal.str (nmL.getD i [])]:=zti (fun s=>[PVal.str s]) nmL i [] hi2
  refine zay (fun _=>0) 1 zDI ?_
  (repeat' (first|refine Va (fA5 @kz zAr h7' hi2 hg) ?_|(with_reducible first|refine SB.c ?_ ?_<;>intro _|exact zac)|refine dC1 zae c1 ?_|refine dC1 zae c2 ?_|with_reducible refine zab ?_|omega))
  (refine zaJ.mk [0] ?_ ?_<;>simp [kwr,zAr])
theorem zot (xs:List UInt8) (hxs:xs.length≤1000) (a:Nat) (ha:a≤xs.length):AC Tryz.prog gl 17 [.ref 0 0] (cdO xs a) (.pv (.int .i64 (zfE xs a).1)) (cdO xs (zfE xs a).2):=by
 have c1:=zaT xs a 6 (by omega) (by omega) (by omega)
 unfold zfE
 generalize nxt xs a 6=q at *
 by_cases h7:q.1=5
 ·rw [if_pos h7]
  have c2:=zaT xs q.2 10 (by omega) (by omega) (by omega)
  have hm:=zaM xs q.2 10 (by omega)
  generalize nxt xs q.2 10=m at *
  obtain ⟨i,hi⟩:=Int.eq_ofNat_of_zero_le hm.1
  rw [hi] at hm c2 ⊢
  have hi2:i<10:=by omega
  have hg:([[PVal.int .i64 9223372036854775807],[PVal.int .i64 (-9223372036854775808)],[PVal.int .i64 2147483648],[PVal.int .i64 (-1)],[PVal.int .i64 63],[PVal.int .i64 64],[PVal.int .i64 (-65)],[PVal.int .i64 127],[PVal.int .i64 128],[PVal.int .i64 1099511627776]]:List (List PVal)).getD i []=[PVal.int .i64 (zwJ.getD i 0)]:=zti (fun n=>[PVal.int .i64 n]) zwJ i 0 hi2
  refine zay (fun _=>0) 1 zDH ?_
  (repeat' (first|refine Va (fA5 @kz zAq h7 hi2 hg) ?_|(with_reducible first|refine SB.c ?_ ?_<;>intro _|exact zac)|refine dC1 zae c1 ?_|refine dC1 zae c2 ?_|with_reducible refine zab ?_|omega))
  (refine zaJ.mk [0] ?_ ?_<;>simp [kwr,zAq])
 ·rw [if_neg h7]
  have h7':(q.1==5)=false:=by simpa using h7
  have c2:=zaT xs q.2 12 (by omega) (by omega) (by omega)
  have hm:=zaM xs q.2 12 (by omega)
  generalize nxt xs q.2 12=m at *
  have hw:IntKind.i64.wrap (m.1 - 2)=m.1 - 2:=zat _ (by omega) (by omega)
  refine zay (fun _=>0) 1 zDH ?_
  (repeat' (first|refine Va (fA4 @kz zAq h7' hw) ?_|(with_reducible first|refine SB.c ?_ ?_<;>intro _|exact zac)|refine dC1 zae c1 ?_|refine dC1 zae c2 ?_|with_reducible refine zab ?_|omega))
  (refine zaJ.mk [0] ?_ ?_<;>simp [kwr,zAq])
end Go.Proofs.YtfinhhblcdkpgaaGreatDoor
