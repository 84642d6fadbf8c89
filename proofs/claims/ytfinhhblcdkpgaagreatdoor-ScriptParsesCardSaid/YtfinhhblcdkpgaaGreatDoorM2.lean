/- A part of the walk (Tryz_M2): its theorems have no condition beyond what they state. -/
import Derived.Test.YtfinhhblcdkpgaaGreatDoorLib2
import Derived.Test.YtfinhhblcdkpgaaGreatDoorM1
import Derived.Test.YtfinhhblcdkpgaaGreatDoorLib3
set_option maxRecDepth 100000
set_option maxHeartbeats 64000000
set_option linter.unusedSimpArgs false
set_option linter.unusedVariables false
namespace Go.Proofs.YtfinhhblcdkpgaaGreatDoor
open Go Go.Abs
structure StI (xs:List UInt8) (rec:Int→Nat→List Sm × Nat) (small:Bool) (R:List Sm × Nat) where
 n:Nat
 L:List Sm
 a:Nat
 ha:a≤xs.length
 hn:L.length+n≤1000
 eq:(L++(zbm xs rec small n a).1,(zbm xs rec small n a).2)=R
theorem zpq (xs:List UInt8) (hxs:xs.length≤1000) (d:Nat) (hd:d≤1000) (hs:d≤1) (rec:Int→Nat→List Sm × Nat) (hr:∀ m a,a≤xs.length→(rec m a).2≤xs.length)
  (hrec:1<d→∀ (m:Int) (a:Nat),0≤m→m≤10→a≤xs.length→AC Tryz.prog gl 46 [.ref 0 0,.pv (.int .i64 m),.pv (.int .i64 ((d:Int) - 1))] (cdO xs a) (.pv (.slice ((rec m a).1.map zah))) (cdO xs (rec m a).2))
  (most:Int) (hm0:0≤most) (hm1:most≤10) (a0:Nat) (ha0:a0≤xs.length) :
  AC Tryz.prog gl 46 [.ref 0 0,.pv (.int .i64 most),.pv (.int .i64 d)] (cdO xs a0) (.pv (.slice ((zcR xs rec true most a0).1.map zah))) (cdO xs (zcR xs rec true most a0).2):=by
 have hs':(d:Int)≤1:=by omega
 have hwd:IntKind.i64.wrap ((d:Int) - 1)=(d:Int) - 1:=zay _ (by omega) (by omega)
 have hwm:IntKind.i64.wrap (most+1)=most+1:=zay _ (by omega) (by omega)
 have cN:=zbF xs a0 (most+1) (by omega) (by omega) (by omega)
 have hN:=za9 xs a0 (most+1) (by omega)
 have hNl:=za0 xs a0 (most+1) ha0
 unfold zcR
 generalize nxt xs a0 (most+1)=N at *
 obtain ⟨N1,hN1⟩:=Int.eq_ofNat_of_zero_le hN.1
 rw [hN1,Int.toNat_natCast]
 rw [hN1] at cN
 obtain ⟨R,hR⟩:∃ R,R=zbm xs rec true N1 N.2:=⟨_,rfl⟩
 rw [←hR]
 have w0:IntKind.i64.wrap 0=0:=by decide
 have w1:IntKind.i64.wrap 1=1:=by decide
 have w2:IntKind.i64.wrap 2=2:=by decide
 refine zbv (fun _=>2) 3 zH6 ?_
 refine Wk1 (fA4 @kz zoi hwm (cX [0] [] zae cN)) ?_
 (refine LW.weak (zaY.nilRow 7 1 18 rfl rfl (by decide)) ?_;simp only [List.set_cons_zero,List.set_cons_succ])
 refine zaK (ι:=StI xs rec true R) (fun i=>⟨(.ref 0 0::.junk::.pv (.int .i64 d)::jl 4 (.row 1 i.L.length::.pv (.int .i64 i.n)::jl 95 [])),[some (.cells [.pv (.slice (xs.map zol)),.pv (.int .i64 i.a)]),some (.row 18 (i.L.map zah)),none]⟩) (fun i=>i.n) ⟨N1,[],N.2,hNl,by simp;omega,by rw [hR];simp⟩ WFn ?_
 rintro ⟨n,L,a,ha,hn,heq⟩
 cases n with
 |zero=>
  simp only [zbm,List.append_nil] at heq
  subst heq
  refine Wk1 zoi ?_
  refine ⟨_,zaY.freeze 1 rfl,?_⟩
  simp only [St.frz,zgh,frz,zgi,List.map_cons,List.map_nil,List.set_cons_zero,List.set_cons_succ,List.length_map,if_true,if_false,↓reduceIte,Nat.reduceEqDiff,eq_self,reduceCtorEq,Nat.succ_ne_self]
  (refine zax.mk [0] ?_ ?_<;>simp [kwr,zoi])
 |succ n=>
  have hpos:((n+1:Nat):Int) > 0:=by omega
  have hwn:IntKind.i64.wrap (((n+1:Nat):Int) - 1)=(n:Int):=by rw [zay _ (by omega) (by omega)];omega
  have h12:=za9 xs a 10 (by omega)
  have hl1:=za0 xs a 10 ha
  have c12:=zbF xs a 10 (by omega) (by omega) (by omega)
  have hSa:=zgM xs rec true a ha hr
  rw [zbm] at heq
  obtain ⟨S,hst⟩:∃ S,S=zb0 xs rec true a:=⟨_,rfl⟩
  rw [←hst] at heq hSa
  unfold zb0 kF at hst
  dsimp only at hst
  have hrm:=zc3 (L.length+1) 232 (by omega)
  skip
  generalize nxt xs a 10=q at *
  have hcase:(q.1=0∨q.1=1∨q.1=2∨q.1=7∨q.1=8∨q.1=9)∨(q.1=3)∨(q.1=4∨q.1=5)∨(q.1=6):=by omega
  rcases hcase with hq|hq|hq|hq
  ·rcases hq with hq|hq|hq|hq|hq|hq
   all_goals (
    rw [hq] at c12
    simp only [hq,decide_true,decide_false,Bool.true_and,Bool.false_and,Bool.false_eq_true,if_false,if_true,ge_iff_le,Int.reduceLE,Int.reduceLT,Int.reduceSub,Int.reduceEq,or_true,or_false,true_or,false_or,decide_eq_true_eq,not_true_eq_false,not_false_eq_true,↓reduceIte,reduceCtorEq] at hst
    have hS1:S.1=_:=congrArg Prod.fst hst
    have hS2:S.2=_:=congrArg Prod.snd hst
    simp only at hS1 hS2
    have c:=zbF xs q.2 3 (by omega) (by omega) (by omega)
    have hm:=za9 xs q.2 3 (by omega)
    have ce:=zcX xs hxs 3 (by omega) (nxt xs q.2 3).2 (za0 _ _ _ hl1)
    simp only [Int.cast_ofNat_Int] at ce
    generalize nxt xs q.2 3=m at *
    generalize zbk xs 3 m.2=e at *
    rcases (show m.1=0∨m.1=1∨m.1=2 by omega) with hi|hi|hi
    all_goals (
     repeat' first|refine Va (zrC @kz zoi @kA @exA.eq_1 hs' hpos hwn hrm hwd @Bool.and_false w0 w1 w2 hi) ?_|(with_reducible first|refine SB.c ?_ ?_<;>intro _|exact zak)|refine dC1 zae c12 ?_|refine dC1 zae c ?_|refine dC1 zbg ce ?_|with_reducible refine zaj ?_|omega
     exact ⟨⟨n,L++[S.1],S.2,hSa,by simp;omega,by rw [←heq];simp⟩,(WTe [0,2,1] (by simp [kwt,hS1,hS2,List.map_append,List.map_cons,List.map_nil,zag,smL,ex0,Sm.kind,Sm.name,Sm.slot,Sm.size,Sm.place,Sm.value,Sm.body,Sm.els,Ex.op_mk,Ex.value_mk,Ex.name_mk,Ex.slot_mk,Ex.size_mk,Ex.args_mk,zum,hi]) (by simp [kwt,hS1,hS2,List.map_append,List.map_cons,List.map_nil,zag,smL,ex0,Sm.kind,Sm.name,Sm.slot,Sm.size,Sm.place,Sm.value,Sm.body,Sm.els,Ex.op_mk,Ex.value_mk,Ex.name_mk,Ex.slot_mk,Ex.size_mk,Ex.args_mk,zum,hi])),by show n<n+1;omega⟩))
  ·rcases hq with hq
   all_goals (
    rw [hq] at c12
    simp only [hq,decide_true,decide_false,Bool.true_and,Bool.false_and,Bool.false_eq_true,if_false,if_true,ge_iff_le,Int.reduceLE,Int.reduceLT,Int.reduceSub,Int.reduceEq,or_true,or_false,true_or,false_or,decide_eq_true_eq,not_true_eq_false,not_false_eq_true,↓reduceIte,reduceCtorEq] at hst
    have hS1:S.1=_:=congrArg Prod.fst hst
    have hS2:S.2=_:=congrArg Prod.snd hst
    simp only at hS1 hS2
    have c:=zbF xs q.2 2 (by omega) (by omega) (by omega)
    have hm:=za9 xs q.2 2 (by omega)
    have ce:=zcX xs hxs 2 (by omega) (nxt xs q.2 2).2 (za0 _ _ _ hl1)
    have ce2:=zcX xs hxs 2 (by omega) (zbk xs 2 (nxt xs q.2 2).2).2 (zbP _ _ _ (za0 _ _ _ hl1))
    simp only [Int.cast_ofNat_Int] at ce ce2
    generalize nxt xs q.2 2=m at *
    generalize zbk xs 2 m.2=e at *
    generalize zbk xs 2 e.2=e2 at *
    rcases (show m.1=0∨m.1=1 by omega) with hi|hi
    all_goals (
     repeat' first|refine Va (zrC @kz zoi @kA @exA.eq_1 hs' hpos hwn hrm hwd @Bool.and_false w0 w1 w2 hi) ?_|(with_reducible first|refine SB.c ?_ ?_<;>intro _|exact zak)|refine dC1 zae c12 ?_|refine dC1 zae c ?_|refine dC1 zbg ce ?_|refine dC1 zbg ce2 ?_|with_reducible refine zaj ?_|omega
     exact ⟨⟨n,L++[S.1],S.2,hSa,by simp;omega,by rw [←heq];simp⟩,(WTe [0,2,1] (by simp [kwt,hS1,hS2,List.map_append,List.map_cons,List.map_nil,zag,smL,ex0,Sm.kind,Sm.name,Sm.slot,Sm.size,Sm.place,Sm.value,Sm.body,Sm.els,Ex.op_mk,Ex.value_mk,Ex.name_mk,Ex.slot_mk,Ex.size_mk,Ex.args_mk,zyq,hi]) (by simp [kwt,hS1,hS2,List.map_append,List.map_cons,List.map_nil,zag,smL,ex0,Sm.kind,Sm.name,Sm.slot,Sm.size,Sm.place,Sm.value,Sm.body,Sm.els,Ex.op_mk,Ex.value_mk,Ex.name_mk,Ex.slot_mk,Ex.size_mk,Ex.args_mk,zyq,hi])),by show n<n+1;omega⟩))
  ·rcases hq with hq|hq
   all_goals (
    rw [hq] at c12
    simp only [hq,decide_true,decide_false,Bool.true_and,Bool.false_and,Bool.false_eq_true,if_false,if_true,ge_iff_le,Int.reduceLE,Int.reduceLT,Int.reduceSub,Int.reduceEq,or_true,or_false,true_or,false_or,decide_eq_true_eq,not_true_eq_false,not_false_eq_true,↓reduceIte,reduceCtorEq] at hst
    have hS1:S.1=_:=congrArg Prod.fst hst
    have hS2:S.2=_:=congrArg Prod.snd hst
    simp only at hS1 hS2
    have ce:=zcX xs hxs 2 (by omega) q.2 hl1
    have ce2:=zcX xs hxs 2 (by omega) (zbk xs 2 q.2).2 (zbP _ _ _ hl1)
    simp only [Int.cast_ofNat_Int] at ce ce2
    generalize zbk xs 2 q.2=e at *
    generalize zbk xs 2 e.2=e2 at *
    repeat' first|refine Va (zhQ @kz zoi @kA @exA.eq_1 hs' hpos hwn hrm hwd @Bool.and_false w0 w1 w2) ?_|(with_reducible first|refine SB.c ?_ ?_<;>intro _|exact zak)|refine dC1 zae c12 ?_|refine dC1 zbg ce ?_|refine dC1 zbg ce2 ?_|with_reducible refine zaj ?_|omega
    exact ⟨⟨n,L++[S.1],S.2,hSa,by simp;omega,by rw [←heq];simp⟩,(WTe [0,2,1] (by simp [kwt,hS1,hS2,List.map_append,List.map_cons,List.map_nil,zag,smL,ex0,Sm.kind,Sm.name,Sm.slot,Sm.size,Sm.place,Sm.value,Sm.body,Sm.els,Ex.op_mk,Ex.value_mk,Ex.name_mk,Ex.slot_mk,Ex.size_mk,Ex.args_mk]) (by simp [kwt,hS1,hS2,List.map_append,List.map_cons,List.map_nil,zag,smL,ex0,Sm.kind,Sm.name,Sm.slot,Sm.size,Sm.place,Sm.value,Sm.body,Sm.els,Ex.op_mk,Ex.value_mk,Ex.name_mk,Ex.slot_mk,Ex.size_mk,Ex.args_mk])),by show n<n+1;omega⟩)
  ·rcases hq with hq
   all_goals (
    rw [hq] at c12
    simp only [hq,decide_true,decide_false,Bool.true_and,Bool.false_and,Bool.false_eq_true,if_false,if_true,ge_iff_le,Int.reduceLE,Int.reduceLT,Int.reduceSub,Int.reduceEq,or_true,or_false,true_or,false_or,decide_eq_true_eq,not_true_eq_false,not_false_eq_true,↓reduceIte,reduceCtorEq] at hst
    have hS1:S.1=_:=congrArg Prod.fst hst
    have hS2:S.2=_:=congrArg Prod.snd hst
    simp only at hS1 hS2
    have ce:=zcX xs hxs 2 (by omega) q.2 hl1
    simp only [Int.cast_ofNat_Int] at ce
    generalize zbk xs 2 q.2=e at *
    refine Wk1 (zBe @kz zoi @kA @exA.eq_1 hs' hpos hwn hrm hwd @Bool.and_false w0 w1 w2 (cX [0] [] zae c12) (cX [0] [] zbg ce)) ?_
    exact ⟨⟨n,L++[S.1],S.2,hSa,by simp;omega,by rw [←heq];simp⟩,(WTe [0,2,1] (by simp [kwt,hS1,hS2,List.map_append,List.map_cons,List.map_nil,zag,smL,ex0,Sm.kind,Sm.name,Sm.slot,Sm.size,Sm.place,Sm.value,Sm.body,Sm.els,Ex.op_mk,Ex.value_mk,Ex.name_mk,Ex.slot_mk,Ex.size_mk,Ex.args_mk]) (by simp [kwt,hS1,hS2,List.map_append,List.map_cons,List.map_nil,zag,smL,ex0,Sm.kind,Sm.name,Sm.slot,Sm.size,Sm.place,Sm.value,Sm.body,Sm.els,Ex.op_mk,Ex.value_mk,Ex.name_mk,Ex.slot_mk,Ex.size_mk,Ex.args_mk])),by show n<n+1;omega⟩)
theorem zu7 (xs:List UInt8) (hxs:xs.length≤1000) (d:Nat) (hd:d≤1000) (hs:¬ d≤1) (rec:Int→Nat→List Sm × Nat) (hr:∀ m a,a≤xs.length→(rec m a).2≤xs.length)
  (hrec:1<d→∀ (m:Int) (a:Nat),0≤m→m≤10→a≤xs.length→AC Tryz.prog gl 46 [.ref 0 0,.pv (.int .i64 m),.pv (.int .i64 ((d:Int) - 1))] (cdO xs a) (.pv (.slice ((rec m a).1.map zah))) (cdO xs (rec m a).2))
  (most:Int) (hm0:0≤most) (hm1:most≤10) (a0:Nat) (ha0:a0≤xs.length) :
  AC Tryz.prog gl 46 [.ref 0 0,.pv (.int .i64 most),.pv (.int .i64 d)] (cdO xs a0) (.pv (.slice ((zcR xs rec false most a0).1.map zah))) (cdO xs (zcR xs rec false most a0).2):=by
 have hs':¬ (d:Int)≤1:=by omega
 have hwd:IntKind.i64.wrap ((d:Int) - 1)=(d:Int) - 1:=zay _ (by omega) (by omega)
 have hwm:IntKind.i64.wrap (most+1)=most+1:=zay _ (by omega) (by omega)
 have cN:=zbF xs a0 (most+1) (by omega) (by omega) (by omega)
 have hN:=za9 xs a0 (most+1) (by omega)
 have hNl:=za0 xs a0 (most+1) ha0
 unfold zcR
 generalize nxt xs a0 (most+1)=N at *
 obtain ⟨N1,hN1⟩:=Int.eq_ofNat_of_zero_le hN.1
 rw [hN1,Int.toNat_natCast]
 rw [hN1] at cN
 obtain ⟨R,hR⟩:∃ R,R=zbm xs rec false N1 N.2:=⟨_,rfl⟩
 rw [←hR]
 have w0:IntKind.i64.wrap 0=0:=by decide
 have w1:IntKind.i64.wrap 1=1:=by decide
 have w2:IntKind.i64.wrap 2=2:=by decide
 refine zbv (fun _=>2) 3 zH6 ?_
 refine Wk1 (fA4 @kz zoi hwm (cX [0] [] zae cN)) ?_
 (refine LW.weak (zaY.nilRow 7 1 18 rfl rfl (by decide)) ?_;simp only [List.set_cons_zero,List.set_cons_succ])
 refine zaK (ι:=StI xs rec false R) (fun i=>⟨(.ref 0 0::.junk::.pv (.int .i64 d)::jl 4 (.row 1 i.L.length::.pv (.int .i64 i.n)::jl 95 [])),[some (.cells [.pv (.slice (xs.map zol)),.pv (.int .i64 i.a)]),some (.row 18 (i.L.map zah)),none]⟩) (fun i=>i.n) ⟨N1,[],N.2,hNl,by simp;omega,by rw [hR];simp⟩ WFn ?_
 rintro ⟨n,L,a,ha,hn,heq⟩
 cases n with
 |zero=>
  simp only [zbm,List.append_nil] at heq
  subst heq
  refine Wk1 zoi ?_
  refine ⟨_,zaY.freeze 1 rfl,?_⟩
  simp only [St.frz,zgh,frz,zgi,List.map_cons,List.map_nil,List.set_cons_zero,List.set_cons_succ,List.length_map,if_true,if_false,↓reduceIte,Nat.reduceEqDiff,eq_self,reduceCtorEq,Nat.succ_ne_self]
  (refine zax.mk [0] ?_ ?_<;>simp [kwr,zoi])
 |succ n=>
  have hpos:((n+1:Nat):Int) > 0:=by omega
  have hwn:IntKind.i64.wrap (((n+1:Nat):Int) - 1)=(n:Int):=by rw [zay _ (by omega) (by omega)];omega
  have h12:=za9 xs a 10 (by omega)
  have hl1:=za0 xs a 10 ha
  have c12:=zbF xs a 10 (by omega) (by omega) (by omega)
  have hSa:=zgM xs rec false a ha hr
  rw [zbm] at heq
  obtain ⟨S,hst⟩:∃ S,S=zb0 xs rec false a:=⟨_,rfl⟩
  rw [←hst] at heq hSa
  unfold zb0 kF at hst
  dsimp only at hst
  have hrm:=zc3 (L.length+1) 232 (by omega)
  have hd1:1<d:=by omega
  generalize nxt xs a 10=q at *
  have hcase:(q.1=0∨q.1=1∨q.1=2)∨(q.1=3)∨(q.1=4∨q.1=5)∨(q.1=6)∨(q.1=7∨q.1=8)∨(q.1=9):=by omega
  rcases hcase with hq|hq|hq|hq|hq|hq
  ·rcases hq with hq|hq|hq
   all_goals (
    rw [hq] at c12
    simp only [hq,decide_true,decide_false,Bool.true_and,Bool.false_and,Bool.false_eq_true,if_false,if_true,ge_iff_le,Int.reduceLE,Int.reduceLT,Int.reduceSub,Int.reduceEq,or_true,or_false,true_or,false_or,decide_eq_true_eq,not_true_eq_false,not_false_eq_true,↓reduceIte,reduceCtorEq] at hst
    have hS1:S.1=_:=congrArg Prod.fst hst
    have hS2:S.2=_:=congrArg Prod.snd hst
    simp only at hS1 hS2
    have c:=zbF xs q.2 3 (by omega) (by omega) (by omega)
    have hm:=za9 xs q.2 3 (by omega)
    have ce:=zcX xs hxs 3 (by omega) (nxt xs q.2 3).2 (za0 _ _ _ hl1)
    simp only [Int.cast_ofNat_Int] at ce
    generalize nxt xs q.2 3=m at *
    generalize zbk xs 3 m.2=e at *
    rcases (show m.1=0∨m.1=1∨m.1=2 by omega) with hi|hi|hi
    all_goals (
     repeat' first|refine Va (zrC @kz zoi @kA @exA.eq_1 hs' hpos hwn hrm hwd @Bool.and_false w0 w1 w2 hi) ?_|(with_reducible first|refine SB.c ?_ ?_<;>intro _|exact zak)|refine dC1 zae c12 ?_|refine dC1 zae c ?_|refine dC1 zbg ce ?_|with_reducible refine zaj ?_|omega
     exact ⟨⟨n,L++[S.1],S.2,hSa,by simp;omega,by rw [←heq];simp⟩,(WTe [0,2,1] (by simp [kwt,hS1,hS2,List.map_append,List.map_cons,List.map_nil,zag,smL,ex0,Sm.kind,Sm.name,Sm.slot,Sm.size,Sm.place,Sm.value,Sm.body,Sm.els,Ex.op_mk,Ex.value_mk,Ex.name_mk,Ex.slot_mk,Ex.size_mk,Ex.args_mk,zum,hi]) (by simp [kwt,hS1,hS2,List.map_append,List.map_cons,List.map_nil,zag,smL,ex0,Sm.kind,Sm.name,Sm.slot,Sm.size,Sm.place,Sm.value,Sm.body,Sm.els,Ex.op_mk,Ex.value_mk,Ex.name_mk,Ex.slot_mk,Ex.size_mk,Ex.args_mk,zum,hi])),by show n<n+1;omega⟩))
  ·rcases hq with hq
   all_goals (
    rw [hq] at c12
    simp only [hq,decide_true,decide_false,Bool.true_and,Bool.false_and,Bool.false_eq_true,if_false,if_true,ge_iff_le,Int.reduceLE,Int.reduceLT,Int.reduceSub,Int.reduceEq,or_true,or_false,true_or,false_or,decide_eq_true_eq,not_true_eq_false,not_false_eq_true,↓reduceIte,reduceCtorEq] at hst
    have hS1:S.1=_:=congrArg Prod.fst hst
    have hS2:S.2=_:=congrArg Prod.snd hst
    simp only at hS1 hS2
    have c:=zbF xs q.2 2 (by omega) (by omega) (by omega)
    have hm:=za9 xs q.2 2 (by omega)
    have ce:=zcX xs hxs 2 (by omega) (nxt xs q.2 2).2 (za0 _ _ _ hl1)
    have ce2:=zcX xs hxs 2 (by omega) (zbk xs 2 (nxt xs q.2 2).2).2 (zbP _ _ _ (za0 _ _ _ hl1))
    simp only [Int.cast_ofNat_Int] at ce ce2
    generalize nxt xs q.2 2=m at *
    generalize zbk xs 2 m.2=e at *
    generalize zbk xs 2 e.2=e2 at *
    rcases (show m.1=0∨m.1=1 by omega) with hi|hi
    all_goals (
     repeat' first|refine Va (zrC @kz zoi @kA @exA.eq_1 hs' hpos hwn hrm hwd @Bool.and_false w0 w1 w2 hi) ?_|(with_reducible first|refine SB.c ?_ ?_<;>intro _|exact zak)|refine dC1 zae c12 ?_|refine dC1 zae c ?_|refine dC1 zbg ce ?_|refine dC1 zbg ce2 ?_|with_reducible refine zaj ?_|omega
     exact ⟨⟨n,L++[S.1],S.2,hSa,by simp;omega,by rw [←heq];simp⟩,(WTe [0,2,1] (by simp [kwt,hS1,hS2,List.map_append,List.map_cons,List.map_nil,zag,smL,ex0,Sm.kind,Sm.name,Sm.slot,Sm.size,Sm.place,Sm.value,Sm.body,Sm.els,Ex.op_mk,Ex.value_mk,Ex.name_mk,Ex.slot_mk,Ex.size_mk,Ex.args_mk,zyq,hi]) (by simp [kwt,hS1,hS2,List.map_append,List.map_cons,List.map_nil,zag,smL,ex0,Sm.kind,Sm.name,Sm.slot,Sm.size,Sm.place,Sm.value,Sm.body,Sm.els,Ex.op_mk,Ex.value_mk,Ex.name_mk,Ex.slot_mk,Ex.size_mk,Ex.args_mk,zyq,hi])),by show n<n+1;omega⟩))
  ·rcases hq with hq|hq
   all_goals (
    rw [hq] at c12
    simp only [hq,decide_true,decide_false,Bool.true_and,Bool.false_and,Bool.false_eq_true,if_false,if_true,ge_iff_le,Int.reduceLE,Int.reduceLT,Int.reduceSub,Int.reduceEq,or_true,or_false,true_or,false_or,decide_eq_true_eq,not_true_eq_false,not_false_eq_true,↓reduceIte,reduceCtorEq] at hst
    have hS1:S.1=_:=congrArg Prod.fst hst
    have hS2:S.2=_:=congrArg Prod.snd hst
    simp only at hS1 hS2
    have ce:=zcX xs hxs 2 (by omega) q.2 hl1
    have ce2:=zcX xs hxs 2 (by omega) (zbk xs 2 q.2).2 (zbP _ _ _ hl1)
    simp only [Int.cast_ofNat_Int] at ce ce2
    generalize zbk xs 2 q.2=e at *
    generalize zbk xs 2 e.2=e2 at *
    repeat' first|refine Va (zhQ @kz zoi @kA @exA.eq_1 hs' hpos hwn hrm hwd @Bool.and_false w0 w1 w2) ?_|(with_reducible first|refine SB.c ?_ ?_<;>intro _|exact zak)|refine dC1 zae c12 ?_|refine dC1 zbg ce ?_|refine dC1 zbg ce2 ?_|with_reducible refine zaj ?_|omega
    exact ⟨⟨n,L++[S.1],S.2,hSa,by simp;omega,by rw [←heq];simp⟩,(WTe [0,2,1] (by simp [kwt,hS1,hS2,List.map_append,List.map_cons,List.map_nil,zag,smL,ex0,Sm.kind,Sm.name,Sm.slot,Sm.size,Sm.place,Sm.value,Sm.body,Sm.els,Ex.op_mk,Ex.value_mk,Ex.name_mk,Ex.slot_mk,Ex.size_mk,Ex.args_mk]) (by simp [kwt,hS1,hS2,List.map_append,List.map_cons,List.map_nil,zag,smL,ex0,Sm.kind,Sm.name,Sm.slot,Sm.size,Sm.place,Sm.value,Sm.body,Sm.els,Ex.op_mk,Ex.value_mk,Ex.name_mk,Ex.slot_mk,Ex.size_mk,Ex.args_mk])),by show n<n+1;omega⟩)
  ·rcases hq with hq
   all_goals (
    rw [hq] at c12
    simp only [hq,decide_true,decide_false,Bool.true_and,Bool.false_and,Bool.false_eq_true,if_false,if_true,ge_iff_le,Int.reduceLE,Int.reduceLT,Int.reduceSub,Int.reduceEq,or_true,or_false,true_or,false_or,decide_eq_true_eq,not_true_eq_false,not_false_eq_true,↓reduceIte,reduceCtorEq] at hst
    have hS1:S.1=_:=congrArg Prod.fst hst
    have hS2:S.2=_:=congrArg Prod.snd hst
    simp only at hS1 hS2
    have ce:=zcX xs hxs 2 (by omega) q.2 hl1
    simp only [Int.cast_ofNat_Int] at ce
    generalize zbk xs 2 q.2=e at *
    refine Wk1 (zBe @kz zoi @kA @exA.eq_1 hs' hpos hwn hrm hwd @Bool.and_false w0 w1 w2 (cX [0] [] zae c12) (cX [0] [] zbg ce)) ?_
    exact ⟨⟨n,L++[S.1],S.2,hSa,by simp;omega,by rw [←heq];simp⟩,(WTe [0,2,1] (by simp [kwt,hS1,hS2,List.map_append,List.map_cons,List.map_nil,zag,smL,ex0,Sm.kind,Sm.name,Sm.slot,Sm.size,Sm.place,Sm.value,Sm.body,Sm.els,Ex.op_mk,Ex.value_mk,Ex.name_mk,Ex.slot_mk,Ex.size_mk,Ex.args_mk]) (by simp [kwt,hS1,hS2,List.map_append,List.map_cons,List.map_nil,zag,smL,ex0,Sm.kind,Sm.name,Sm.slot,Sm.size,Sm.place,Sm.value,Sm.body,Sm.els,Ex.op_mk,Ex.value_mk,Ex.name_mk,Ex.slot_mk,Ex.size_mk,Ex.args_mk])),by show n<n+1;omega⟩)
  ·rcases hq with hq|hq
   all_goals (
    rw [hq] at c12
    simp only [hq,decide_true,decide_false,Bool.true_and,Bool.false_and,Bool.false_eq_true,if_false,if_true,ge_iff_le,Int.reduceLE,Int.reduceLT,Int.reduceSub,Int.reduceEq,or_true,or_false,true_or,false_or,decide_eq_true_eq,not_true_eq_false,not_false_eq_true,↓reduceIte,reduceCtorEq] at hst
    have hS1:S.1=_:=congrArg Prod.fst hst
    have hS2:S.2=_:=congrArg Prod.snd hst
    simp only at hS1 hS2
    have ce:=zcX xs hxs 2 (by omega) q.2 hl1
    have c2:=hrec hd1 2 (zbk xs 2 q.2).2 (by omega) (by omega) (zbP _ _ _ hl1)
    have c3:=hrec hd1 1 (rec 2 (zbk xs 2 q.2).2).2 (by omega) (by omega) (hr _ _ (zbP _ _ _ hl1))
    simp only [Int.cast_ofNat_Int] at ce
    generalize zbk xs 2 q.2=e at *
    generalize rec 2 e.2=b at *
    generalize rec 1 b.2=l at *
    repeat' first|refine Va (zhQ @kz zoi @kA @exA.eq_1 hs' hpos hwn hrm hwd @Bool.and_false w0 w1 w2) ?_|(with_reducible first|refine SB.c ?_ ?_<;>intro _|exact zak)|refine dC1 zae c12 ?_|refine dC1 zbg ce ?_|refine dC1 zeV c2 ?_|refine dC1 zeV c3 ?_|with_reducible refine zaj ?_|omega
    exact ⟨⟨n,L++[S.1],S.2,hSa,by simp;omega,by rw [←heq];simp⟩,(WTe [0,2,1] (by simp [kwt,hS1,hS2,List.map_append,List.map_cons,List.map_nil,zag,smL,ex0,Sm.kind,Sm.name,Sm.slot,Sm.size,Sm.place,Sm.value,Sm.body,Sm.els,Ex.op_mk,Ex.value_mk,Ex.name_mk,Ex.slot_mk,Ex.size_mk,Ex.args_mk]) (by simp [kwt,hS1,hS2,List.map_append,List.map_cons,List.map_nil,zag,smL,ex0,Sm.kind,Sm.name,Sm.slot,Sm.size,Sm.place,Sm.value,Sm.body,Sm.els,Ex.op_mk,Ex.value_mk,Ex.name_mk,Ex.slot_mk,Ex.size_mk,Ex.args_mk])),by show n<n+1;omega⟩)
  ·rcases hq with hq
   all_goals (
    rw [hq] at c12
    simp only [hq,decide_true,decide_false,Bool.true_and,Bool.false_and,Bool.false_eq_true,if_false,if_true,ge_iff_le,Int.reduceLE,Int.reduceLT,Int.reduceSub,Int.reduceEq,or_true,or_false,true_or,false_or,decide_eq_true_eq,not_true_eq_false,not_false_eq_true,↓reduceIte,reduceCtorEq] at hst
    have hS1:S.1=_:=congrArg Prod.fst hst
    have hS2:S.2=_:=congrArg Prod.snd hst
    simp only at hS1 hS2
    have ce:=zcX xs hxs 2 (by omega) q.2 hl1
    have c2:=hrec hd1 2 (zbk xs 2 q.2).2 (by omega) (by omega) (zbP _ _ _ hl1)
    simp only [Int.cast_ofNat_Int] at ce
    generalize zbk xs 2 q.2=e at *
    generalize rec 2 e.2=b at *
    refine Wk1 (zFO @kz zoi @kA @exA.eq_1 hs' hpos hwn hrm hwd @Bool.and_false w0 w1 w2 (cX [0] [] zae c12) (cX [0] [] zbg ce) (cX [0] [] zeV c2)) ?_
    exact ⟨⟨n,L++[S.1],S.2,hSa,by simp;omega,by rw [←heq];simp⟩,(WTe [0,2,1] (by simp [kwt,hS1,hS2,List.map_append,List.map_cons,List.map_nil,zag,smL,ex0,Sm.kind,Sm.name,Sm.slot,Sm.size,Sm.place,Sm.value,Sm.body,Sm.els,Ex.op_mk,Ex.value_mk,Ex.name_mk,Ex.slot_mk,Ex.size_mk,Ex.args_mk]) (by simp [kwt,hS1,hS2,List.map_append,List.map_cons,List.map_nil,zag,smL,ex0,Sm.kind,Sm.name,Sm.slot,Sm.size,Sm.place,Sm.value,Sm.body,Sm.els,Ex.op_mk,Ex.value_mk,Ex.name_mk,Ex.slot_mk,Ex.size_mk,Ex.args_mk])),by show n<n+1;omega⟩)
theorem zqX (xs:List UInt8) (hxs:xs.length≤1000) (d:Nat) (hd:d≤1000) (rec:Int→Nat→List Sm × Nat) (hr:∀ m a,a≤xs.length→(rec m a).2≤xs.length)
  (hrec:1<d→∀ (m:Int) (a:Nat),0≤m→m≤10→a≤xs.length→AC Tryz.prog gl 46 [.ref 0 0,.pv (.int .i64 m),.pv (.int .i64 ((d:Int) - 1))] (cdO xs a) (.pv (.slice ((rec m a).1.map zah))) (cdO xs (rec m a).2))
  (most:Int) (hm0:0≤most) (hm1:most≤10) (a0:Nat) (ha0:a0≤xs.length) :
  AC Tryz.prog gl 46 [.ref 0 0,.pv (.int .i64 most),.pv (.int .i64 d)] (cdO xs a0) (.pv (.slice ((zcR xs rec (decide (d≤1)) most a0).1.map zah))) (cdO xs (zcR xs rec (decide (d≤1)) most a0).2):=by
 by_cases hs:d≤1
 ·rw [decide_eq_true hs];exact zpq xs hxs d hd hs rec hr hrec most hm0 hm1 a0 ha0
 ·rw [decide_eq_false hs];exact zu7 xs hxs d hd hs rec hr hrec most hm0 hm1 a0 ha0
theorem zhK (xs:List UInt8) (hxs:xs.length≤1000):∀ (d:Nat),d≤1000→∀ (m:Int) (a:Nat),0≤m→m≤10→a≤xs.length→AC Tryz.prog gl 46 [.ref 0 0,.pv (.int .i64 m),.pv (.int .i64 d)] (cdO xs a) (.pv (.slice ((zcJ xs d m a).1.map zah))) (cdO xs (zcJ xs d m a).2)
 |0,hd,m,a,h0,h1,ha=>zqX xs hxs 0 hd _ (fun _ _ h=>h) (fun h=>by omega) m h0 h1 a ha
 |d+1,hd,m,a,h0,h1,ha=>zqX xs hxs (d+1) hd (zcJ xs d) (fun m a h=>zdh xs d m a h) (fun _ m a h0 h1 h=>by
   have:=zhK xs hxs d (by omega) m a h0 h1 h
   rw [show (((d+1:Nat):Int) - 1)=(d:Int) by omega];exact this) m h0 h1 a ha
theorem zsp (xs:List UInt8) (hxs:xs.length≤1000) (a:Nat) (ha:a≤xs.length):AC Tryz.prog gl 25 [.ref 0 0] (cdO xs a) (pgA (zcv xs a).1) (cdO xs (zcv xs a).2):=by
 have c1:=zbF xs a 7 (by omega) (by omega) (by omega)
 have l1:=za0 xs a 7 ha
 have b1:=za9 xs a 7 (by omega)
 have c2:=zbF xs (nxt xs a 7).2 5 (by omega) (by omega) (by omega)
 have l2:=za0 xs (nxt xs a 7).2 5 l1
 have b2:=za9 xs (nxt xs a 7).2 5 (by omega)
 have c3:=zbF xs (nxt xs (nxt xs a 7).2 5).2 3 (by omega) (by omega) (by omega)
 have l3:=za0 xs (nxt xs (nxt xs a 7).2 5).2 3 l2
 unfold zcv
 dsimp only
 generalize nxt xs a 7=m1 at *
 generalize nxt xs m1.2 5=m2 at *
 generalize nxt xs m2.2 3=m3 at *
 have d1:=zhK xs hxs 2 (by omega) 3 m3.2 (by omega) (by omega) l3
 have k1:=zdh xs 2 3 m3.2 l3
 generalize zcJ xs 2 3 m3.2=s1 at *
 have d2:=zhK xs hxs 3 (by omega) 4 s1.2 (by omega) (by omega) k1
 have k2:=zdh xs 3 4 s1.2 k1
 generalize zcJ xs 3 4 s1.2=s2 at *
 have d3:=zhK xs hxs 2 (by omega) 3 s2.2 (by omega) (by omega) k2
 have k3:=zdh xs 2 3 s2.2 k2
 generalize zcJ xs 2 3 s2.2=s3 at *
 have d4:=zhK xs hxs 2 (by omega) 2 s3.2 (by omega) (by omega) k3
 generalize zcJ xs 2 2 s3.2=s4 at *
 simp only [Int.cast_ofNat_Int] at d1 d2 d3 d4
 have hw1:IntKind.i64.wrap (m1.1 - 2)=m1.1 - 2:=zay _ (by omega) (by omega)
 have hw2:IntKind.i64.wrap (1+m2.1)=1+m2.1:=zay _ (by omega) (by omega)
 unfold pgA
 refine zat (fun d=>if d=2 then 1 else 2) 3 zJG ?_
 repeat' first|refine Va (fA4 @kz zHX hw1 hw2) ?_|(with_reducible first|refine SB.c ?_ ?_<;>intro _|exact zak)|refine dC1 zae c1 ?_|refine dC1 zae c2 ?_|refine dC1 zae c3 ?_|refine dC1 zeV d1 ?_|refine dC1 zeV d2 ?_|refine dC1 zeV d3 ?_|refine dC1 zeV d4 ?_|with_reducible refine zaj ?_|omega
 (refine zax.mk [0] ?_ ?_<;>simp [kwr,zHX,zxj,zav])
theorem zu8 (xs:List UInt8) (hxs:xs.length≤1000) (a:Nat) (ha:a≤xs.length):AC Tryz.prog gl 17 [.ref 0 0] (cdO xs a) (.pv (.int .i64 (zhS xs a).1)) (cdO xs (zhS xs a).2):=by
 have c1:=zbF xs a 6 (by omega) (by omega) (by omega)
 unfold zhS
 generalize nxt xs a 6=q at *
 by_cases h7:q.1=5
 ·rw [if_pos h7]
  have c2:=zbF xs q.2 10 (by omega) (by omega) (by omega)
  have hm:=za9 xs q.2 10 (by omega)
  generalize nxt xs q.2 10=m at *
  obtain ⟨i,hi⟩:=Int.eq_ofNat_of_zero_le hm.1
  rw [hi] at hm c2 ⊢
  have hi2:i<10:=by omega
  have hg:([[PVal.int .i64 9223372036854775807],[PVal.int .i64 (-9223372036854775808)],[PVal.int .i64 2147483648],[PVal.int .i64 (-1)],[PVal.int .i64 63],[PVal.int .i64 64],[PVal.int .i64 (-65)],[PVal.int .i64 127],[PVal.int .i64 128],[PVal.int .i64 1099511627776]]:List (List PVal)).getD i []=[PVal.int .i64 (zAm.getD i 0)]:=zFK (fun n=>[PVal.int .i64 n]) zAm i 0 hi2
  refine zat (fun _=>0) 1 zH1 ?_
  repeat' first|refine Va (fA5 @kz zED h7 hi2 hg) ?_|(with_reducible first|refine SB.c ?_ ?_<;>intro _|exact zak)|refine dC1 zae c1 ?_|refine dC1 zae c2 ?_|with_reducible refine zaj ?_|omega
  (refine zax.mk [0] ?_ ?_<;>simp [kwr,zED])
 ·rw [if_neg h7]
  have h7':(q.1==5)=false:=by simpa using h7
  have c2:=zbF xs q.2 12 (by omega) (by omega) (by omega)
  have hm:=za9 xs q.2 12 (by omega)
  generalize nxt xs q.2 12=m at *
  have hw:IntKind.i64.wrap (m.1 - 2)=m.1 - 2:=zay _ (by omega) (by omega)
  refine zat (fun _=>0) 1 zH1 ?_
  repeat' first|refine Va (fA4 @kz zED h7' hw) ?_|(with_reducible first|refine SB.c ?_ ?_<;>intro _|exact zak)|refine dC1 zae c1 ?_|refine dC1 zae c2 ?_|with_reducible refine zaj ?_|omega
  (refine zax.mk [0] ?_ ?_<;>simp [kwr,zED])
end Go.Proofs.YtfinhhblcdkpgaaGreatDoor
