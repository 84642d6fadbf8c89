/- A part of the walk (Tryz_M2): its theorems have no condition beyond what they state. -/
import Derived.Test.YtfinhhblcdkpgaaGreatDoorM1
import Derived.Test.YtfinhhblcdkpgaaGreatDoorLib3
set_option maxRecDepth 100000
set_option maxHeartbeats 64000000
set_option linter.unusedSimpArgs false
set_option linter.unusedVariables false
set_option linter.defProp false
namespace Go.Proofs.YtfinhhblcdkpgaaGreatDoor
open Go Go.Abs
structure StI (xs:List UInt8) (rec:Int→Nat→List Sm × Nat) (small:Bool) (R:List Sm × Nat) where
 n:Nat
 L:List Sm
 a:Nat
 ha:a≤xs.length
 hn:L.length+n≤1000
 eq:(L++(zaQ xs rec small n a).1,(zaQ xs rec small n a).2)=R
theorem znG (xs:List UInt8) (hxs:xs.length≤1000) (d:Nat) (hd:d≤1000) (hs:d≤1) (rec:Int→Nat→List Sm × Nat) (hr:∀ m a,a≤xs.length→(rec m a).2≤xs.length)
  (hrec:1<d→∀ (m:Int) (a:Nat),0≤m→m≤10→a≤xs.length→AC Tryz.prog gl 46 [.ref 0 0,.pv (.int .i64 m),.pv (.int .i64 ((d:Int) - 1))] (cdO xs a) (.pv (.slice ((rec m a).1.map zam))) (cdO xs (rec m a).2))
  (most:Int) (hm0:0≤most) (hm1:most≤10) (a0:Nat) (ha0:a0≤xs.length) :
  AC Tryz.prog gl 46 [.ref 0 0,.pv (.int .i64 most),.pv (.int .i64 d)] (cdO xs a0) (.pv (.slice ((zcl xs rec true most a0).1.map zam))) (cdO xs (zcl xs rec true most a0).2):=by
 have hs':(d:Int)≤1:=by omega
 have hwd:IntKind.i64.wrap ((d:Int) - 1)=(d:Int) - 1:=zaB _ (by omega) (by omega)
 have hwm:IntKind.i64.wrap (most+1)=most+1:=zaB _ (by omega) (by omega)
 have cN:=zbH xs a0 (most+1) (by omega) (by omega) (by omega)
 have hN:=zaG xs a0 (most+1) (by omega)
 have hNl:=zaX xs a0 (most+1) ha0
 unfold zcl
 generalize nxt xs a0 (most+1)=N at *
 obtain ⟨N1,hN1⟩:=Int.eq_ofNat_of_zero_le hN.1
 rw [hN1,Int.toNat_natCast]
 rw [hN1] at cN
 obtain ⟨R,hR⟩:∃ R,R=zaQ xs rec true N1 N.2:=⟨_,rfl⟩
 rw [←hR]
 have w0:IntKind.i64.wrap 0=0:=by decide
 have w1:IntKind.i64.wrap 1=1:=by decide
 have w2:IntKind.i64.wrap 2=2:=by decide
 refine zgD (fun _=>2) 3 zFq ?_
 (repeat' (first|refine Va (fA3 @kz zmK hwm) ?_|(with_reducible first|refine SB.c ?_ ?_<;>intro _|exact zad)|refine dC1 zag cN ?_|with_reducible refine zac ?_|omega))
 (refine LW.weak (zbU.nilRow 7 1 18 rfl rfl (by decide)) ?_;simp only [List.set_cons_zero,List.set_cons_succ])
 refine zbx (ι:=StI xs rec true R) (fun i=>⟨(.ref 0 0::.junk::.pv (.int .i64 d)::jl 4 (.row 1 i.L.length::.pv (.int .i64 i.n)::jl 95 [])),[some (.cells [.pv (.slice (xs.map zmM)),.pv (.int .i64 i.a)]),some (.row 18 (i.L.map zam)),none]⟩) (fun i=>i.n) ⟨N1,[],N.2,hNl,by simp;omega,by rw [hR];simp⟩ WFn ?_
 rintro ⟨n,L,a,ha,hn,heq⟩
 cases n with
 |zero=>
  simp only [zaQ,List.append_nil] at heq
  subst heq
  (repeat' (first|refine Va zmK ?_|(with_reducible first|refine SB.c ?_ ?_<;>intro _|exact zad)|with_reducible refine zac ?_|omega))
  refine ⟨_,zbU.freeze 1 rfl,?_⟩
  simp only [St.frz,zgx,frz,zgy,List.map_cons,List.map_nil,List.set_cons_zero,List.set_cons_succ,List.length_map,if_true,if_false,↓reduceIte,Nat.reduceEqDiff,eq_self,reduceCtorEq,Nat.succ_ne_self]
  (refine zaI.mk [0] ?_ ?_<;>simp [kwr,zmK])
 |succ n=>
  have hpos:((n+1:Nat):Int) > 0:=by omega
  have hwn:IntKind.i64.wrap (((n+1:Nat):Int) - 1)=(n:Int):=by rw [zaB _ (by omega) (by omega)];omega
  have h12:=zaG xs a 10 (by omega)
  have hl1:=zaX xs a 10 ha
  have c12:=zbH xs a 10 (by omega) (by omega) (by omega)
  have hSa:=zfK xs rec true a ha hr
  rw [zaQ] at heq
  obtain ⟨S,hst⟩:∃ S,S=za5 xs rec true a:=⟨_,rfl⟩
  rw [←hst] at heq hSa
  unfold za5 kF at hst
  dsimp only at hst
  have hrm:=zfj (L.length+1) 232 (by omega)
  skip
  generalize nxt xs a 10=q at *
  have hcase:(q.1=0∨q.1=1∨q.1=2∨q.1=7∨q.1=8∨q.1=9)∨(q.1=3)∨(q.1=4∨q.1=5)∨(q.1=6):=by omega
  rcases hcase with hq|hq|hq|hq
  ·rcases hq with hq|hq|hq|hq|hq|hq
   all_goals (
    rw [hq] at c12
    simp only [hq,decide_true,decide_false,Bool.true_and,Bool.false_and,Bool.false_eq_true,if_false,if_true,ge_iff_le,Int.reduceLE,Int.reduceLT,Int.reduceSub,Int.reduceEq,or_true,or_false,true_or,false_or,decide_eq_true_eq,not_true_eq_false,not_false_eq_true,↓reduceIte,reduceCtorEq] at hst
    have hS1:S.1=_:=congrArg Prod.fst hst
    have hS2:S.2=_:=congrArg Prod.snd hst
    simp only at hS1 hS2
    have c:=zbH xs q.2 3 (by omega) (by omega) (by omega)
    have hm:=zaG xs q.2 3 (by omega)
    have ce:=zcq xs hxs 3 (by omega) (nxt xs q.2 3).2 (zaX _ _ _ hl1)
    simp only [Int.cast_ofNat_Int] at ce
    generalize nxt xs q.2 3=m at *
    generalize za2 xs 3 m.2=e at *
    rcases (show m.1=0∨m.1=1∨m.1=2 by omega) with hi|hi|hi
    all_goals (
     (repeat' (first|refine Va (zAK @kz zmK @kA @exA.eq_1 hs' hpos hwn hrm hwd @Bool.and_false w0 w1 w2 hi) ?_|(with_reducible first|refine SB.c ?_ ?_<;>intro _|exact zad)|refine dC1 zag c12 ?_|refine dC1 zag c ?_|refine dC1 zaZ ce ?_|with_reducible refine zac ?_|omega))
     exact ⟨⟨n,L++[S.1],S.2,hSa,by simp;omega,by rw [←heq];simp⟩,(WTe [0,2,1] (by simp [kwt,hS1,hS2,List.map_append,List.map_cons,List.map_nil,zar,smL,ex0,Sm.kind,Sm.name,Sm.slot,Sm.size,Sm.place,Sm.value,Sm.body,Sm.els,Ex.op_mk,Ex.value_mk,Ex.name_mk,Ex.slot_mk,Ex.size_mk,Ex.args_mk,scal,hi]) (by simp [kwt,hS1,hS2,List.map_append,List.map_cons,List.map_nil,zar,smL,ex0,Sm.kind,Sm.name,Sm.slot,Sm.size,Sm.place,Sm.value,Sm.body,Sm.els,Ex.op_mk,Ex.value_mk,Ex.name_mk,Ex.slot_mk,Ex.size_mk,Ex.args_mk,scal,hi])),by show n<n+1;omega⟩))
  ·rcases hq with hq
   all_goals (
    rw [hq] at c12
    simp only [hq,decide_true,decide_false,Bool.true_and,Bool.false_and,Bool.false_eq_true,if_false,if_true,ge_iff_le,Int.reduceLE,Int.reduceLT,Int.reduceSub,Int.reduceEq,or_true,or_false,true_or,false_or,decide_eq_true_eq,not_true_eq_false,not_false_eq_true,↓reduceIte,reduceCtorEq] at hst
    have hS1:S.1=_:=congrArg Prod.fst hst
    have hS2:S.2=_:=congrArg Prod.snd hst
    simp only at hS1 hS2
    have c:=zbH xs q.2 2 (by omega) (by omega) (by omega)
    have hm:=zaG xs q.2 2 (by omega)
    have ce:=zcq xs hxs 2 (by omega) (nxt xs q.2 2).2 (zaX _ _ _ hl1)
    have ce2:=zcq xs hxs 2 (by omega) (za2 xs 2 (nxt xs q.2 2).2).2 (zbm _ _ _ (zaX _ _ _ hl1))
    simp only [Int.cast_ofNat_Int] at ce ce2
    generalize nxt xs q.2 2=m at *
    generalize za2 xs 2 m.2=e at *
    generalize za2 xs 2 e.2=e2 at *
    rcases (show m.1=0∨m.1=1 by omega) with hi|hi
    all_goals (
     (repeat' (first|refine Va (zAK @kz zmK @kA @exA.eq_1 hs' hpos hwn hrm hwd @Bool.and_false w0 w1 w2 hi) ?_|(with_reducible first|refine SB.c ?_ ?_<;>intro _|exact zad)|refine dC1 zag c12 ?_|refine dC1 zag c ?_|refine dC1 zaZ ce ?_|refine dC1 zaZ ce2 ?_|with_reducible refine zac ?_|omega))
     exact ⟨⟨n,L++[S.1],S.2,hSa,by simp;omega,by rw [←heq];simp⟩,(WTe [0,2,1] (by simp [kwt,hS1,hS2,List.map_append,List.map_cons,List.map_nil,zar,smL,ex0,Sm.kind,Sm.name,Sm.slot,Sm.size,Sm.place,Sm.value,Sm.body,Sm.els,Ex.op_mk,Ex.value_mk,Ex.name_mk,Ex.slot_mk,Ex.size_mk,Ex.args_mk,ztt,hi]) (by simp [kwt,hS1,hS2,List.map_append,List.map_cons,List.map_nil,zar,smL,ex0,Sm.kind,Sm.name,Sm.slot,Sm.size,Sm.place,Sm.value,Sm.body,Sm.els,Ex.op_mk,Ex.value_mk,Ex.name_mk,Ex.slot_mk,Ex.size_mk,Ex.args_mk,ztt,hi])),by show n<n+1;omega⟩))
  ·rcases hq with hq|hq
   all_goals (
    rw [hq] at c12
    simp only [hq,decide_true,decide_false,Bool.true_and,Bool.false_and,Bool.false_eq_true,if_false,if_true,ge_iff_le,Int.reduceLE,Int.reduceLT,Int.reduceSub,Int.reduceEq,or_true,or_false,true_or,false_or,decide_eq_true_eq,not_true_eq_false,not_false_eq_true,↓reduceIte,reduceCtorEq] at hst
    have hS1:S.1=_:=congrArg Prod.fst hst
    have hS2:S.2=_:=congrArg Prod.snd hst
    simp only at hS1 hS2
    have ce:=zcq xs hxs 2 (by omega) q.2 hl1
    have ce2:=zcq xs hxs 2 (by omega) (za2 xs 2 q.2).2 (zbm _ _ _ hl1)
    simp only [Int.cast_ofNat_Int] at ce ce2
    generalize za2 xs 2 q.2=e at *
    generalize za2 xs 2 e.2=e2 at *
    (repeat' (first|refine Va (ztq @kz zmK @kA @exA.eq_1 hs' hpos hwn hrm hwd @Bool.and_false w0 w1 w2) ?_|(with_reducible first|refine SB.c ?_ ?_<;>intro _|exact zad)|refine dC1 zag c12 ?_|refine dC1 zaZ ce ?_|refine dC1 zaZ ce2 ?_|with_reducible refine zac ?_|omega))
    exact ⟨⟨n,L++[S.1],S.2,hSa,by simp;omega,by rw [←heq];simp⟩,(WTe [0,2,1] (by simp [kwt,hS1,hS2,List.map_append,List.map_cons,List.map_nil,zar,smL,ex0,Sm.kind,Sm.name,Sm.slot,Sm.size,Sm.place,Sm.value,Sm.body,Sm.els,Ex.op_mk,Ex.value_mk,Ex.name_mk,Ex.slot_mk,Ex.size_mk,Ex.args_mk]) (by simp [kwt,hS1,hS2,List.map_append,List.map_cons,List.map_nil,zar,smL,ex0,Sm.kind,Sm.name,Sm.slot,Sm.size,Sm.place,Sm.value,Sm.body,Sm.els,Ex.op_mk,Ex.value_mk,Ex.name_mk,Ex.slot_mk,Ex.size_mk,Ex.args_mk])),by show n<n+1;omega⟩)
  ·rcases hq with hq
   all_goals (
    rw [hq] at c12
    simp only [hq,decide_true,decide_false,Bool.true_and,Bool.false_and,Bool.false_eq_true,if_false,if_true,ge_iff_le,Int.reduceLE,Int.reduceLT,Int.reduceSub,Int.reduceEq,or_true,or_false,true_or,false_or,decide_eq_true_eq,not_true_eq_false,not_false_eq_true,↓reduceIte,reduceCtorEq] at hst
    have hS1:S.1=_:=congrArg Prod.fst hst
    have hS2:S.2=_:=congrArg Prod.snd hst
    simp only at hS1 hS2
    have ce:=zcq xs hxs 2 (by omega) q.2 hl1
    simp only [Int.cast_ofNat_Int] at ce
    generalize za2 xs 2 q.2=e at *
    (repeat' (first|refine Va (ztq @kz zmK @kA @exA.eq_1 hs' hpos hwn hrm hwd @Bool.and_false w0 w1 w2) ?_|(with_reducible first|refine SB.c ?_ ?_<;>intro _|exact zad)|refine dC1 zag c12 ?_|refine dC1 zaZ ce ?_|with_reducible refine zac ?_|omega))
    exact ⟨⟨n,L++[S.1],S.2,hSa,by simp;omega,by rw [←heq];simp⟩,(WTe [0,2,1] (by simp [kwt,hS1,hS2,List.map_append,List.map_cons,List.map_nil,zar,smL,ex0,Sm.kind,Sm.name,Sm.slot,Sm.size,Sm.place,Sm.value,Sm.body,Sm.els,Ex.op_mk,Ex.value_mk,Ex.name_mk,Ex.slot_mk,Ex.size_mk,Ex.args_mk]) (by simp [kwt,hS1,hS2,List.map_append,List.map_cons,List.map_nil,zar,smL,ex0,Sm.kind,Sm.name,Sm.slot,Sm.size,Sm.place,Sm.value,Sm.body,Sm.els,Ex.op_mk,Ex.value_mk,Ex.name_mk,Ex.slot_mk,Ex.size_mk,Ex.args_mk])),by show n<n+1;omega⟩)
theorem zsV (xs:List UInt8) (hxs:xs.length≤1000) (d:Nat) (hd:d≤1000) (hs:¬ d≤1) (rec:Int→Nat→List Sm × Nat) (hr:∀ m a,a≤xs.length→(rec m a).2≤xs.length)
  (hrec:1<d→∀ (m:Int) (a:Nat),0≤m→m≤10→a≤xs.length→AC Tryz.prog gl 46 [.ref 0 0,.pv (.int .i64 m),.pv (.int .i64 ((d:Int) - 1))] (cdO xs a) (.pv (.slice ((rec m a).1.map zam))) (cdO xs (rec m a).2))
  (most:Int) (hm0:0≤most) (hm1:most≤10) (a0:Nat) (ha0:a0≤xs.length) :
  AC Tryz.prog gl 46 [.ref 0 0,.pv (.int .i64 most),.pv (.int .i64 d)] (cdO xs a0) (.pv (.slice ((zcl xs rec false most a0).1.map zam))) (cdO xs (zcl xs rec false most a0).2):=by
 have hs':¬ (d:Int)≤1:=by omega
 have hwd:IntKind.i64.wrap ((d:Int) - 1)=(d:Int) - 1:=zaB _ (by omega) (by omega)
 have hwm:IntKind.i64.wrap (most+1)=most+1:=zaB _ (by omega) (by omega)
 have cN:=zbH xs a0 (most+1) (by omega) (by omega) (by omega)
 have hN:=zaG xs a0 (most+1) (by omega)
 have hNl:=zaX xs a0 (most+1) ha0
 unfold zcl
 generalize nxt xs a0 (most+1)=N at *
 obtain ⟨N1,hN1⟩:=Int.eq_ofNat_of_zero_le hN.1
 rw [hN1,Int.toNat_natCast]
 rw [hN1] at cN
 obtain ⟨R,hR⟩:∃ R,R=zaQ xs rec false N1 N.2:=⟨_,rfl⟩
 rw [←hR]
 have w0:IntKind.i64.wrap 0=0:=by decide
 have w1:IntKind.i64.wrap 1=1:=by decide
 have w2:IntKind.i64.wrap 2=2:=by decide
 refine zgD (fun _=>2) 3 zFq ?_
 (repeat' (first|refine Va (fA3 @kz zmK hwm) ?_|(with_reducible first|refine SB.c ?_ ?_<;>intro _|exact zad)|refine dC1 zag cN ?_|with_reducible refine zac ?_|omega))
 (refine LW.weak (zbU.nilRow 7 1 18 rfl rfl (by decide)) ?_;simp only [List.set_cons_zero,List.set_cons_succ])
 refine zbx (ι:=StI xs rec false R) (fun i=>⟨(.ref 0 0::.junk::.pv (.int .i64 d)::jl 4 (.row 1 i.L.length::.pv (.int .i64 i.n)::jl 95 [])),[some (.cells [.pv (.slice (xs.map zmM)),.pv (.int .i64 i.a)]),some (.row 18 (i.L.map zam)),none]⟩) (fun i=>i.n) ⟨N1,[],N.2,hNl,by simp;omega,by rw [hR];simp⟩ WFn ?_
 rintro ⟨n,L,a,ha,hn,heq⟩
 cases n with
 |zero=>
  simp only [zaQ,List.append_nil] at heq
  subst heq
  (repeat' (first|refine Va zmK ?_|(with_reducible first|refine SB.c ?_ ?_<;>intro _|exact zad)|with_reducible refine zac ?_|omega))
  refine ⟨_,zbU.freeze 1 rfl,?_⟩
  simp only [St.frz,zgx,frz,zgy,List.map_cons,List.map_nil,List.set_cons_zero,List.set_cons_succ,List.length_map,if_true,if_false,↓reduceIte,Nat.reduceEqDiff,eq_self,reduceCtorEq,Nat.succ_ne_self]
  (refine zaI.mk [0] ?_ ?_<;>simp [kwr,zmK])
 |succ n=>
  have hpos:((n+1:Nat):Int) > 0:=by omega
  have hwn:IntKind.i64.wrap (((n+1:Nat):Int) - 1)=(n:Int):=by rw [zaB _ (by omega) (by omega)];omega
  have h12:=zaG xs a 10 (by omega)
  have hl1:=zaX xs a 10 ha
  have c12:=zbH xs a 10 (by omega) (by omega) (by omega)
  have hSa:=zfK xs rec false a ha hr
  rw [zaQ] at heq
  obtain ⟨S,hst⟩:∃ S,S=za5 xs rec false a:=⟨_,rfl⟩
  rw [←hst] at heq hSa
  unfold za5 kF at hst
  dsimp only at hst
  have hrm:=zfj (L.length+1) 232 (by omega)
  have hd1:1<d:=by omega
  generalize nxt xs a 10=q at *
  have hcase:(q.1=0∨q.1=1∨q.1=2)∨(q.1=3)∨(q.1=4∨q.1=5)∨(q.1=6)∨(q.1=7∨q.1=8)∨(q.1=9):=by omega
  rcases hcase with hq|hq|hq|hq|hq|hq
  ·rcases hq with hq|hq|hq
   all_goals (
    rw [hq] at c12
    simp only [hq,decide_true,decide_false,Bool.true_and,Bool.false_and,Bool.false_eq_true,if_false,if_true,ge_iff_le,Int.reduceLE,Int.reduceLT,Int.reduceSub,Int.reduceEq,or_true,or_false,true_or,false_or,decide_eq_true_eq,not_true_eq_false,not_false_eq_true,↓reduceIte,reduceCtorEq] at hst
    have hS1:S.1=_:=congrArg Prod.fst hst
    have hS2:S.2=_:=congrArg Prod.snd hst
    simp only at hS1 hS2
    have c:=zbH xs q.2 3 (by omega) (by omega) (by omega)
    have hm:=zaG xs q.2 3 (by omega)
    have ce:=zcq xs hxs 3 (by omega) (nxt xs q.2 3).2 (zaX _ _ _ hl1)
    simp only [Int.cast_ofNat_Int] at ce
    generalize nxt xs q.2 3=m at *
    generalize za2 xs 3 m.2=e at *
    rcases (show m.1=0∨m.1=1∨m.1=2 by omega) with hi|hi|hi
    all_goals (
     (repeat' (first|refine Va (zAK @kz zmK @kA @exA.eq_1 hs' hpos hwn hrm hwd @Bool.and_false w0 w1 w2 hi) ?_|(with_reducible first|refine SB.c ?_ ?_<;>intro _|exact zad)|refine dC1 zag c12 ?_|refine dC1 zag c ?_|refine dC1 zaZ ce ?_|with_reducible refine zac ?_|omega))
     exact ⟨⟨n,L++[S.1],S.2,hSa,by simp;omega,by rw [←heq];simp⟩,(WTe [0,2,1] (by simp [kwt,hS1,hS2,List.map_append,List.map_cons,List.map_nil,zar,smL,ex0,Sm.kind,Sm.name,Sm.slot,Sm.size,Sm.place,Sm.value,Sm.body,Sm.els,Ex.op_mk,Ex.value_mk,Ex.name_mk,Ex.slot_mk,Ex.size_mk,Ex.args_mk,scal,hi]) (by simp [kwt,hS1,hS2,List.map_append,List.map_cons,List.map_nil,zar,smL,ex0,Sm.kind,Sm.name,Sm.slot,Sm.size,Sm.place,Sm.value,Sm.body,Sm.els,Ex.op_mk,Ex.value_mk,Ex.name_mk,Ex.slot_mk,Ex.size_mk,Ex.args_mk,scal,hi])),by show n<n+1;omega⟩))
  ·rcases hq with hq
   all_goals (
    rw [hq] at c12
    simp only [hq,decide_true,decide_false,Bool.true_and,Bool.false_and,Bool.false_eq_true,if_false,if_true,ge_iff_le,Int.reduceLE,Int.reduceLT,Int.reduceSub,Int.reduceEq,or_true,or_false,true_or,false_or,decide_eq_true_eq,not_true_eq_false,not_false_eq_true,↓reduceIte,reduceCtorEq] at hst
    have hS1:S.1=_:=congrArg Prod.fst hst
    have hS2:S.2=_:=congrArg Prod.snd hst
    simp only at hS1 hS2
    have c:=zbH xs q.2 2 (by omega) (by omega) (by omega)
    have hm:=zaG xs q.2 2 (by omega)
    have ce:=zcq xs hxs 2 (by omega) (nxt xs q.2 2).2 (zaX _ _ _ hl1)
    have ce2:=zcq xs hxs 2 (by omega) (za2 xs 2 (nxt xs q.2 2).2).2 (zbm _ _ _ (zaX _ _ _ hl1))
    simp only [Int.cast_ofNat_Int] at ce ce2
    generalize nxt xs q.2 2=m at *
    generalize za2 xs 2 m.2=e at *
    generalize za2 xs 2 e.2=e2 at *
    rcases (show m.1=0∨m.1=1 by omega) with hi|hi
    all_goals (
     (repeat' (first|refine Va (zAK @kz zmK @kA @exA.eq_1 hs' hpos hwn hrm hwd @Bool.and_false w0 w1 w2 hi) ?_|(with_reducible first|refine SB.c ?_ ?_<;>intro _|exact zad)|refine dC1 zag c12 ?_|refine dC1 zag c ?_|refine dC1 zaZ ce ?_|refine dC1 zaZ ce2 ?_|with_reducible refine zac ?_|omega))
     exact ⟨⟨n,L++[S.1],S.2,hSa,by simp;omega,by rw [←heq];simp⟩,(WTe [0,2,1] (by simp [kwt,hS1,hS2,List.map_append,List.map_cons,List.map_nil,zar,smL,ex0,Sm.kind,Sm.name,Sm.slot,Sm.size,Sm.place,Sm.value,Sm.body,Sm.els,Ex.op_mk,Ex.value_mk,Ex.name_mk,Ex.slot_mk,Ex.size_mk,Ex.args_mk,ztt,hi]) (by simp [kwt,hS1,hS2,List.map_append,List.map_cons,List.map_nil,zar,smL,ex0,Sm.kind,Sm.name,Sm.slot,Sm.size,Sm.place,Sm.value,Sm.body,Sm.els,Ex.op_mk,Ex.value_mk,Ex.name_mk,Ex.slot_mk,Ex.size_mk,Ex.args_mk,ztt,hi])),by show n<n+1;omega⟩))
  ·rcases hq with hq|hq
   all_goals (
    rw [hq] at c12
    simp only [hq,decide_true,decide_false,Bool.true_and,Bool.false_and,Bool.false_eq_true,if_false,if_true,ge_iff_le,Int.reduceLE,Int.reduceLT,Int.reduceSub,Int.reduceEq,or_true,or_false,true_or,false_or,decide_eq_true_eq,not_true_eq_false,not_false_eq_true,↓reduceIte,reduceCtorEq] at hst
    have hS1:S.1=_:=congrArg Prod.fst hst
    have hS2:S.2=_:=congrArg Prod.snd hst
    simp only at hS1 hS2
    have ce:=zcq xs hxs 2 (by omega) q.2 hl1
    have ce2:=zcq xs hxs 2 (by omega) (za2 xs 2 q.2).2 (zbm _ _ _ hl1)
    simp only [Int.cast_ofNat_Int] at ce ce2
    generalize za2 xs 2 q.2=e at *
    generalize za2 xs 2 e.2=e2 at *
    (repeat' (first|refine Va (ztq @kz zmK @kA @exA.eq_1 hs' hpos hwn hrm hwd @Bool.and_false w0 w1 w2) ?_|(with_reducible first|refine SB.c ?_ ?_<;>intro _|exact zad)|refine dC1 zag c12 ?_|refine dC1 zaZ ce ?_|refine dC1 zaZ ce2 ?_|with_reducible refine zac ?_|omega))
    exact ⟨⟨n,L++[S.1],S.2,hSa,by simp;omega,by rw [←heq];simp⟩,(WTe [0,2,1] (by simp [kwt,hS1,hS2,List.map_append,List.map_cons,List.map_nil,zar,smL,ex0,Sm.kind,Sm.name,Sm.slot,Sm.size,Sm.place,Sm.value,Sm.body,Sm.els,Ex.op_mk,Ex.value_mk,Ex.name_mk,Ex.slot_mk,Ex.size_mk,Ex.args_mk]) (by simp [kwt,hS1,hS2,List.map_append,List.map_cons,List.map_nil,zar,smL,ex0,Sm.kind,Sm.name,Sm.slot,Sm.size,Sm.place,Sm.value,Sm.body,Sm.els,Ex.op_mk,Ex.value_mk,Ex.name_mk,Ex.slot_mk,Ex.size_mk,Ex.args_mk])),by show n<n+1;omega⟩)
  ·rcases hq with hq
   all_goals (
    rw [hq] at c12
    simp only [hq,decide_true,decide_false,Bool.true_and,Bool.false_and,Bool.false_eq_true,if_false,if_true,ge_iff_le,Int.reduceLE,Int.reduceLT,Int.reduceSub,Int.reduceEq,or_true,or_false,true_or,false_or,decide_eq_true_eq,not_true_eq_false,not_false_eq_true,↓reduceIte,reduceCtorEq] at hst
    have hS1:S.1=_:=congrArg Prod.fst hst
    have hS2:S.2=_:=congrArg Prod.snd hst
    simp only at hS1 hS2
    have ce:=zcq xs hxs 2 (by omega) q.2 hl1
    simp only [Int.cast_ofNat_Int] at ce
    generalize za2 xs 2 q.2=e at *
    (repeat' (first|refine Va (ztq @kz zmK @kA @exA.eq_1 hs' hpos hwn hrm hwd @Bool.and_false w0 w1 w2) ?_|(with_reducible first|refine SB.c ?_ ?_<;>intro _|exact zad)|refine dC1 zag c12 ?_|refine dC1 zaZ ce ?_|with_reducible refine zac ?_|omega))
    exact ⟨⟨n,L++[S.1],S.2,hSa,by simp;omega,by rw [←heq];simp⟩,(WTe [0,2,1] (by simp [kwt,hS1,hS2,List.map_append,List.map_cons,List.map_nil,zar,smL,ex0,Sm.kind,Sm.name,Sm.slot,Sm.size,Sm.place,Sm.value,Sm.body,Sm.els,Ex.op_mk,Ex.value_mk,Ex.name_mk,Ex.slot_mk,Ex.size_mk,Ex.args_mk]) (by simp [kwt,hS1,hS2,List.map_append,List.map_cons,List.map_nil,zar,smL,ex0,Sm.kind,Sm.name,Sm.slot,Sm.size,Sm.place,Sm.value,Sm.body,Sm.els,Ex.op_mk,Ex.value_mk,Ex.name_mk,Ex.slot_mk,Ex.size_mk,Ex.args_mk])),by show n<n+1;omega⟩)
  ·rcases hq with hq|hq
   all_goals (
    rw [hq] at c12
    simp only [hq,decide_true,decide_false,Bool.true_and,Bool.false_and,Bool.false_eq_true,if_false,if_true,ge_iff_le,Int.reduceLE,Int.reduceLT,Int.reduceSub,Int.reduceEq,or_true,or_false,true_or,false_or,decide_eq_true_eq,not_true_eq_false,not_false_eq_true,↓reduceIte,reduceCtorEq] at hst
    have hS1:S.1=_:=congrArg Prod.fst hst
    have hS2:S.2=_:=congrArg Prod.snd hst
    simp only at hS1 hS2
    have ce:=zcq xs hxs 2 (by omega) q.2 hl1
    have c2:=hrec hd1 2 (za2 xs 2 q.2).2 (by omega) (by omega) (zbm _ _ _ hl1)
    have c3:=hrec hd1 1 (rec 2 (za2 xs 2 q.2).2).2 (by omega) (by omega) (hr _ _ (zbm _ _ _ hl1))
    simp only [Int.cast_ofNat_Int] at ce
    generalize za2 xs 2 q.2=e at *
    generalize rec 2 e.2=b at *
    generalize rec 1 b.2=l at *
    (repeat' (first|refine Va (ztq @kz zmK @kA @exA.eq_1 hs' hpos hwn hrm hwd @Bool.and_false w0 w1 w2) ?_|(with_reducible first|refine SB.c ?_ ?_<;>intro _|exact zad)|refine dC1 zag c12 ?_|refine dC1 zaZ ce ?_|refine dC1 zeb c2 ?_|refine dC1 zeb c3 ?_|with_reducible refine zac ?_|omega))
    exact ⟨⟨n,L++[S.1],S.2,hSa,by simp;omega,by rw [←heq];simp⟩,(WTe [0,2,1] (by simp [kwt,hS1,hS2,List.map_append,List.map_cons,List.map_nil,zar,smL,ex0,Sm.kind,Sm.name,Sm.slot,Sm.size,Sm.place,Sm.value,Sm.body,Sm.els,Ex.op_mk,Ex.value_mk,Ex.name_mk,Ex.slot_mk,Ex.size_mk,Ex.args_mk]) (by simp [kwt,hS1,hS2,List.map_append,List.map_cons,List.map_nil,zar,smL,ex0,Sm.kind,Sm.name,Sm.slot,Sm.size,Sm.place,Sm.value,Sm.body,Sm.els,Ex.op_mk,Ex.value_mk,Ex.name_mk,Ex.slot_mk,Ex.size_mk,Ex.args_mk])),by show n<n+1;omega⟩)
  ·rcases hq with hq
   all_goals (
    rw [hq] at c12
    simp only [hq,decide_true,decide_false,Bool.true_and,Bool.false_and,Bool.false_eq_true,if_false,if_true,ge_iff_le,Int.reduceLE,Int.reduceLT,Int.reduceSub,Int.reduceEq,or_true,or_false,true_or,false_or,decide_eq_true_eq,not_true_eq_false,not_false_eq_true,↓reduceIte,reduceCtorEq] at hst
    have hS1:S.1=_:=congrArg Prod.fst hst
    have hS2:S.2=_:=congrArg Prod.snd hst
    simp only at hS1 hS2
    have ce:=zcq xs hxs 2 (by omega) q.2 hl1
    have c2:=hrec hd1 2 (za2 xs 2 q.2).2 (by omega) (by omega) (zbm _ _ _ hl1)
    simp only [Int.cast_ofNat_Int] at ce
    generalize za2 xs 2 q.2=e at *
    generalize rec 2 e.2=b at *
    (repeat' (first|refine Va (ztq @kz zmK @kA @exA.eq_1 hs' hpos hwn hrm hwd @Bool.and_false w0 w1 w2) ?_|(with_reducible first|refine SB.c ?_ ?_<;>intro _|exact zad)|refine dC1 zag c12 ?_|refine dC1 zaZ ce ?_|refine dC1 zeb c2 ?_|with_reducible refine zac ?_|omega))
    exact ⟨⟨n,L++[S.1],S.2,hSa,by simp;omega,by rw [←heq];simp⟩,(WTe [0,2,1] (by simp [kwt,hS1,hS2,List.map_append,List.map_cons,List.map_nil,zar,smL,ex0,Sm.kind,Sm.name,Sm.slot,Sm.size,Sm.place,Sm.value,Sm.body,Sm.els,Ex.op_mk,Ex.value_mk,Ex.name_mk,Ex.slot_mk,Ex.size_mk,Ex.args_mk]) (by simp [kwt,hS1,hS2,List.map_append,List.map_cons,List.map_nil,zar,smL,ex0,Sm.kind,Sm.name,Sm.slot,Sm.size,Sm.place,Sm.value,Sm.body,Sm.els,Ex.op_mk,Ex.value_mk,Ex.name_mk,Ex.slot_mk,Ex.size_mk,Ex.args_mk])),by show n<n+1;omega⟩)
theorem zpb (xs:List UInt8) (hxs:xs.length≤1000) (d:Nat) (hd:d≤1000) (rec:Int→Nat→List Sm × Nat) (hr:∀ m a,a≤xs.length→(rec m a).2≤xs.length)
  (hrec:1<d→∀ (m:Int) (a:Nat),0≤m→m≤10→a≤xs.length→AC Tryz.prog gl 46 [.ref 0 0,.pv (.int .i64 m),.pv (.int .i64 ((d:Int) - 1))] (cdO xs a) (.pv (.slice ((rec m a).1.map zam))) (cdO xs (rec m a).2))
  (most:Int) (hm0:0≤most) (hm1:most≤10) (a0:Nat) (ha0:a0≤xs.length) :
  AC Tryz.prog gl 46 [.ref 0 0,.pv (.int .i64 most),.pv (.int .i64 d)] (cdO xs a0) (.pv (.slice ((zcl xs rec (decide (d≤1)) most a0).1.map zam))) (cdO xs (zcl xs rec (decide (d≤1)) most a0).2):=by
 by_cases hs:d≤1
 ·rw [decide_eq_true hs];exact znG xs hxs d hd hs rec hr hrec most hm0 hm1 a0 ha0
 ·rw [decide_eq_false hs];exact zsV xs hxs d hd hs rec hr hrec most hm0 hm1 a0 ha0
theorem zgm (xs:List UInt8) (hxs:xs.length≤1000):∀ (d:Nat),d≤1000→∀ (m:Int) (a:Nat),0≤m→m≤10→a≤xs.length→AC Tryz.prog gl 46 [.ref 0 0,.pv (.int .i64 m),.pv (.int .i64 d)] (cdO xs a) (.pv (.slice ((zcb xs d m a).1.map zam))) (cdO xs (zcb xs d m a).2)
 |0,hd,m,a,h0,h1,ha=>zpb xs hxs 0 hd _ (fun _ _ h=>h) (fun h=>by omega) m h0 h1 a ha
 |d+1,hd,m,a,h0,h1,ha=>zpb xs hxs (d+1) hd (zcb xs d) (fun m a h=>zcD xs d m a h) (fun _ m a h0 h1 h=>by
   have:=zgm xs hxs d (by omega) m a h0 h1 h
   rw [show (((d+1:Nat):Int) - 1)=(d:Int) by omega];exact this) m h0 h1 a ha
theorem zqo (xs:List UInt8) (hxs:xs.length≤1000) (a:Nat) (ha:a≤xs.length):AC Tryz.prog gl 25 [.ref 0 0] (cdO xs a) (pgA (zaS xs a).1) (cdO xs (zaS xs a).2):=by
 have c1:=zbH xs a 7 (by omega) (by omega) (by omega)
 have l1:=zaX xs a 7 ha
 have b1:=zaG xs a 7 (by omega)
 have c2:=zbH xs (nxt xs a 7).2 5 (by omega) (by omega) (by omega)
 have l2:=zaX xs (nxt xs a 7).2 5 l1
 have b2:=zaG xs (nxt xs a 7).2 5 (by omega)
 have c3:=zbH xs (nxt xs (nxt xs a 7).2 5).2 3 (by omega) (by omega) (by omega)
 have l3:=zaX xs (nxt xs (nxt xs a 7).2 5).2 3 l2
 unfold zaS
 dsimp only
 generalize nxt xs a 7=m1 at *
 generalize nxt xs m1.2 5=m2 at *
 generalize nxt xs m2.2 3=m3 at *
 have d1:=zgm xs hxs 2 (by omega) 3 m3.2 (by omega) (by omega) l3
 have k1:=zcD xs 2 3 m3.2 l3
 generalize zcb xs 2 3 m3.2=s1 at *
 have d2:=zgm xs hxs 3 (by omega) 4 s1.2 (by omega) (by omega) k1
 have k2:=zcD xs 3 4 s1.2 k1
 generalize zcb xs 3 4 s1.2=s2 at *
 have d3:=zgm xs hxs 2 (by omega) 3 s2.2 (by omega) (by omega) k2
 have k3:=zcD xs 2 3 s2.2 k2
 generalize zcb xs 2 3 s2.2=s3 at *
 have d4:=zgm xs hxs 2 (by omega) 2 s3.2 (by omega) (by omega) k3
 generalize zcb xs 2 2 s3.2=s4 at *
 simp only [Int.cast_ofNat_Int] at d1 d2 d3 d4
 have hw1:IntKind.i64.wrap (m1.1 - 2)=m1.1 - 2:=zaB _ (by omega) (by omega)
 have hw2:IntKind.i64.wrap (1+m2.1)=1+m2.1:=zaB _ (by omega) (by omega)
 unfold pgA
 refine zax (fun d=>if d=2 then 1 else 2) 3 zGY ?_
 (repeat' (first|refine Va (fA4 @kz zFk hw1 hw2) ?_|(with_reducible first|refine SB.c ?_ ?_<;>intro _|exact zad)|refine dC1 zag c1 ?_|refine dC1 zag c2 ?_|refine dC1 zag c3 ?_|refine dC1 zeb d1 ?_|refine dC1 zeb d2 ?_|refine dC1 zeb d3 ?_|refine dC1 zeb d4 ?_|with_reducible refine zac ?_|omega))
 (refine zaI.mk [0] ?_ ?_<;>simp [kwr,zFk,zcJ,za3])
theorem zsW (xs:List UInt8) (hxs:xs.length≤1000) (a:Nat) (ha:a≤xs.length):AC Tryz.prog gl 17 [.ref 0 0] (cdO xs a) (.pv (.int .i64 (zgt xs a).1)) (cdO xs (zgt xs a).2):=by
 have c1:=zbH xs a 6 (by omega) (by omega) (by omega)
 unfold zgt
 generalize nxt xs a 6=q at *
 by_cases h7:q.1=5
 ·rw [if_pos h7]
  have c2:=zbH xs q.2 10 (by omega) (by omega) (by omega)
  have hm:=zaG xs q.2 10 (by omega)
  generalize nxt xs q.2 10=m at *
  obtain ⟨i,hi⟩:=Int.eq_ofNat_of_zero_le hm.1
  rw [hi] at hm c2 ⊢
  have hi2:i<10:=by omega
  have hg:([[PVal.int .i64 9223372036854775807],[PVal.int .i64 (-9223372036854775808)],[PVal.int .i64 2147483648],[PVal.int .i64 (-1)],[PVal.int .i64 63],[PVal.int .i64 64],[PVal.int .i64 (-65)],[PVal.int .i64 127],[PVal.int .i64 128],[PVal.int .i64 1099511627776]]:List (List PVal)).getD i []=[PVal.int .i64 (zx7.getD i 0)]:=zAy (fun n=>[PVal.int .i64 n]) zx7 i 0 hi2
  refine zax (fun _=>0) 1 zFn ?_
  (repeat' (first|refine Va (fA5 @kz zCl h7 hi2 hg) ?_|(with_reducible first|refine SB.c ?_ ?_<;>intro _|exact zad)|refine dC1 zag c1 ?_|refine dC1 zag c2 ?_|with_reducible refine zac ?_|omega))
  (refine zaI.mk [0] ?_ ?_<;>simp [kwr,zCl])
 ·rw [if_neg h7]
  have h7':(q.1==5)=false:=by simpa using h7
  have c2:=zbH xs q.2 12 (by omega) (by omega) (by omega)
  have hm:=zaG xs q.2 12 (by omega)
  generalize nxt xs q.2 12=m at *
  have hw:IntKind.i64.wrap (m.1 - 2)=m.1 - 2:=zaB _ (by omega) (by omega)
  refine zax (fun _=>0) 1 zFn ?_
  (repeat' (first|refine Va (fA4 @kz zCl h7' hw) ?_|(with_reducible first|refine SB.c ?_ ?_<;>intro _|exact zad)|refine dC1 zag c1 ?_|refine dC1 zag c2 ?_|with_reducible refine zac ?_|omega))
  (refine zaI.mk [0] ?_ ?_<;>simp [kwr,zCl])
end Go.Proofs.YtfinhhblcdkpgaaGreatDoor
