/- A part of the walk (Tryz_M2): its theorems have no condition beyond what they state. -/
import Derived.Test.YtfinhhblcdkpgaaGreatDoorM1
import Derived.Test.YtfinhhblcdkpgaaGreatDoorLib3
set_option maxRecDepth 100000
set_option maxHeartbeats 64000000
namespace Go.Proofs.YtfinhhblcdkpgaaGreatDoor
open Go Go.Abs
structure StI (xs:List UInt8) (rec:Int→Nat→List Sm × Nat) (small:Bool) (R:List Sm × Nat) where
 n:Nat
 L:List Sm
 a:Nat
 ha:a≤xs.length
 hn:L.length+n≤1000
 eq:(L++(zaQ xs rec small n a).1,(zaQ xs rec small n a).2)=R
theorem znB (xs:List UInt8) (hxs:xs.length≤1000) (d:Nat) (hd:d≤1000) (hs:d≤1) (rec:Int→Nat→List Sm × Nat) (hr:∀ m a,a≤xs.length→(rec m a).2≤xs.length)
  (hrec:1<d→∀ (m:Int) (a:Nat),0≤m→m≤10→a≤xs.length→AC Tryz.prog gl 46 [.ref 0 0,.pv (.int .i64 m),.pv (.int .i64 ((d:Int) - 1))] (cdO xs a) (.pv (.slice ((rec m a).1.map zam))) (cdO xs (rec m a).2))
  (most:Int) (hm0:0≤most) (hm1:most≤10) (a0:Nat) (ha0:a0≤xs.length) :
  AC Tryz.prog gl 46 [.ref 0 0,.pv (.int .i64 most),.pv (.int .i64 d)] (cdO xs a0) (.pv (.slice ((zck xs rec true most a0).1.map zam))) (cdO xs (zck xs rec true most a0).2):=by
 have hs':(d:Int)≤1:=by omega
 have hwd:IntKind.i64.wrap ((d:Int) - 1)=(d:Int) - 1:=zaB _ (by omega) (by omega)
 have hwm:IntKind.i64.wrap (most+1)=most+1:=zaB _ (by omega) (by omega)
 have cN:=zbG xs a0 (most+1) (by omega) (by omega) (by omega)
 have hN:=zaF xs a0 (most+1) (by omega)
 have hNl:=zaX xs a0 (most+1) ha0
 unfold zck
 generalize nxt xs a0 (most+1)=N at *
 obtain ⟨N1,hN1⟩:=Int.eq_ofNat_of_zero_le hN.1
 rw [hN1,Int.toNat_natCast]
 rw [hN1] at cN
 obtain ⟨R,hR⟩:∃ R,R=zaQ xs rec true N1 N.2:=⟨_,rfl⟩
 rw [←hR]
 have w0:IntKind.i64.wrap 0=0:=by decide
 have w1:IntKind.i64.wrap 1=1:=by decide
 have w2:IntKind.i64.wrap 2=2:=by decide
 refine zgA (fun _=>2) 3 zFc ?_
 (repeat' (first|refine V1 (And.intro zmH @hwm) ?_|(with_reducible first|refine SB.c (fun _=>?_) fun _=>?_|exact zad)|refine CK.dx [0] [] zag cN ?_|with_reducible refine zac ?_|omega))
 (refine LW.weak (zbT.nilRow 7 1 18 rfl rfl (by decide)) ?_;simp only [List.set_cons_zero,List.set_cons_succ])
 refine zbw (ι:=StI xs rec true R) (fun i=>⟨(.ref 0 0::.junk::.pv (.int .i64 d)::jl 4 (.row 1 i.L.length::.pv (.int .i64 i.n)::jl 95 [])),[some (.cells [.pv (.slice (xs.map zmJ)),.pv (.int .i64 i.a)]),some (.row 18 (i.L.map zam)),none]⟩) (fun i=>i.n) ⟨N1,[],N.2,hNl,by simp;omega,by rw [hR];simp⟩ WFn ?_
 rintro ⟨n,L,a,ha,hn,heq⟩
 cases n with
 |zero=>
  simp only [zaQ,List.append_nil] at heq
  subst heq
  (repeat' (first|refine V0 zmH ?_|(with_reducible first|refine SB.c (fun _=>?_) fun _=>?_|exact zad)|with_reducible refine zac ?_|omega))
  refine ⟨_,zbT.freeze 1 rfl,?_⟩
  simp only [St.frz,zgu,frz,zgv,List.map_cons,List.map_nil,List.set_cons_zero,List.set_cons_succ,List.length_map,if_true,if_false,↓reduceIte,Nat.reduceEqDiff,eq_self,reduceCtorEq,Nat.succ_ne_self]
  (refine zaH.mk [0] ?_ ?_<;>simp [kwr,zmH])
 |succ n=>
  have hpos:((n+1:Nat):Int) > 0:=by omega
  have hwn:IntKind.i64.wrap (((n+1:Nat):Int) - 1)=(n:Int):=by rw [zaB _ (by omega) (by omega)];omega
  have h12:=zaF xs a 10 (by omega)
  have hl1:=zaX xs a 10 ha
  have c12:=zbG xs a 10 (by omega) (by omega) (by omega)
  have hSa:=zfH xs rec true a ha hr
  rw [zaQ] at heq
  obtain ⟨S,hst⟩:∃ S,S=za5 xs rec true a:=⟨_,rfl⟩
  rw [←hst] at heq hSa
  unfold za5 kF at hst
  dsimp only at hst
  have hrm:=zfg (L.length+1) 232 (by omega)
  skip
  generalize nxt xs a 10=q at *
  have hcase:(q.1=0∨q.1=1∨q.1=2∨q.1=7∨q.1=8∨q.1=9)∨(q.1=3)∨(q.1=4∨q.1=5)∨(q.1=6):=by omega
  rcases hcase with hq|hq|hq|hq
  ·rcases hq with hq|hq|hq|hq|hq|hq
   all_goals (
    rw [hq] at c12
    simp only [hq,decide_true,decide_false,Bool.true_and,Bool.false_and,Bool.false_eq_true,if_false,if_true,ge_iff_le,Int.reduceLE,Int.reduceLT,Int.reduceSub,Int.reduceEq,or_true,or_false,true_or,false_or,decide_eq_true_eq,not_true_eq_false,not_false_eq_true,↓reduceIte,reduceCtorEq] at hst
    have hS1:S.1=_:=congrArg Prod.fst hst
    have hS2:S.2=_:=congrArg Prod.snd hst
    simp only at hS1 hS2
    have c:=zbG xs q.2 3 (by omega) (by omega) (by omega)
    have hm:=zaF xs q.2 3 (by omega)
    have ce:=zco xs hxs 3 (by omega) (nxt xs q.2 3).2 (zaX _ _ _ hl1)
    simp only [Int.cast_ofNat_Int] at ce
    generalize nxt xs q.2 3=m at *
    generalize za2 xs 3 m.2=e at *
    rcases (show m.1=0∨m.1=1∨m.1=2 by omega) with hi|hi|hi
    all_goals (
     (repeat' (first|refine V1 (And.intro zmH <|And.intro @kA <|And.intro @exA.eq_1 <|And.intro @hs' <|And.intro @hpos <|And.intro @hwn <|And.intro @hrm <|And.intro @hwd <|And.intro @Bool.and_false <|And.intro @w0 <|And.intro @w1 <|And.intro @w2 @hi) ?_|(with_reducible first|refine SB.c (fun _=>?_) fun _=>?_|exact zad)|refine CK.dx [0] [] zag c12 ?_|refine CK.dx [0] [] zag c ?_|refine CK.dx [0] [] zaZ ce ?_|with_reducible refine zac ?_|omega))
     exact ⟨⟨n,L++[S.1],S.2,hSa,by simp;omega,by rw [←heq];simp⟩,(WTe [0,2,1] (by simp [kwt,hS1,hS2,List.map_append,List.map_cons,List.map_nil,zar,smL,ex0,Sm.kind,Sm.name,Sm.slot,Sm.size,Sm.place,Sm.value,Sm.body,Sm.els,Ex.op_mk,Ex.value_mk,Ex.name_mk,Ex.slot_mk,Ex.size_mk,Ex.args_mk,scal,hi]) (by simp [kwt,hS1,hS2,List.map_append,List.map_cons,List.map_nil,zar,smL,ex0,Sm.kind,Sm.name,Sm.slot,Sm.size,Sm.place,Sm.value,Sm.body,Sm.els,Ex.op_mk,Ex.value_mk,Ex.name_mk,Ex.slot_mk,Ex.size_mk,Ex.args_mk,scal,hi])),by show n<n+1;omega⟩))
  ·rcases hq with hq
   all_goals (
    rw [hq] at c12
    simp only [hq,decide_true,decide_false,Bool.true_and,Bool.false_and,Bool.false_eq_true,if_false,if_true,ge_iff_le,Int.reduceLE,Int.reduceLT,Int.reduceSub,Int.reduceEq,or_true,or_false,true_or,false_or,decide_eq_true_eq,not_true_eq_false,not_false_eq_true,↓reduceIte,reduceCtorEq] at hst
    have hS1:S.1=_:=congrArg Prod.fst hst
    have hS2:S.2=_:=congrArg Prod.snd hst
    simp only at hS1 hS2
    have c:=zbG xs q.2 2 (by omega) (by omega) (by omega)
    have hm:=zaF xs q.2 2 (by omega)
    have ce:=zco xs hxs 2 (by omega) (nxt xs q.2 2).2 (zaX _ _ _ hl1)
    have ce2:=zco xs hxs 2 (by omega) (za2 xs 2 (nxt xs q.2 2).2).2 (zbm _ _ _ (zaX _ _ _ hl1))
    simp only [Int.cast_ofNat_Int] at ce ce2
    generalize nxt xs q.2 2=m at *
    generalize za2 xs 2 m.2=e at *
    generalize za2 xs 2 e.2=e2 at *
    rcases (show m.1=0∨m.1=1 by omega) with hi|hi
    all_goals (
     (repeat' (first|refine V1 (And.intro zmH <|And.intro @kA <|And.intro @exA.eq_1 <|And.intro @hs' <|And.intro @hpos <|And.intro @hwn <|And.intro @hrm <|And.intro @hwd <|And.intro @Bool.and_false <|And.intro @w0 <|And.intro @w1 <|And.intro @w2 @hi) ?_|(with_reducible first|refine SB.c (fun _=>?_) fun _=>?_|exact zad)|refine CK.dx [0] [] zag c12 ?_|refine CK.dx [0] [] zag c ?_|refine CK.dx [0] [] zaZ ce ?_|refine CK.dx [0] [] zaZ ce2 ?_|with_reducible refine zac ?_|omega))
     exact ⟨⟨n,L++[S.1],S.2,hSa,by simp;omega,by rw [←heq];simp⟩,(WTe [0,2,1] (by simp [kwt,hS1,hS2,List.map_append,List.map_cons,List.map_nil,zar,smL,ex0,Sm.kind,Sm.name,Sm.slot,Sm.size,Sm.place,Sm.value,Sm.body,Sm.els,Ex.op_mk,Ex.value_mk,Ex.name_mk,Ex.slot_mk,Ex.size_mk,Ex.args_mk,zto,hi]) (by simp [kwt,hS1,hS2,List.map_append,List.map_cons,List.map_nil,zar,smL,ex0,Sm.kind,Sm.name,Sm.slot,Sm.size,Sm.place,Sm.value,Sm.body,Sm.els,Ex.op_mk,Ex.value_mk,Ex.name_mk,Ex.slot_mk,Ex.size_mk,Ex.args_mk,zto,hi])),by show n<n+1;omega⟩))
  ·rcases hq with hq|hq
   all_goals (
    rw [hq] at c12
    simp only [hq,decide_true,decide_false,Bool.true_and,Bool.false_and,Bool.false_eq_true,if_false,if_true,ge_iff_le,Int.reduceLE,Int.reduceLT,Int.reduceSub,Int.reduceEq,or_true,or_false,true_or,false_or,decide_eq_true_eq,not_true_eq_false,not_false_eq_true,↓reduceIte,reduceCtorEq] at hst
    have hS1:S.1=_:=congrArg Prod.fst hst
    have hS2:S.2=_:=congrArg Prod.snd hst
    simp only at hS1 hS2
    have ce:=zco xs hxs 2 (by omega) q.2 hl1
    have ce2:=zco xs hxs 2 (by omega) (za2 xs 2 q.2).2 (zbm _ _ _ hl1)
    simp only [Int.cast_ofNat_Int] at ce ce2
    generalize za2 xs 2 q.2=e at *
    generalize za2 xs 2 e.2=e2 at *
    (repeat' (first|refine V1 (And.intro zmH <|And.intro @kA <|And.intro @exA.eq_1 <|And.intro @hs' <|And.intro @hpos <|And.intro @hwn <|And.intro @hrm <|And.intro @hwd <|And.intro @Bool.and_false <|And.intro @w0 <|And.intro @w1 @w2) ?_|(with_reducible first|refine SB.c (fun _=>?_) fun _=>?_|exact zad)|refine CK.dx [0] [] zag c12 ?_|refine CK.dx [0] [] zaZ ce ?_|refine CK.dx [0] [] zaZ ce2 ?_|with_reducible refine zac ?_|omega))
    exact ⟨⟨n,L++[S.1],S.2,hSa,by simp;omega,by rw [←heq];simp⟩,(WTe [0,2,1] (by simp [kwt,hS1,hS2,List.map_append,List.map_cons,List.map_nil,zar,smL,ex0,Sm.kind,Sm.name,Sm.slot,Sm.size,Sm.place,Sm.value,Sm.body,Sm.els,Ex.op_mk,Ex.value_mk,Ex.name_mk,Ex.slot_mk,Ex.size_mk,Ex.args_mk]) (by simp [kwt,hS1,hS2,List.map_append,List.map_cons,List.map_nil,zar,smL,ex0,Sm.kind,Sm.name,Sm.slot,Sm.size,Sm.place,Sm.value,Sm.body,Sm.els,Ex.op_mk,Ex.value_mk,Ex.name_mk,Ex.slot_mk,Ex.size_mk,Ex.args_mk])),by show n<n+1;omega⟩)
  ·rcases hq with hq
   all_goals (
    rw [hq] at c12
    simp only [hq,decide_true,decide_false,Bool.true_and,Bool.false_and,Bool.false_eq_true,if_false,if_true,ge_iff_le,Int.reduceLE,Int.reduceLT,Int.reduceSub,Int.reduceEq,or_true,or_false,true_or,false_or,decide_eq_true_eq,not_true_eq_false,not_false_eq_true,↓reduceIte,reduceCtorEq] at hst
    have hS1:S.1=_:=congrArg Prod.fst hst
    have hS2:S.2=_:=congrArg Prod.snd hst
    simp only at hS1 hS2
    have ce:=zco xs hxs 2 (by omega) q.2 hl1
    simp only [Int.cast_ofNat_Int] at ce
    generalize za2 xs 2 q.2=e at *
    (repeat' (first|refine V1 (And.intro zmH <|And.intro @kA <|And.intro @exA.eq_1 <|And.intro @hs' <|And.intro @hpos <|And.intro @hwn <|And.intro @hrm <|And.intro @hwd <|And.intro @Bool.and_false <|And.intro @w0 <|And.intro @w1 @w2) ?_|(with_reducible first|refine SB.c (fun _=>?_) fun _=>?_|exact zad)|refine CK.dx [0] [] zag c12 ?_|refine CK.dx [0] [] zaZ ce ?_|with_reducible refine zac ?_|omega))
    exact ⟨⟨n,L++[S.1],S.2,hSa,by simp;omega,by rw [←heq];simp⟩,(WTe [0,2,1] (by simp [kwt,hS1,hS2,List.map_append,List.map_cons,List.map_nil,zar,smL,ex0,Sm.kind,Sm.name,Sm.slot,Sm.size,Sm.place,Sm.value,Sm.body,Sm.els,Ex.op_mk,Ex.value_mk,Ex.name_mk,Ex.slot_mk,Ex.size_mk,Ex.args_mk]) (by simp [kwt,hS1,hS2,List.map_append,List.map_cons,List.map_nil,zar,smL,ex0,Sm.kind,Sm.name,Sm.slot,Sm.size,Sm.place,Sm.value,Sm.body,Sm.els,Ex.op_mk,Ex.value_mk,Ex.name_mk,Ex.slot_mk,Ex.size_mk,Ex.args_mk])),by show n<n+1;omega⟩)
theorem zsS (xs:List UInt8) (hxs:xs.length≤1000) (d:Nat) (hd:d≤1000) (hs:¬ d≤1) (rec:Int→Nat→List Sm × Nat) (hr:∀ m a,a≤xs.length→(rec m a).2≤xs.length)
  (hrec:1<d→∀ (m:Int) (a:Nat),0≤m→m≤10→a≤xs.length→AC Tryz.prog gl 46 [.ref 0 0,.pv (.int .i64 m),.pv (.int .i64 ((d:Int) - 1))] (cdO xs a) (.pv (.slice ((rec m a).1.map zam))) (cdO xs (rec m a).2))
  (most:Int) (hm0:0≤most) (hm1:most≤10) (a0:Nat) (ha0:a0≤xs.length) :
  AC Tryz.prog gl 46 [.ref 0 0,.pv (.int .i64 most),.pv (.int .i64 d)] (cdO xs a0) (.pv (.slice ((zck xs rec false most a0).1.map zam))) (cdO xs (zck xs rec false most a0).2):=by
 have hs':¬ (d:Int)≤1:=by omega
 have hwd:IntKind.i64.wrap ((d:Int) - 1)=(d:Int) - 1:=zaB _ (by omega) (by omega)
 have hwm:IntKind.i64.wrap (most+1)=most+1:=zaB _ (by omega) (by omega)
 have cN:=zbG xs a0 (most+1) (by omega) (by omega) (by omega)
 have hN:=zaF xs a0 (most+1) (by omega)
 have hNl:=zaX xs a0 (most+1) ha0
 unfold zck
 generalize nxt xs a0 (most+1)=N at *
 obtain ⟨N1,hN1⟩:=Int.eq_ofNat_of_zero_le hN.1
 rw [hN1,Int.toNat_natCast]
 rw [hN1] at cN
 obtain ⟨R,hR⟩:∃ R,R=zaQ xs rec false N1 N.2:=⟨_,rfl⟩
 rw [←hR]
 have w0:IntKind.i64.wrap 0=0:=by decide
 have w1:IntKind.i64.wrap 1=1:=by decide
 have w2:IntKind.i64.wrap 2=2:=by decide
 refine zgA (fun _=>2) 3 zFc ?_
 (repeat' (first|refine V1 (And.intro zmH @hwm) ?_|(with_reducible first|refine SB.c (fun _=>?_) fun _=>?_|exact zad)|refine CK.dx [0] [] zag cN ?_|with_reducible refine zac ?_|omega))
 (refine LW.weak (zbT.nilRow 7 1 18 rfl rfl (by decide)) ?_;simp only [List.set_cons_zero,List.set_cons_succ])
 refine zbw (ι:=StI xs rec false R) (fun i=>⟨(.ref 0 0::.junk::.pv (.int .i64 d)::jl 4 (.row 1 i.L.length::.pv (.int .i64 i.n)::jl 95 [])),[some (.cells [.pv (.slice (xs.map zmJ)),.pv (.int .i64 i.a)]),some (.row 18 (i.L.map zam)),none]⟩) (fun i=>i.n) ⟨N1,[],N.2,hNl,by simp;omega,by rw [hR];simp⟩ WFn ?_
 rintro ⟨n,L,a,ha,hn,heq⟩
 cases n with
 |zero=>
  simp only [zaQ,List.append_nil] at heq
  subst heq
  (repeat' (first|refine V0 zmH ?_|(with_reducible first|refine SB.c (fun _=>?_) fun _=>?_|exact zad)|with_reducible refine zac ?_|omega))
  refine ⟨_,zbT.freeze 1 rfl,?_⟩
  simp only [St.frz,zgu,frz,zgv,List.map_cons,List.map_nil,List.set_cons_zero,List.set_cons_succ,List.length_map,if_true,if_false,↓reduceIte,Nat.reduceEqDiff,eq_self,reduceCtorEq,Nat.succ_ne_self]
  (refine zaH.mk [0] ?_ ?_<;>simp [kwr,zmH])
 |succ n=>
  have hpos:((n+1:Nat):Int) > 0:=by omega
  have hwn:IntKind.i64.wrap (((n+1:Nat):Int) - 1)=(n:Int):=by rw [zaB _ (by omega) (by omega)];omega
  have h12:=zaF xs a 10 (by omega)
  have hl1:=zaX xs a 10 ha
  have c12:=zbG xs a 10 (by omega) (by omega) (by omega)
  have hSa:=zfH xs rec false a ha hr
  rw [zaQ] at heq
  obtain ⟨S,hst⟩:∃ S,S=za5 xs rec false a:=⟨_,rfl⟩
  rw [←hst] at heq hSa
  unfold za5 kF at hst
  dsimp only at hst
  have hrm:=zfg (L.length+1) 232 (by omega)
  have hd1:1<d:=by omega
  generalize nxt xs a 10=q at *
  have hcase:(q.1=0∨q.1=1∨q.1=2)∨(q.1=3)∨(q.1=4∨q.1=5)∨(q.1=6)∨(q.1=7∨q.1=8)∨(q.1=9):=by omega
  rcases hcase with hq|hq|hq|hq|hq|hq
  ·rcases hq with hq|hq|hq
   all_goals (
    rw [hq] at c12
    simp only [hq,decide_true,decide_false,Bool.true_and,Bool.false_and,Bool.false_eq_true,if_false,if_true,ge_iff_le,Int.reduceLE,Int.reduceLT,Int.reduceSub,Int.reduceEq,or_true,or_false,true_or,false_or,decide_eq_true_eq,not_true_eq_false,not_false_eq_true,↓reduceIte,reduceCtorEq] at hst
    have hS1:S.1=_:=congrArg Prod.fst hst
    have hS2:S.2=_:=congrArg Prod.snd hst
    simp only at hS1 hS2
    have c:=zbG xs q.2 3 (by omega) (by omega) (by omega)
    have hm:=zaF xs q.2 3 (by omega)
    have ce:=zco xs hxs 3 (by omega) (nxt xs q.2 3).2 (zaX _ _ _ hl1)
    simp only [Int.cast_ofNat_Int] at ce
    generalize nxt xs q.2 3=m at *
    generalize za2 xs 3 m.2=e at *
    rcases (show m.1=0∨m.1=1∨m.1=2 by omega) with hi|hi|hi
    all_goals (
     (repeat' (first|refine V1 (And.intro zmH <|And.intro @kA <|And.intro @exA.eq_1 <|And.intro @hs' <|And.intro @hpos <|And.intro @hwn <|And.intro @hrm <|And.intro @hwd <|And.intro @Bool.and_false <|And.intro @w0 <|And.intro @w1 <|And.intro @w2 @hi) ?_|(with_reducible first|refine SB.c (fun _=>?_) fun _=>?_|exact zad)|refine CK.dx [0] [] zag c12 ?_|refine CK.dx [0] [] zag c ?_|refine CK.dx [0] [] zaZ ce ?_|with_reducible refine zac ?_|omega))
     exact ⟨⟨n,L++[S.1],S.2,hSa,by simp;omega,by rw [←heq];simp⟩,(WTe [0,2,1] (by simp [kwt,hS1,hS2,List.map_append,List.map_cons,List.map_nil,zar,smL,ex0,Sm.kind,Sm.name,Sm.slot,Sm.size,Sm.place,Sm.value,Sm.body,Sm.els,Ex.op_mk,Ex.value_mk,Ex.name_mk,Ex.slot_mk,Ex.size_mk,Ex.args_mk,scal,hi]) (by simp [kwt,hS1,hS2,List.map_append,List.map_cons,List.map_nil,zar,smL,ex0,Sm.kind,Sm.name,Sm.slot,Sm.size,Sm.place,Sm.value,Sm.body,Sm.els,Ex.op_mk,Ex.value_mk,Ex.name_mk,Ex.slot_mk,Ex.size_mk,Ex.args_mk,scal,hi])),by show n<n+1;omega⟩))
  ·rcases hq with hq
   all_goals (
    rw [hq] at c12
    simp only [hq,decide_true,decide_false,Bool.true_and,Bool.false_and,Bool.false_eq_true,if_false,if_true,ge_iff_le,Int.reduceLE,Int.reduceLT,Int.reduceSub,Int.reduceEq,or_true,or_false,true_or,false_or,decide_eq_true_eq,not_true_eq_false,not_false_eq_true,↓reduceIte,reduceCtorEq] at hst
    have hS1:S.1=_:=congrArg Prod.fst hst
    have hS2:S.2=_:=congrArg Prod.snd hst
    simp only at hS1 hS2
    have c:=zbG xs q.2 2 (by omega) (by omega) (by omega)
    have hm:=zaF xs q.2 2 (by omega)
    have ce:=zco xs hxs 2 (by omega) (nxt xs q.2 2).2 (zaX _ _ _ hl1)
    have ce2:=zco xs hxs 2 (by omega) (za2 xs 2 (nxt xs q.2 2).2).2 (zbm _ _ _ (zaX _ _ _ hl1))
    simp only [Int.cast_ofNat_Int] at ce ce2
    generalize nxt xs q.2 2=m at *
    generalize za2 xs 2 m.2=e at *
    generalize za2 xs 2 e.2=e2 at *
    rcases (show m.1=0∨m.1=1 by omega) with hi|hi
    all_goals (
     (repeat' (first|refine V1 (And.intro zmH <|And.intro @kA <|And.intro @exA.eq_1 <|And.intro @hs' <|And.intro @hpos <|And.intro @hwn <|And.intro @hrm <|And.intro @hwd <|And.intro @Bool.and_false <|And.intro @w0 <|And.intro @w1 <|And.intro @w2 @hi) ?_|(with_reducible first|refine SB.c (fun _=>?_) fun _=>?_|exact zad)|refine CK.dx [0] [] zag c12 ?_|refine CK.dx [0] [] zag c ?_|refine CK.dx [0] [] zaZ ce ?_|refine CK.dx [0] [] zaZ ce2 ?_|with_reducible refine zac ?_|omega))
     exact ⟨⟨n,L++[S.1],S.2,hSa,by simp;omega,by rw [←heq];simp⟩,(WTe [0,2,1] (by simp [kwt,hS1,hS2,List.map_append,List.map_cons,List.map_nil,zar,smL,ex0,Sm.kind,Sm.name,Sm.slot,Sm.size,Sm.place,Sm.value,Sm.body,Sm.els,Ex.op_mk,Ex.value_mk,Ex.name_mk,Ex.slot_mk,Ex.size_mk,Ex.args_mk,zto,hi]) (by simp [kwt,hS1,hS2,List.map_append,List.map_cons,List.map_nil,zar,smL,ex0,Sm.kind,Sm.name,Sm.slot,Sm.size,Sm.place,Sm.value,Sm.body,Sm.els,Ex.op_mk,Ex.value_mk,Ex.name_mk,Ex.slot_mk,Ex.size_mk,Ex.args_mk,zto,hi])),by show n<n+1;omega⟩))
  ·rcases hq with hq|hq
   all_goals (
    rw [hq] at c12
    simp only [hq,decide_true,decide_false,Bool.true_and,Bool.false_and,Bool.false_eq_true,if_false,if_true,ge_iff_le,Int.reduceLE,Int.reduceLT,Int.reduceSub,Int.reduceEq,or_true,or_false,true_or,false_or,decide_eq_true_eq,not_true_eq_false,not_false_eq_true,↓reduceIte,reduceCtorEq] at hst
    have hS1:S.1=_:=congrArg Prod.fst hst
    have hS2:S.2=_:=congrArg Prod.snd hst
    simp only at hS1 hS2
    have ce:=zco xs hxs 2 (by omega) q.2 hl1
    have ce2:=zco xs hxs 2 (by omega) (za2 xs 2 q.2).2 (zbm _ _ _ hl1)
    simp only [Int.cast_ofNat_Int] at ce ce2
    generalize za2 xs 2 q.2=e at *
    generalize za2 xs 2 e.2=e2 at *
    (repeat' (first|refine V1 (And.intro zmH <|And.intro @kA <|And.intro @exA.eq_1 <|And.intro @hs' <|And.intro @hpos <|And.intro @hwn <|And.intro @hrm <|And.intro @hwd <|And.intro @Bool.and_false <|And.intro @w0 <|And.intro @w1 @w2) ?_|(with_reducible first|refine SB.c (fun _=>?_) fun _=>?_|exact zad)|refine CK.dx [0] [] zag c12 ?_|refine CK.dx [0] [] zaZ ce ?_|refine CK.dx [0] [] zaZ ce2 ?_|with_reducible refine zac ?_|omega))
    exact ⟨⟨n,L++[S.1],S.2,hSa,by simp;omega,by rw [←heq];simp⟩,(WTe [0,2,1] (by simp [kwt,hS1,hS2,List.map_append,List.map_cons,List.map_nil,zar,smL,ex0,Sm.kind,Sm.name,Sm.slot,Sm.size,Sm.place,Sm.value,Sm.body,Sm.els,Ex.op_mk,Ex.value_mk,Ex.name_mk,Ex.slot_mk,Ex.size_mk,Ex.args_mk]) (by simp [kwt,hS1,hS2,List.map_append,List.map_cons,List.map_nil,zar,smL,ex0,Sm.kind,Sm.name,Sm.slot,Sm.size,Sm.place,Sm.value,Sm.body,Sm.els,Ex.op_mk,Ex.value_mk,Ex.name_mk,Ex.slot_mk,Ex.size_mk,Ex.args_mk])),by show n<n+1;omega⟩)
  ·rcases hq with hq
   all_goals (
    rw [hq] at c12
    simp only [hq,decide_true,decide_false,Bool.true_and,Bool.false_and,Bool.false_eq_true,if_false,if_true,ge_iff_le,Int.reduceLE,Int.reduceLT,Int.reduceSub,Int.reduceEq,or_true,or_false,true_or,false_or,decide_eq_true_eq,not_true_eq_false,not_false_eq_true,↓reduceIte,reduceCtorEq] at hst
    have hS1:S.1=_:=congrArg Prod.fst hst
    have hS2:S.2=_:=congrArg Prod.snd hst
    simp only at hS1 hS2
    have ce:=zco xs hxs 2 (by omega) q.2 hl1
    simp only [Int.cast_ofNat_Int] at ce
    generalize za2 xs 2 q.2=e at *
    (repeat' (first|refine V1 (And.intro zmH <|And.intro @kA <|And.intro @exA.eq_1 <|And.intro @hs' <|And.intro @hpos <|And.intro @hwn <|And.intro @hrm <|And.intro @hwd <|And.intro @Bool.and_false <|And.intro @w0 <|And.intro @w1 @w2) ?_|(with_reducible first|refine SB.c (fun _=>?_) fun _=>?_|exact zad)|refine CK.dx [0] [] zag c12 ?_|refine CK.dx [0] [] zaZ ce ?_|with_reducible refine zac ?_|omega))
    exact ⟨⟨n,L++[S.1],S.2,hSa,by simp;omega,by rw [←heq];simp⟩,(WTe [0,2,1] (by simp [kwt,hS1,hS2,List.map_append,List.map_cons,List.map_nil,zar,smL,ex0,Sm.kind,Sm.name,Sm.slot,Sm.size,Sm.place,Sm.value,Sm.body,Sm.els,Ex.op_mk,Ex.value_mk,Ex.name_mk,Ex.slot_mk,Ex.size_mk,Ex.args_mk]) (by simp [kwt,hS1,hS2,List.map_append,List.map_cons,List.map_nil,zar,smL,ex0,Sm.kind,Sm.name,Sm.slot,Sm.size,Sm.place,Sm.value,Sm.body,Sm.els,Ex.op_mk,Ex.value_mk,Ex.name_mk,Ex.slot_mk,Ex.size_mk,Ex.args_mk])),by show n<n+1;omega⟩)
  ·rcases hq with hq|hq
   all_goals (
    rw [hq] at c12
    simp only [hq,decide_true,decide_false,Bool.true_and,Bool.false_and,Bool.false_eq_true,if_false,if_true,ge_iff_le,Int.reduceLE,Int.reduceLT,Int.reduceSub,Int.reduceEq,or_true,or_false,true_or,false_or,decide_eq_true_eq,not_true_eq_false,not_false_eq_true,↓reduceIte,reduceCtorEq] at hst
    have hS1:S.1=_:=congrArg Prod.fst hst
    have hS2:S.2=_:=congrArg Prod.snd hst
    simp only at hS1 hS2
    have ce:=zco xs hxs 2 (by omega) q.2 hl1
    have c2:=hrec hd1 2 (za2 xs 2 q.2).2 (by omega) (by omega) (zbm _ _ _ hl1)
    have c3:=hrec hd1 1 (rec 2 (za2 xs 2 q.2).2).2 (by omega) (by omega) (hr _ _ (zbm _ _ _ hl1))
    simp only [Int.cast_ofNat_Int] at ce
    generalize za2 xs 2 q.2=e at *
    generalize rec 2 e.2=b at *
    generalize rec 1 b.2=l at *
    (repeat' (first|refine V1 (And.intro zmH <|And.intro @kA <|And.intro @exA.eq_1 <|And.intro @hs' <|And.intro @hpos <|And.intro @hwn <|And.intro @hrm <|And.intro @hwd <|And.intro @Bool.and_false <|And.intro @w0 <|And.intro @w1 @w2) ?_|(with_reducible first|refine SB.c (fun _=>?_) fun _=>?_|exact zad)|refine CK.dx [0] [] zag c12 ?_|refine CK.dx [0] [] zaZ ce ?_|refine CK.dx [0] [] zea c2 ?_|refine CK.dx [0] [] zea c3 ?_|with_reducible refine zac ?_|omega))
    exact ⟨⟨n,L++[S.1],S.2,hSa,by simp;omega,by rw [←heq];simp⟩,(WTe [0,2,1] (by simp [kwt,hS1,hS2,List.map_append,List.map_cons,List.map_nil,zar,smL,ex0,Sm.kind,Sm.name,Sm.slot,Sm.size,Sm.place,Sm.value,Sm.body,Sm.els,Ex.op_mk,Ex.value_mk,Ex.name_mk,Ex.slot_mk,Ex.size_mk,Ex.args_mk]) (by simp [kwt,hS1,hS2,List.map_append,List.map_cons,List.map_nil,zar,smL,ex0,Sm.kind,Sm.name,Sm.slot,Sm.size,Sm.place,Sm.value,Sm.body,Sm.els,Ex.op_mk,Ex.value_mk,Ex.name_mk,Ex.slot_mk,Ex.size_mk,Ex.args_mk])),by show n<n+1;omega⟩)
  ·rcases hq with hq
   all_goals (
    rw [hq] at c12
    simp only [hq,decide_true,decide_false,Bool.true_and,Bool.false_and,Bool.false_eq_true,if_false,if_true,ge_iff_le,Int.reduceLE,Int.reduceLT,Int.reduceSub,Int.reduceEq,or_true,or_false,true_or,false_or,decide_eq_true_eq,not_true_eq_false,not_false_eq_true,↓reduceIte,reduceCtorEq] at hst
    have hS1:S.1=_:=congrArg Prod.fst hst
    have hS2:S.2=_:=congrArg Prod.snd hst
    simp only at hS1 hS2
    have ce:=zco xs hxs 2 (by omega) q.2 hl1
    have c2:=hrec hd1 2 (za2 xs 2 q.2).2 (by omega) (by omega) (zbm _ _ _ hl1)
    simp only [Int.cast_ofNat_Int] at ce
    generalize za2 xs 2 q.2=e at *
    generalize rec 2 e.2=b at *
    (repeat' (first|refine V1 (And.intro zmH <|And.intro @kA <|And.intro @exA.eq_1 <|And.intro @hs' <|And.intro @hpos <|And.intro @hwn <|And.intro @hrm <|And.intro @hwd <|And.intro @Bool.and_false <|And.intro @w0 <|And.intro @w1 @w2) ?_|(with_reducible first|refine SB.c (fun _=>?_) fun _=>?_|exact zad)|refine CK.dx [0] [] zag c12 ?_|refine CK.dx [0] [] zaZ ce ?_|refine CK.dx [0] [] zea c2 ?_|with_reducible refine zac ?_|omega))
    exact ⟨⟨n,L++[S.1],S.2,hSa,by simp;omega,by rw [←heq];simp⟩,(WTe [0,2,1] (by simp [kwt,hS1,hS2,List.map_append,List.map_cons,List.map_nil,zar,smL,ex0,Sm.kind,Sm.name,Sm.slot,Sm.size,Sm.place,Sm.value,Sm.body,Sm.els,Ex.op_mk,Ex.value_mk,Ex.name_mk,Ex.slot_mk,Ex.size_mk,Ex.args_mk]) (by simp [kwt,hS1,hS2,List.map_append,List.map_cons,List.map_nil,zar,smL,ex0,Sm.kind,Sm.name,Sm.slot,Sm.size,Sm.place,Sm.value,Sm.body,Sm.els,Ex.op_mk,Ex.value_mk,Ex.name_mk,Ex.slot_mk,Ex.size_mk,Ex.args_mk])),by show n<n+1;omega⟩)
theorem zo3 (xs:List UInt8) (hxs:xs.length≤1000) (d:Nat) (hd:d≤1000) (rec:Int→Nat→List Sm × Nat) (hr:∀ m a,a≤xs.length→(rec m a).2≤xs.length)
  (hrec:1<d→∀ (m:Int) (a:Nat),0≤m→m≤10→a≤xs.length→AC Tryz.prog gl 46 [.ref 0 0,.pv (.int .i64 m),.pv (.int .i64 ((d:Int) - 1))] (cdO xs a) (.pv (.slice ((rec m a).1.map zam))) (cdO xs (rec m a).2))
  (most:Int) (hm0:0≤most) (hm1:most≤10) (a0:Nat) (ha0:a0≤xs.length) :
  AC Tryz.prog gl 46 [.ref 0 0,.pv (.int .i64 most),.pv (.int .i64 d)] (cdO xs a0) (.pv (.slice ((zck xs rec (decide (d≤1)) most a0).1.map zam))) (cdO xs (zck xs rec (decide (d≤1)) most a0).2):=by
 by_cases hs:d≤1
 ·rw [decide_eq_true hs];exact znB xs hxs d hd hs rec hr hrec most hm0 hm1 a0 ha0
 ·rw [decide_eq_false hs];exact zsS xs hxs d hd hs rec hr hrec most hm0 hm1 a0 ha0
theorem zgj (xs:List UInt8) (hxs:xs.length≤1000):∀ (d:Nat),d≤1000→∀ (m:Int) (a:Nat),0≤m→m≤10→a≤xs.length→AC Tryz.prog gl 46 [.ref 0 0,.pv (.int .i64 m),.pv (.int .i64 d)] (cdO xs a) (.pv (.slice ((zca xs d m a).1.map zam))) (cdO xs (zca xs d m a).2)
 |0,hd,m,a,h0,h1,ha=>zo3 xs hxs 0 hd _ (fun _ _ h=>h) (fun h=>by omega) m h0 h1 a ha
 |d+1,hd,m,a,h0,h1,ha=>zo3 xs hxs (d+1) hd (zca xs d) (fun m a h=>zcC xs d m a h) (fun _ m a h0 h1 h=>by
   have:=zgj xs hxs d (by omega) m a h0 h1 h
   rw [show (((d+1:Nat):Int) - 1)=(d:Int) by omega];exact this) m h0 h1 a ha
theorem zqi (xs:List UInt8) (hxs:xs.length≤1000) (a:Nat) (ha:a≤xs.length):AC Tryz.prog gl 25 [.ref 0 0] (cdO xs a) (pgA (zaS xs a).1) (cdO xs (zaS xs a).2):=by
 have c1:=zbG xs a 7 (by omega) (by omega) (by omega)
 have l1:=zaX xs a 7 ha
 have b1:=zaF xs a 7 (by omega)
 have c2:=zbG xs (nxt xs a 7).2 5 (by omega) (by omega) (by omega)
 have l2:=zaX xs (nxt xs a 7).2 5 l1
 have b2:=zaF xs (nxt xs a 7).2 5 (by omega)
 have c3:=zbG xs (nxt xs (nxt xs a 7).2 5).2 3 (by omega) (by omega) (by omega)
 have l3:=zaX xs (nxt xs (nxt xs a 7).2 5).2 3 l2
 unfold zaS
 dsimp only
 generalize nxt xs a 7=m1 at *
 generalize nxt xs m1.2 5=m2 at *
 generalize nxt xs m2.2 3=m3 at *
 have d1:=zgj xs hxs 2 (by omega) 3 m3.2 (by omega) (by omega) l3
 have k1:=zcC xs 2 3 m3.2 l3
 generalize zca xs 2 3 m3.2=s1 at *
 have d2:=zgj xs hxs 3 (by omega) 4 s1.2 (by omega) (by omega) k1
 have k2:=zcC xs 3 4 s1.2 k1
 generalize zca xs 3 4 s1.2=s2 at *
 have d3:=zgj xs hxs 2 (by omega) 3 s2.2 (by omega) (by omega) k2
 have k3:=zcC xs 2 3 s2.2 k2
 generalize zca xs 2 3 s2.2=s3 at *
 have d4:=zgj xs hxs 2 (by omega) 2 s3.2 (by omega) (by omega) k3
 generalize zca xs 2 2 s3.2=s4 at *
 simp only [Int.cast_ofNat_Int] at d1 d2 d3 d4
 have hw1:IntKind.i64.wrap (m1.1 - 2)=m1.1 - 2:=zaB _ (by omega) (by omega)
 have hw2:IntKind.i64.wrap (1+m2.1)=1+m2.1:=zaB _ (by omega) (by omega)
 unfold pgA
 refine zax (fun d=>if d=2 then 1 else 2) 3 zGK ?_
 (repeat' (first|refine V1 (And.intro zE6 <|And.intro @hw1 @hw2) ?_|(with_reducible first|refine SB.c (fun _=>?_) fun _=>?_|exact zad)|refine CK.dx [0] [] zag c1 ?_|refine CK.dx [0] [] zag c2 ?_|refine CK.dx [0] [] zag c3 ?_|refine CK.dx [0] [] zea d1 ?_|refine CK.dx [0] [] zea d2 ?_|refine CK.dx [0] [] zea d3 ?_|refine CK.dx [0] [] zea d4 ?_|with_reducible refine zac ?_|omega))
 (refine zaH.mk [0] ?_ ?_<;>simp [kwr,zE6,zcI,za3])
theorem zsT (xs:List UInt8) (hxs:xs.length≤1000) (a:Nat) (ha:a≤xs.length):AC Tryz.prog gl 17 [.ref 0 0] (cdO xs a) (.pv (.int .i64 (zgq xs a).1)) (cdO xs (zgq xs a).2):=by
 have c1:=zbG xs a 6 (by omega) (by omega) (by omega)
 unfold zgq
 generalize nxt xs a 6=q at *
 by_cases h7:q.1=5
 ·rw [if_pos h7]
  have c2:=zbG xs q.2 10 (by omega) (by omega) (by omega)
  have hm:=zaF xs q.2 10 (by omega)
  generalize nxt xs q.2 10=m at *
  obtain ⟨i,hi⟩:=Int.eq_ofNat_of_zero_le hm.1
  rw [hi] at hm c2 ⊢
  have hi2:i<10:=by omega
  have hg:([[PVal.int .i64 9223372036854775807],[PVal.int .i64 (-9223372036854775808)],[PVal.int .i64 2147483648],[PVal.int .i64 (-1)],[PVal.int .i64 63],[PVal.int .i64 64],[PVal.int .i64 (-65)],[PVal.int .i64 127],[PVal.int .i64 128],[PVal.int .i64 1099511627776]]:List (List PVal)).getD i []=[PVal.int .i64 (zx3.getD i 0)]:=zAn (fun n=>[PVal.int .i64 n]) zx3 i 0 hi2
  refine zax (fun _=>0) 1 zE9 ?_
  (repeat' (first|refine V1 (And.intro zB8 <|And.intro @h7 <|And.intro @hi2 @hg) ?_|(with_reducible first|refine SB.c (fun _=>?_) fun _=>?_|exact zad)|refine CK.dx [0] [] zag c1 ?_|refine CK.dx [0] [] zag c2 ?_|with_reducible refine zac ?_|omega))
  (refine zaH.mk [0] ?_ ?_<;>simp [kwr,zB8])
 ·rw [if_neg h7]
  have h7':(q.1==5)=false:=by simpa using h7
  have c2:=zbG xs q.2 12 (by omega) (by omega) (by omega)
  have hm:=zaF xs q.2 12 (by omega)
  generalize nxt xs q.2 12=m at *
  have hw:IntKind.i64.wrap (m.1 - 2)=m.1 - 2:=zaB _ (by omega) (by omega)
  refine zax (fun _=>0) 1 zE9 ?_
  (repeat' (first|refine V1 (And.intro zB8 <|And.intro @h7' @hw) ?_|(with_reducible first|refine SB.c (fun _=>?_) fun _=>?_|exact zad)|refine CK.dx [0] [] zag c1 ?_|refine CK.dx [0] [] zag c2 ?_|with_reducible refine zac ?_|omega))
  (refine zaH.mk [0] ?_ ?_<;>simp [kwr,zB8])
end Go.Proofs.YtfinhhblcdkpgaaGreatDoor
