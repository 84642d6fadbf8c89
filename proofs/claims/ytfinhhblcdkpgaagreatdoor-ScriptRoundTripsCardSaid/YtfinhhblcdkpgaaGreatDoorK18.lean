/- What the laws of scripts draw. No condition. -/
import Derived.Test.YtfinhhblcdkpgaaGreatDoorM2
import Derived.Test.YtfinhhblcdkpgaaGreatDoorK7
import Derived.Test.YtfinhhblcdkpgaaGreatDoorLib3
import Derived.Test.YtfinhhblcdkpgaaGreatDoorK15
set_option maxRecDepth 100000
set_option maxHeartbeats 64000000
namespace Go.Proofs.YtfinhhblcdkpgaaGreatDoor
open Go Go.Abs
theorem zyC (codes:List UInt8):AC Tryz.prog gl 9 [.pv (.slice (codes.map zmJ))] []
  (.tup [.pv (.slice ((zhf (codes.take 300)).ps.map zgL)),.pv (.int .i64 (zhf (codes.take 300)).protocol),.pv (.int .i64 (zhf (codes.take 300)).faults),.pv (.slice ((zhf (codes.take 300)).l.map zcD)),.ref 0 0]) (cdO (codes.take 300) (zhf (codes.take 300)).at_):=by
 have cN:=zBx codes 300 (by omega)
 have hxs:(codes.take 300).length≤1000:=by simp;omega
 generalize codes.take 300=xs at *
 have c3:=zbG xs 0 3 (by omega) (by omega) (by omega)
 have n3:=zaF xs 0 3 (by omega)
 have l3:=zaX xs 0 3 (Nat.zero_le _)
 unfold zhf
 generalize nxt xs 0 3=N at *
 obtain ⟨k,hk⟩:∃ k:Nat,1+N.1=k:=⟨(1+N.1).toNat,by omega⟩
 rw [hk]
 simp only [Int.toNat_natCast]
 have lp:=ziK xs k N.2 [] l3
 generalize hP:zcs xs k N.2 []=P at *
 have c8:=zbG xs P.2 8 (by omega) (by omega) (by omega)
 have n8:=zaF xs P.2 8 (by omega)
 have l8:=zaX xs P.2 8 lp
 generalize nxt xs P.2 8=Q at *
 have cF:=zsT xs hxs Q.2 l8
 have lf:=zgG xs Q.2 l8
 generalize zgq xs Q.2=F at *
 have c14:=zbG xs F.2 14 (by omega) (by omega) (by omega)
 have n14:=zaF xs F.2 14 (by omega)
 have l14:=zaX xs F.2 14 lf
 generalize nxt xs F.2 14=K at *
 obtain ⟨m,hm⟩:∃ m:Nat,K.1=m:=⟨K.1.toNat,by omega⟩
 rw [hm] at c14 n14 ⊢
 simp only [Int.toNat_natCast]
 generalize hS:zem xs m K.2 []=S at *
 have hw1:IntKind.i64.wrap (1+N.1)=(k:Int):=by rw [hk];exact zaB _ (by omega) (by omega)
 have hw8:IntKind.i64.wrap (1+Q.1)=1+Q.1:=zaB _ (by omega) (by omega)
 refine zgA (fun d=>if d=30 then 2 else if d=14 then 3 else 5) 6 fi9 ?_
 (repeat' (first|refine V1 (And.intro tq9 @hw1) ?_|(with_reducible first|refine SB.c (fun _=>?_) fun _=>?_|exact zad)|refine CK.dx [] [0] zuS cN ?_|refine CK.dx [0] [] zag c3 ?_|with_reducible refine zac ?_|omega))
 (refine LW.weak (zbT.nilRow 8 1 5 rfl rfl (by decide)) ?_;simp only [List.set_cons_zero,List.set_cons_succ])
 refine zbw (ι:=DrI xs P) (fun i=>⟨(jl 7 (.ref 0 0::.row 1 i.ps.length::.pv (.int .i64 i.n)::jl 73 [])),(cdO xs i.a)++[some (.row 5 (i.ps.map zgL)),none,none,none,none]⟩) (fun i=>i.n) ⟨k,N.2,[],l3,by simp;omega,hP⟩ WFn ?_
 rintro ⟨n,a,ps,ha,hn,heq⟩
 cases n with
 |succ n=>
  have hpos:((n+1:Nat):Int) > 0:=by omega
  have hwn:IntKind.i64.wrap (((n+1:Nat):Int) - 1)=(n:Int):=by rw [zaB _ (by omega) (by omega)];omega
  have cP:=zqi xs hxs a ha
  have la:=zij xs a ha
  rw [zcs] at heq
  generalize zaS xs a=q at *
  unfold pgA at cP
  have hrm:=zfg (ps.length+1) 120 (by omega)
  (repeat' (first|refine V1 (And.intro tq9 <|And.intro @hpos <|And.intro @hwn @hrm) ?_|(with_reducible first|refine SB.c (fun _=>?_) fun _=>?_|exact zad)|refine CK.dx [0] [] zuT cP ?_|with_reducible refine zac ?_|omega))
  exact ⟨⟨n,q.2,ps++[q.1],la,by simp;omega,heq⟩,(WTe [0,2,1,3,4,5] (by simp [kwt,zgL]) (by simp [kwt,zgL])),Nat.lt_succ_self n⟩
 |zero=>
  rw [zcs] at heq
  subst heq
  dsimp only at c8
  (repeat' (first|refine V1 (And.intro tq9 <|And.intro @hw8 @hm) ?_|(with_reducible first|refine SB.c (fun _=>?_) fun _=>?_|exact zad)|refine CK.dx [0] [] zag c8 ?_|refine CK.dx [0] [] zc8 cF ?_|refine CK.dx [0] [] zag c14 ?_|with_reducible refine zac ?_|omega))
  (refine LW.weak (zbT.nilRow 12 4 4 rfl rfl (by decide)) ?_;simp only [List.set_cons_zero,List.set_cons_succ])
  refine zbw (ι:=DsI xs S) (fun i=>⟨(jl 7 (.ref 0 0::.row 1 ps.length::.junk::.pv (.int .i64 (1+Q.1))::.pv (.int .i64 F.1)::.row 4 i.l.length::.pv (.int .i64 i.n)::jl 69 [])),(cdO xs i.a)++[some (.row 5 (ps.map zgL)),none,none,some (.row 4 (i.l.map zcD)),none]⟩) (fun i=>i.n) ⟨m,K.2,[],l14,by simp;omega,hS⟩ WFn ?_
  rintro ⟨n,a,l,ha,hn,heq⟩
  cases n with
  |zero=>
   rw [zem] at heq
   subst heq
   (repeat' (first|refine V0 tq9 ?_|(with_reducible first|refine SB.c (fun _=>?_) fun _=>?_|exact zad)|with_reducible refine zac ?_|omega))
   refine ⟨_,(zbT.freeze 1 rfl).trans (zbT.freeze 4 rfl),?_⟩
   simp only [St.frz,zgu,frz,zgv,List.map_cons,List.map_nil,List.set_cons_zero,List.set_cons_succ,List.length_map,if_true,if_false,↓reduceIte,Nat.reduceEqDiff,eq_self,reduceCtorEq,Nat.succ_ne_self]
   (refine zaH.mk [0] ?_ ?_<;>simp [kwr,tq9])
  |succ n=>
   have hpos:((n+1:Nat):Int) > 0:=by omega
   have hwn:IntKind.i64.wrap (((n+1:Nat):Int) - 1)=(n:Int):=by rw [zaB _ (by omega) (by omega)];omega
   have d1:=zbG xs a 14 (by omega) (by omega) (by omega)
   have m1:=zaF xs a 14 (by omega)
   have e1:=zaX xs a 14 ha
   have d2:=zsT xs hxs (nxt xs a 14).2 e1
   have e2:=zgG xs (nxt xs a 14).2 e1
   have d3:=zsT xs hxs (zgq xs (nxt xs a 14).2).2 e2
   have hb:=zgG xs (zgq xs (nxt xs a 14).2).2 e2
   rw [zem] at heq
   unfold znD at heq
   dsimp only at heq
   generalize nxt xs a 14=u at *
   generalize zgq xs u.2=v at *
   generalize zgq xs v.2=w at *
   obtain ⟨kk,hkk⟩:∃ kk,kk=1+u.1:=⟨_,rfl⟩
   have hwk:IntKind.i64.wrap (1+u.1)=kk:=by rw [hkk];exact zaB _ (by omega) (by omega)
   rw [←hkk] at heq
   have hrm:=zfg (l.length+1) 32 (by omega)
   generalize hbb:w.2=b at *
   rcases zdy kk with ⟨h1,hsh⟩|⟨h1,hsh⟩|⟨h1,hsh⟩|⟨a1,a2,a3,a4,a5,a6,a7,a8,a9,a10,a11,hsh⟩
   ·have hx:zg1 kk [v.1,w.1]=⟨kk,0,v.1,0⟩:=by simp [zg1,hsh]
    rw [hx] at heq
    generalize hxe:(⟨kk,0,v.1,0⟩:StD)=x at heq
    rcases h1 with rfl|rfl|rfl <;>
    ·subst hxe
     (repeat' (first|refine V1 (And.intro tq9 <|And.intro @hpos <|And.intro @hwn <|And.intro @hwk <|And.intro @hrm @hbb) ?_|(with_reducible first|refine SB.c (fun _=>?_) fun _=>?_|exact zad)|refine CK.dx [0] [] zag d1 ?_|refine CK.dx [0] [] zc8 d2 ?_|refine CK.dx [0] [] zc8 d3 ?_|with_reducible refine zac ?_|omega))
     exact ⟨⟨n,b,_,hb,by simp;omega,heq⟩,(WTe [0,1,2,3,5,4] (by simp [kwt,zcD]) (by simp [kwt,zcD])),Nat.lt_succ_self n⟩
   ·have hx:zg1 kk [v.1,w.1]=⟨kk,v.1,0,w.1⟩:=by simp [zg1,hsh]
    rw [hx] at heq
    generalize hxe:(⟨kk,v.1,0,w.1⟩:StD)=x at heq
    rcases h1 with rfl|rfl|rfl <;>
    ·subst hxe
     (repeat' (first|refine V1 (And.intro tq9 <|And.intro @hpos <|And.intro @hwn <|And.intro @hwk <|And.intro @hrm @hbb) ?_|(with_reducible first|refine SB.c (fun _=>?_) fun _=>?_|exact zad)|refine CK.dx [0] [] zag d1 ?_|refine CK.dx [0] [] zc8 d2 ?_|refine CK.dx [0] [] zc8 d3 ?_|with_reducible refine zac ?_|omega))
     exact ⟨⟨n,b,_,hb,by simp;omega,heq⟩,(WTe [0,1,2,3,5,4] (by simp [kwt,zcD]) (by simp [kwt,zcD])),Nat.lt_succ_self n⟩
   ·have hx:zg1 kk [v.1,w.1]=⟨kk,v.1,0,0⟩:=by simp [zg1,hsh]
    rw [hx] at heq
    generalize hxe:(⟨kk,v.1,0,0⟩:StD)=x at heq
    rcases h1 with rfl|rfl|rfl|rfl|rfl <;>
    ·subst hxe
     (repeat' (first|refine V1 (And.intro tq9 <|And.intro @hpos <|And.intro @hwn <|And.intro @hwk <|And.intro @hrm @hbb) ?_|(with_reducible first|refine SB.c (fun _=>?_) fun _=>?_|exact zad)|refine CK.dx [0] [] zag d1 ?_|refine CK.dx [0] [] zc8 d2 ?_|refine CK.dx [0] [] zc8 d3 ?_|with_reducible refine zac ?_|omega))
     exact ⟨⟨n,b,_,hb,by simp;omega,heq⟩,(WTe [0,1,2,3,5,4] (by simp [kwt,zcD]) (by simp [kwt,zcD])),Nat.lt_succ_self n⟩
   ·have hx:zg1 kk [v.1,w.1]=⟨kk,0,0,0⟩:=by simp [zg1,hsh]
    rw [hx] at heq
    (repeat' (first|refine V1 (And.intro tq9 <|And.intro @a1 <|And.intro @a2 <|And.intro @a3 <|And.intro @a4 <|And.intro @a5 <|And.intro @a6 <|And.intro @a7 <|And.intro @a8 <|And.intro @a9 <|And.intro @a10 <|And.intro @a11 <|And.intro @hpos <|And.intro @hwn <|And.intro @hwk <|And.intro @hrm @hbb) ?_|(with_reducible first|refine SB.c (fun _=>?_) fun _=>?_|exact zad)|refine CK.dx [0] [] zag d1 ?_|refine CK.dx [0] [] zc8 d2 ?_|refine CK.dx [0] [] zc8 d3 ?_|with_reducible refine zac ?_|omega))
    exact ⟨⟨n,b,_,hb,by simp;omega,heq⟩,(WTe [0,1,2,3,5,4] (by simp [kwt,zcD]) (by simp [kwt,zcD])),Nat.lt_succ_self n⟩
end Go.Proofs.YtfinhhblcdkpgaaGreatDoor
