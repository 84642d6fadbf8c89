/- What the laws of scripts draw. No condition. -/
import Derived.Test.YtfinhhblcdkpgaaGreatDoorM2
import Derived.Test.YtfinhhblcdkpgaaGreatDoorK7
import Derived.Test.YtfinhhblcdkpgaaGreatDoorLib3
set_option maxRecDepth 100000
set_option maxHeartbeats 64000000
set_option linter.unusedSimpArgs false
set_option linter.unusedVariables false
set_option linter.defProp false
namespace Go.Proofs.YtfinhhblcdkpgaaGreatDoor
open Go Go.Abs
theorem zyG (codes:List UInt8):AC Tryz.prog gl 9 [.pv (.slice (codes.map zmM))] []
  (.tup [.pv (.slice ((zhf (codes.take 300)).ps.map zgO)),.pv (.int .i64 (zhf (codes.take 300)).protocol),.pv (.int .i64 (zhf (codes.take 300)).faults),.pv (.slice ((zhf (codes.take 300)).l.map zcE)),.ref 0 0]) (cdO (codes.take 300) (zhf (codes.take 300)).at_):=by
 have cN:=zBJ codes 300 (by omega)
 have hxs:(codes.take 300).length≤1000:=by simp;omega
 generalize codes.take 300=xs at *
 have c3:=zbH xs 0 3 (by omega) (by omega) (by omega)
 have n3:=zaG xs 0 3 (by omega)
 have l3:=zaX xs 0 3 (Nat.zero_le _)
 unfold zhf
 generalize nxt xs 0 3=N at *
 obtain ⟨k,hk⟩:∃ k:Nat,1+N.1=k:=⟨(1+N.1).toNat,by omega⟩
 rw [hk]
 simp only [Int.toNat_natCast]
 have lp:=ziK xs k N.2 [] l3
 generalize hP:zcu xs k N.2 []=P at *
 have c8:=zbH xs P.2 8 (by omega) (by omega) (by omega)
 have n8:=zaG xs P.2 8 (by omega)
 have l8:=zaX xs P.2 8 lp
 generalize nxt xs P.2 8=Q at *
 have cF:=zsW xs hxs Q.2 l8
 have lf:=zgJ xs Q.2 l8
 generalize zgt xs Q.2=F at *
 have c14:=zbH xs F.2 14 (by omega) (by omega) (by omega)
 have n14:=zaG xs F.2 14 (by omega)
 have l14:=zaX xs F.2 14 lf
 generalize nxt xs F.2 14=K at *
 obtain ⟨m,hm⟩:∃ m:Nat,K.1=m:=⟨K.1.toNat,by omega⟩
 rw [hm] at c14 n14 ⊢
 simp only [Int.toNat_natCast]
 generalize hS:zep xs m K.2 []=S at *
 have hw1:IntKind.i64.wrap (1+N.1)=(k:Int):=by rw [hk];exact zaB _ (by omega) (by omega)
 have hw8:IntKind.i64.wrap (1+Q.1)=1+Q.1:=zaB _ (by omega) (by omega)
 refine zgD (fun d=>if d=30 then 2 else if d=14 then 3 else 5) 6 fi9 ?_
 (repeat' (first|refine Va (fA3 @kz tq9 hw1) ?_|(with_reducible first|refine SB.c ?_ ?_<;>intro _|exact zad)|refine CK.dx [] [0] zuW cN ?_|refine dC1 zag c3 ?_|with_reducible refine zac ?_|omega))
 (refine LW.weak (zbU.nilRow 8 1 5 rfl rfl (by decide)) ?_;simp only [List.set_cons_zero,List.set_cons_succ])
 refine zbx (ι:=DrI xs P) (fun i=>⟨(jl 7 (.ref 0 0::.row 1 i.ps.length::.pv (.int .i64 i.n)::jl 73 [])),(cdO xs i.a)++[some (.row 5 (i.ps.map zgO)),none,none,none,none]⟩) (fun i=>i.n) ⟨k,N.2,[],l3,by simp;omega,hP⟩ WFn ?_
 rintro ⟨n,a,ps,ha,hn,heq⟩
 cases n with
 |succ n=>
  have hpos:((n+1:Nat):Int) > 0:=by omega
  have hwn:IntKind.i64.wrap (((n+1:Nat):Int) - 1)=(n:Int):=by rw [zaB _ (by omega) (by omega)];omega
  have cP:=zqo xs hxs a ha
  have la:=zij xs a ha
  rw [zcu] at heq
  generalize zaS xs a=q at *
  unfold pgA at cP
  have hrm:=zfj (ps.length+1) 120 (by omega)
  (repeat' (first|refine Va (fA5 @kz tq9 hpos hwn hrm) ?_|(with_reducible first|refine SB.c ?_ ?_<;>intro _|exact zad)|refine dC1 zuX cP ?_|with_reducible refine zac ?_|omega))
  exact ⟨⟨n,q.2,ps++[q.1],la,by simp;omega,heq⟩,(WTe [0,2,1,3,4,5] (by simp [kwt,zgO]) (by simp [kwt,zgO])),Nat.lt_succ_self n⟩
 |zero=>
  rw [zcu] at heq
  subst heq
  dsimp only at c8
  (repeat' (first|refine Va (fA4 @kz tq9 hw8 hm) ?_|(with_reducible first|refine SB.c ?_ ?_<;>intro _|exact zad)|refine dC1 zag c8 ?_|refine dC1 zc9 cF ?_|refine dC1 zag c14 ?_|with_reducible refine zac ?_|omega))
  (refine LW.weak (zbU.nilRow 12 4 4 rfl rfl (by decide)) ?_;simp only [List.set_cons_zero,List.set_cons_succ])
  refine zbx (ι:=DsI xs S) (fun i=>⟨(jl 7 (.ref 0 0::.row 1 ps.length::.junk::.pv (.int .i64 (1+Q.1))::.pv (.int .i64 F.1)::.row 4 i.l.length::.pv (.int .i64 i.n)::jl 69 [])),(cdO xs i.a)++[some (.row 5 (ps.map zgO)),none,none,some (.row 4 (i.l.map zcE)),none]⟩) (fun i=>i.n) ⟨m,K.2,[],l14,by simp;omega,hS⟩ WFn ?_
  rintro ⟨n,a,l,ha,hn,heq⟩
  cases n with
  |zero=>
   rw [zep] at heq
   subst heq
   (repeat' (first|refine Va tq9 ?_|(with_reducible first|refine SB.c ?_ ?_<;>intro _|exact zad)|with_reducible refine zac ?_|omega))
   refine ⟨_,(zbU.freeze 1 rfl).trans (zbU.freeze 4 rfl),?_⟩
   simp only [St.frz,zgx,frz,zgy,List.map_cons,List.map_nil,List.set_cons_zero,List.set_cons_succ,List.length_map,if_true,if_false,↓reduceIte,Nat.reduceEqDiff,eq_self,reduceCtorEq,Nat.succ_ne_self]
   (refine zaI.mk [0] ?_ ?_<;>simp [kwr,tq9])
  |succ n=>
   have hpos:((n+1:Nat):Int) > 0:=by omega
   have hwn:IntKind.i64.wrap (((n+1:Nat):Int) - 1)=(n:Int):=by rw [zaB _ (by omega) (by omega)];omega
   have d1:=zbH xs a 14 (by omega) (by omega) (by omega)
   have m1:=zaG xs a 14 (by omega)
   have e1:=zaX xs a 14 ha
   have d2:=zsW xs hxs (nxt xs a 14).2 e1
   have e2:=zgJ xs (nxt xs a 14).2 e1
   have d3:=zsW xs hxs (zgt xs (nxt xs a 14).2).2 e2
   have hb:=zgJ xs (zgt xs (nxt xs a 14).2).2 e2
   rw [zep] at heq
   unfold znI at heq
   dsimp only at heq
   generalize nxt xs a 14=u at *
   generalize zgt xs u.2=v at *
   generalize zgt xs v.2=w at *
   obtain ⟨kk,hkk⟩:∃ kk,kk=1+u.1:=⟨_,rfl⟩
   have hwk:IntKind.i64.wrap (1+u.1)=kk:=by rw [hkk];exact zaB _ (by omega) (by omega)
   rw [←hkk] at heq
   have hrm:=zfj (l.length+1) 32 (by omega)
   generalize hbb:w.2=b at *
   rcases zdz kk with ⟨h1,hsh⟩|⟨h1,hsh⟩|⟨h1,hsh⟩|⟨a1,a2,a3,a4,a5,a6,a7,a8,a9,a10,a11,hsh⟩
   ·have hx:zg1 kk [v.1,w.1]=⟨kk,0,v.1,0⟩:=by simp [zg1,hsh]
    rw [hx] at heq
    generalize hxe:(⟨kk,0,v.1,0⟩:StD)=x at heq
    rcases h1 with rfl|rfl|rfl <;>
    ·subst hxe
     (repeat' (first|refine Va (fA7 @kz tq9 hpos hwn hwk hrm hbb) ?_|(with_reducible first|refine SB.c ?_ ?_<;>intro _|exact zad)|refine dC1 zag d1 ?_|refine dC1 zc9 d2 ?_|refine dC1 zc9 d3 ?_|with_reducible refine zac ?_|omega))
     exact ⟨⟨n,b,_,hb,by simp;omega,heq⟩,(WTe [0,1,2,3,5,4] (by simp [kwt,zcE]) (by simp [kwt,zcE])),Nat.lt_succ_self n⟩
   ·have hx:zg1 kk [v.1,w.1]=⟨kk,v.1,0,w.1⟩:=by simp [zg1,hsh]
    rw [hx] at heq
    generalize hxe:(⟨kk,v.1,0,w.1⟩:StD)=x at heq
    rcases h1 with rfl|rfl|rfl <;>
    ·subst hxe
     (repeat' (first|refine Va (fA7 @kz tq9 hpos hwn hwk hrm hbb) ?_|(with_reducible first|refine SB.c ?_ ?_<;>intro _|exact zad)|refine dC1 zag d1 ?_|refine dC1 zc9 d2 ?_|refine dC1 zc9 d3 ?_|with_reducible refine zac ?_|omega))
     exact ⟨⟨n,b,_,hb,by simp;omega,heq⟩,(WTe [0,1,2,3,5,4] (by simp [kwt,zcE]) (by simp [kwt,zcE])),Nat.lt_succ_self n⟩
   ·have hx:zg1 kk [v.1,w.1]=⟨kk,v.1,0,0⟩:=by simp [zg1,hsh]
    rw [hx] at heq
    generalize hxe:(⟨kk,v.1,0,0⟩:StD)=x at heq
    rcases h1 with rfl|rfl|rfl|rfl|rfl <;>
    ·subst hxe
     (repeat' (first|refine Va (fA7 @kz tq9 hpos hwn hwk hrm hbb) ?_|(with_reducible first|refine SB.c ?_ ?_<;>intro _|exact zad)|refine dC1 zag d1 ?_|refine dC1 zc9 d2 ?_|refine dC1 zc9 d3 ?_|with_reducible refine zac ?_|omega))
     exact ⟨⟨n,b,_,hb,by simp;omega,heq⟩,(WTe [0,1,2,3,5,4] (by simp [kwt,zcE]) (by simp [kwt,zcE])),Nat.lt_succ_self n⟩
   ·have hx:zg1 kk [v.1,w.1]=⟨kk,0,0,0⟩:=by simp [zg1,hsh]
    rw [hx] at heq
    (repeat' (first|simp -implicitDefEqProofs +contextual (maxSteps:=9000000) only [kx,↓ky,tq9,simprocAttr,a1,a2,a3,a4,a5,a6,a7,a8,a9,a10,a11,hpos,hwn,hwk,hrm,hbb,kz]|(with_reducible first|refine SB.c ?_ ?_<;>intro _|exact zad)|refine dC1 zag d1 ?_|refine dC1 zc9 d2 ?_|refine dC1 zc9 d3 ?_|with_reducible refine zac ?_|omega))
    exact ⟨⟨n,b,_,hb,by simp;omega,heq⟩,(WTe [0,1,2,3,5,4] (by simp [kwt,zcE]) (by simp [kwt,zcE])),Nat.lt_succ_self n⟩
end Go.Proofs.YtfinhhblcdkpgaaGreatDoor
