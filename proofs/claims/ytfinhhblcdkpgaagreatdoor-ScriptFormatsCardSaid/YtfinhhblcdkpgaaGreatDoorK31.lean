/- A drawn program, its declarations as a slice of known capacity. No condition. -/
import Derived.Test.YtfinhhblcdkpgaaGreatDoorM2
import Derived.Test.YtfinhhblcdkpgaaGreatDoorK4
import Derived.Test.YtfinhhblcdkpgaaGreatDoorLib3
set_option maxRecDepth 100000
set_option maxHeartbeats 64000000
set_option linter.unusedSimpArgs false
set_option linter.unusedVariables false
set_option linter.defProp false
namespace Go.Proofs.YtfinhhblcdkpgaaGreatDoor
open Go Go.Abs Go.RowKit
def zc1 (p:PgD):List PVal:=[.xsl (p.vars.map zas),.slice (p.start.map zah),.slice (p.message.map zah),.slice (p.tick.map zah),.slice (p.input.map zah)]
def pgX (p:PgD):AVal:=.agg [.pv (.xsl (p.vars.map zas)),.pv (.slice (p.start.map zah)),.pv (.slice (p.message.map zah)),.pv (.slice (p.tick.map zah)),.pv (.slice (p.input.map zah))]
theorem zm7 (xs:List UInt8) (hxs:xs.length≤1000) (a:Nat) (ha:a≤xs.length):AC Tryz.prog gl 25 [.ref 0 0] (cdO xs a) (pgX (zbX xs a).1) (cdO xs (zbX xs a).2):=by
 have c1:=zaT xs a 7 (by omega) (by omega) (by omega)
 have l1:=zaG xs a 7 ha
 have b1:=zaM xs a 7 (by omega)
 have c2:=zaT xs (nxt xs a 7).2 5 (by omega) (by omega) (by omega)
 have l2:=zaG xs (nxt xs a 7).2 5 l1
 have b2:=zaM xs (nxt xs a 7).2 5 (by omega)
 have c3:=zaT xs (nxt xs (nxt xs a 7).2 5).2 3 (by omega) (by omega) (by omega)
 have l3:=zaG xs (nxt xs (nxt xs a 7).2 5).2 3 l2
 unfold zbX
 dsimp only
 generalize nxt xs a 7=m1 at *
 generalize nxt xs m1.2 5=m2 at *
 generalize nxt xs m2.2 3=m3 at *
 have d1:=zgi xs hxs 2 (by omega) 3 m3.2 (by omega) (by omega) l3
 have k1:=zcu xs 2 3 m3.2 l3
 generalize zb3 xs 2 3 m3.2=s1 at *
 have d2:=zgi xs hxs 3 (by omega) 4 s1.2 (by omega) (by omega) k1
 have k2:=zcu xs 3 4 s1.2 k1
 generalize zb3 xs 3 4 s1.2=s2 at *
 have d3:=zgi xs hxs 2 (by omega) 3 s2.2 (by omega) (by omega) k2
 have k3:=zcu xs 2 3 s2.2 k2
 generalize zb3 xs 2 3 s2.2=s3 at *
 have d4:=zgi xs hxs 2 (by omega) 2 s3.2 (by omega) (by omega) k3
 generalize zb3 xs 2 2 s3.2=s4 at *
 simp only [Int.cast_ofNat_Int] at d1 d2 d3 d4
 have hw1:IntKind.i64.wrap (m1.1 - 2)=m1.1 - 2:=zat _ (by omega) (by omega)
 have hw2:IntKind.i64.wrap (1+m2.1)=1+m2.1:=zat _ (by omega) (by omega)
 unfold pgX
 refine zay (fun d=>if d=2 then 1 else if d=17 then 999 else 2) 3 zFe ?_
 (repeat' (first|refine Va (fA4 @kz zDD hw1 hw2) ?_|(with_reducible first|refine SB.c ?_ ?_<;>intro _|exact zac)|refine dC1 zae c1 ?_|refine dC1 zae c2 ?_|refine dC1 zae c3 ?_|refine dC1 zdT d1 ?_|refine dC1 zdT d2 ?_|refine dC1 zdT d3 ?_|refine dC1 zdT d4 ?_|with_reducible refine zab ?_|omega))
 (refine zaJ.mk [0] ?_ ?_<;>simp [kwr,zDD,zt4,zas])
open Go Go.Abs
theorem zuz (codes:List UInt8):AC Tryz.prog gl 9 [.pv (.slice (codes.map zl5))] []
  (.tup [.row 1 (zg3 (codes.take 300)).ps.length,.pv (.int .i64 (zg3 (codes.take 300)).protocol),.pv (.int .i64 (zg3 (codes.take 300)).faults),.row 2 (zg3 (codes.take 300)).l.length,.ref 0 0]) (cdO (codes.take 300) (zg3 (codes.take 300)).at_++[some (.row 5 ((zg3 (codes.take 300)).ps.map zc1)),some (.row 4 ((zg3 (codes.take 300)).l.map za7))]):=by
 have cN:=zz6 codes 300 (by omega)
 have hxs:(codes.take 300).length≤1000:=by simp;omega
 generalize codes.take 300=xs at *
 have c3:=zaT xs 0 3 (by omega) (by omega) (by omega)
 have n3:=zaM xs 0 3 (by omega)
 have l3:=zaG xs 0 3 (Nat.zero_le _)
 unfold zg3
 generalize nxt xs 0 3=N at *
 obtain ⟨k,hk⟩:∃ k:Nat,1+N.1=k:=⟨(1+N.1).toNat,by omega⟩
 rw [hk]
 simp only [Int.toNat_natCast]
 have lp:=ziG xs k N.2 [] l3
 generalize hP:zcA xs k N.2 []=P at *
 have c8:=zaT xs P.2 8 (by omega) (by omega) (by omega)
 have n8:=zaM xs P.2 8 (by omega)
 have l8:=zaG xs P.2 8 lp
 generalize nxt xs P.2 8=Q at *
 have cF:=zot xs hxs Q.2 l8
 have lf:=zfz xs Q.2 l8
 generalize zfE xs Q.2=F at *
 have c14:=zaT xs F.2 14 (by omega) (by omega) (by omega)
 have n14:=zaM xs F.2 14 (by omega)
 have l14:=zaG xs F.2 14 lf
 generalize nxt xs F.2 14=K at *
 obtain ⟨m,hm⟩:∃ m:Nat,K.1=m:=⟨K.1.toNat,by omega⟩
 rw [hm] at c14 n14 ⊢
 simp only [Int.toNat_natCast]
 generalize hS:zea xs m K.2 []=S at *
 have hw1:IntKind.i64.wrap (1+N.1)=(k:Int):=by rw [hk];exact zat _ (by omega) (by omega)
 have hw8:IntKind.i64.wrap (1+Q.1)=1+Q.1:=zat _ (by omega) (by omega)
 refine zay (fun d=>if d=30 then 2 else if d=14 then 3 else 5) 6 fi9 ?_
 (repeat' (first|refine Va (fA3 @kz tq9 hw1) ?_|(with_reducible first|refine SB.c ?_ ?_<;>intro _|exact zac)|refine CK.dx [] [0] ztJ cN ?_|refine dC1 zae c3 ?_|with_reducible refine zab ?_|omega))
 (refine LW.weak (zbK.nilRow 8 1 5 rfl rfl (by decide)) ?_;simp only [List.set_cons_zero,List.set_cons_succ])
 refine za6 (ι:=DrI xs P) (fun i=>⟨(jl 7 (.ref 0 0::.row 1 i.ps.length::.pv (.int .i64 i.n)::jl 73 [])),(cdO xs i.a)++[some (.row 5 (i.ps.map zc1)),none,none,none,none]⟩) (fun i=>i.n) ⟨k,N.2,[],l3,by simp;omega,hP⟩ WFn ?_
 rintro ⟨n,a,ps,ha,hn,heq⟩
 cases n with
 |succ n=>
  have hpos:((n+1:Nat):Int) > 0:=by omega
  have hwn:IntKind.i64.wrap (((n+1:Nat):Int) - 1)=(n:Int):=by rw [zat _ (by omega) (by omega)];omega
  have cP:=zm7 xs hxs a ha
  have la:=zie xs a ha
  rw [zcA] at heq
  generalize zbX xs a=q at *
  unfold pgX at cP
  have hrm:=zej (ps.length+1) 120 (by omega)
  (repeat' (first|refine Va (fA5 @kz tq9 hpos hwn hrm) ?_|(with_reducible first|refine SB.c ?_ ?_<;>intro _|exact zac)|refine dC1 ztK cP ?_|with_reducible refine zab ?_|omega))
  exact ⟨⟨n,q.2,ps++[q.1],la,by simp;omega,heq⟩,(WTe [0,2,1,3,4,5] (by simp [kwt,zc1]) (by simp [kwt,zc1])),Nat.lt_succ_self n⟩
 |zero=>
  rw [zcA] at heq
  subst heq
  dsimp only at c8
  (repeat' (first|refine Va (fA4 @kz tq9 hw8 hm) ?_|(with_reducible first|refine SB.c ?_ ?_<;>intro _|exact zac)|refine dC1 zae c8 ?_|refine dC1 zcq cF ?_|refine dC1 zae c14 ?_|with_reducible refine zab ?_|omega))
  (refine LW.weak (zbK.nilRow 12 4 4 rfl rfl (by decide)) ?_;simp only [List.set_cons_zero,List.set_cons_succ])
  refine za6 (ι:=DsI xs S) (fun i=>⟨(jl 7 (.ref 0 0::.row 1 ps.length::.junk::.pv (.int .i64 (1+Q.1))::.pv (.int .i64 F.1)::.row 4 i.l.length::.pv (.int .i64 i.n)::jl 69 [])),(cdO xs i.a)++[some (.row 5 (ps.map zc1)),none,none,some (.row 4 (i.l.map za7)),none]⟩) (fun i=>i.n) ⟨m,K.2,[],l14,by simp;omega,hS⟩ WFn ?_
  rintro ⟨n,a,l,ha,hn,heq⟩
  cases n with
  |zero=>
   rw [zea] at heq
   subst heq
   (repeat' (first|refine Va tq9 ?_|(with_reducible first|refine SB.c ?_ ?_<;>intro _|exact zac)|with_reducible refine zab ?_|omega))
   (refine zaJ.mk [0,1,4] ?_ ?_<;>simp [kwr,tq9])
  |succ n=>
   have hpos:((n+1:Nat):Int) > 0:=by omega
   have hwn:IntKind.i64.wrap (((n+1:Nat):Int) - 1)=(n:Int):=by rw [zat _ (by omega) (by omega)];omega
   have d1:=zaT xs a 14 (by omega) (by omega) (by omega)
   have m1:=zaM xs a 14 (by omega)
   have e1:=zaG xs a 14 ha
   have d2:=zot xs hxs (nxt xs a 14).2 e1
   have e2:=zfz xs (nxt xs a 14).2 e1
   have d3:=zot xs hxs (zfE xs (nxt xs a 14).2).2 e2
   have hb:=zfz xs (zfE xs (nxt xs a 14).2).2 e2
   rw [zea] at heq
   unfold zna at heq
   dsimp only at heq
   generalize nxt xs a 14=u at *
   generalize zfE xs u.2=v at *
   generalize zfE xs v.2=w at *
   obtain ⟨kk,hkk⟩:∃ kk,kk=1+u.1:=⟨_,rfl⟩
   have hwk:IntKind.i64.wrap (1+u.1)=kk:=by rw [hkk];exact zat _ (by omega) (by omega)
   rw [←hkk] at heq
   have hrm:=zej (l.length+1) 32 (by omega)
   generalize hbb:w.2=b at *
   rcases zbS kk with ⟨h1,hsh⟩|⟨h1,hsh⟩|⟨h1,hsh⟩|⟨a1,a2,a3,a4,a5,a6,a7,a8,a9,a10,a11,hsh⟩
   ·have hx:zhj kk [v.1,w.1]=⟨kk,0,v.1,0⟩:=by simp [zhj,hsh]
    rw [hx] at heq
    generalize hxe:(⟨kk,0,v.1,0⟩:StD)=x at heq
    rcases h1 with rfl|rfl|rfl <;>
    ·subst hxe
     (repeat' (first|refine Va (fA7 @kz tq9 hpos hwn hwk hrm hbb) ?_|(with_reducible first|refine SB.c ?_ ?_<;>intro _|exact zac)|refine dC1 zae d1 ?_|refine dC1 zcq d2 ?_|refine dC1 zcq d3 ?_|with_reducible refine zab ?_|omega))
     exact ⟨⟨n,b,_,hb,by simp;omega,heq⟩,(WTe [0,1,2,3,5,4] (by simp [kwt,za7]) (by simp [kwt,za7])),Nat.lt_succ_self n⟩
   ·have hx:zhj kk [v.1,w.1]=⟨kk,v.1,0,w.1⟩:=by simp [zhj,hsh]
    rw [hx] at heq
    generalize hxe:(⟨kk,v.1,0,w.1⟩:StD)=x at heq
    rcases h1 with rfl|rfl|rfl <;>
    ·subst hxe
     (repeat' (first|refine Va (fA7 @kz tq9 hpos hwn hwk hrm hbb) ?_|(with_reducible first|refine SB.c ?_ ?_<;>intro _|exact zac)|refine dC1 zae d1 ?_|refine dC1 zcq d2 ?_|refine dC1 zcq d3 ?_|with_reducible refine zab ?_|omega))
     exact ⟨⟨n,b,_,hb,by simp;omega,heq⟩,(WTe [0,1,2,3,5,4] (by simp [kwt,za7]) (by simp [kwt,za7])),Nat.lt_succ_self n⟩
   ·have hx:zhj kk [v.1,w.1]=⟨kk,v.1,0,0⟩:=by simp [zhj,hsh]
    rw [hx] at heq
    generalize hxe:(⟨kk,v.1,0,0⟩:StD)=x at heq
    rcases h1 with rfl|rfl|rfl|rfl|rfl <;>
    ·subst hxe
     (repeat' (first|refine Va (fA7 @kz tq9 hpos hwn hwk hrm hbb) ?_|(with_reducible first|refine SB.c ?_ ?_<;>intro _|exact zac)|refine dC1 zae d1 ?_|refine dC1 zcq d2 ?_|refine dC1 zcq d3 ?_|with_reducible refine zab ?_|omega))
     exact ⟨⟨n,b,_,hb,by simp;omega,heq⟩,(WTe [0,1,2,3,5,4] (by simp [kwt,za7]) (by simp [kwt,za7])),Nat.lt_succ_self n⟩
   ·have hx:zhj kk [v.1,w.1]=⟨kk,0,0,0⟩:=by simp [zhj,hsh]
    rw [hx] at heq
    (repeat' (first|simp -implicitDefEqProofs +contextual (maxSteps:=9000000) only [kx,↓ky,tq9,simprocAttr,a1,a2,a3,a4,a5,a6,a7,a8,a9,a10,a11,hpos,hwn,hwk,hrm,hbb,kz]|(with_reducible first|refine SB.c ?_ ?_<;>intro _|exact zac)|refine dC1 zae d1 ?_|refine dC1 zcq d2 ?_|refine dC1 zcq d3 ?_|with_reducible refine zab ?_|omega))
    exact ⟨⟨n,b,_,hb,by simp;omega,heq⟩,(WTe [0,1,2,3,5,4] (by simp [kwt,za7]) (by simp [kwt,za7])),Nat.lt_succ_self n⟩
end Go.Proofs.YtfinhhblcdkpgaaGreatDoor
