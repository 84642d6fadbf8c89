/- What the laws of scripts draw. No condition. -/
import Derived.Test.YtfinhhblcdkpgaaGreatDoorLib2
import Derived.Test.YtfinhhblcdkpgaaGreatDoorM2
import Derived.Test.YtfinhhblcdkpgaaGreatDoorK4
import Derived.Test.YtfinhhblcdkpgaaGreatDoorLib4
import Derived.Test.YtfinhhblcdkpgaaGreatDoorN9
set_option maxRecDepth 100000
set_option maxHeartbeats 64000000
set_option linter.unusedSimpArgs false
set_option linter.unusedVariables false
namespace Go.Proofs.YtfinhhblcdkpgaaGreatDoor
open Go Go.Abs
theorem zAY (codes:List UInt8):AC Tryz.prog gl 9 [.pv (.slice (codes.map zol))] []
  (.tup [.pv (.slice ((zmG (codes.take 300)).ps.map zkU)),.pv (.int .i64 (zmG (codes.take 300)).protocol),.pv (.int .i64 (zmG (codes.take 300)).faults),.pv (.slice ((zmG (codes.take 300)).l.map zcw)),.ref 0 0]) (cdO (codes.take 300) (zmG (codes.take 300)).at_):=by
 have cN:=zEg codes 300 (by omega)
 have hxs:(codes.take 300).length≤1000:=by simp;omega
 generalize codes.take 300=xs at *
 have c3:=zbF xs 0 3 (by omega) (by omega) (by omega)
 have n3:=za9 xs 0 3 (by omega)
 have l3:=za0 xs 0 3 (Nat.zero_le _)
 unfold zmG
 generalize nxt xs 0 3=N at *
 obtain ⟨k,hk⟩:∃ k:Nat,1+N.1=k:=⟨(1+N.1).toNat,by omega⟩
 rw [hk]
 simp only [Int.toNat_natCast]
 have lp:=zks xs k N.2 [] l3
 generalize hP:zdo xs k N.2 []=P at *
 have c8:=zbF xs P.2 8 (by omega) (by omega) (by omega)
 have n8:=za9 xs P.2 8 (by omega)
 have l8:=za0 xs P.2 8 lp
 generalize nxt xs P.2 8=Q at *
 have cF:=zu8 xs hxs Q.2 l8
 have lf:=zic xs Q.2 l8
 generalize zhS xs Q.2=F at *
 have c14:=zbF xs F.2 14 (by omega) (by omega) (by omega)
 have n14:=za9 xs F.2 14 (by omega)
 have l14:=za0 xs F.2 14 lf
 generalize nxt xs F.2 14=K at *
 obtain ⟨m,hm⟩:∃ m:Nat,K.1=m:=⟨K.1.toNat,by omega⟩
 rw [hm] at c14 n14 ⊢
 simp only [Int.toNat_natCast]
 generalize hS:zfa xs m K.2 []=S at *
 have hw1:IntKind.i64.wrap (1+N.1)=(k:Int):=by rw [hk];exact zay _ (by omega) (by omega)
 have hw8:IntKind.i64.wrap (1+Q.1)=1+Q.1:=zay _ (by omega) (by omega)
 refine zbv (fun d=>if d=30 then 2 else if d=14 then 3 else 5) 6 fi9 ?_
 refine Wk1 (fA5 @kz tq9 hw1 (cX [] [0] zwW cN) (cX [0] [] zae c3)) ?_
 (refine LW.weak (zaY.nilRow 8 1 5 rfl rfl (by decide)) ?_;simp only [List.set_cons_zero,List.set_cons_succ])
 refine zaK (ι:=DrI xs P) (fun i=>⟨(jl 7 (.ref 0 0::.row 1 i.ps.length::.pv (.int .i64 i.n)::jl 73 [])),(cdO xs i.a)++[some (.row 5 (i.ps.map zkU)),none,none,none,none]⟩) (fun i=>i.n) ⟨k,N.2,[],l3,by simp;omega,hP⟩ WFn ?_
 rintro ⟨n,a,ps,ha,hn,heq⟩
 cases n with
 |succ n=>
  have hpos:((n+1:Nat):Int) > 0:=by omega
  have hwn:IntKind.i64.wrap (((n+1:Nat):Int) - 1)=(n:Int):=by rw [zay _ (by omega) (by omega)];omega
  have cP:=zsp xs hxs a ha
  have la:=zj6 xs a ha
  rw [zdo] at heq
  generalize zcv xs a=q at *
  unfold pgA at cP
  have hrm:=zc3 (ps.length+1) 120 (by omega)
  refine Wk1 (fA6 @kz tq9 hpos hwn hrm (cX [0] [] zwX cP)) ?_
  exact ⟨⟨n,q.2,ps++[q.1],la,by simp;omega,heq⟩,(WTe [0,2,1,3,4,5] (by simp [kwt,zkU]) (by simp [kwt,zkU])),Nat.lt_succ_self n⟩
 |zero=>
  rw [zdo] at heq
  subst heq
  dsimp only at c8
  repeat' first|refine Va (fA4 @kz tq9 hw8 hm) ?_|(with_reducible first|refine SB.c ?_ ?_<;>intro _|exact zak)|refine dC1 zae c8 ?_|refine dC1 zdT cF ?_|refine dC1 zae c14 ?_|with_reducible refine zaj ?_|omega
  (refine LW.weak (zaY.nilRow 12 4 4 rfl rfl (by decide)) ?_;simp only [List.set_cons_zero,List.set_cons_succ])
  refine zaK (ι:=DsI xs S) (fun i=>⟨(jl 7 (.ref 0 0::.row 1 ps.length::.junk::.pv (.int .i64 (1+Q.1))::.pv (.int .i64 F.1)::.row 4 i.l.length::.pv (.int .i64 i.n)::jl 69 [])),(cdO xs i.a)++[some (.row 5 (ps.map zkU)),none,none,some (.row 4 (i.l.map zcw)),none]⟩) (fun i=>i.n) ⟨m,K.2,[],l14,by simp;omega,hS⟩ WFn ?_
  rintro ⟨n,a,l,ha,hn,heq⟩
  cases n with
  |zero=>
   rw [zfa] at heq
   subst heq
   refine Wk1 tq9 ?_
   refine ⟨_,(zaY.freeze 1 rfl).trans (zaY.freeze 4 rfl),?_⟩
   simp only [St.frz,zgh,frz,zgi,List.map_cons,List.map_nil,List.set_cons_zero,List.set_cons_succ,List.length_map,if_true,if_false,↓reduceIte,Nat.reduceEqDiff,eq_self,reduceCtorEq,Nat.succ_ne_self]
   (refine zax.mk [0] ?_ ?_<;>simp [kwr,tq9])
  |succ n=>
   have hpos:((n+1:Nat):Int) > 0:=by omega
   have hwn:IntKind.i64.wrap (((n+1:Nat):Int) - 1)=(n:Int):=by rw [zay _ (by omega) (by omega)];omega
   have d1:=zbF xs a 14 (by omega) (by omega) (by omega)
   have m1:=za9 xs a 14 (by omega)
   have e1:=za0 xs a 14 ha
   have d2:=zu8 xs hxs (nxt xs a 14).2 e1
   have e2:=zic xs (nxt xs a 14).2 e1
   have d3:=zu8 xs hxs (zhS xs (nxt xs a 14).2).2 e2
   have hb:=zic xs (zhS xs (nxt xs a 14).2).2 e2
   rw [zfa] at heq
   unfold zpt at heq
   dsimp only at heq
   generalize nxt xs a 14=u at *
   generalize zhS xs u.2=v at *
   generalize zhS xs v.2=w at *
   obtain ⟨kk,hkk⟩:∃ kk,kk=1+u.1:=⟨_,rfl⟩
   have hwk:IntKind.i64.wrap (1+u.1)=kk:=by rw [hkk];exact zay _ (by omega) (by omega)
   rw [←hkk] at heq
   have hrm:=zc3 (l.length+1) 32 (by omega)
   generalize hbb:w.2=b at *
   rcases zcs kk with ⟨h1,hsh⟩|⟨h1,hsh⟩|⟨h1,hsh⟩|⟨a1,a2,a3,a4,a5,a6,a7,a8,a9,a10,a11,hsh⟩
   ·have hx:zej kk [v.1,w.1]=⟨kk,0,v.1,0⟩:=by simp [zej,hsh]
    rw [hx] at heq
    generalize hxe:(⟨kk,0,v.1,0⟩:StD)=x at heq
    rcases h1 with rfl|rfl|rfl <;>
    ·subst hxe
     repeat' first|refine Va (fA7 @kz tq9 hpos hwn hwk hrm hbb) ?_|(with_reducible first|refine SB.c ?_ ?_<;>intro _|exact zak)|refine dC1 zae d1 ?_|refine dC1 zdT d2 ?_|refine dC1 zdT d3 ?_|with_reducible refine zaj ?_|omega
     exact ⟨⟨n,b,_,hb,by simp;omega,heq⟩,(WTe [0,1,2,3,5,4] (by simp [kwt,zcw]) (by simp [kwt,zcw])),Nat.lt_succ_self n⟩
   ·have hx:zej kk [v.1,w.1]=⟨kk,v.1,0,w.1⟩:=by simp [zej,hsh]
    rw [hx] at heq
    generalize hxe:(⟨kk,v.1,0,w.1⟩:StD)=x at heq
    rcases h1 with rfl|rfl|rfl <;>
    ·subst hxe
     repeat' first|refine Va (fA7 @kz tq9 hpos hwn hwk hrm hbb) ?_|(with_reducible first|refine SB.c ?_ ?_<;>intro _|exact zak)|refine dC1 zae d1 ?_|refine dC1 zdT d2 ?_|refine dC1 zdT d3 ?_|with_reducible refine zaj ?_|omega
     exact ⟨⟨n,b,_,hb,by simp;omega,heq⟩,(WTe [0,1,2,3,5,4] (by simp [kwt,zcw]) (by simp [kwt,zcw])),Nat.lt_succ_self n⟩
   ·have hx:zej kk [v.1,w.1]=⟨kk,v.1,0,0⟩:=by simp [zej,hsh]
    rw [hx] at heq
    generalize hxe:(⟨kk,v.1,0,0⟩:StD)=x at heq
    rcases h1 with rfl|rfl|rfl|rfl|rfl <;>
    ·subst hxe
     repeat' first|refine Va (fA7 @kz tq9 hpos hwn hwk hrm hbb) ?_|(with_reducible first|refine SB.c ?_ ?_<;>intro _|exact zak)|refine dC1 zae d1 ?_|refine dC1 zdT d2 ?_|refine dC1 zdT d3 ?_|with_reducible refine zaj ?_|omega
     exact ⟨⟨n,b,_,hb,by simp;omega,heq⟩,(WTe [0,1,2,3,5,4] (by simp [kwt,zcw]) (by simp [kwt,zcw])),Nat.lt_succ_self n⟩
   ·have hx:zej kk [v.1,w.1]=⟨kk,0,0,0⟩:=by simp [zej,hsh]
    rw [hx] at heq
    repeat' first|simp -implicitDefEqProofs +contextual (maxSteps:=9000000) only [kx,↓ky,tq9,simprocAttr,a1,a2,a3,a4,a5,a6,a7,a8,a9,a10,a11,hpos,hwn,hwk,hrm,hbb,kz]|(with_reducible first|refine SB.c ?_ ?_<;>intro _|exact zak)|refine dC1 zae d1 ?_|refine dC1 zdT d2 ?_|refine dC1 zdT d3 ?_|with_reducible refine zaj ?_|omega
    exact ⟨⟨n,b,_,hb,by simp;omega,heq⟩,(WTe [0,1,2,3,5,4] (by simp [kwt,zcw]) (by simp [kwt,zcw])),Nat.lt_succ_self n⟩
theorem zqZ (n:Nat):∀ e:Ex,szE e≤n→n≤1000000000→AC Tryz.prog gl 68 [exP e,exP e] [] (.pv (.bool true)) []:=by
 induction n with
 |zero=>intro e h;have:=zbw e;omega
 |succ n ih=>
  intro e hd hn
  have hsz:=zgv e
  have hal:=zdV e.args
  unfold exP
  refine zas (fun d=>if d=2 then 0 else 1) 2 zJT ?_
  refine Wk1 (fA2 zGr @bne_self_eq_false.{0}) ?_
  refine zaK (ι:={k:Nat // k≤e.args.length}) (fun i=>⟨(.junk::.junk::.ref 0 0::.ref 1 0::.junk::.pv (.int .i64 i.1)::jl 61 []),[some (.cells [.pv (.int .i64 e.op),.pv (.int .i64 e.value),.pv (.str e.name),.pv (.int .i64 e.slot),.pv (.int .i64 e.size),.pv (.slice (e.args.map zbq))]),some (.cells [.pv (.int .i64 e.op),.pv (.int .i64 e.value),.pv (.str e.name),.pv (.int .i64 e.slot),.pv (.int .i64 e.size),.pv (.slice (e.args.map zbq))])]⟩) (fun i=>e.args.length - i.1) ⟨0,by simp⟩ WFn ?_
  rintro ⟨k,hk⟩
  by_cases hlt:k<e.args.length
  ·have hlt':(k:Int)<e.args.length:=by omega
   have hget:=zaE zbq e.args k hlt
   have hdx:=zcP e.args e.args[k] (List.getElem_mem hlt)
   generalize hx:e.args[k]=x at *
   have hxe:=zaz x
   have hic:=ih x (by omega) (by omega)
   have hw:=zaP k (by omega)
   refine Wk1 (fA7 zGr hlt' hlt hget hxe hw (CE.mk zl2 hic)) ?_
   exact ⟨⟨k+1,by omega⟩,WFn,by show e.args.length - (k+1)<e.args.length - k;omega⟩
  ·have hlt':¬ (k:Int)<e.args.length:=by omega
   refine Wk0 (fA2 zGr hlt')
theorem zq0 (l:List Sm) (hl:l.length≤1000000000) (cE:∀ s ∈ l,AC Tryz.prog gl 68 [exP s.place,exP s.place] [] (.pv (.bool true)) []∧AC Tryz.prog gl 68 [exP s.value,exP s.value] [] (.pv (.bool true)) [])
  (cL:∀ s ∈ l,AC Tryz.prog gl 45 [.pv (.slice (s.body.map zah)),.pv (.slice (s.body.map zah))] [] (.pv (.bool true)) []∧AC Tryz.prog gl 45 [.pv (.slice (s.els.map zah)),.pv (.slice (s.els.map zah))] [] (.pv (.bool true)) []) :
  AC Tryz.prog gl 45 [.pv (.slice (l.map zah)),.pv (.slice (l.map zah))] [] (.pv (.bool true)) []:=by
 refine zas (fun d=>if d=6 then 0 else 1) 2 zJL ?_
 refine Wk1 (fA2 zGq @bne_self_eq_false.{0}) ?_
 refine zaK (ι:={k:Nat // k≤l.length}) (fun i=>⟨(.pv (.slice (l.map zah))::.pv (.slice (l.map zah))::jl 3 (.pv (.int .i64 i.1)::jl 79 [])),[none,none]⟩) (fun i=>l.length - i.1) ⟨0,by simp⟩ WFn ?_
 rintro ⟨k,hk⟩
 by_cases hlt:k<l.length
 ·have hlt':(k:Int)<l.length:=by omega
  have hget:=zaE zah l k hlt
  have hmem:l[k] ∈ l:=List.getElem_mem hlt
  obtain ⟨cP,cV⟩:=cE l[k] hmem
  obtain ⟨cB,cN⟩:=cL l[k] hmem
  clear cE cL
  generalize hx:l[k]=x at *
  have hxe:=zag x
  have hw:=zaP k (by omega)
  repeat' first|refine Va (fA7 zGq @bne_self_eq_false.{0} hlt' hlt hget hxe hw) ?_|(with_reducible first|refine SB.c ?_ ?_<;>intro _|exact zak)|refine CK.d0 zl2 cP ?_|refine CK.d0 zl2 cV ?_|refine CK.d0 zfV cB ?_|refine CK.d0 zfV cN ?_|with_reducible refine zaj ?_|omega
  exact ⟨⟨k+1,by omega⟩,WFn,by show l.length - (k+1)<l.length - k;omega⟩
 ·have hlt':¬ (k:Int)<l.length:=by omega
  refine Wk0 (fA2 zGq hlt')
theorem zsq (n:Nat):n≤1000000000→∀ l:List Sm,zbz l≤n→AC Tryz.prog gl 45 [.pv (.slice (l.map zah)),.pv (.slice (l.map zah))] [] (.pv (.bool true)) []:=by
 induction n with
 |zero=>intro hn l hl;exact zq0 l (by have:=zbO l;omega) (fun s hs=>by have:=zaV l s hs;have:=zcm s;omega) (fun s hs=>by have:=zaV l s hs;have:=zcm s;omega)
 |succ n ih=>
  intro hn l hl
  exact zq0 l (by have:=zbO l;omega) (fun s hs=>by
   have:=zaV l s hs;have:=zea s
   exact ⟨zqZ n s.place (by omega) (by omega),zqZ n s.value (by omega) (by omega)⟩) (fun s hs=>by
   have:=zaV l s hs;have:=zea s;have:=zbw s.place
   exact ⟨ih (by omega) s.body (by omega),ih (by omega) s.els (by omega)⟩)
theorem zjc (l:List Sm) (hl:zbz l≤1000000000):AC Tryz.prog gl 45 [.pv (.slice (l.map zah)),.pv (.slice (l.map zah))] [] (.pv (.bool true)) []:=zsq _ (Nat.le_refl _) l hl
end Go.Proofs.YtfinhhblcdkpgaaGreatDoor
