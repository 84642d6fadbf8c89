/- The reader of a script: all of it. No condition. -/
import Derived.Test.YtfinhhblcdkpgaaGreatDoorLib2
import Derived.Test.YtfinhhblcdkpgaaGreatDoorK16
import Derived.Test.YtfinhhblcdkpgaaGreatDoorLib3
import Derived.Test.YtfinhhblcdkpgaaGreatDoorT0
import Derived.Test.YtfinhhblcdkpgaaGreatDoorP4
import Derived.Test.YtfinhhblcdkpgaaGreatDoorN12
import Derived.Test.YtfinhhblcdkpgaaGreatDoorS5
set_option maxRecDepth 100000
set_option maxHeartbeats 64000000
set_option linter.unusedSimpArgs false
set_option linter.unusedVariables false
namespace Go.Proofs.YtfinhhblcdkpgaaGreatDoor
open Go Go.Abs Go.RowKit
def zpi (ls:List (List UInt8)) (torn:Bool):AVal × List (Option AObj):=
 if (zem ls torn).2.2≠0 then (.tup [.pv (.int .i64 (zem ls torn).2.1),.pv (.int .i64 (zem ls torn).2.2)],[some .dead])
 else (.tup [.pv (.int .i64 0),.pv (.int .i64 0)],rdO ls torn ls.length (zem ls torn).1.codes (zem ls torn).1.protocol (zem ls torn).1.faults (zem ls torn).1.steps)
theorem zcL {ls:List (List UInt8)} {torn:Bool} {a e:Int} (h:zem ls torn=(sc0,a,e)) (he:e≠0):zpi ls torn=(.tup [.pv (.int .i64 a),.pv (.int .i64 e)],[some .dead]):=by
 unfold zpi
 rw [h,if_pos he]
theorem zqP {ls:List (List UInt8)} {torn:Bool} {d:ScD} (h:zem ls torn=(d,0,0)):zpi ls torn=(.tup [.pv (.int .i64 0),.pv (.int .i64 0)],rdO ls torn ls.length d.codes d.protocol d.faults d.steps):=by
 unfold zpi
 rw [h,if_neg (by simp)]
theorem zAT (ls:List (List UInt8)) (torn:Bool) (hl:ls.length≤1000000) (hb:zkT ls≤100000) :
  AC Tryz.prog gl 41 [.ref 0 0] (rdN ls torn 0 0 0) (zpi ls torn).1 (zpi ls torn).2:=by
 have hln:∀ k,(ls.getD k []).length≤100000:=by
  intro k
  have key:∀ (l:List (List UInt8)) (k:Nat),(l.getD k []).length≤zkT l:=by
   intro l
   induction l with
   |nil=>intro k;simp
   |cons a r ih=>
    intro k
    rw [zce]
    cases k with
    |zero=>simp;omega
    |succ k=>have:=ih k;simp at this ⊢;omega
  have:=key ls k
  omega
 have hsd:∀ k,zkT (ls.drop k)≤1000000:=by
  intro k
  have key:∀ (l:List (List UInt8)) (k:Nat),zkT (l.drop k)≤zkT l:=by
   intro l
   induction l with
   |nil=>intro k;simp
   |cons a r ih=>
    intro k
    cases k with
    |zero=>simp
    |succ k=>have:=ih k;rw [zce];simp at this ⊢;omega
  have:=key ls k
  omega
 have hpos0:(zc1 (ls.getD 0 []) 0).2.2=true→0<ls.length:=by
  intro h
  cases ls with
  |nil=>exact absurd h (by decide)
  |cons a r=>simp
 generalize hG:zpi ls torn=G
 have cN0:=zr3 ls torn 0 0 (by omega)
 have cF:=zuK ls torn 1 0 (ls.getD 0 []) (hln 0)
 have hS:zem ls torn=if (zc1 (ls.getD 0 []) 0).2.2=false then (sc0,1,1)
  else match zcr ls.length (ls.drop 1) 2 [] with
  |.bad a e=>(sc0,a,e)
  |.ok cs r a=>if (zbX torn r a []).2.2≠0 then (sc0,(zbX torn r a []).2.1,(zbX torn r a []).2.2)
   else (⟨cs,(zc1 (ls.getD 0 []) 0).1,(zc1 (ls.getD 0 []) 0).2.1,(zbX torn r a []).1⟩,0,0):=rfl
 generalize ls.getD 0 []=l0 at *
 generalize zc1 l0 0=F at *
 cases hF:F.2.2
 ·rw [hF,if_pos rfl] at hS
  have:=zcL hS (by decide)
  rw [hG] at this
  subst this
  rw [hF] at cF
  refine zat (fun d=>if d=12 then 4 else 5) 6 zH4 ?_
  refine Wk1 (fA4 @kz zhR (cX [0] [] zbt cN0) (cX [0] [] zp9 cF)) ?_
  (refine zax.mk [0] ?_ ?_<;>simp [kwr,zhR])
 have hpos:=hpos0 hF
 rw [hF,if_neg (by simp)] at hS
 rw [hF] at cF
 generalize hR:zcr ls.length (ls.drop 1) 2 []=R at hS
 refine zat (fun d=>if d=12 then 4 else 5) 6 zH4 ?_
 refine Wk1 (fA4 @kz zhR (cX [0] [] zbt cN0) (cX [0] [] zp9 cF)) ?_
 (refine LW.weak (zaY.nilRowC 0 3 1 5 rfl rfl rfl (by decide)) ?_;simp only [List.set_cons_zero,List.set_cons_succ])
 (refine LW.weak (zaY.nilRowC 0 6 2 4 rfl rfl rfl (by decide)) ?_;simp only [List.set_cons_zero,List.set_cons_succ])
 refine zaK (ι:=RqI ls R) (fun i=>⟨(.ref 0 0::jl 122 []),(rdO ls torn i.k i.cs F.1 F.2.1 [])++[none,none,none]⟩) (fun i=>ls.length - i.k) ⟨1,[],ls.length,by omega,by omega,by omega,by simp,hR⟩ WFn ?_
 intro i
 have cN:=zkg ls torn i.k i.cs F.1 F.2.1 [] (by have:=i.hk;omega) (by omega)
 by_cases hlt:i.k<ls.length
 ·rw [decide_eq_true hlt] at cN
  by_cases hp:ls.getD i.k []=[112,114,111,99,101,115,115]
  ·rw [hp] at cN
   have cP:=zsh ls torn (i.k+1) i.cs F.1 F.2.1 [] (by omega) hl i.hcs (hsd _)
   by_cases h5:5≤i.cs.length
   ·rw [zlp h5] at cP
    rw [i.many hlt hp h5] at hS
    have:=zcL hS (by decide)
    rw [hG] at this
    subst this
    refine Wk1 (fA4 @kz zhR (cX [0,1,2] [] zbt cN) (cX [0,1,2] [] ziR cP)) ?_
    (refine zax.mk [0] ?_ ?_<;>simp [kwr,zhR])
   ·cases hc:zcq (ls.drop (i.k+1)) [] with
    |none=>
     rw [zlq h5 hc] at cP
     rw [i.none hlt hp h5 hc] at hS
     have:=zcL hS (by decide)
     rw [hG] at this
     subst this
     refine Wk1 (fA4 @kz zhR (cX [0,1,2] [] zbt cN) (cX [0,1,2] [] ziR cP)) ?_
     (refine zax.mk [0] ?_ ?_<;>simp [kwr,zhR])
    |some q=>
     obtain ⟨b,r⟩:=q
     by_cases he:(zek b).2=0
     ·rw [zqO h5 hc he] at cP
      have e1:(i.next hlt hp h5 hc he).k=ls.length - r.length:=rfl
      have e2:(i.next hlt hp h5 hc he).cs=i.cs++[(zek b).1]:=rfl
      have hrl:=zc2 _ _ _ _ hc
      rw [List.length_drop] at hrl
      refine Wk1 (fA4 @kz zhR (cX [0,1,2] [] zbt cN) (cX [0,1,2] [3] ziR cP)) ?_
      exact ⟨i.next hlt hp h5 hc he,(WMe [0,3,2,3,4,5] (by simp [kwt,e1,e2]) (by simp [kwt,e1,e2])),by show _ - (i.next hlt hp h5 hc he).k<_;rw [e1];omega⟩
     ·rw [zkp h5 hc he] at cP
      rw [i.body hlt hp h5 hc he] at hS
      have:=zcL hS he
      rw [hG] at this
      subst this
      have he':((zek b).2 != 0)=true:=by simpa using he
      refine Wk1 (fA5 @kz zhR he' (cX [0,1,2] [] zbt cN) (cX [0,1,2] [] ziR cP)) ?_
      (refine zax.mk [0] ?_ ?_<;>simp [kwr,zhR])
  ·have hp':(ls.getD i.k []==[112,114,111,99,101,115,115])=false:=by simpa using hp
   by_cases hs:ls.getD i.k []=[115,116,101,112,115]∧i.cs≠[]
   ·obtain ⟨hs,hcs⟩:=hs
    rw [hs] at cN
    have hc0:((i.cs.length:Int)==0)=false:=by
     have:=List.length_pos_iff.2 hcs
     simp;exact hcs
    rw [i.steps hlt hs hcs] at hS
    dsimp only at hS
    generalize hT:zbX torn (ls.drop (i.k+1)) (((i.k+1:Nat):Int)+1) []=T at hS
    have hsp:(([115,116,101,112,115]:List UInt8)==[112,114,111,99,101,115,115])=false:=by decide
    refine Wk1 (fA5 @kz zhR hc0 hsp (cX [0,1,2] [] zbt cN)) ?_
    generalize i.cs=cs at *
    refine zaK (ι:=RsI ls torn T) (fun j=>⟨(.ref 0 0::jl 122 []),(rdO ls torn j.k cs F.1 F.2.1 j.xs)++[none,none,none]⟩) (fun j=>ls.length - j.k) ⟨i.k+1,[],hlt,by simp,hT⟩ WFn ?_
    intro j
    have cN:=zkg ls torn j.k cs F.1 F.2.1 j.xs (by have:=j.hk;omega) (by omega)
    have cS:=zxC (ls.getD j.k []) (hln _)
    by_cases hjt:j.k<ls.length
    ·have hjt':(j.k:Int)<ls.length:=by omega
     rw [decide_eq_true hjt] at cN
     cases hx:zgn (ls.getD j.k []) with
     |none=>
      have hg:zcW (ls.getD j.k [])=(st0,false):=by unfold zcW;rw [hx]
      rw [hg] at cS
      unfold stA at cS
      rw [j.none hjt hx,if_pos (show (1:Int)≠0 by decide)] at hS
      dsimp only at hS
      have:=zcL hS (by decide)
      rw [hG] at this
      subst this
      refine Wk1 (fA5 @kz zhR hjt' (cX [0,1,2] [] zbt cN) (CE.mk ziS cS)) ?_
      (refine zax.mk [0] ?_ ?_<;>simp [kwr,zhR])
     |some x=>
      have hg:zcW (ls.getD j.k [])=(x,true):=by unfold zcW;rw [hx]
      rw [hg] at cS
      unfold stA at cS
      by_cases h4:400≤j.xs.length
      ·have h4':(j.xs.length:Int)≥400:=by omega
       rw [j.many hjt hx h4,if_pos (show (4:Int)≠0 by decide)] at hS
       dsimp only at hS
       have:=zcL hS (by decide)
       rw [hG] at this
       subst this
       refine Wk1 (fA6 @kz zhR hjt' h4' (cX [0,1,2] [] zbt cN) (CE.mk ziS cS)) ?_
       (refine zax.mk [0] ?_ ?_<;>simp [kwr,zhR])
      ·have h4':¬ (j.xs.length:Int)≥400:=by omega
       have e1:(j.next hjt hx h4).k=j.k+1:=rfl
       have e2:(j.next hjt hx h4).xs=j.xs++[x]:=rfl
       have hrm:=zc3 (j.xs.length+1) 32 (by omega)
       refine Wk1 (fA7 @kz zhR hjt' h4' hrm (cX [0,1,2] [] zbt cN) (CE.mk ziS cS)) ?_
       exact ⟨j.next hjt hx h4,(WTe [0,1,5,3,4,2] (by simp [kwt,e1,e2,zcw]) (by simp [kwt,e1,e2,zcw])),by show _ - (j.next hjt hx h4).k<_;rw [e1];omega⟩
    ·have hjt':¬ (j.k:Int)<ls.length:=by omega
     rw [decide_eq_false hjt] at cN
     cases torn with
     |true=>
      generalize zcW (ls.getD j.k [])=g at cS
      unfold stA at cS
      rw [j.cut hjt rfl,if_pos (show (1:Int)≠0 by decide)] at hS
      dsimp only at hS
      have:=zcL hS (by decide)
      rw [hG] at this
      subst this
      refine Wk1 (fA5 @kz zhR hjt' (cX [0,1,2] [] zbt cN) (CE.mk ziS cS)) ?_
      (refine zax.mk [0] ?_ ?_<;>simp [kwr,zhR])
     |false=>
      have hjk:j.k=ls.length:=by have:=j.hk;omega
      rw [j.fin hjt rfl,if_neg (show ¬ (0:Int)≠0 by decide)] at hS
      dsimp only at hS
      have:=zqP hS
      rw [hG] at this
      subst this
      have hirr:¬ ((ls.length:Int)<ls.length):=by omega
      refine Wk1 (fA3 zhR hirr hjk) ?_
      (refine zax.mk [0,1,2] ?_ ?_<;>simp [kwr,zhR])
   ·have hor:ls.getD i.k []≠[115,116,101,112,115]∨i.cs=[]:=by
     by_cases h1:ls.getD i.k []=[115,116,101,112,115]
     ·right
      by_cases h2:i.cs=[]
      ·exact h2
      ·exact absurd ⟨h1,h2⟩ hs
     ·exact .inl h1
    rw [i.bad hlt hp hor] at hS
    have:=zcL hS (by decide)
    rw [hG] at this
    subst this
    rcases hor with h1|h1
    ·have h1':(ls.getD i.k []==[115,116,101,112,115])=false:=by simpa using h1
     refine Wk1 (fA5 @kz zhR hp' h1' (cX [0,1,2] [] zbt cN)) ?_
     (refine zax.mk [0] ?_ ?_<;>simp [kwr,zhR])
    ·rw [h1] at cN
     by_cases h2:ls.getD i.k []=[115,116,101,112,115]
     ·have h2':(ls.getD i.k []==[115,116,101,112,115])=true:=by simpa using h2
      refine Wk1 (fA6 @kz zhR hp' h2' h1 (cX [0,1,2] [] zbt cN)) ?_
      (refine zax.mk [0] ?_ ?_<;>simp [kwr,zhR])
     ·have h2':(ls.getD i.k []==[115,116,101,112,115])=false:=by simpa using h2
      refine Wk1 (fA6 @kz zhR hp' h2' h1 (cX [0,1,2] [] zbt cN)) ?_
      (refine zax.mk [0] ?_ ?_<;>simp [kwr,zhR])
 ·rw [decide_eq_false hlt] at cN
  rw [i.out hlt] at hS
  have:=zcL hS (by decide)
  rw [hG] at this
  subst this
  refine Wk1 (fA3 @kz zhR (cX [0,1,2] [] zbt cN)) ?_
  (refine zax.mk [0] ?_ ?_<;>simp [kwr,zhR])
theorem zn3 (s:List UInt8) (hsl:s.length≤4000000000):AC Tryz.prog gl 20 [.pv (.str s)] [] (scA (zmn s)) []:=by
 have hS:=zph s
 generalize zmn s=G at *
 by_cases hl:65536<s.length
 ·have hl':(s.length:Int) > 65536:=by omega
  rw [if_pos hl] at hS
  subst hS
  refine zas (fun d=>if d=2 then 0 else 1) 4 zGP ?_
  refine Wk0 (fA4 zGm hl' @scA.eq_1 @sc0.eq_1)
 rw [if_neg hl] at hS
 have hl':¬ (s.length:Int) > 65536:=by omega
 obtain ⟨b1,b2⟩:=zls s
 have cR:=zAT (zcK s) (zgo s) (by omega) (by omega)
 have cP:=zmi s 10 (by omega)
 have hp:0<(zal 10 s).length:=List.length_pos_iff.2 (zbM 10 s)
 have hnum:=zhG 10 s
 have htk:=zpm s
 obtain ⟨t1,t2⟩:=zsl s
 have hwn:IntKind.i64.wrap (((zal 10 s).length:Int) - 1)=(((zal 10 s).length - 1:Nat):Int):=by rw [zay _ (by omega) (by omega)];omega
 have c1:(zal 10 s).length - 1<(zal 10 s).length:=by omega
 have c2:(((zal 10 s).length - 1:Nat):Int)≤((zal 10 s).length:Int):=by omega
 generalize (zal 10 s).getLast (zbM 10 s)=last at *
 generalize zal 10 s=L at *
 by_cases he:(zem (zcK s) (zgo s)).2.2=0
 ·obtain ⟨d,hd⟩:=zxQ _ _ he
  rw [zqP hd] at cR
  rw [hd] at hS
  subst hS
  refine zas (fun d=>if d=2 then 0 else 1) 4 zGP ?_
  refine Wk1 (zhQ @kz zGm hl' htk t1 t2 hwn c1 c2 @Bool.not_not @scA.eq_1 (CE.mk zfU cP) (cX [1] [2,3] zp7 cR)) ?_
  all_goals rfl
 ·obtain ⟨a,e,hd,he0⟩:=zu2 _ _ he
  rw [zcL hd he0] at cR
  rw [hd] at hS
  subst hS
  have he':(e != 0)=true:=by simpa using he0
  refine zas (fun d=>if d=2 then 0 else 1) 4 zGP ?_
  refine Wk0 (zBe @kz zGm hl' htk t1 t2 hwn c1 c2 @Bool.not_not he' @scA.eq_1 @sc0.eq_1 (CE.mk zfU cP) (cX [1] [2,3] zp7 cR))
def exS:List UInt8:=[112,114,111,116,111,99,111,108,32,99,97,117,115,97,108,32,49,10,112,114,111,99,101,115,115,10,111,110,32,115,116,97,114,116,32,123,32,111,117,116,112,117,116,32,49,59,32,125,10,101,110,100,10,115,116,101,112,115,10,116,105,99,107,32,48,32,53,10,99,111,109,109,105,116,10]
theorem zEf:zmn exS=(⟨[⟨[],[smE 6 [] exZ (exC 1) [] []],[],[],[]⟩],8,1,[⟨2,0,0,5⟩,⟨13,0,0,0⟩]⟩,0,0):=by kernel_rfl
theorem zqT:AC Tryz.prog gl 8 [] [] (.pv (.bool true)) []:=by
 have c:=zn3 exS (by decide)
 rw [zEf] at c
 have e1:zcw ⟨2,0,0,5⟩=[.int .i64 2,.int .i64 0,.int .i64 0,.int .i64 5]:=rfl
 have e2:zcw ⟨13,0,0,0⟩=[.int .i64 13,.int .i64 0,.int .i64 0,.int .i64 0]:=rfl
 unfold exS scA at c
 refine zas (fun _=>0) 1 fi8 ?_
 repeat' first|refine Va (fA4 tq8 e1 e2 @List.append_eq.{0}) ?_|(with_reducible first|refine SB.c ?_ ?_<;>intro _|exact zak)|refine CK.d0 zp3 c ?_|with_reducible refine zaj ?_|omega
theorem zqU {s:Sm} (hg:zfz s=true):(1≤s.kind∧s.kind≤6)∧((s.kind=2∨s.kind=5)→zb2 s.place=true)∧zb2 s.value=true∧zaA s.body=true∧zaA s.els=true∧(s.kind≠3→s.els=[]):=by
 rw [zht] at hg
 simp only [Bool.and_eq_true,zjT,decide_eq_true_eq] at hg
 refine ⟨⟨hg.1.1.1.1.1.1.1.1,hg.1.1.1.1.1.1.1.2⟩,fun h=>?_,hg.2.1.1,hg.2.1.2,hg.2.2,fun h=>?_⟩
 ·have hp:=hg.1.1.1.2
  have hc:(s.kind==2 || s.kind==5)=true:=by rcases h with h|h<;>simp [h]
  simpa only [hc,if_true] using hp
 ·have he:=hg.1.2
  have h3:(s.kind != 3)=true:=by simpa using h
  rw [h3] at he
  simp at he
  exact he
end Go.Proofs.YtfinhhblcdkpgaaGreatDoor
