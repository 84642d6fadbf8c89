/- The reader of a script: all of it. No condition. -/
import Derived.Test.YtfinhhblcdkpgaaGreatDoorK16
import Derived.Test.YtfinhhblcdkpgaaGreatDoorLib3
import Derived.Test.YtfinhhblcdkpgaaGreatDoorLib4
import Derived.Test.YtfinhhblcdkpgaaGreatDoorT0
import Derived.Test.YtfinhhblcdkpgaaGreatDoorLib2
set_option maxRecDepth 100000
set_option maxHeartbeats 64000000
set_option linter.unusedSimpArgs false
set_option linter.unusedVariables false
set_option linter.defProp false
namespace Go.Proofs.YtfinhhblcdkpgaaGreatDoor
open Go Go.Abs Go.RowKit
def zoL (ls:List (List UInt8)) (torn:Bool):AVal × List (Option AObj):=
 if (zdM ls torn).2.2≠0 then (.tup [.pv (.int .i64 (zdM ls torn).2.1),.pv (.int .i64 (zdM ls torn).2.2)],[some .dead])
 else (.tup [.pv (.int .i64 0),.pv (.int .i64 0)],rdO ls torn ls.length (zdM ls torn).1.codes (zdM ls torn).1.protocol (zdM ls torn).1.faults (zdM ls torn).1.steps)
theorem zcy {ls:List (List UInt8)} {torn:Bool} {a e:Int} (h:zdM ls torn=(sc0,a,e)) (he:e≠0):zoL ls torn=(.tup [.pv (.int .i64 a),.pv (.int .i64 e)],[some .dead]):=by
 unfold zoL
 rw [h,if_pos he]
theorem zpZ {ls:List (List UInt8)} {torn:Bool} {d:ScD} (h:zdM ls torn=(d,0,0)):zoL ls torn=(.tup [.pv (.int .i64 0),.pv (.int .i64 0)],rdO ls torn ls.length d.codes d.protocol d.faults d.steps):=by
 unfold zoL
 rw [h,if_neg (by simp)]
theorem zzy (ls:List (List UInt8)) (torn:Bool) (hl:ls.length≤1000000) (hb:zkn ls≤100000) :
  AC Tryz.prog gl 41 [.ref 0 0] (rdN ls torn 0 0 0) (zoL ls torn).1 (zoL ls torn).2:=by
 have hln:∀ k,(ls.getD k []).length≤100000:=by
  intro k
  have key:∀ (l:List (List UInt8)) (k:Nat),(l.getD k []).length≤zkn l:=by
   intro l
   induction l with
   |nil=>intro k;simp
   |cons a r ih=>
    intro k
    rw [zb5]
    cases k with
    |zero=>simp;omega
    |succ k=>have:=ih k;simp at this ⊢;omega
  have:=key ls k
  omega
 have hsd:∀ k,zkn (ls.drop k)≤1000000:=by
  intro k
  have key:∀ (l:List (List UInt8)) (k:Nat),zkn (l.drop k)≤zkn l:=by
   intro l
   induction l with
   |nil=>intro k;simp
   |cons a r ih=>
    intro k
    cases k with
    |zero=>simp
    |succ k=>have:=ih k;rw [zb5];simp at this ⊢;omega
  have:=key ls k
  omega
 have hpos0:(zcx (ls.getD 0 []) 0).2.2=true→0<ls.length:=by
  intro h
  cases ls with
  |nil=>exact absurd h (by decide)
  |cons a r=>simp
 generalize hG:zoL ls torn=G
 have cN0:=zq0 ls torn 0 0 (by omega)
 have cF:=ztx ls torn 1 0 (ls.getD 0 []) (hln 0)
 have hS:zdM ls torn=if (zcx (ls.getD 0 []) 0).2.2=false then (sc0,1,1)
  else match zca ls.length (ls.drop 1) 2 [] with
  |.bad a e=>(sc0,a,e)
  |.ok cs r a=>if (zbN torn r a []).2.2≠0 then (sc0,(zbN torn r a []).2.1,(zbN torn r a []).2.2)
   else (⟨cs,(zcx (ls.getD 0 []) 0).1,(zcx (ls.getD 0 []) 0).2.1,(zbN torn r a []).1⟩,0,0):=rfl
 generalize ls.getD 0 []=l0 at *
 generalize zcx l0 0=F at *
 cases hF:F.2.2
 ·rw [hF,if_pos rfl] at hS
  have:=zcy hS (by decide)
  rw [hG] at this
  subst this
  rw [hF] at cF
  refine zax (fun d=>if d=12 then 4 else 5) 6 zGs ?_
  repeat' first|refine Va (fA2 @kz zhh) ?_|(with_reducible first|refine SB.c ?_ ?_<;>intro _|exact zad)|refine dC1 zbo cN0 ?_|refine dC1 zpp cF ?_|with_reducible refine zac ?_|omega
  (refine zay.mk [0] ?_ ?_<;>simp [kwr,zhh])
 have hpos:=hpos0 hF
 rw [hF,if_neg (by simp)] at hS
 rw [hF] at cF
 generalize hR:zca ls.length (ls.drop 1) 2 []=R at hS
 refine zax (fun d=>if d=12 then 4 else 5) 6 zGs ?_
 repeat' first|refine Va (fA2 @kz zhh) ?_|(with_reducible first|refine SB.c ?_ ?_<;>intro _|exact zad)|refine dC1 zbo cN0 ?_|refine dC1 zpp cF ?_|with_reducible refine zac ?_|omega
 (refine LW.weak (za0.nilRowC 0 3 1 5 rfl rfl rfl (by decide)) ?_;simp only [List.set_cons_zero,List.set_cons_succ])
 (refine LW.weak (za0.nilRowC 0 6 2 4 rfl rfl rfl (by decide)) ?_;simp only [List.set_cons_zero,List.set_cons_succ])
 refine zaI (ι:=RqI ls R) (fun i=>⟨(.ref 0 0::jl 122 []),(rdO ls torn i.k i.cs F.1 F.2.1 [])++[none,none,none]⟩) (fun i=>ls.length - i.k) ⟨1,[],ls.length,by omega,by omega,by omega,by simp,hR⟩ WFn ?_
 intro i
 have cN:=zjE ls torn i.k i.cs F.1 F.2.1 [] (by have:=i.hk;omega) (by omega)
 by_cases hlt:i.k<ls.length
 ·rw [decide_eq_true hlt] at cN
  by_cases hp:ls.getD i.k []=[112,114,111,99,101,115,115]
  ·rw [hp] at cN
   have cP:=zrj ls torn (i.k+1) i.cs F.1 F.2.1 [] (by omega) hl i.hcs (hsd _)
   by_cases h5:5≤i.cs.length
   ·rw [zkW h5] at cP
    rw [i.many hlt hp h5] at hS
    have:=zcy hS (by decide)
    rw [hG] at this
    subst this
    repeat' first|refine Va (fA2 @kz zhh) ?_|(with_reducible first|refine SB.c ?_ ?_<;>intro _|exact zad)|refine CK.dx [0,1,2] [] zbo cN ?_|refine CK.dx [0,1,2] [] zig cP ?_|with_reducible refine zac ?_|omega
    (refine zay.mk [0] ?_ ?_<;>simp [kwr,zhh])
   ·cases hc:zbV (ls.drop (i.k+1)) [] with
    |none=>
     rw [zkX h5 hc] at cP
     rw [i.none hlt hp h5 hc] at hS
     have:=zcy hS (by decide)
     rw [hG] at this
     subst this
     repeat' first|refine Va (fA2 @kz zhh) ?_|(with_reducible first|refine SB.c ?_ ?_<;>intro _|exact zad)|refine CK.dx [0,1,2] [] zbo cN ?_|refine CK.dx [0,1,2] [] zig cP ?_|with_reducible refine zac ?_|omega
     (refine zay.mk [0] ?_ ?_<;>simp [kwr,zhh])
    |some q=>
     obtain ⟨b,r⟩:=q
     by_cases he:(zd7 b).2=0
     ·rw [zpY h5 hc he] at cP
      have e1:(i.next hlt hp h5 hc he).k=ls.length - r.length:=rfl
      have e2:(i.next hlt hp h5 hc he).cs=i.cs++[(zd7 b).1]:=rfl
      have hrl:=zcK _ _ _ _ hc
      rw [List.length_drop] at hrl
      repeat' first|refine Va (fA2 @kz zhh) ?_|(with_reducible first|refine SB.c ?_ ?_<;>intro _|exact zad)|refine CK.dx [0,1,2] [] zbo cN ?_|refine CK.dx [0,1,2] [3] zig cP ?_|with_reducible refine zac ?_|omega
      exact ⟨i.next hlt hp h5 hc he,(WMe [0,3,2,3,4,5] (by simp [kwt,e1,e2]) (by simp [kwt,e1,e2])),by show _ - (i.next hlt hp h5 hc he).k<_;rw [e1];omega⟩
     ·rw [zjS h5 hc he] at cP
      rw [i.body hlt hp h5 hc he] at hS
      have:=zcy hS he
      rw [hG] at this
      subst this
      have he':((zd7 b).2 != 0)=true:=by simpa using he
      repeat' first|refine Va (fA3 @kz zhh he') ?_|(with_reducible first|refine SB.c ?_ ?_<;>intro _|exact zad)|refine CK.dx [0,1,2] [] zbo cN ?_|refine CK.dx [0,1,2] [] zig cP ?_|with_reducible refine zac ?_|omega
      (refine zay.mk [0] ?_ ?_<;>simp [kwr,zhh])
  ·have hp':(ls.getD i.k []==[112,114,111,99,101,115,115])=false:=by simpa using hp
   by_cases hs:ls.getD i.k []=[115,116,101,112,115]∧i.cs≠[]
   ·obtain ⟨hs,hcs⟩:=hs
    rw [hs] at cN
    have hc0:((i.cs.length:Int)==0)=false:=by
     have:=List.length_pos_iff.2 hcs
     simp;exact hcs
    rw [i.steps hlt hs hcs] at hS
    dsimp only at hS
    generalize hT:zbN torn (ls.drop (i.k+1)) (((i.k+1:Nat):Int)+1) []=T at hS
    have hsp:(([115,116,101,112,115]:List UInt8)==[112,114,111,99,101,115,115])=false:=by decide
    repeat' first|refine Va (fA4 @kz zhh hc0 hsp) ?_|(with_reducible first|refine SB.c ?_ ?_<;>intro _|exact zad)|refine CK.dx [0,1,2] [] zbo cN ?_|with_reducible refine zac ?_|omega
    generalize i.cs=cs at *
    refine zaI (ι:=RsI ls torn T) (fun j=>⟨(.ref 0 0::jl 122 []),(rdO ls torn j.k cs F.1 F.2.1 j.xs)++[none,none,none]⟩) (fun j=>ls.length - j.k) ⟨i.k+1,[],hlt,by simp,hT⟩ WFn ?_
    intro j
    have cN:=zjE ls torn j.k cs F.1 F.2.1 j.xs (by have:=j.hk;omega) (by omega)
    have cS:=zws (ls.getD j.k []) (hln _)
    by_cases hjt:j.k<ls.length
    ·have hjt':(j.k:Int)<ls.length:=by omega
     rw [decide_eq_true hjt] at cN
     cases hx:zf0 (ls.getD j.k []) with
     |none=>
      have hg:zcG (ls.getD j.k [])=(st0,false):=by unfold zcG;rw [hx]
      rw [hg] at cS
      unfold stA at cS
      rw [j.none hjt hx,if_pos (show (1:Int)≠0 by decide)] at hS
      dsimp only at hS
      have:=zcy hS (by decide)
      rw [hG] at this
      subst this
      repeat' first|refine Va (fA3 @kz zhh hjt') ?_|(with_reducible first|refine SB.c ?_ ?_<;>intro _|exact zad)|refine CK.dx [0,1,2] [] zbo cN ?_|refine CK.d0 zih cS ?_|with_reducible refine zac ?_|omega
      (refine zay.mk [0] ?_ ?_<;>simp [kwr,zhh])
     |some x=>
      have hg:zcG (ls.getD j.k [])=(x,true):=by unfold zcG;rw [hx]
      rw [hg] at cS
      unfold stA at cS
      by_cases h4:400≤j.xs.length
      ·have h4':(j.xs.length:Int)≥400:=by omega
       rw [j.many hjt hx h4,if_pos (show (4:Int)≠0 by decide)] at hS
       dsimp only at hS
       have:=zcy hS (by decide)
       rw [hG] at this
       subst this
       repeat' first|refine Va (fA4 @kz zhh hjt' h4') ?_|(with_reducible first|refine SB.c ?_ ?_<;>intro _|exact zad)|refine CK.dx [0,1,2] [] zbo cN ?_|refine CK.d0 zih cS ?_|with_reducible refine zac ?_|omega
       (refine zay.mk [0] ?_ ?_<;>simp [kwr,zhh])
      ·have h4':¬ (j.xs.length:Int)≥400:=by omega
       have e1:(j.next hjt hx h4).k=j.k+1:=rfl
       have e2:(j.next hjt hx h4).xs=j.xs++[x]:=rfl
       have hrm:=zc8 (j.xs.length+1) 32 (by omega)
       repeat' first|refine Va (fA5 @kz zhh hjt' h4' hrm) ?_|(with_reducible first|refine SB.c ?_ ?_<;>intro _|exact zad)|refine CK.dx [0,1,2] [] zbo cN ?_|refine CK.d0 zih cS ?_|with_reducible refine zac ?_|omega
       exact ⟨j.next hjt hx h4,(WTe [0,1,5,3,4,2] (by simp [kwt,e1,e2,zcw]) (by simp [kwt,e1,e2,zcw])),by show _ - (j.next hjt hx h4).k<_;rw [e1];omega⟩
    ·have hjt':¬ (j.k:Int)<ls.length:=by omega
     rw [decide_eq_false hjt] at cN
     cases torn with
     |true=>
      generalize zcG (ls.getD j.k [])=g at cS
      unfold stA at cS
      rw [j.cut hjt rfl,if_pos (show (1:Int)≠0 by decide)] at hS
      dsimp only at hS
      have:=zcy hS (by decide)
      rw [hG] at this
      subst this
      repeat' first|refine Va (fA3 @kz zhh hjt') ?_|(with_reducible first|refine SB.c ?_ ?_<;>intro _|exact zad)|refine CK.dx [0,1,2] [] zbo cN ?_|refine CK.d0 zih cS ?_|with_reducible refine zac ?_|omega
      (refine zay.mk [0] ?_ ?_<;>simp [kwr,zhh])
     |false=>
      have hjk:j.k=ls.length:=by have:=j.hk;omega
      rw [j.fin hjt rfl,if_neg (show ¬ (0:Int)≠0 by decide)] at hS
      dsimp only at hS
      have:=zpZ hS
      rw [hG] at this
      subst this
      have hirr:¬ ((ls.length:Int)<ls.length):=by omega
      repeat' first|refine Va (fA3 zhh hirr hjk) ?_|(with_reducible first|refine SB.c ?_ ?_<;>intro _|exact zad)|with_reducible refine zac ?_|omega
      (refine zay.mk [0,1,2] ?_ ?_<;>simp [kwr,zhh])
   ·have hor:ls.getD i.k []≠[115,116,101,112,115]∨i.cs=[]:=by
     by_cases h1:ls.getD i.k []=[115,116,101,112,115]
     ·right
      by_cases h2:i.cs=[]
      ·exact h2
      ·exact absurd ⟨h1,h2⟩ hs
     ·exact .inl h1
    rw [i.bad hlt hp hor] at hS
    have:=zcy hS (by decide)
    rw [hG] at this
    subst this
    rcases hor with h1|h1
    ·have h1':(ls.getD i.k []==[115,116,101,112,115])=false:=by simpa using h1
     repeat' first|refine Va (fA4 @kz zhh hp' h1') ?_|(with_reducible first|refine SB.c ?_ ?_<;>intro _|exact zad)|refine CK.dx [0,1,2] [] zbo cN ?_|with_reducible refine zac ?_|omega
     (refine zay.mk [0] ?_ ?_<;>simp [kwr,zhh])
    ·rw [h1] at cN
     by_cases h2:ls.getD i.k []=[115,116,101,112,115]
     ·have h2':(ls.getD i.k []==[115,116,101,112,115])=true:=by simpa using h2
      repeat' first|refine Va (fA5 @kz zhh hp' h2' h1) ?_|(with_reducible first|refine SB.c ?_ ?_<;>intro _|exact zad)|refine CK.dx [0,1,2] [] zbo cN ?_|with_reducible refine zac ?_|omega
      (refine zay.mk [0] ?_ ?_<;>simp [kwr,zhh])
     ·have h2':(ls.getD i.k []==[115,116,101,112,115])=false:=by simpa using h2
      repeat' first|refine Va (fA5 @kz zhh hp' h2' h1) ?_|(with_reducible first|refine SB.c ?_ ?_<;>intro _|exact zad)|refine CK.dx [0,1,2] [] zbo cN ?_|with_reducible refine zac ?_|omega
      (refine zay.mk [0] ?_ ?_<;>simp [kwr,zhh])
 ·rw [decide_eq_false hlt] at cN
  rw [i.out hlt] at hS
  have:=zcy hS (by decide)
  rw [hG] at this
  subst this
  repeat' first|refine Va (fA2 @kz zhh) ?_|(with_reducible first|refine SB.c ?_ ?_<;>intro _|exact zad)|refine CK.dx [0,1,2] [] zbo cN ?_|with_reducible refine zac ?_|omega
  (refine zay.mk [0] ?_ ?_<;>simp [kwr,zhh])
theorem zjT (s:List UInt8) (hsl:s.length≤4000000000):AC Tryz.prog gl 20 [.pv (.str s)] [] (scA (zhB s)) []:=by
 have hS:=zl2 s
 generalize zhB s=G at *
 by_cases hl:65536<s.length
 ·have hl':(s.length:Int) > 65536:=by omega
  rw [if_pos hl] at hS
  subst hS
  refine zap (fun d=>if d=2 then 0 else 1) 4 zFb ?_
  repeat' first|refine Va (fA4 zEI hl' @scA.eq_1 @sc0.eq_1) ?_|(with_reducible first|refine SB.c ?_ ?_<;>intro _|exact zad)|with_reducible refine zac ?_|omega
 rw [if_neg hl] at hS
 have hl':¬ (s.length:Int) > 65536:=by omega
 obtain ⟨b1,b2⟩:=zkZ s
 have cR:=zzy (zb9 s) (zfr s) (by omega) (by omega)
 have cP:=zlQ s 10 (by omega)
 have hp:0<(zaj 10 s).length:=List.length_pos_iff.2 (zbG 10 s)
 have hnum:=zg8 10 s
 have htk:=zoM s
 obtain ⟨t1,t2⟩:=zrk s
 have hwn:IntKind.i64.wrap (((zaj 10 s).length:Int) - 1)=(((zaj 10 s).length - 1:Nat):Int):=by rw [zaS _ (by omega) (by omega)];omega
 have c1:(zaj 10 s).length - 1<(zaj 10 s).length:=by omega
 have c2:(((zaj 10 s).length - 1:Nat):Int)≤((zaj 10 s).length:Int):=by omega
 generalize (zaj 10 s).getLast (zbG 10 s)=last at *
 generalize zaj 10 s=L at *
 by_cases he:(zdM (zb9 s) (zfr s)).2.2=0
 ·obtain ⟨d,hd⟩:=zwG _ _ he
  rw [zpZ hd] at cR
  rw [hd] at hS
  subst hS
  refine zap (fun d=>if d=2 then 0 else 1) 4 zFb ?_
  repeat' first|refine Va (zfA @kz zEI hl' htk t1 t2 hwn c1 c2 @Bool.not_not @scA.eq_1) ?_|(with_reducible first|refine SB.c ?_ ?_<;>intro _|exact zad)|refine CK.d0 zfC cP ?_|refine CK.dx [1] [2,3] zpn cR ?_|with_reducible refine zac ?_|omega
  all_goals rfl
 ·obtain ⟨a,e,hd,he0⟩:=ztR _ _ he
  rw [zcy hd he0] at cR
  rw [hd] at hS
  subst hS
  have he':(e != 0)=true:=by simpa using he0
  refine zap (fun d=>if d=2 then 0 else 1) 4 zFb ?_
  repeat' first|refine Va (zru @kz zEI hl' htk t1 t2 hwn c1 c2 @Bool.not_not he' @scA.eq_1 @sc0.eq_1) ?_|(with_reducible first|refine SB.c ?_ ?_<;>intro _|exact zad)|refine CK.d0 zfC cP ?_|refine CK.dx [1] [2,3] zpn cR ?_|with_reducible refine zac ?_|omega
open Go Go.Abs
theorem ztS (x n:Int) (h0:0<n) (h1:n≤9223372036854775807):AC Tryz.prog gl 13 [.pv (.int .i64 x),.pv (.int .i64 n)] [] (.pv (.int .i64 (zjU x n))) []:=by
 have hm:=ziC x n h0
 have h2:=Int.tmod_lt_of_pos x h0
 have h3:-n<x.tmod n:=Int.lt_tmod_of_pos x h0
 have e1:IntKind.i64.wrap (x.tmod n)=x.tmod n:=zaS _ (by omega) (by omega)
 have e2:¬ n=0:=by omega
 have e3:x.tmod n<0→IntKind.i64.wrap (x.tmod n+n)=x.tmod n+n:=fun h=>zaS _ (by omega) (by omega)
 have hd:zjU x n=if x.tmod n<0 then x.tmod n+n else x.tmod n:=rfl
 refine zap (fun _=>0) 0 zHY ?_
 by_cases h:x.tmod n<0
 ·rw [hd,if_pos h]
  have e4:=e3 h
  repeat' first|refine Va (fA5 zGo e1 e2 e4 h) ?_|(with_reducible first|refine SB.c ?_ ?_<;>intro _|exact zad)|with_reducible refine zac ?_|omega
 ·rw [hd,if_neg h]
  repeat' first|refine Va (fA4 zGo e1 e2 h) ?_|(with_reducible first|refine SB.c ?_ ?_<;>intro _|exact zad)|with_reducible refine zac ?_|omega
def exS:List UInt8:=[112,114,111,116,111,99,111,108,32,99,97,117,115,97,108,32,49,10,112,114,111,99,101,115,115,10,111,110,32,115,116,97,114,116,32,123,32,111,117,116,112,117,116,32,49,59,32,125,10,101,110,100,10,115,116,101,112,115,10,116,105,99,107,32,48,32,53,10,99,111,109,109,105,116,10]
theorem zCK:zhB exS=(⟨[⟨[],[smE 6 [] exZ (exC 1) [] []],[],[],[]⟩],8,1,[⟨2,0,0,5⟩,⟨13,0,0,0⟩]⟩,0,0):=by kernel_rfl
theorem zwH:AC Tryz.prog gl 8 [] [] (.pv (.bool true)) []:=by
 have c:=zjT exS (by decide)
 rw [zCK] at c
 have e1:zcw ⟨2,0,0,5⟩=[.int .i64 2,.int .i64 0,.int .i64 0,.int .i64 5]:=rfl
 have e2:zcw ⟨13,0,0,0⟩=[.int .i64 13,.int .i64 0,.int .i64 0,.int .i64 0]:=rfl
 unfold exS scA at c
 refine zap (fun _=>0) 1 fi8 ?_
 repeat' first|refine Va (fA4 tq8 e1 e2 @List.append_eq.{0}) ?_|(with_reducible first|refine SB.c ?_ ?_<;>intro _|exact zad)|refine CK.d0 zlz c ?_|with_reducible refine zac ?_|omega
end Go.Proofs.YtfinhhblcdkpgaaGreatDoor
