/- The reader of a script: all of it. No condition. -/
import Derived.Test.YtfinhhblcdkpgaaGreatDoorK16
import Derived.Test.YtfinhhblcdkpgaaGreatDoorLib3
set_option maxRecDepth 100000
set_option maxHeartbeats 64000000
set_option linter.unusedSimpArgs false
set_option linter.unusedVariables false
set_option linter.defProp false
namespace Go.Proofs.YtfinhhblcdkpgaaGreatDoor
open Go Go.Abs Go.RowKit
def zm0 (ls:List (List UInt8)) (torn:Bool):AVal × List (Option AObj):=
 if (zd2 ls torn).2.2≠0 then (.tup [.pv (.int .i64 (zd2 ls torn).2.1),.pv (.int .i64 (zd2 ls torn).2.2)],[some .dead])
 else (.tup [.pv (.int .i64 0),.pv (.int .i64 0)],rdO ls torn ls.length (zd2 ls torn).1.codes (zd2 ls torn).1.protocol (zd2 ls torn).1.faults (zd2 ls torn).1.steps)
theorem zb5 {ls:List (List UInt8)} {torn:Bool} {a e:Int} (h:zd2 ls torn=(sc0,a,e)) (he:e≠0):zm0 ls torn=(.tup [.pv (.int .i64 a),.pv (.int .i64 e)],[some .dead]):=by
 unfold zm0
 rw [h,if_pos he]
theorem zoo {ls:List (List UInt8)} {torn:Bool} {d:ScD} (h:zd2 ls torn=(d,0,0)):zm0 ls torn=(.tup [.pv (.int .i64 0),.pv (.int .i64 0)],rdO ls torn ls.length d.codes d.protocol d.faults d.steps):=by
 unfold zm0
 rw [h,if_neg (by simp)]
theorem zxi (ls:List (List UInt8)) (torn:Bool) (hl:ls.length≤1000000) (hb:zkT ls≤100000) :
  AC Tryz.prog gl 41 [.ref 0 0] (rdN ls torn 0 0 0) (zm0 ls torn).1 (zm0 ls torn).2:=by
 have hln:∀ k,(ls.getD k []).length≤100000:=by
  intro k
  have key:∀ (l:List (List UInt8)) (k:Nat),(l.getD k []).length≤zkT l:=by
   intro l
   induction l with
   |nil=>intro k;simp
   |cons a r ih=>
    intro k
    rw [zb4]
    cases k with
    |zero=>simp;omega
    |succ k=>have:=ih k;simp at this ⊢;omega
  have:=key ls k
  omega
 have hsd:∀ k,zkT (ls.drop k)≤1000000:=by
  intro k
  have key:∀ (l:List (List UInt8)) (k:Nat),zkT (l.drop k)≤zkT l:=by
   intro l
   induction l with
   |nil=>intro k;simp
   |cons a r ih=>
    intro k
    cases k with
    |zero=>simp
    |succ k=>have:=ih k;rw [zb4];simp at this ⊢;omega
  have:=key ls k
  omega
 have hpos0:(zcT (ls.getD 0 []) 0).2.2=true→0<ls.length:=by
  intro h
  cases ls with
  |nil=>exact absurd h (by decide)
  |cons a r=>simp
 generalize hG:zm0 ls torn=G
 have cN0:=zpd ls torn 0 0 (by omega)
 have cF:=zrB ls torn 1 0 (ls.getD 0 []) (hln 0)
 have hS:zd2 ls torn=if (zcT (ls.getD 0 []) 0).2.2=false then (sc0,1,1)
  else match zcS ls.length (ls.drop 1) 2 [] with
  |.bad a e=>(sc0,a,e)
  |.ok cs r a=>if (zcj torn r a []).2.2≠0 then (sc0,(zcj torn r a []).2.1,(zcj torn r a []).2.2)
   else (⟨cs,(zcT (ls.getD 0 []) 0).1,(zcT (ls.getD 0 []) 0).2.1,(zcj torn r a []).1⟩,0,0):=rfl
 generalize ls.getD 0 []=l0 at *
 generalize zcT l0 0=F at *
 cases hF:F.2.2
 ·rw [hF,if_pos rfl] at hS
  have:=zb5 hS (by decide)
  rw [hG] at this
  subst this
  rw [hF] at cF
  refine zay (fun d=>if d=12 then 4 else 5) 6 zDL ?_
  (repeat' (first|refine Va (fA2 @kz zgk) ?_|(with_reducible first|refine SB.c ?_ ?_<;>intro _|exact zac)|refine dC1 za5 cN0 ?_|refine dC1 znH cF ?_|with_reducible refine zab ?_|omega))
  (refine zaJ.mk [0] ?_ ?_<;>simp [kwr,zgk])
 have hpos:=hpos0 hF
 rw [hF,if_neg (by simp)] at hS
 rw [hF] at cF
 generalize hR:zcS ls.length (ls.drop 1) 2 []=R at hS
 refine zay (fun d=>if d=12 then 4 else 5) 6 zDL ?_
 (repeat' (first|refine Va (fA2 @kz zgk) ?_|(with_reducible first|refine SB.c ?_ ?_<;>intro _|exact zac)|refine dC1 za5 cN0 ?_|refine dC1 znH cF ?_|with_reducible refine zab ?_|omega))
 (refine LW.weak (zbK.nilRowC 0 3 1 5 rfl rfl rfl (by decide)) ?_;simp only [List.set_cons_zero,List.set_cons_succ])
 (refine LW.weak (zbK.nilRowC 0 6 2 4 rfl rfl rfl (by decide)) ?_;simp only [List.set_cons_zero,List.set_cons_succ])
 refine za6 (ι:=RqI ls R) (fun i=>⟨(.ref 0 0::jl 122 []),(rdO ls torn i.k i.cs F.1 F.2.1 [])++[none,none,none]⟩) (fun i=>ls.length - i.k) ⟨1,[],ls.length,by omega,by omega,by omega,by simp,hR⟩ WFn ?_
 intro i
 have cN:=zio ls torn i.k i.cs F.1 F.2.1 [] (by have:=i.hk;omega) (by omega)
 by_cases hlt:i.k<ls.length
 ·rw [decide_eq_true hlt] at cN
  by_cases hp:ls.getD i.k []=[112,114,111,99,101,115,115]
  ·rw [hp] at cN
   have cP:=zpt ls torn (i.k+1) i.cs F.1 F.2.1 [] (by omega) hl i.hcs (hsd _)
   by_cases h5:5≤i.cs.length
   ·rw [zjF h5] at cP
    rw [i.many hlt hp h5] at hS
    have:=zb5 hS (by decide)
    rw [hG] at this
    subst this
    (repeat' (first|refine Va (fA2 @kz zgk) ?_|(with_reducible first|refine SB.c ?_ ?_<;>intro _|exact zac)|refine CK.dx [0,1,2] [] za5 cN ?_|refine CK.dx [0,1,2] [] zg9 cP ?_|with_reducible refine zab ?_|omega))
    (refine zaJ.mk [0] ?_ ?_<;>simp [kwr,zgk])
   ·cases hc:zbR (ls.drop (i.k+1)) [] with
    |none=>
     rw [zjG h5 hc] at cP
     rw [i.none hlt hp h5 hc] at hS
     have:=zb5 hS (by decide)
     rw [hG] at this
     subst this
     (repeat' (first|refine Va (fA2 @kz zgk) ?_|(with_reducible first|refine SB.c ?_ ?_<;>intro _|exact zac)|refine CK.dx [0,1,2] [] za5 cN ?_|refine CK.dx [0,1,2] [] zg9 cP ?_|with_reducible refine zab ?_|omega))
     (refine zaJ.mk [0] ?_ ?_<;>simp [kwr,zgk])
    |some q=>
     obtain ⟨b,r⟩:=q
     by_cases he:(zee b).2=0
     ·rw [zon h5 hc he] at cP
      have e1:(i.next hlt hp h5 hc he).k=ls.length - r.length:=rfl
      have e2:(i.next hlt hp h5 hc he).cs=i.cs++[(zee b).1]:=rfl
      have hrl:=zcI _ _ _ _ hc
      rw [List.length_drop] at hrl
      (repeat' (first|refine Va (fA2 @kz zgk) ?_|(with_reducible first|refine SB.c ?_ ?_<;>intro _|exact zac)|refine CK.dx [0,1,2] [] za5 cN ?_|refine CK.dx [0,1,2] [3] zg9 cP ?_|with_reducible refine zab ?_|omega))
      exact ⟨i.next hlt hp h5 hc he,(WMe [0,3,2,3,4,5] (by simp [kwt,e1,e2]) (by simp [kwt,e1,e2])),by show _ - (i.next hlt hp h5 hc he).k<_;rw [e1];omega⟩
     ·rw [ziE h5 hc he] at cP
      rw [i.body hlt hp h5 hc he] at hS
      have:=zb5 hS he
      rw [hG] at this
      subst this
      have he':((zee b).2 != 0)=true:=by simpa using he
      (repeat' (first|refine Va (fA3 @kz zgk he') ?_|(with_reducible first|refine SB.c ?_ ?_<;>intro _|exact zac)|refine CK.dx [0,1,2] [] za5 cN ?_|refine CK.dx [0,1,2] [] zg9 cP ?_|with_reducible refine zab ?_|omega))
      (refine zaJ.mk [0] ?_ ?_<;>simp [kwr,zgk])
  ·have hp':(ls.getD i.k []==[112,114,111,99,101,115,115])=false:=by simpa using hp
   by_cases hs:ls.getD i.k []=[115,116,101,112,115]∧i.cs≠[]
   ·obtain ⟨hs,hcs⟩:=hs
    rw [hs] at cN
    have hc0:((i.cs.length:Int)==0)=false:=by
     have:=List.length_pos_iff.2 hcs
     simp;exact hcs
    rw [i.steps hlt hs hcs] at hS
    dsimp only at hS
    generalize hT:zcj torn (ls.drop (i.k+1)) (((i.k+1:Nat):Int)+1) []=T at hS
    have hsp:(([115,116,101,112,115]:List UInt8)==[112,114,111,99,101,115,115])=false:=by decide
    (repeat' (first|refine Va (fA4 @kz zgk hc0 hsp) ?_|(with_reducible first|refine SB.c ?_ ?_<;>intro _|exact zac)|refine CK.dx [0,1,2] [] za5 cN ?_|with_reducible refine zab ?_|omega))
    generalize i.cs=cs at *
    refine za6 (ι:=RsI ls torn T) (fun j=>⟨(.ref 0 0::jl 122 []),(rdO ls torn j.k cs F.1 F.2.1 j.xs)++[none,none,none]⟩) (fun j=>ls.length - j.k) ⟨i.k+1,[],hlt,by simp,hT⟩ WFn ?_
    intro j
    have cN:=zio ls torn j.k cs F.1 F.2.1 j.xs (by have:=j.hk;omega) (by omega)
    have cS:=zuk (ls.getD j.k []) (hln _)
    by_cases hjt:j.k<ls.length
    ·have hjt':(j.k:Int)<ls.length:=by omega
     rw [decide_eq_true hjt] at cN
     cases hx:zmK (ls.getD j.k []) with
     |none=>
      have hg:ze8 (ls.getD j.k [])=(st0,false):=by unfold ze8;rw [hx]
      rw [hg] at cS
      unfold stA at cS
      rw [j.none hjt hx,if_pos (show (1:Int)≠0 by decide)] at hS
      dsimp only at hS
      have:=zb5 hS (by decide)
      rw [hG] at this
      subst this
      (repeat' (first|refine Va (fA3 @kz zgk hjt') ?_|(with_reducible first|refine SB.c ?_ ?_<;>intro _|exact zac)|refine CK.dx [0,1,2] [] za5 cN ?_|refine CK.d0 zha cS ?_|with_reducible refine zab ?_|omega))
      (refine zaJ.mk [0] ?_ ?_<;>simp [kwr,zgk])
     |some x=>
      have hg:ze8 (ls.getD j.k [])=(x,true):=by unfold ze8;rw [hx]
      rw [hg] at cS
      unfold stA at cS
      by_cases h4:400≤j.xs.length
      ·have h4':(j.xs.length:Int)≥400:=by omega
       rw [j.many hjt hx h4,if_pos (show (4:Int)≠0 by decide)] at hS
       dsimp only at hS
       have:=zb5 hS (by decide)
       rw [hG] at this
       subst this
       (repeat' (first|refine Va (fA4 @kz zgk hjt' h4') ?_|(with_reducible first|refine SB.c ?_ ?_<;>intro _|exact zac)|refine CK.dx [0,1,2] [] za5 cN ?_|refine CK.d0 zha cS ?_|with_reducible refine zab ?_|omega))
       (refine zaJ.mk [0] ?_ ?_<;>simp [kwr,zgk])
      ·have h4':¬ (j.xs.length:Int)≥400:=by omega
       have e1:(j.next hjt hx h4).k=j.k+1:=rfl
       have e2:(j.next hjt hx h4).xs=j.xs++[x]:=rfl
       have hrm:=zej (j.xs.length+1) 32 (by omega)
       (repeat' (first|refine Va (fA5 @kz zgk hjt' h4' hrm) ?_|(with_reducible first|refine SB.c ?_ ?_<;>intro _|exact zac)|refine CK.dx [0,1,2] [] za5 cN ?_|refine CK.d0 zha cS ?_|with_reducible refine zab ?_|omega))
       exact ⟨j.next hjt hx h4,(WTe [0,1,5,3,4,2] (by simp [kwt,e1,e2,za7]) (by simp [kwt,e1,e2,za7])),by show _ - (j.next hjt hx h4).k<_;rw [e1];omega⟩
    ·have hjt':¬ (j.k:Int)<ls.length:=by omega
     rw [decide_eq_false hjt] at cN
     cases torn with
     |true=>
      generalize ze8 (ls.getD j.k [])=g at cS
      unfold stA at cS
      rw [j.cut hjt rfl,if_pos (show (1:Int)≠0 by decide)] at hS
      dsimp only at hS
      have:=zb5 hS (by decide)
      rw [hG] at this
      subst this
      (repeat' (first|refine Va (fA3 @kz zgk hjt') ?_|(with_reducible first|refine SB.c ?_ ?_<;>intro _|exact zac)|refine CK.dx [0,1,2] [] za5 cN ?_|refine CK.d0 zha cS ?_|with_reducible refine zab ?_|omega))
      (refine zaJ.mk [0] ?_ ?_<;>simp [kwr,zgk])
     |false=>
      have hjk:j.k=ls.length:=by have:=j.hk;omega
      rw [j.fin hjt rfl,if_neg (show ¬ (0:Int)≠0 by decide)] at hS
      dsimp only at hS
      have:=zoo hS
      rw [hG] at this
      subst this
      have hirr:¬ ((ls.length:Int)<ls.length):=by omega
      (repeat' (first|refine Va (fA3 zgk hirr hjk) ?_|(with_reducible first|refine SB.c ?_ ?_<;>intro _|exact zac)|with_reducible refine zab ?_|omega))
      (refine zaJ.mk [0,1,2] ?_ ?_<;>simp [kwr,zgk])
   ·have hor:ls.getD i.k []≠[115,116,101,112,115]∨i.cs=[]:=by
     by_cases h1:ls.getD i.k []=[115,116,101,112,115]
     ·right
      by_cases h2:i.cs=[]
      ·exact h2
      ·exact absurd ⟨h1,h2⟩ hs
     ·exact .inl h1
    rw [i.bad hlt hp hor] at hS
    have:=zb5 hS (by decide)
    rw [hG] at this
    subst this
    rcases hor with h1|h1
    ·have h1':(ls.getD i.k []==[115,116,101,112,115])=false:=by simpa using h1
     (repeat' (first|refine Va (fA4 @kz zgk hp' h1') ?_|(with_reducible first|refine SB.c ?_ ?_<;>intro _|exact zac)|refine CK.dx [0,1,2] [] za5 cN ?_|with_reducible refine zab ?_|omega))
     (refine zaJ.mk [0] ?_ ?_<;>simp [kwr,zgk])
    ·rw [h1] at cN
     by_cases h2:ls.getD i.k []=[115,116,101,112,115]
     ·have h2':(ls.getD i.k []==[115,116,101,112,115])=true:=by simpa using h2
      (repeat' (first|refine Va (fA5 @kz zgk hp' h2' h1) ?_|(with_reducible first|refine SB.c ?_ ?_<;>intro _|exact zac)|refine CK.dx [0,1,2] [] za5 cN ?_|with_reducible refine zab ?_|omega))
      (refine zaJ.mk [0] ?_ ?_<;>simp [kwr,zgk])
     ·have h2':(ls.getD i.k []==[115,116,101,112,115])=false:=by simpa using h2
      (repeat' (first|refine Va (fA5 @kz zgk hp' h2' h1) ?_|(with_reducible first|refine SB.c ?_ ?_<;>intro _|exact zac)|refine CK.dx [0,1,2] [] za5 cN ?_|with_reducible refine zab ?_|omega))
      (refine zaJ.mk [0] ?_ ?_<;>simp [kwr,zgk])
 ·rw [decide_eq_false hlt] at cN
  rw [i.out hlt] at hS
  have:=zb5 hS (by decide)
  rw [hG] at this
  subst this
  (repeat' (first|refine Va (fA2 @kz zgk) ?_|(with_reducible first|refine SB.c ?_ ?_<;>intro _|exact zac)|refine CK.dx [0,1,2] [] za5 cN ?_|with_reducible refine zab ?_|omega))
  (refine zaJ.mk [0] ?_ ?_<;>simp [kwr,zgk])
end Go.Proofs.YtfinhhblcdkpgaaGreatDoor
