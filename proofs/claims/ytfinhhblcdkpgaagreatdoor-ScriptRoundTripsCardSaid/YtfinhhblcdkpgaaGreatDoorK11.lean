/- A part of the walk (Tryz_K11): its theorems have no condition beyond what they state. -/
import Derived.Test.YtfinhhblcdkpgaaGreatDoorS5
import Derived.Test.YtfinhhblcdkpgaaGreatDoorK10
set_option maxRecDepth 100000
set_option maxHeartbeats 64000000
set_option linter.unusedSimpArgs false
set_option linter.unusedVariables false
set_option linter.defProp false
namespace Go.Proofs.YtfinhhblcdkpgaaGreatDoor
open Go Go.Abs
def zd6 (d:Nat):Nat:=if d=1 then 0 else if d=2 then 1 else if d=27 then 2 else if d=7 then 3 else if d=8 then 4 else if d=12 then 3 else if d=77 then 6 else if d=84 then 6 else if d=89 then 7 else if d=15 then 8 else 0
theorem zcR:zd6 1=0∧zd6 2=1∧zd6 27=2∧zd6 7=3∧zd6 8=4∧zd6 12=3∧zd6 77=6∧zd6 84=6∧zd6 89=7∧zd6 15=8∧zd6 76=0∧zd6 83=0:=by decide
structure DpI (l:List VarD) where
 k:Nat
 es:List Pl
 hk:k≤l.length
 eq:zmL es (l.drop k)=zmL [] l
structure FlI (es0:List Pl) (l:List VarD) where
 k:Nat
 es:List Pl
 xs:List Int
 hk:k≤l.length
 hx:xs.length≤32
 eq:zfl es xs (l.drop k)=zfl es0 [] l
structure InI (xs:List Int) (init n:Int) where
 j:Nat
 ys:List Int
 hj:(j:Int)≤n - 1
 hy:ys=xs++[init]++List.replicate j 0
theorem zEV (a b:Int):b≤mx a b:=by unfold mx zc3;split<;>omega
theorem zjR (p:PgD) (hp:szP p≤1000000000) :
  AC Tryz.prog gl 22 [pgA p] [] (.tup [cdA (zaR p).1,.pv (.int .i64 (zaR p).2)]) []:=by
 have hck:=zo0 p hp
 have hp':=hp
 unfold szP at hp'
 have hvl:p.vars.length≤1000000000:=by omega
 have hr0:zaR p=if zbF zan p≠0 then (cd0,zbF zan p)
 else if p.vars.length > 16 then (cd0,4)
 else match zmL [] p.vars with
  |none=>(cd0,2)
  |some es=>match zfl es [] p.vars with
   |none=>(cd0,4)
   |some q=>zBo q.2 (rs4 q.1 p):=rfl
 generalize zaR p=res at *
 generalize zbF zan p=ck at *
 unfold pgA at *
 refine zaK (zd6) 9 zGV ?_
 by_cases h1:ck=0
 rotate_left
 ·have h1':(ck != 0)=true:=by simpa using h1
  rw [if_pos h1] at hr0
  subst hr0
  (repeat' (first|refine Va (fA5 zpP h1' @cdA.eq_1 @cd0.eq_1 zcR) ?_|(with_reducible first|refine SB.c ?_ ?_<;>intro _|exact zad)|refine CK.d0 ze4 hck ?_|with_reducible refine zac ?_|omega))
 have h1':(ck != 0)=false:=by simpa using h1
 rw [if_neg (by simpa using h1)] at hr0
 by_cases h2:(p.vars.length:Int) > 16
 ·rw [if_pos (by omega)] at hr0
  subst hr0
  (repeat' (first|refine Va (fA6 zpP h1' h2 @cdA.eq_1 @cd0.eq_1 zcR) ?_|(with_reducible first|refine SB.c ?_ ?_<;>intro _|exact zad)|refine CK.d0 ze4 hck ?_|with_reducible refine zac ?_|omega))
 rw [if_neg (by omega)] at hr0
 (repeat' (first|refine Va (fA4 zpP h1' h2 zcR) ?_|(with_reducible first|refine SB.c ?_ ?_<;>intro _|exact zad)|refine CK.d0 ze4 hck ?_|with_reducible refine zac ?_|omega))
 refine zbx (ι:=DpI p.vars) (fun i=>⟨(.junk::.ref 0 0::.ref 1 0::.pv (.int .i64 0)::.junk::.map 2::jl 23 (.pv (.slice (p.vars.map za3))::.pv (.int .i64 p.vars.length)::.pv (.int .i64 i.k)::jl 89 [])),[some (.cells [.pv (.slice (p.vars.map za3)),.pv (.slice (p.start.map zam)),.pv (.slice (p.message.map zam)),.pv (.slice (p.tick.map zam)),.pv (.slice (p.input.map zam))]),some (.cells [.snil,.snil,.snil,.snil,.snil]),some (.map .string (i.es.map zgH)),none,none,none,none,none,none]⟩) (fun i=>p.vars.length - i.k) ⟨0,[],by simp,by simp⟩ WFn ?_
 rintro ⟨k,es,hk,heq⟩
 by_cases hlt:k<p.vars.length
 ·have hlt':(k:Int)<p.vars.length:=by omega
  have hget:=zaV za3 p.vars k hlt
  rw [List.drop_eq_getElem_cons hlt,zmL] at heq
  generalize p.vars[k]=x at *
  have hm:=zic x.name es
  have hms:=zkM x.name 0 0 es
  have hw:IntKind.i64.wrap ((k:Int)+1)=((k+1:Nat):Int):=by rw [zaB _ (by omega) (by omega)];rfl
  cases h3:zbX x.name es with
  |none=>
   rw [h3,Option.map_none] at hm
   (repeat' (first|simp -implicitDefEqProofs +contextual (maxSteps:=9000000) only [kx,↓ky,zpP,simprocAttr,hlt',hlt,hget,za3,hm,zfr,Option.getD_none,Option.getD_some,Option.isSome_none,Option.isSome_some,zcI,ztn,hw,zcR]|(with_reducible first|refine SB.c ?_ ?_<;>intro _|exact zad)|with_reducible refine zac ?_|omega))
   rw [h3,Option.isSome_none,if_neg (by simp)] at heq
   exact ⟨⟨k+1,_,by omega,heq⟩,(WFe (by simp [kwf,hms]) (by simp [kwf,hms])),by simp;omega⟩
  |some q=>
   rw [h3,Option.map_some] at hm
   rw [h3,Option.isSome_some,if_pos rfl] at heq
   rw [←heq] at hr0
   subst hr0
   (repeat' (first|simp -implicitDefEqProofs +contextual (maxSteps:=9000000) only [kx,↓ky,zpP,simprocAttr,hlt',hlt,hget,za3,hm,zfr,Option.getD_none,Option.getD_some,Option.isSome_none,Option.isSome_some,zcI,ztn,cdA,cd0,zcR]|(with_reducible first|refine SB.c ?_ ?_<;>intro _|exact zad)|with_reducible refine zac ?_|omega))
 have hlt':¬ (k:Int)<p.vars.length:=by omega
 rw [List.drop_eq_nil_of_le (by omega),zmL] at heq
 rw [←heq] at hr0
 dsimp only at hr0
 (repeat' (first|refine Va (fA3 zpP hlt' zcR) ?_|(with_reducible first|refine SB.c ?_ ?_<;>intro _|exact zad)|with_reducible refine zac ?_|omega))
 (refine LW.weak (zbU.nilRow 10 5 1 rfl rfl (by decide)) ?_;simp only [List.set_cons_zero,List.set_cons_succ])
 refine zbx (ι:=FlI es p.vars) (fun i=>⟨(.junk::.ref 0 0::.ref 1 0::.pv (.int .i64 0)::.junk::.map 2::jl 4 (.row 5 i.xs.length::jl 39 (.pv (.slice (p.vars.map za3))::.pv (.int .i64 p.vars.length)::.pv (.int .i64 i.k)::jl 68 []))),[some (.cells [.pv (.slice (p.vars.map za3)),.pv (.slice (p.start.map zam)),.pv (.slice (p.message.map zam)),.pv (.slice (p.tick.map zam)),.pv (.slice (p.input.map zam))]),some (.cells [.snil,.snil,.snil,.snil,.snil]),some (.map .string (i.es.map zgH)),none,none,some (.row 1 (i.xs.map zl1)),none,none,none]⟩) (fun i=>p.vars.length - i.k) ⟨0,es,[],by simp,by simp,by simp⟩ WFn ?_
 rintro ⟨k',es',xs,hk',hx,heq'⟩
 by_cases hlq:k'<p.vars.length
 ·have hlq':(k':Int)<p.vars.length:=by omega
  have hget:=zaV za3 p.vars k' hlq
  rw [List.drop_eq_getElem_cons hlq,zfl] at heq'
  generalize p.vars[k']=x at *
  have hw:IntKind.i64.wrap ((k':Int)+1)=((k'+1:Nat):Int):=by rw [zaB _ (by omega) (by omega)];rfl
  have hw1:IntKind.i64.wrap (32 - (xs.length:Int))=32 - (xs.length:Int):=zaB _ (by omega) (by omega)
  by_cases h3:mx x.size 1 > 32 - (xs.length:Int)
  ·rw [if_pos h3] at heq'
   rw [←heq'] at hr0
   subst hr0
   (repeat' (first|refine Va (zCh zpP hlq' hlq hget @za3.eq_1 hw1 h3 @cdA.eq_1 @cd0.eq_1 zcR) ?_|(with_reducible first|refine SB.c ?_ ?_<;>intro _|exact zad)|with_reducible refine zac ?_|omega))
  ·rw [if_neg h3] at heq'
   have hm:=zEV x.size 1
   have hms:=zkM x.name xs.length x.size es'
   have hw2:IntKind.i64.wrap (mx x.size 1 - 1)=mx x.size 1 - 1:=zaB _ (by omega) (by omega)
   have hrm:=zfj (xs.length+1) 8 (by omega)
   (repeat' (first|simp -implicitDefEqProofs +contextual (maxSteps:=9000000) only [kx,↓ky,zpP,simprocAttr,hlq',hlq,hget,za3,hw1,h3,hw2,zfr,Option.getD_none,Option.getD_some,Option.isSome_none,Option.isSome_some,zcI,ztn,hrm,zcR]|(with_reducible first|refine SB.c ?_ ?_<;>intro _|exact zad)|with_reducible refine zac ?_|omega))
   refine zbx (ι:=InI xs x.init (mx x.size 1)) (fun i=>⟨(.junk::.ref 0 0::.ref 1 0::.pv (.int .i64 0)::.junk::.map 2::jl 4 (.row 5 i.ys.length::jl 39 (.pv (.slice (p.vars.map za3))::.pv (.int .i64 p.vars.length)::.pv (.int .i64 k')::jl 26 (.pv (.int .i64 (mx x.size 1 - 1))::.pv (.int .i64 i.j)::jl 40 [])))),[some (.cells [.pv (.slice (p.vars.map za3)),.pv (.slice (p.start.map zam)),.pv (.slice (p.message.map zam)),.pv (.slice (p.tick.map zam)),.pv (.slice (p.input.map zam))]),some (.cells [.snil,.snil,.snil,.snil,.snil]),some (.map .string ((zjb x.name xs.length x.size es').map zgH)),none,none,some (.row 1 (i.ys.map zl1)),none,none,none]⟩) (fun i=>(mx x.size 1).toNat - i.j) ⟨0,xs++[x.init],by omega,by simp⟩ (WTe [0,1,2,3,4,6,5,7,8] (by simp [kwt,hms,zl1]) (by simp [kwt,hms,zl1])) ?_
   rintro ⟨j,ys,hj,hy⟩
   have hyl:ys.length=xs.length+1+j:=by rw [hy];simp;omega
   by_cases hjl:(j:Int)<mx x.size 1 - 1
   ·have hrm2:=zfj (ys.length+1) 8 (by omega)
    have hw3:IntKind.i64.wrap ((j:Int)+1)=((j+1:Nat):Int):=by rw [zaB _ (by omega) (by omega)];rfl
    (repeat' (first|refine Va (fA5 zpP hjl hrm2 hw3 zcR) ?_|(with_reducible first|refine SB.c ?_ ?_<;>intro _|exact zad)|with_reducible refine zac ?_|omega))
    exact ⟨⟨j+1,ys++[0],by omega,by rw [hy,List.replicate_succ'];simp⟩,(WTe [0,1,2,3,4,6,5,7,8] (by simp [kwt,zl1]) (by simp [kwt,zl1])),by simp;omega⟩
   ·(repeat' (first|refine Va (fA4 zpP hjl hw zcR) ?_|(with_reducible first|refine SB.c ?_ ?_<;>intro _|exact zad)|with_reducible refine zac ?_|omega))
    have hje:(mx x.size 1).toNat - 1=j:=by omega
    rw [hje,←hy] at heq'
    exact ⟨⟨k'+1,_,ys,by omega,by omega,heq'⟩,WFn,by simp;omega⟩
 ·have hlq':¬ (k':Int)<p.vars.length:=by omega
  rw [List.drop_eq_nil_of_le (by omega),zfl] at heq'
  rw [←heq'] at hr0
  dsimp only at hr0
  have cA:=zhw es' p.start (false,false) (by omega)
  have cB:=zhw es' p.message (zbZ es' p.start (false,false)).2 (by omega)
  have cC:=zhw es' p.tick (zbZ es' p.message (zbZ es' p.start (false,false)).2).2 (by omega)
  have cD:=zhw es' p.input (zbZ es' p.tick (zbZ es' p.message (zbZ es' p.start (false,false)).2).2).2 (by omega)
  unfold rs4 at hr0
  dsimp only at hr0
  generalize zbZ es' p.start (false,false)=a1 at hr0 cA cB cC cD
  generalize zbZ es' p.message a1.2=a2 at hr0 cA cB cC cD
  generalize zbZ es' p.tick a2.2=a3 at hr0 cA cB cC cD
  generalize zbZ es' p.input a3.2=a4 at hr0 cA cB cC cD
  unfold zBo at hr0
  dsimp only at hr0
  cases h5:a4.2.1 with
  |true=>
   rw [h5,if_pos rfl] at hr0
   subst hr0
   (repeat' (first|refine Va (fA7 @kz zpP hlq' h5 @cdA.eq_1 @cd0.eq_1 zcR) ?_|(with_reducible first|refine SB.c ?_ ?_<;>intro _|exact zad)|refine CK.dx [7,2] [] zbf cA ?_|refine CK.dx [7,2] [] zbf cB ?_|refine CK.dx [7,2] [] zbf cC ?_|refine CK.dx [7,2] [] zbf cD ?_|with_reducible refine zac ?_|omega))
  |false=>
   rw [h5,if_neg (by simp)] at hr0
   cases h6:a4.2.2 with
   |true=>
    rw [h6,if_pos rfl] at hr0
    subst hr0
    (repeat' (first|refine Va (fA8 @kz zpP hlq' h5 h6 @cdA.eq_1 @cd0.eq_1 zcR) ?_|(with_reducible first|refine SB.c ?_ ?_<;>intro _|exact zad)|refine CK.dx [7,2] [] zbf cA ?_|refine CK.dx [7,2] [] zbf cB ?_|refine CK.dx [7,2] [] zbf cC ?_|refine CK.dx [7,2] [] zbf cD ?_|with_reducible refine zac ?_|omega))
   |false=>
    rw [h6,if_neg (by simp)] at hr0
    subst hr0
    (repeat' (first|refine Va (fA7 @kz zpP hlq' h5 h6 @cdA.eq_1 zcR) ?_|(with_reducible first|refine SB.c ?_ ?_<;>intro _|exact zad)|refine CK.dx [7,2] [] zbf cA ?_|refine CK.dx [7,2] [] zbf cB ?_|refine CK.dx [7,2] [] zbf cC ?_|refine CK.dx [7,2] [] zbf cD ?_|with_reducible refine zac ?_|omega))
end Go.Proofs.YtfinhhblcdkpgaaGreatDoor
