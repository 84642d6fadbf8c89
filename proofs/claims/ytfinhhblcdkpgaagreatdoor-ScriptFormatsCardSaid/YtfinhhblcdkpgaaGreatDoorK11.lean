/- A part of the walk (Tryz_K11): its theorems have no condition beyond what they state. -/
import Derived.Test.YtfinhhblcdkpgaaGreatDoorS5
import Derived.Test.YtfinhhblcdkpgaaGreatDoorK10
set_option maxRecDepth 100000
set_option maxHeartbeats 64000000
set_option linter.unusedSimpArgs false
set_option linter.unusedVariables false
set_option linter.defProp false
namespace Go.Proofs.YtfinhhblcdkpgaaGreatDoor
open Go Go.Abs
def zdP (d:Nat):Nat:=if d=1 then 0 else if d=2 then 1 else if d=27 then 2 else if d=7 then 3 else if d=8 then 4 else if d=12 then 3 else if d=77 then 6 else if d=84 then 6 else if d=89 then 7 else if d=15 then 8 else 0
theorem zcJ:zdP 1=0∧zdP 2=1∧zdP 27=2∧zdP 7=3∧zdP 8=4∧zdP 12=3∧zdP 77=6∧zdP 84=6∧zdP 89=7∧zdP 15=8∧zdP 76=0∧zdP 83=0:=by decide
structure DpI (l:List VarD) where
 k:Nat
 es:List Pl
 hk:k≤l.length
 eq:zwH es (l.drop k)=zwH [] l
structure FlI (es0:List Pl) (l:List VarD) where
 k:Nat
 es:List Pl
 xs:List Int
 hk:k≤l.length
 hx:xs.length≤32
 eq:zmC es xs (l.drop k)=zmC es0 [] l
structure InI (xs:List Int) (init n:Int) where
 j:Nat
 ys:List Int
 hj:(j:Int)≤n - 1
 hy:ys=xs++[init]++List.replicate j 0
theorem zDl (a b:Int):b≤mx a b:=by unfold mx zi8;split<;>omega
theorem zpl (p:PgD) (hp:szP p≤1000000000) :
  AC Tryz.prog gl 22 [pgA p] [] (.tup [cdA (zcs p).1,.pv (.int .i64 (zcs p).2)]) []:=by
 have hck:=zoh p hp
 have hp':=hp
 unfold szP at hp'
 have hvl:p.vars.length≤1000000000:=by omega
 have hr0:zcs p=if zcP zao p≠0 then (cd0,zcP zao p)
 else if p.vars.length > 16 then (cd0,4)
 else match zwH [] p.vars with
  |none=>(cd0,2)
  |some es=>match zmC es [] p.vars with
   |none=>(cd0,4)
   |some q=>zC9 q.2 (rs4 q.1 p):=rfl
 generalize zcs p=res at *
 generalize zcP zao p=ck at *
 unfold pgA at *
 refine zam (zdP) 9 zFc ?_
 by_cases h1:ck=0
 rotate_left
 ·have h1':(ck != 0)=true:=by simpa using h1
  rw [if_pos h1] at hr0
  subst hr0
  (repeat' (first|refine Va (fA5 zo1 h1' @cdA.eq_1 @cd0.eq_1 zcJ) ?_|(with_reducible first|refine SB.c ?_ ?_<;>intro _|exact zac)|refine CK.d0 zeR hck ?_|with_reducible refine zab ?_|omega))
 have h1':(ck != 0)=false:=by simpa using h1
 rw [if_neg (by simpa using h1)] at hr0
 by_cases h2:(p.vars.length:Int) > 16
 ·rw [if_pos (by omega)] at hr0
  subst hr0
  (repeat' (first|refine Va (fA6 zo1 h1' h2 @cdA.eq_1 @cd0.eq_1 zcJ) ?_|(with_reducible first|refine SB.c ?_ ?_<;>intro _|exact zac)|refine CK.d0 zeR hck ?_|with_reducible refine zab ?_|omega))
 rw [if_neg (by omega)] at hr0
 (repeat' (first|refine Va (fA4 zo1 h1' h2 zcJ) ?_|(with_reducible first|refine SB.c ?_ ?_<;>intro _|exact zac)|refine CK.d0 zeR hck ?_|with_reducible refine zab ?_|omega))
 refine za6 (ι:=DpI p.vars) (fun i=>⟨(.junk::.ref 0 0::.ref 1 0::.pv (.int .i64 0)::.junk::.map 2::jl 23 (.pv (.slice (p.vars.map zas))::.pv (.int .i64 p.vars.length)::.pv (.int .i64 i.k)::jl 89 [])),[some (.cells [.pv (.slice (p.vars.map zas)),.pv (.slice (p.start.map zah)),.pv (.slice (p.message.map zah)),.pv (.slice (p.tick.map zah)),.pv (.slice (p.input.map zah))]),some (.cells [.snil,.snil,.snil,.snil,.snil]),some (.map .string (i.es.map zgz)),none,none,none,none,none,none]⟩) (fun i=>p.vars.length - i.k) ⟨0,[],by simp,by simp⟩ WFn ?_
 rintro ⟨k,es,hk,heq⟩
 by_cases hlt:k<p.vars.length
 ·have hlt':(k:Int)<p.vars.length:=by omega
  have hget:=zaN zas p.vars k hlt
  rw [List.drop_eq_getElem_cons hlt,zwH] at heq
  generalize p.vars[k]=x at *
  have hm:=zh8 x.name es
  have hms:=zko x.name 0 0 es
  have hw:IntKind.i64.wrap ((k:Int)+1)=((k+1:Nat):Int):=by rw [zat _ (by omega) (by omega)];rfl
  cases h3:zh7 x.name es with
  |none=>
   rw [h3,Option.map_none] at hm
   (repeat' (first|simp -implicitDefEqProofs +contextual (maxSteps:=9000000) only [kx,↓ky,zo1,simprocAttr,hlt',hlt,hget,zas,hm,zfc,Option.getD_none,Option.getD_some,Option.isSome_none,Option.isSome_some,zcz,zr8,hw,zcJ]|(with_reducible first|refine SB.c ?_ ?_<;>intro _|exact zac)|with_reducible refine zab ?_|omega))
   rw [h3,Option.isSome_none,if_neg (by simp)] at heq
   exact ⟨⟨k+1,_,by omega,heq⟩,(WFe (by simp [kwf,hms]) (by simp [kwf,hms])),by simp;omega⟩
  |some q=>
   rw [h3,Option.map_some] at hm
   rw [h3,Option.isSome_some,if_pos rfl] at heq
   rw [←heq] at hr0
   subst hr0
   (repeat' (first|simp -implicitDefEqProofs +contextual (maxSteps:=9000000) only [kx,↓ky,zo1,simprocAttr,hlt',hlt,hget,zas,hm,zfc,Option.getD_none,Option.getD_some,Option.isSome_none,Option.isSome_some,zcz,zr8,cdA,cd0,zcJ]|(with_reducible first|refine SB.c ?_ ?_<;>intro _|exact zac)|with_reducible refine zab ?_|omega))
 have hlt':¬ (k:Int)<p.vars.length:=by omega
 rw [List.drop_eq_nil_of_le (by omega),zwH] at heq
 rw [←heq] at hr0
 dsimp only at hr0
 (repeat' (first|refine Va (fA3 zo1 hlt' zcJ) ?_|(with_reducible first|refine SB.c ?_ ?_<;>intro _|exact zac)|with_reducible refine zab ?_|omega))
 (refine LW.weak (zbK.nilRow 10 5 1 rfl rfl (by decide)) ?_;simp only [List.set_cons_zero,List.set_cons_succ])
 refine za6 (ι:=FlI es p.vars) (fun i=>⟨(.junk::.ref 0 0::.ref 1 0::.pv (.int .i64 0)::.junk::.map 2::jl 4 (.row 5 i.xs.length::jl 39 (.pv (.slice (p.vars.map zas))::.pv (.int .i64 p.vars.length)::.pv (.int .i64 i.k)::jl 68 []))),[some (.cells [.pv (.slice (p.vars.map zas)),.pv (.slice (p.start.map zah)),.pv (.slice (p.message.map zah)),.pv (.slice (p.tick.map zah)),.pv (.slice (p.input.map zah))]),some (.cells [.snil,.snil,.snil,.snil,.snil]),some (.map .string (i.es.map zgz)),none,none,some (.row 1 (i.xs.map zt0)),none,none,none]⟩) (fun i=>p.vars.length - i.k) ⟨0,es,[],by simp,by simp,by simp⟩ WFn ?_
 rintro ⟨k',es',xs,hk',hx,heq'⟩
 by_cases hlq:k'<p.vars.length
 ·have hlq':(k':Int)<p.vars.length:=by omega
  have hget:=zaN zas p.vars k' hlq
  rw [List.drop_eq_getElem_cons hlq,zmC] at heq'
  generalize p.vars[k']=x at *
  have hw:IntKind.i64.wrap ((k':Int)+1)=((k'+1:Nat):Int):=by rw [zat _ (by omega) (by omega)];rfl
  have hw1:IntKind.i64.wrap (32 - (xs.length:Int))=32 - (xs.length:Int):=zat _ (by omega) (by omega)
  by_cases h3:mx x.size 1 > 32 - (xs.length:Int)
  ·rw [if_pos h3] at heq'
   rw [←heq'] at hr0
   subst hr0
   (repeat' (first|refine Va (zpB zo1 hlq' hlq hget @zas.eq_1 hw1 h3 @cdA.eq_1 @cd0.eq_1 zcJ) ?_|(with_reducible first|refine SB.c ?_ ?_<;>intro _|exact zac)|with_reducible refine zab ?_|omega))
  ·rw [if_neg h3] at heq'
   have hm:=zDl x.size 1
   have hms:=zko x.name xs.length x.size es'
   have hw2:IntKind.i64.wrap (mx x.size 1 - 1)=mx x.size 1 - 1:=zat _ (by omega) (by omega)
   have hrm:=zej (xs.length+1) 8 (by omega)
   (repeat' (first|simp -implicitDefEqProofs +contextual (maxSteps:=9000000) only [kx,↓ky,zo1,simprocAttr,hlq',hlq,hget,zas,hw1,h3,hw2,zfc,Option.getD_none,Option.getD_some,Option.isSome_none,Option.isSome_some,zcz,zr8,hrm,zcJ]|(with_reducible first|refine SB.c ?_ ?_<;>intro _|exact zac)|with_reducible refine zab ?_|omega))
   refine za6 (ι:=InI xs x.init (mx x.size 1)) (fun i=>⟨(.junk::.ref 0 0::.ref 1 0::.pv (.int .i64 0)::.junk::.map 2::jl 4 (.row 5 i.ys.length::jl 39 (.pv (.slice (p.vars.map zas))::.pv (.int .i64 p.vars.length)::.pv (.int .i64 k')::jl 26 (.pv (.int .i64 (mx x.size 1 - 1))::.pv (.int .i64 i.j)::jl 40 [])))),[some (.cells [.pv (.slice (p.vars.map zas)),.pv (.slice (p.start.map zah)),.pv (.slice (p.message.map zah)),.pv (.slice (p.tick.map zah)),.pv (.slice (p.input.map zah))]),some (.cells [.snil,.snil,.snil,.snil,.snil]),some (.map .string ((zo7 x.name xs.length x.size es').map zgz)),none,none,some (.row 1 (i.ys.map zt0)),none,none,none]⟩) (fun i=>(mx x.size 1).toNat - i.j) ⟨0,xs++[x.init],by omega,by simp⟩ (WTe [0,1,2,3,4,6,5,7,8] (by simp [kwt,hms,zt0]) (by simp [kwt,hms,zt0])) ?_
   rintro ⟨j,ys,hj,hy⟩
   have hyl:ys.length=xs.length+1+j:=by rw [hy];simp;omega
   by_cases hjl:(j:Int)<mx x.size 1 - 1
   ·have hrm2:=zej (ys.length+1) 8 (by omega)
    have hw3:IntKind.i64.wrap ((j:Int)+1)=((j+1:Nat):Int):=by rw [zat _ (by omega) (by omega)];rfl
    (repeat' (first|refine Va (fA5 zo1 hjl hrm2 hw3 zcJ) ?_|(with_reducible first|refine SB.c ?_ ?_<;>intro _|exact zac)|with_reducible refine zab ?_|omega))
    exact ⟨⟨j+1,ys++[0],by omega,by rw [hy,List.replicate_succ'];simp⟩,(WTe [0,1,2,3,4,6,5,7,8] (by simp [kwt,zt0]) (by simp [kwt,zt0])),by simp;omega⟩
   ·(repeat' (first|refine Va (fA4 zo1 hjl hw zcJ) ?_|(with_reducible first|refine SB.c ?_ ?_<;>intro _|exact zac)|with_reducible refine zab ?_|omega))
    have hje:(mx x.size 1).toNat - 1=j:=by omega
    rw [hje,←hy] at heq'
    exact ⟨⟨k'+1,_,ys,by omega,by omega,heq'⟩,WFn,by simp;omega⟩
 ·have hlq':¬ (k':Int)<p.vars.length:=by omega
  rw [List.drop_eq_nil_of_le (by omega),zmC] at heq'
  rw [←heq'] at hr0
  dsimp only at hr0
  have cA:=zhq es' p.start (false,false) (by omega)
  have cB:=zhq es' p.message (zcZ es' p.start (false,false)).2 (by omega)
  have cC:=zhq es' p.tick (zcZ es' p.message (zcZ es' p.start (false,false)).2).2 (by omega)
  have cD:=zhq es' p.input (zcZ es' p.tick (zcZ es' p.message (zcZ es' p.start (false,false)).2).2).2 (by omega)
  unfold rs4 at hr0
  dsimp only at hr0
  generalize zcZ es' p.start (false,false)=a1 at hr0 cA cB cC cD
  generalize zcZ es' p.message a1.2=a2 at hr0 cA cB cC cD
  generalize zcZ es' p.tick a2.2=a3 at hr0 cA cB cC cD
  generalize zcZ es' p.input a3.2=a4 at hr0 cA cB cC cD
  unfold zC9 at hr0
  dsimp only at hr0
  cases h5:a4.2.1 with
  |true=>
   rw [h5,if_pos rfl] at hr0
   subst hr0
   (repeat' (first|refine Va (fA7 @kz zo1 hlq' h5 @cdA.eq_1 @cd0.eq_1 zcJ) ?_|(with_reducible first|refine SB.c ?_ ?_<;>intro _|exact zac)|refine CK.dx [7,2] [] zbb cA ?_|refine CK.dx [7,2] [] zbb cB ?_|refine CK.dx [7,2] [] zbb cC ?_|refine CK.dx [7,2] [] zbb cD ?_|with_reducible refine zab ?_|omega))
  |false=>
   rw [h5,if_neg (by simp)] at hr0
   cases h6:a4.2.2 with
   |true=>
    rw [h6,if_pos rfl] at hr0
    subst hr0
    (repeat' (first|refine Va (fA8 @kz zo1 hlq' h5 h6 @cdA.eq_1 @cd0.eq_1 zcJ) ?_|(with_reducible first|refine SB.c ?_ ?_<;>intro _|exact zac)|refine CK.dx [7,2] [] zbb cA ?_|refine CK.dx [7,2] [] zbb cB ?_|refine CK.dx [7,2] [] zbb cC ?_|refine CK.dx [7,2] [] zbb cD ?_|with_reducible refine zab ?_|omega))
   |false=>
    rw [h6,if_neg (by simp)] at hr0
    subst hr0
    (repeat' (first|refine Va (fA7 @kz zo1 hlq' h5 h6 @cdA.eq_1 zcJ) ?_|(with_reducible first|refine SB.c ?_ ?_<;>intro _|exact zac)|refine CK.dx [7,2] [] zbb cA ?_|refine CK.dx [7,2] [] zbb cB ?_|refine CK.dx [7,2] [] zbb cC ?_|refine CK.dx [7,2] [] zbb cD ?_|with_reducible refine zab ?_|omega))
end Go.Proofs.YtfinhhblcdkpgaaGreatDoor
