/- A part of the walk (Tryz_K11): its theorems have no condition beyond what they state. -/
import Derived.Test.YtfinhhblcdkpgaaGreatDoorLib2
import Derived.Test.YtfinhhblcdkpgaaGreatDoorS5
import Derived.Test.YtfinhhblcdkpgaaGreatDoorK10
import Derived.Test.YtfinhhblcdkpgaaGreatDoorN9
import Derived.Test.YtfinhhblcdkpgaaGreatDoorLib3
set_option maxRecDepth 100000
set_option maxHeartbeats 64000000
set_option linter.unusedSimpArgs false
set_option linter.unusedVariables false
namespace Go.Proofs.YtfinhhblcdkpgaaGreatDoor
open Go Go.Abs
def zeQ (d:Nat):Nat:=if d=1 then 0 else if d=2 then 1 else if d=27 then 2 else if d=7 then 3 else if d=8 then 4 else if d=12 then 3 else if d=77 then 6 else if d=84 then 6 else if d=89 then 7 else if d=15 then 8 else 0
theorem zdx:zeQ 1=0∧zeQ 2=1∧zeQ 27=2∧zeQ 7=3∧zeQ 8=4∧zeQ 12=3∧zeQ 77=6∧zeQ 84=6∧zeQ 89=7∧zeQ 15=8∧zeQ 76=0∧zeQ 83=0:=by decide
structure DpI (l:List VarD) where
 k:Nat
 es:List Pl
 hk:k≤l.length
 eq:zok es (l.drop k)=zok [] l
structure FlI (es0:List Pl) (l:List VarD) where
 k:Nat
 es:List Pl
 xs:List Int
 hk:k≤l.length
 hx:xs.length≤32
 eq:zgm es xs (l.drop k)=zgm es0 [] l
structure InI (xs:List Int) (init n:Int) where
 j:Nat
 ys:List Int
 hj:(j:Int)≤n - 1
 hy:ys=xs++[init]++List.replicate j 0
theorem zHF (a b:Int):b≤mx a b:=by unfold mx zgV;split<;>omega
theorem zr7 (p:PgD) (hp:szP p≤1000000000) :
  AC Tryz.prog gl 22 [pgA p] [] (.tup [cdA (zbu p).1,.pv (.int .i64 (zbu p).2)]) []:=by
 have hck:=zxE p hp
 have hp':=hp
 unfold szP at hp'
 have hvl:p.vars.length≤1000000000:=by omega
 have hr0:zbu p=if zcn zaA p≠0 then (cd0,zcn zaA p)
 else if p.vars.length > 16 then (cd0,4)
 else match zok [] p.vars with
  |none=>(cd0,2)
  |some es=>match zgm es [] p.vars with
   |none=>(cd0,4)
   |some q=>zDL q.2 (rs4 q.1 p):=rfl
 generalize zbu p=res at *
 generalize zcn zaA p=ck at *
 unfold pgA at *
 refine zas (zeQ) 9 zJD ?_
 by_cases h1:ck=0
 rotate_left
 ·have h1':(ck != 0)=true:=by simpa using h1
  rw [if_pos h1] at hr0
  subst hr0
  refine Wk0 (fA6 zrE h1' @cdA.eq_1 @cd0.eq_1 zdx (CE.mk zl0 hck))
 have h1':(ck != 0)=false:=by simpa using h1
 rw [if_neg (by simpa using h1)] at hr0
 by_cases h2:(p.vars.length:Int) > 16
 ·rw [if_pos (by omega)] at hr0
  subst hr0
  refine Wk0 (fA7 zrE h1' h2 @cdA.eq_1 @cd0.eq_1 zdx (CE.mk zl0 hck))
 rw [if_neg (by omega)] at hr0
 refine Wk1 (fA5 zrE h1' h2 zdx (CE.mk zl0 hck)) ?_
 refine zaK (ι:=DpI p.vars) (fun i=>⟨(.junk::.ref 0 0::.ref 1 0::.pv (.int .i64 0)::.junk::.map 2::jl 23 (.pv (.slice (p.vars.map zav))::.pv (.int .i64 p.vars.length)::.pv (.int .i64 i.k)::jl 89 [])),[some (.cells [.pv (.slice (p.vars.map zav)),.pv (.slice (p.start.map zah)),.pv (.slice (p.message.map zah)),.pv (.slice (p.tick.map zah)),.pv (.slice (p.input.map zah))]),some (.cells [.snil,.snil,.snil,.snil,.snil]),some (.map .string (i.es.map zia)),none,none,none,none,none,none]⟩) (fun i=>p.vars.length - i.k) ⟨0,[],by simp,by simp⟩ WFn ?_
 rintro ⟨k,es,hk,heq⟩
 by_cases hlt:k<p.vars.length
 ·have hlt':(k:Int)<p.vars.length:=by omega
  have hget:=zaE zav p.vars k hlt
  rw [List.drop_eq_getElem_cons hlt,zok] at heq
  generalize p.vars[k]=x at *
  have hm:=zjZ x.name es
  have hms:=zma x.name 0 0 es
  have hw:IntKind.i64.wrap ((k:Int)+1)=((k+1:Nat):Int):=by rw [zay _ (by omega) (by omega)];rfl
  cases h3:zci x.name es with
  |none=>
   rw [h3,Option.map_none] at hm
   repeat' first|simp -implicitDefEqProofs +contextual (maxSteps:=9000000) only [kx,↓ky,zrE,simprocAttr,hlt',hlt,hget,zav,hm,zgs,Option.getD_none,Option.getD_some,Option.isSome_none,Option.isSome_some,zdj,zvp,hw,zdx]|(with_reducible first|refine SB.c ?_ ?_<;>intro _|exact zak)|with_reducible refine zaj ?_|omega
   rw [h3,Option.isSome_none,if_neg (by simp)] at heq
   exact ⟨⟨k+1,_,by omega,heq⟩,(WFe (by simp [kwf,hms]) (by simp [kwf,hms])),by simp;omega⟩
  |some q=>
   rw [h3,Option.map_some] at hm
   rw [h3,Option.isSome_some,if_pos rfl] at heq
   rw [←heq] at hr0
   subst hr0
   repeat' first|simp -implicitDefEqProofs +contextual (maxSteps:=9000000) only [kx,↓ky,zrE,simprocAttr,hlt',hlt,hget,zav,hm,zgs,Option.getD_none,Option.getD_some,Option.isSome_none,Option.isSome_some,zdj,zvp,cdA,cd0,zdx]|(with_reducible first|refine SB.c ?_ ?_<;>intro _|exact zak)|with_reducible refine zaj ?_|omega
 have hlt':¬ (k:Int)<p.vars.length:=by omega
 rw [List.drop_eq_nil_of_le (by omega),zok] at heq
 rw [←heq] at hr0
 dsimp only at hr0
 refine Wk1 (fA3 zrE hlt' zdx) ?_
 (refine LW.weak (zaY.nilRow 10 5 1 rfl rfl (by decide)) ?_;simp only [List.set_cons_zero,List.set_cons_succ])
 refine zaK (ι:=FlI es p.vars) (fun i=>⟨(.junk::.ref 0 0::.ref 1 0::.pv (.int .i64 0)::.junk::.map 2::jl 4 (.row 5 i.xs.length::jl 39 (.pv (.slice (p.vars.map zav))::.pv (.int .i64 p.vars.length)::.pv (.int .i64 i.k)::jl 68 []))),[some (.cells [.pv (.slice (p.vars.map zav)),.pv (.slice (p.start.map zah)),.pv (.slice (p.message.map zah)),.pv (.slice (p.tick.map zah)),.pv (.slice (p.input.map zah))]),some (.cells [.snil,.snil,.snil,.snil,.snil]),some (.map .string (i.es.map zia)),none,none,some (.row 1 (i.xs.map ziv)),none,none,none]⟩) (fun i=>p.vars.length - i.k) ⟨0,es,[],by simp,by simp,by simp⟩ WFn ?_
 rintro ⟨k',es',xs,hk',hx,heq'⟩
 by_cases hlq:k'<p.vars.length
 ·have hlq':(k':Int)<p.vars.length:=by omega
  have hget:=zaE zav p.vars k' hlq
  rw [List.drop_eq_getElem_cons hlq,zgm] at heq'
  generalize p.vars[k']=x at *
  have hw:IntKind.i64.wrap ((k':Int)+1)=((k'+1:Nat):Int):=by rw [zay _ (by omega) (by omega)];rfl
  have hw1:IntKind.i64.wrap (32 - (xs.length:Int))=32 - (xs.length:Int):=zay _ (by omega) (by omega)
  by_cases h3:mx x.size 1 > 32 - (xs.length:Int)
  ·rw [if_pos h3] at heq'
   rw [←heq'] at hr0
   subst hr0
   refine Wk0 (zgj zrE hlq' hlq hget @zav.eq_1 hw1 h3 @cdA.eq_1 @cd0.eq_1 zdx)
  ·rw [if_neg h3] at heq'
   have hm:=zHF x.size 1
   have hms:=zma x.name xs.length x.size es'
   have hw2:IntKind.i64.wrap (mx x.size 1 - 1)=mx x.size 1 - 1:=zay _ (by omega) (by omega)
   have hrm:=zc3 (xs.length+1) 8 (by omega)
   repeat' first|simp -implicitDefEqProofs +contextual (maxSteps:=9000000) only [kx,↓ky,zrE,simprocAttr,hlq',hlq,hget,zav,hw1,h3,hw2,zgs,Option.getD_none,Option.getD_some,Option.isSome_none,Option.isSome_some,zdj,zvp,hrm,zdx]|(with_reducible first|refine SB.c ?_ ?_<;>intro _|exact zak)|with_reducible refine zaj ?_|omega
   refine zaK (ι:=InI xs x.init (mx x.size 1)) (fun i=>⟨(.junk::.ref 0 0::.ref 1 0::.pv (.int .i64 0)::.junk::.map 2::jl 4 (.row 5 i.ys.length::jl 39 (.pv (.slice (p.vars.map zav))::.pv (.int .i64 p.vars.length)::.pv (.int .i64 k')::jl 26 (.pv (.int .i64 (mx x.size 1 - 1))::.pv (.int .i64 i.j)::jl 40 [])))),[some (.cells [.pv (.slice (p.vars.map zav)),.pv (.slice (p.start.map zah)),.pv (.slice (p.message.map zah)),.pv (.slice (p.tick.map zah)),.pv (.slice (p.input.map zah))]),some (.cells [.snil,.snil,.snil,.snil,.snil]),some (.map .string ((zkR x.name xs.length x.size es').map zia)),none,none,some (.row 1 (i.ys.map ziv)),none,none,none]⟩) (fun i=>(mx x.size 1).toNat - i.j) ⟨0,xs++[x.init],by omega,by simp⟩ (WTe [0,1,2,3,4,6,5,7,8] (by simp [kwt,hms,ziv]) (by simp [kwt,hms,ziv])) ?_
   rintro ⟨j,ys,hj,hy⟩
   have hyl:ys.length=xs.length+1+j:=by rw [hy];simp;omega
   by_cases hjl:(j:Int)<mx x.size 1 - 1
   ·have hrm2:=zc3 (ys.length+1) 8 (by omega)
    have hw3:IntKind.i64.wrap ((j:Int)+1)=((j+1:Nat):Int):=by rw [zay _ (by omega) (by omega)];rfl
    refine Wk1 (fA5 zrE hjl hrm2 hw3 zdx) ?_
    exact ⟨⟨j+1,ys++[0],by omega,by rw [hy,List.replicate_succ'];simp⟩,(WTe [0,1,2,3,4,6,5,7,8] (by simp [kwt,ziv]) (by simp [kwt,ziv])),by simp;omega⟩
   ·refine Wk1 (fA4 zrE hjl hw zdx) ?_
    have hje:(mx x.size 1).toNat - 1=j:=by omega
    rw [hje,←hy] at heq'
    exact ⟨⟨k'+1,_,ys,by omega,by omega,heq'⟩,WFn,by simp;omega⟩
 ·have hlq':¬ (k':Int)<p.vars.length:=by omega
  rw [List.drop_eq_nil_of_le (by omega),zgm] at heq'
  rw [←heq'] at hr0
  dsimp only at hr0
  have cA:=zi9 es' p.start (false,false) (by omega)
  have cB:=zi9 es' p.message (zck es' p.start (false,false)).2 (by omega)
  have cC:=zi9 es' p.tick (zck es' p.message (zck es' p.start (false,false)).2).2 (by omega)
  have cD:=zi9 es' p.input (zck es' p.tick (zck es' p.message (zck es' p.start (false,false)).2).2).2 (by omega)
  unfold rs4 at hr0
  dsimp only at hr0
  generalize zck es' p.start (false,false)=a1 at hr0 cA cB cC cD
  generalize zck es' p.message a1.2=a2 at hr0 cA cB cC cD
  generalize zck es' p.tick a2.2=a3 at hr0 cA cB cC cD
  generalize zck es' p.input a3.2=a4 at hr0 cA cB cC cD
  unfold zDL at hr0
  dsimp only at hr0
  cases h5:a4.2.1 with
  |true=>
   rw [h5,if_pos rfl] at hr0
   subst hr0
   repeat' first|refine Va (fA7 @kz zrE hlq' h5 @cdA.eq_1 @cd0.eq_1 zdx) ?_|(with_reducible first|refine SB.c ?_ ?_<;>intro _|exact zak)|refine CK.dx [7,2] [] zbH cA ?_|refine CK.dx [7,2] [] zbH cB ?_|refine CK.dx [7,2] [] zbH cC ?_|refine CK.dx [7,2] [] zbH cD ?_|with_reducible refine zaj ?_|omega
  |false=>
   rw [h5,if_neg (by simp)] at hr0
   cases h6:a4.2.2 with
   |true=>
    rw [h6,if_pos rfl] at hr0
    subst hr0
    repeat' first|refine Va (fA8 @kz zrE hlq' h5 h6 @cdA.eq_1 @cd0.eq_1 zdx) ?_|(with_reducible first|refine SB.c ?_ ?_<;>intro _|exact zak)|refine CK.dx [7,2] [] zbH cA ?_|refine CK.dx [7,2] [] zbH cB ?_|refine CK.dx [7,2] [] zbH cC ?_|refine CK.dx [7,2] [] zbH cD ?_|with_reducible refine zaj ?_|omega
   |false=>
    rw [h6,if_neg (by simp)] at hr0
    subst hr0
    repeat' first|refine Va (fA7 @kz zrE hlq' h5 h6 @cdA.eq_1 zdx) ?_|(with_reducible first|refine SB.c ?_ ?_<;>intro _|exact zak)|refine CK.dx [7,2] [] zbH cA ?_|refine CK.dx [7,2] [] zbH cB ?_|refine CK.dx [7,2] [] zbH cC ?_|refine CK.dx [7,2] [] zbH cD ?_|with_reducible refine zaj ?_|omega
open Go Go.Abs Go.RowKit
abbrev psC (l:List TkD) (n k:Nat):AObj:=.cells [.pv (.slice (l.map zfA)),.pv (.int .i64 k),.pv (.int .i64 n)]
abbrev psO (l:List TkD) (n k:Nat):List (Option AObj):=[some (psC l n k)]
def fv (l:List TkD) (n k:Nat):Value:=.iface 213 (.agg #[.int .i64 (zar l n k)])
theorem zgp (l:List TkD) (k:Nat) (h:k<l.length):(l.map zfA).getD k []=[.int .i64 (l.getD k tk0).kind,.str (l.getD k tk0).text,.int .i64 (l.getD k tk0).value,.int .i64 (l.getD k tk0).pos]:=by
 simp [List.getD,h,zfA]
theorem zpd (l:List TkD) (n k:Nat):AC Tryz.prog gl 196 [.ref 0 0] (psO l n k) (.pv (.str (zbK l k))) (psO l n k):=by
 refine zat (fun _=>0) 1 zHt ?_
 by_cases h:k<l.length
 ·have h':(k:Int)<l.length:=by omega
  have hg:=zgp l k h
  have hp:zbK l k=(l.getD k tk0).text:=by unfold zbK;rw [if_pos h]
  rw [hp]
  refine Wk1 (fA4 zwP h h' hg) ?_
  (refine zax.mk [0] ?_ ?_<;>simp [kwr,zwP])
 ·have h':¬ (k:Int)<l.length:=by omega
  have hp:zbK l k=[]:=by unfold zbK;rw [if_neg h]
  rw [hp]
  refine Wk1 (fA3 zwP h h') ?_
  (refine zax.mk [0] ?_ ?_<;>simp [kwr,zwP])
theorem za3 (l:List TkD) (n k:Nat) (s:List UInt8) (h:isT l k s=true) (hk:k≤1000000):AC Tryz.prog gl 182 [.ref 0 0,.pv (.str s)] (psO l n k) (.pv (.bool true)) (psO l n (k+1)):=by
 have cP:=zpd l n k
 have e:(zbK l k==s)=true:=h
 have hw:=zaP k (by omega)
 refine zat (fun _=>0) 1 zDz ?_
 refine Wk1 (fA5 @kz zwO e hw (cX [0] [] zhr cP)) ?_
 (refine zax.mk [0] ?_ ?_<;>simp [kwr,zwO])
theorem zap (l:List TkD) (n k:Nat) (s:List UInt8) (h:isT l k s=false):AC Tryz.prog gl 182 [.ref 0 0,.pv (.str s)] (psO l n k) (.pv (.bool false)) (psO l n k):=by
 have cP:=zpd l n k
 have e:(zbK l k==s)=false:=h
 refine zat (fun _=>0) 1 zDz ?_
 refine Wk1 (fA4 @kz zwO e (cX [0] [] zhr cP)) ?_
 (refine zax.mk [0] ?_ ?_<;>simp [kwr,zwO])
theorem zmw (l:List TkD) (n k:Nat):AP Tryz.prog gl 187 [.ref 0 0] (psO l n k) (fv l n k) (psO l n k):=by
 unfold fv zar
 refine zbY (fun _=>0) 1 zHq ?_
 by_cases h:k<l.length
 ·have h':(k:Int)<l.length:=by omega
  have hg:=zgp l k h
  rw [if_pos h]
  repeat' first|refine Va (fA4 zDq h h' hg) ?_|(with_reducible first|refine SB.c ?_ ?_<;>intro _|exact zak|refine fun (_:List AVal)=>?_)|with_reducible refine zaj ?_|omega
  (refine zct.mk [0] ?_<;>simp [kwt])
 ·have h':¬ (k:Int)<l.length:=by omega
  rw [if_neg h]
  repeat' first|refine Va (fA3 zDq h h') ?_|(with_reducible first|refine SB.c ?_ ?_<;>intro _|exact zak|refine fun (_:List AVal)=>?_)|with_reducible refine zaj ?_|omega
  (refine zct.mk [0] ?_<;>simp [kwt])
theorem zbi (l:List TkD) (n k k':Nat) (s:List UInt8) (h:zaW l s k=.ok () k') (hk:k≤1000000):AC Tryz.prog gl 185 [.ref 0 0,.pv (.str s)] (psO l n k) (.tup []) (psO l n k'):=by
 unfold zaW at h
 split at h
 ·rename_i e
  cases h
  have cA:=za3 l n k s e hk
  refine zat (fun _=>0) 1 zDC ?_
  refine Wk1 (fA3 @kz zz8 (cX [0] [] zaa cA)) ?_
  (refine zax.mk [0] ?_ ?_<;>simp [kwr,zz8])
 ·cases h
theorem za2 (l:List TkD) (n k k':Nat) (s:List UInt8) (h:zaW l s k=.bad k'):AP Tryz.prog gl 185 [.ref 0 0,.pv (.str s)] (psO l n k) (fv l n k') (psO l n k'):=by
 unfold zaW at h
 split at h
 ·cases h
 ·rename_i e
  cases h
  have cA:=zap l n k s (by simpa using e)
  have cF:=zmw l n k
  refine zbY (fun _=>0) 1 zDC ?_
  repeat' first|refine Va (fA2 @kz zz8) ?_|(with_reducible first|refine SB.c ?_ ?_<;>intro _|exact zak|refine fun (_:List AVal)=>?_)|refine dC1 zaa cA ?_|refine CK.dp [0] [] zdD cF ?_|with_reducible refine zaj ?_|omega
  (refine zct.mk [0] ?_<;>simp [kwt])
theorem zD8 (k:Nat) (h:k≤1000000):IntKind.i64.wrap (((k+1:Nat):Int) - 1)=(k:Int):=by rw [zay _ (by omega) (by omega)];omega
theorem zih (l:List TkD) (n k k':Nat) (nm:List UInt8) (h:zdM l k=.ok nm k') (hl:l.length≤1000000):AC Tryz.prog gl 183 [.ref 0 0] (psO l n k) (.pv (.str nm)) (psO l n k'):=by
 unfold zdM at h
 split at h
 ·rename_i hc
  obtain ⟨h1,h2,h3⟩:=hc
  cases h
  have cV:=zi8 (l.getD k tk0).text
  rw [h3] at cV
  have hg:=zgp l k h1
  rw [h2] at hg
  generalize (l.getD k tk0).text=tx at *
  have hk':(k:Int)<l.length:=by omega
  have hne:((k:Int)==l.length)=false:=by simp;omega
  have hw:=zaP k (by omega)
  have hm:=zD8 k (by omega)
  refine zat (fun _=>0) 1 zDA ?_
  refine Wk1 (fA8 ztK h1 hk' hne hg hw hm (CE.mk zhi cV)) ?_
  (refine zax.mk [0] ?_ ?_<;>simp [kwr,ztK])
 ·cases h
theorem zja (l:List TkD) (n k k':Nat) (h:zdM l k=.bad k') (hk:k≤l.length):AP Tryz.prog gl 183 [.ref 0 0] (psO l n k) (fv l n k') (psO l n k'):=by
 unfold zdM at h
 split at h
 ·cases h
 ·rename_i hc
  cases h
  have cF:=zmw l n k
  refine zbY (fun _=>0) 1 zDA ?_
  by_cases h1:k<l.length
  ·have hk':(k:Int)<l.length:=by omega
   have hne:((k:Int)==l.length)=false:=by simp;omega
   have hg:=zgp l k h1
   have cV:=zi8 (l.getD k tk0).text
   by_cases h2:(l.getD k tk0).kind=1
   ·have h3:zdG (l.getD k tk0).text=false:=by
     cases hv:zdG (l.getD k tk0).text with
     |false=>rfl
     |true=>exact absurd ⟨h1,h2,hv⟩ hc
    rw [h3] at cV
    rw [h2] at hg
    generalize (l.getD k tk0).text=tx at *
    repeat' first|refine Va (fA6 @kz ztK h1 hk' hne hg) ?_|(with_reducible first|refine SB.c ?_ ?_<;>intro _|exact zak|refine fun (_:List AVal)=>?_)|refine CK.d0 zhi cV ?_|refine CK.dp [0] [] zdD cF ?_|with_reducible refine zaj ?_|omega
    (refine zct.mk [0] ?_<;>simp [kwt])
   ·have h2':((l.getD k tk0).kind != 1)=true:=by simpa using h2
    repeat' first|refine Va (fA7 @kz ztK h1 hk' hne hg h2') ?_|(with_reducible first|refine SB.c ?_ ?_<;>intro _|exact zak|refine fun (_:List AVal)=>?_)|refine CK.d0 zhi cV ?_|refine CK.dp [0] [] zdD cF ?_|with_reducible refine zaj ?_|omega
    (refine zct.mk [0] ?_<;>simp [kwt])
  ·have he:k=l.length:=by omega
   have hne:((k:Int)==l.length)=true:=by simp;omega
   repeat' first|refine Va (fA3 @kz ztK hne) ?_|(with_reducible first|refine SB.c ?_ ?_<;>intro _|exact zak|refine fun (_:List AVal)=>?_)|refine CK.dp [0] [] zdD cF ?_|with_reducible refine zaj ?_|omega
   (refine zct.mk [0] ?_<;>simp [kwt])
theorem zhI (l:List TkD) (n k k':Nat) (z v:Int) (h:nmF l z k=.ok v k') (hl:l.length≤1000000):AC Tryz.prog gl 184 [.ref 0 0,.pv (.int .i64 z)] (psO l n k) (.pv (.int .i64 v)) (psO l n k'):=by
 unfold nmF at h
 split at h
 ·rename_i hc
  obtain ⟨h1,h2,h3⟩:=hc
  cases h
  have hg:=zgp l k h1
  rw [h2] at hg
  generalize (l.getD k tk0).value=tv at *
  have hlt:¬ tv<z:=by omega
  have hk':(k:Int)<l.length:=by omega
  have hne:((k:Int)==l.length)=false:=by simp;omega
  have hw:=zaP k (by omega)
  have hm:=zD8 k (by omega)
  refine zat (fun _=>0) 1 zDB ?_
  refine Wk1 (fA8 ztL h1 hk' hne hg hw hm hlt) ?_
  (refine zax.mk [0] ?_ ?_<;>simp [kwr,ztL])
 ·cases h
theorem zga (l:List TkD) (n k k':Nat) (z:Int) (h:nmF l z k=.bad k') (hk:k≤l.length):AP Tryz.prog gl 184 [.ref 0 0,.pv (.int .i64 z)] (psO l n k) (fv l n k') (psO l n k'):=by
 unfold nmF at h
 split at h
 ·cases h
 ·rename_i hc
  cases h
  have cF:=zmw l n k
  refine zbY (fun _=>0) 1 zDB ?_
  by_cases h1:k<l.length
  ·have hk':(k:Int)<l.length:=by omega
   have hne:((k:Int)==l.length)=false:=by simp;omega
   have hg:=zgp l k h1
   by_cases h2:(l.getD k tk0).kind=2
   ·have h3:(l.getD k tk0).value<z:=by
     rcases Int.lt_or_le (l.getD k tk0).value z with h|h
     ·exact h
     ·exact absurd ⟨h1,h2,h⟩ hc
    rw [h2] at hg
    repeat' first|refine Va (fA7 @kz ztL h1 hk' hne hg h3) ?_|(with_reducible first|refine SB.c ?_ ?_<;>intro _|exact zak|refine fun (_:List AVal)=>?_)|refine CK.dp [0] [] zdD cF ?_|with_reducible refine zaj ?_|omega
    (refine zct.mk [0] ?_<;>simp [kwt])
   ·have h2':((l.getD k tk0).kind != 2)=true:=by simpa using h2
    repeat' first|refine Va (fA7 @kz ztL h1 hk' hne hg h2') ?_|(with_reducible first|refine SB.c ?_ ?_<;>intro _|exact zak|refine fun (_:List AVal)=>?_)|refine CK.dp [0] [] zdD cF ?_|with_reducible refine zaj ?_|omega
    (refine zct.mk [0] ?_<;>simp [kwt])
  ·have he:k=l.length:=by omega
   have hne:((k:Int)==l.length)=true:=by simp;omega
   repeat' first|refine Va (fA3 @kz ztL hne) ?_|(with_reducible first|refine SB.c ?_ ?_<;>intro _|exact zak|refine fun (_:List AVal)=>?_)|refine CK.dp [0] [] zdD cF ?_|with_reducible refine zaj ?_|omega
   (refine zct.mk [0] ?_<;>simp [kwt])
end Go.Proofs.YtfinhhblcdkpgaaGreatDoor
