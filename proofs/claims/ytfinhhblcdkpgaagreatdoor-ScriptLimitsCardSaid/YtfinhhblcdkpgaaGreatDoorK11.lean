/- A part of the walk (Tryz_K10): its theorems have no condition beyond what they state. -/
import Derived.Test.YtfinhhblcdkpgaaGreatDoorK9
import Derived.Test.YtfinhhblcdkpgaaGreatDoorS5
set_option maxRecDepth 100000
set_option maxHeartbeats 64000000
set_option linter.unusedSimpArgs false
set_option linter.unusedVariables false
set_option linter.defProp false
namespace Go.Proofs.YtfinhhblcdkpgaaGreatDoor
open Go Go.Abs
abbrev smV (s:Sm):AVal:=.agg [.pv (.int .i64 s.kind),.pv (.str s.name),.pv (.int .i64 s.slot),.pv (.int .i64 s.size),
  .pv (.int .i64 s.place.op),.pv (.int .i64 s.place.value),.pv (.str s.place.name),.pv (.int .i64 s.place.slot),.pv (.int .i64 s.place.size),.pv (.slice (s.place.args.map zbk)),
  .pv (.int .i64 s.value.op),.pv (.int .i64 s.value.value),.pv (.str s.value.name),.pv (.int .i64 s.value.slot),.pv (.int .i64 s.value.size),.pv (.slice (s.value.args.map zbk)),
  .pv (.slice (s.body.map zai)),.pv (.slice (s.els.map zai))]
theorem zww (pl:List Pl) (n:Nat) (hn:n≤1000000000) (ihl:∀ (l:List Sm) (f:Fl),zbT l≤n→AC Tryz.prog gl 43 [.ref 0 0,.pv (.slice (l.map zai))] [zj5 f,zkU pl] (.pv (.slice ((zcc pl l f).1.map zai))) [zj5 (zcc pl l f).2,zkU pl])
  (s:Sm) (f:Fl) (hs:szS s≤n+1):AC Tryz.prog gl 67 [.ref 0 0,smV s] [zj5 f,zkU pl] (smV (rsS pl s f).1) [zj5 (rsS pl s f).2,zkU pl]:=by
 have hsz:=zed s
 have h1:=zbx s.place
 have h2:=zbx s.value
 rw [zCm]
 have hq2:s.kind=1→zfm pl s.name false f=rsQ pl s f:=fun h=>by simp [rsQ,zcY,h]
 have hq3:¬ s.kind=1→s.kind=2→zfm pl s.name true f=rsQ pl s f:=fun h h'=>by simp [rsQ,zcY,h,h']
 have hq0:¬ s.kind=1→¬ s.kind=2→rsQ pl s f=((s.slot,s.size),f):=fun h h'=>by simp [rsQ,zcY,h,h']
 have hP:rsP pl s f=rsE pl s.place (rsQ pl s f).2:=rfl
 have hV:rsV pl s f=rsE pl s.value (rsP pl s f).2:=rfl
 have hB:rsB pl s f=zcc pl s.body (rsV pl s f).2:=rfl
 have hL:rsL pl s f=zcc pl s.els (rsB pl s f).2:=rfl
 have cP:=zpT pl n s.place (rsQ pl s f).2 (by omega) hn
 have cV:=zpT pl n s.value (rsP pl s f).2 (by omega) hn
 have cB:=ihl s.body (rsV pl s f).2 (by omega)
 have cL:=ihl s.els (rsB pl s f).2 (by omega)
 rw [←hP] at cP
 rw [←hV] at cV
 rw [←hB] at cB
 rw [←hL] at cL
 clear hP hV hB hL ihl
 generalize rsQ pl s f=q at *
 generalize rsP pl s f=p' at *
 generalize rsV pl s f=v' at *
 generalize rsB pl s f=b' at *
 generalize rsL pl s f=l' at *
 simp only [exV,smV,Sm.kind_mk,Sm.name_mk,Sm.slot_mk,Sm.size_mk,Sm.place_mk,Sm.value_mk,Sm.body_mk,Sm.els_mk] at *
 rcases (show s.kind=1∨(¬ s.kind=1∧s.kind=2)∨(¬ s.kind=1∧¬ s.kind=2) by omega) with h2|⟨h2,h3⟩|⟨h2,h3⟩
 ·have hc1:=zl8 pl s.name false f
  rw [hq2 h2] at hc1
  have h2':(s.kind==1)=true:=by simp [h2]
  refine zax (fun d=>if d=3 then 2 else if d=4 then 3 else 9) 4 zFh ?_
  repeat' first|refine Va (fA3 @kz zzX h2') ?_|(with_reducible first|refine SB.c ?_ ?_<;>intro _|exact zad)|refine CK.dx [0,1] [] zim hc1 ?_|refine CK.dx [0,1] [] zdI cP ?_|refine CK.dx [0,1] [] zdI cV ?_|refine CK.dx [0,1] [] zbA cB ?_|refine CK.dx [0,1] [] zbA cL ?_|with_reducible refine zac ?_|omega
  (refine zay.mk [0,1,2,3] ?_ ?_<;>simp [kwr,zzX])
 ·have hc1:=zl8 pl s.name true f
  rw [hq3 h2 h3] at hc1
  have h2':(s.kind==1)=false:=by simpa using h2
  have h3':(s.kind==2)=true:=by simp [h3]
  refine zax (fun d=>if d=3 then 2 else if d=4 then 3 else 9) 4 zFh ?_
  repeat' first|refine Va (fA4 @kz zzX h2' h3') ?_|(with_reducible first|refine SB.c ?_ ?_<;>intro _|exact zad)|refine CK.dx [0,1] [] zim hc1 ?_|refine CK.dx [0,1] [] zdI cP ?_|refine CK.dx [0,1] [] zdI cV ?_|refine CK.dx [0,1] [] zbA cB ?_|refine CK.dx [0,1] [] zbA cL ?_|with_reducible refine zac ?_|omega
  (refine zay.mk [0,1,2,3] ?_ ?_<;>simp [kwr,zzX])
 ·have h2':(s.kind==1)=false:=by simpa using h2
  have h3':(s.kind==2)=false:=by simpa using h3
  have hq:=hq0 h2 h3
  have hs1:s.slot=q.1.1:=by rw [hq]
  have hs2:s.size=q.1.2:=by rw [hq]
  have hs3:f.1=q.2.1:=by rw [hq]
  have hs4:f.2=q.2.2:=by rw [hq]
  simp only [zj5,hs1,hs2,hs3,hs4]
  refine zax (fun d=>if d=3 then 2 else if d=4 then 3 else 9) 4 zFh ?_
  repeat' first|refine Va (fA4 @kz zzX h2' h3') ?_|(with_reducible first|refine SB.c ?_ ?_<;>intro _|exact zad)|refine CK.dx [0,1] [] zdI cP ?_|refine CK.dx [0,1] [] zdI cV ?_|refine CK.dx [0,1] [] zbA cB ?_|refine CK.dx [0,1] [] zbA cL ?_|with_reducible refine zac ?_|omega
  (refine zay.mk [0,1,2,3] ?_ ?_<;>simp [kwr,zzX])
theorem zpU (pl:List Pl) (l:List Sm) (f:Fl) (hl:l.length≤1000000000) (ihs:∀ (s:Sm) (f:Fl),s ∈ l→AC Tryz.prog gl 67 [.ref 0 0,smV s] [zj5 f,zkU pl] (smV (rsS pl s f).1) [zj5 (rsS pl s f).2,zkU pl]) :
  AC Tryz.prog gl 43 [.ref 0 0,.pv (.slice (l.map zai))] [zj5 f,zkU pl] (.pv (.slice ((zcc pl l f).1.map zai))) [zj5 (zcc pl l f).2,zkU pl]:=by
 refine zbw (fun d=>if d=7 then 3 else if d=19 then 4 else 9) 5 zH5 ?_
 repeat' first|refine Va zDc ?_|(with_reducible first|refine SB.c ?_ ?_<;>intro _|exact zad)|with_reducible refine zac ?_|omega
 (refine LW.weak (za0.nilRow 5 2 18 rfl rfl (by decide)) ?_;simp only [List.set_cons_zero,List.set_cons_succ])
 refine zaI (ι:={k:Nat // k≤l.length}) (fun i=>⟨(.ref 0 0::jl 3 (.snil::.row 2 i.1::.junk::.junk::.pv (.slice (l.map zai))::.pv (.int .i64 l.length)::.pv (.int .i64 i.1)::jl 11 [])),
    [zj5 (zcc pl (l.take i.1) f).2,zkU pl,some (.row 18 ((zcc pl (l.take i.1) f).1.map zai)),none,none]⟩) (fun i=>l.length - i.1) ⟨0,by omega⟩ (WFe (by simp [kwf,zcc]) (by simp [kwf,zcc])) ?_
 rintro ⟨k,hk⟩
 by_cases hlt:k<l.length
 ·have hlt':(k:Int)<l.length:=by omega
  have hget:=zaA zai l k hlt
  have hmem:l[k] ∈ l:=List.getElem_mem hlt
  have hsn:=zs0 pl l f k hlt
  have hrl:(zcc pl (l.take k) f).1.length=k:=by rw [zlL];simp;omega
  have hic:=ihs l[k] (zcc pl (l.take k) f).2 hmem
  generalize hx:l[k]=x at *
  have hxe:=zan x
  generalize zcc pl (l.take k) f=r at *
  have hye:=zan (rsS pl x r.2).1
  generalize rsS pl x r.2=y at *
  have hw:IntKind.i64.wrap ((k:Int)+1)=((k+1:Nat):Int):=by rw [zaS _ (by omega) (by omega)];rfl
  have hrm:=zc8 (k+1) 232 (by omega)
  repeat' first|refine Va (fA9 @kz zDc hlt' hlt hget hxe hrl hrm hw) ?_|(with_reducible first|refine SB.c ?_ ?_<;>intro _|exact zad)|refine CK.dx [0,1] [] zvS hic ?_|with_reducible refine zac ?_|omega
  exact ⟨⟨k+1,by omega⟩,(WTe [0,1,4,3,2] (by simp [kwt,hsn,hye]) (by simp [kwt,hsn,hye])),by simp;omega⟩
 ·have hlt':¬ (k:Int)<l.length:=by omega
  have hke:k=l.length:=by omega
  subst hke
  repeat' first|refine Va (fA3 zDc hlt' @List.take_length.{0}) ?_|(with_reducible first|refine SB.c ?_ ?_<;>intro _|exact zad)|with_reducible refine zac ?_|omega
  refine ⟨_,za0.freeze 2 rfl,?_⟩
  simp only [St.frz,zf6,frz,zf7,List.map_cons,List.map_nil,List.set_cons_zero,List.set_cons_succ,List.length_map,List.take_length,zlL,if_true,if_false,↓reduceIte,Nat.reduceEqDiff,eq_self,reduceCtorEq,Nat.succ_ne_self]
  (refine zay.mk [0,1,2,3,4] ?_ ?_<;>simp [kwr,zDc])
theorem zq8 (pl:List Pl) (n:Nat):n≤1000000000→∀ (l:List Sm) (f:Fl),zbT l≤n→AC Tryz.prog gl 43 [.ref 0 0,.pv (.slice (l.map zai))] [zj5 f,zkU pl] (.pv (.slice ((zcc pl l f).1.map zai))) [zj5 (zcc pl l f).2,zkU pl]:=by
 induction n with
 |zero=>intro hn l f hl;exact zpU pl l f (by have:=zbY l;omega) (fun s f hs=>by have:=za1 l s hs;have:=zde s;omega)
 |succ n ih=>
  intro hn l f hl
  exact zpU pl l f (by have:=zbY l;omega) (fun s f hs=>zww pl n (by omega) (ih (by omega)) s f (by have:=za1 l s hs;omega))
theorem ziA (pl:List Pl) (l:List Sm) (f:Fl) (hl:zbT l≤1000000000):AC Tryz.prog gl 43 [.ref 0 0,.pv (.slice (l.map zai))] [zj5 f,zkU pl] (.pv (.slice ((zcc pl l f).1.map zai))) [zj5 (zcc pl l f).2,zkU pl]:=zq8 pl _ (Nat.le_refl _) l f hl
def zez (d:Nat):Nat:=if d=1 then 0 else if d=2 then 1 else if d=27 then 2 else if d=7 then 3 else if d=8 then 4 else if d=12 then 3 else if d=77 then 6 else if d=84 then 6 else if d=89 then 7 else if d=15 then 8 else 0
theorem zdk:zez 1=0∧zez 2=1∧zez 27=2∧zez 7=3∧zez 8=4∧zez 12=3∧zez 77=6∧zez 84=6∧zez 89=7∧zez 15=8∧zez 76=0∧zez 83=0:=by decide
structure DpI (l:List VarD) where
 k:Nat
 es:List Pl
 hk:k≤l.length
 eq:znK es (l.drop k)=znK [] l
structure FlI (es0:List Pl) (l:List VarD) where
 k:Nat
 es:List Pl
 xs:List Int
 hk:k≤l.length
 hx:xs.length≤32
 eq:zfZ es xs (l.drop k)=zfZ es0 [] l
structure InI (xs:List Int) (init n:Int) where
 j:Nat
 ys:List Int
 hj:(j:Int)≤n - 1
 hy:ys=xs++[init]++List.replicate j 0
theorem zF7 (a b:Int):b≤mx a b:=by unfold mx zgs;split<;>omega
theorem zq9 (p:PgD) (hp:szP p≤1000000000) :
  AC Tryz.prog gl 22 [pgA p] [] (.tup [cdA (zbp p).1,.pv (.int .i64 (zbp p).2)]) []:=by
 have hck:=zwu p hp
 have hp':=hp
 unfold szP at hp'
 have hvl:p.vars.length≤1000000000:=by omega
 have hr0:zbp p=if zcW zaT p≠0 then (cd0,zcW zaT p)
 else if p.vars.length > 16 then (cd0,4)
 else match znK [] p.vars with
  |none=>(cd0,2)
  |some es=>match zfZ es [] p.vars with
   |none=>(cd0,4)
   |some q=>zCn q.2 (rs4 q.1 p):=rfl
 generalize zbp p=res at *
 generalize zcW zaT p=ck at *
 unfold pgA at *
 refine zap (zez) 9 zH0 ?_
 by_cases h1:ck=0
 rotate_left
 ·have h1':(ck != 0)=true:=by simpa using h1
  rw [if_pos h1] at hr0
  subst hr0
  repeat' first|refine Va (fA5 zqF h1' @cdA.eq_1 @cd0.eq_1 zdk) ?_|(with_reducible first|refine SB.c ?_ ?_<;>intro _|exact zad)|refine CK.d0 zib hck ?_|with_reducible refine zac ?_|omega
 have h1':(ck != 0)=false:=by simpa using h1
 rw [if_neg (by simpa using h1)] at hr0
 by_cases h2:(p.vars.length:Int) > 16
 ·rw [if_pos (by omega)] at hr0
  subst hr0
  repeat' first|refine Va (fA6 zqF h1' h2 @cdA.eq_1 @cd0.eq_1 zdk) ?_|(with_reducible first|refine SB.c ?_ ?_<;>intro _|exact zad)|refine CK.d0 zib hck ?_|with_reducible refine zac ?_|omega
 rw [if_neg (by omega)] at hr0
 repeat' first|refine Va (fA4 zqF h1' h2 zdk) ?_|(with_reducible first|refine SB.c ?_ ?_<;>intro _|exact zad)|refine CK.d0 zib hck ?_|with_reducible refine zac ?_|omega
 refine zaI (ι:=DpI p.vars) (fun i=>⟨(.junk::.ref 0 0::.ref 1 0::.pv (.int .i64 0)::.junk::.map 2::jl 23 (.pv (.slice (p.vars.map zat))::.pv (.int .i64 p.vars.length)::.pv (.int .i64 i.k)::jl 89 [])),[some (.cells [.pv (.slice (p.vars.map zat)),.pv (.slice (p.start.map zai)),.pv (.slice (p.message.map zai)),.pv (.slice (p.tick.map zai)),.pv (.slice (p.input.map zai))]),some (.cells [.snil,.snil,.snil,.snil,.snil]),some (.map .string (i.es.map zhx)),none,none,none,none,none,none]⟩) (fun i=>p.vars.length - i.k) ⟨0,[],by simp,by simp⟩ WFn ?_
 rintro ⟨k,es,hk,heq⟩
 by_cases hlt:k<p.vars.length
 ·have hlt':(k:Int)<p.vars.length:=by omega
  have hget:=zaA zat p.vars k hlt
  rw [List.drop_eq_getElem_cons hlt,znK] at heq
  generalize p.vars[k]=x at *
  have hm:=zjt x.name es
  have hms:=zlK x.name 0 0 es
  have hw:IntKind.i64.wrap ((k:Int)+1)=((k+1:Nat):Int):=by rw [zaS _ (by omega) (by omega)];rfl
  cases h3:zb8 x.name es with
  |none=>
   rw [h3,Option.map_none] at hm
   repeat' first|simp -implicitDefEqProofs +contextual (maxSteps:=9000000) only [kx,↓ky,zqF,simprocAttr,hlt',hlt,hget,zat,hm,zf3,Option.getD_none,Option.getD_some,Option.isSome_none,Option.isSome_some,zc4,zud,hw,zdk]|(with_reducible first|refine SB.c ?_ ?_<;>intro _|exact zad)|with_reducible refine zac ?_|omega
   rw [h3,Option.isSome_none,if_neg (by simp)] at heq
   exact ⟨⟨k+1,_,by omega,heq⟩,(WFe (by simp [kwf,hms]) (by simp [kwf,hms])),by simp;omega⟩
  |some q=>
   rw [h3,Option.map_some] at hm
   rw [h3,Option.isSome_some,if_pos rfl] at heq
   rw [←heq] at hr0
   subst hr0
   repeat' first|simp -implicitDefEqProofs +contextual (maxSteps:=9000000) only [kx,↓ky,zqF,simprocAttr,hlt',hlt,hget,zat,hm,zf3,Option.getD_none,Option.getD_some,Option.isSome_none,Option.isSome_some,zc4,zud,cdA,cd0,zdk]|(with_reducible first|refine SB.c ?_ ?_<;>intro _|exact zad)|with_reducible refine zac ?_|omega
 have hlt':¬ (k:Int)<p.vars.length:=by omega
 rw [List.drop_eq_nil_of_le (by omega),znK] at heq
 rw [←heq] at hr0
 dsimp only at hr0
 repeat' first|refine Va (fA3 zqF hlt' zdk) ?_|(with_reducible first|refine SB.c ?_ ?_<;>intro _|exact zad)|with_reducible refine zac ?_|omega
 (refine LW.weak (za0.nilRow 10 5 1 rfl rfl (by decide)) ?_;simp only [List.set_cons_zero,List.set_cons_succ])
 refine zaI (ι:=FlI es p.vars) (fun i=>⟨(.junk::.ref 0 0::.ref 1 0::.pv (.int .i64 0)::.junk::.map 2::jl 4 (.row 5 i.xs.length::jl 39 (.pv (.slice (p.vars.map zat))::.pv (.int .i64 p.vars.length)::.pv (.int .i64 i.k)::jl 68 []))),[some (.cells [.pv (.slice (p.vars.map zat)),.pv (.slice (p.start.map zai)),.pv (.slice (p.message.map zai)),.pv (.slice (p.tick.map zai)),.pv (.slice (p.input.map zai))]),some (.cells [.snil,.snil,.snil,.snil,.snil]),some (.map .string (i.es.map zhx)),none,none,some (.row 1 (i.xs.map zhO)),none,none,none]⟩) (fun i=>p.vars.length - i.k) ⟨0,es,[],by simp,by simp,by simp⟩ WFn ?_
 rintro ⟨k',es',xs,hk',hx,heq'⟩
 by_cases hlq:k'<p.vars.length
 ·have hlq':(k':Int)<p.vars.length:=by omega
  have hget:=zaA zat p.vars k' hlq
  rw [List.drop_eq_getElem_cons hlq,zfZ] at heq'
  generalize p.vars[k']=x at *
  have hw:IntKind.i64.wrap ((k':Int)+1)=((k'+1:Nat):Int):=by rw [zaS _ (by omega) (by omega)];rfl
  have hw1:IntKind.i64.wrap (32 - (xs.length:Int))=32 - (xs.length:Int):=zaS _ (by omega) (by omega)
  by_cases h3:mx x.size 1 > 32 - (xs.length:Int)
  ·rw [if_pos h3] at heq'
   rw [←heq'] at hr0
   subst hr0
   repeat' first|refine Va (zj4 zqF hlq' hlq hget @zat.eq_1 hw1 h3 @cdA.eq_1 @cd0.eq_1 zdk) ?_|(with_reducible first|refine SB.c ?_ ?_<;>intro _|exact zad)|with_reducible refine zac ?_|omega
  ·rw [if_neg h3] at heq'
   have hm:=zF7 x.size 1
   have hms:=zlK x.name xs.length x.size es'
   have hw2:IntKind.i64.wrap (mx x.size 1 - 1)=mx x.size 1 - 1:=zaS _ (by omega) (by omega)
   have hrm:=zc8 (xs.length+1) 8 (by omega)
   repeat' first|simp -implicitDefEqProofs +contextual (maxSteps:=9000000) only [kx,↓ky,zqF,simprocAttr,hlq',hlq,hget,zat,hw1,h3,hw2,zf3,Option.getD_none,Option.getD_some,Option.isSome_none,Option.isSome_some,zc4,zud,hrm,zdk]|(with_reducible first|refine SB.c ?_ ?_<;>intro _|exact zad)|with_reducible refine zac ?_|omega
   refine zaI (ι:=InI xs x.init (mx x.size 1)) (fun i=>⟨(.junk::.ref 0 0::.ref 1 0::.pv (.int .i64 0)::.junk::.map 2::jl 4 (.row 5 i.ys.length::jl 39 (.pv (.slice (p.vars.map zat))::.pv (.int .i64 p.vars.length)::.pv (.int .i64 k')::jl 26 (.pv (.int .i64 (mx x.size 1 - 1))::.pv (.int .i64 i.j)::jl 40 [])))),[some (.cells [.pv (.slice (p.vars.map zat)),.pv (.slice (p.start.map zai)),.pv (.slice (p.message.map zai)),.pv (.slice (p.tick.map zai)),.pv (.slice (p.input.map zai))]),some (.cells [.snil,.snil,.snil,.snil,.snil]),some (.map .string ((zkj x.name xs.length x.size es').map zhx)),none,none,some (.row 1 (i.ys.map zhO)),none,none,none]⟩) (fun i=>(mx x.size 1).toNat - i.j) ⟨0,xs++[x.init],by omega,by simp⟩ (WTe [0,1,2,3,4,6,5,7,8] (by simp [kwt,hms,zhO]) (by simp [kwt,hms,zhO])) ?_
   rintro ⟨j,ys,hj,hy⟩
   have hyl:ys.length=xs.length+1+j:=by rw [hy];simp;omega
   by_cases hjl:(j:Int)<mx x.size 1 - 1
   ·have hrm2:=zc8 (ys.length+1) 8 (by omega)
    have hw3:IntKind.i64.wrap ((j:Int)+1)=((j+1:Nat):Int):=by rw [zaS _ (by omega) (by omega)];rfl
    repeat' first|refine Va (fA5 zqF hjl hrm2 hw3 zdk) ?_|(with_reducible first|refine SB.c ?_ ?_<;>intro _|exact zad)|with_reducible refine zac ?_|omega
    exact ⟨⟨j+1,ys++[0],by omega,by rw [hy,List.replicate_succ'];simp⟩,(WTe [0,1,2,3,4,6,5,7,8] (by simp [kwt,zhO]) (by simp [kwt,zhO])),by simp;omega⟩
   ·repeat' first|refine Va (fA4 zqF hjl hw zdk) ?_|(with_reducible first|refine SB.c ?_ ?_<;>intro _|exact zad)|with_reducible refine zac ?_|omega
    have hje:(mx x.size 1).toNat - 1=j:=by omega
    rw [hje,←hy] at heq'
    exact ⟨⟨k'+1,_,ys,by omega,by omega,heq'⟩,WFn,by simp;omega⟩
 ·have hlq':¬ (k':Int)<p.vars.length:=by omega
  rw [List.drop_eq_nil_of_le (by omega),zfZ] at heq'
  rw [←heq'] at hr0
  dsimp only at hr0
  have cA:=ziA es' p.start (false,false) (by omega)
  have cB:=ziA es' p.message (zcc es' p.start (false,false)).2 (by omega)
  have cC:=ziA es' p.tick (zcc es' p.message (zcc es' p.start (false,false)).2).2 (by omega)
  have cD:=ziA es' p.input (zcc es' p.tick (zcc es' p.message (zcc es' p.start (false,false)).2).2).2 (by omega)
  unfold rs4 at hr0
  dsimp only at hr0
  generalize zcc es' p.start (false,false)=a1 at hr0 cA cB cC cD
  generalize zcc es' p.message a1.2=a2 at hr0 cA cB cC cD
  generalize zcc es' p.tick a2.2=a3 at hr0 cA cB cC cD
  generalize zcc es' p.input a3.2=a4 at hr0 cA cB cC cD
  unfold zCn at hr0
  dsimp only at hr0
  cases h5:a4.2.1 with
  |true=>
   rw [h5,if_pos rfl] at hr0
   subst hr0
   repeat' first|refine Va (fA7 @kz zqF hlq' h5 @cdA.eq_1 @cd0.eq_1 zdk) ?_|(with_reducible first|refine SB.c ?_ ?_<;>intro _|exact zad)|refine CK.dx [7,2] [] zbA cA ?_|refine CK.dx [7,2] [] zbA cB ?_|refine CK.dx [7,2] [] zbA cC ?_|refine CK.dx [7,2] [] zbA cD ?_|with_reducible refine zac ?_|omega
  |false=>
   rw [h5,if_neg (by simp)] at hr0
   cases h6:a4.2.2 with
   |true=>
    rw [h6,if_pos rfl] at hr0
    subst hr0
    repeat' first|refine Va (fA8 @kz zqF hlq' h5 h6 @cdA.eq_1 @cd0.eq_1 zdk) ?_|(with_reducible first|refine SB.c ?_ ?_<;>intro _|exact zad)|refine CK.dx [7,2] [] zbA cA ?_|refine CK.dx [7,2] [] zbA cB ?_|refine CK.dx [7,2] [] zbA cC ?_|refine CK.dx [7,2] [] zbA cD ?_|with_reducible refine zac ?_|omega
   |false=>
    rw [h6,if_neg (by simp)] at hr0
    subst hr0
    repeat' first|refine Va (fA7 @kz zqF hlq' h5 h6 @cdA.eq_1 zdk) ?_|(with_reducible first|refine SB.c ?_ ?_<;>intro _|exact zad)|refine CK.dx [7,2] [] zbA cA ?_|refine CK.dx [7,2] [] zbA cB ?_|refine CK.dx [7,2] [] zbA cC ?_|refine CK.dx [7,2] [] zbA cD ?_|with_reducible refine zac ?_|omega
end Go.Proofs.YtfinhhblcdkpgaaGreatDoor
