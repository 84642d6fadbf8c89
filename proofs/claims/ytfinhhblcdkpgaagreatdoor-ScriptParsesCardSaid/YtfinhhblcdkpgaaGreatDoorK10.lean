/- A part of the walk (Tryz_K1): its theorems have no condition beyond what they state. -/
import Derived.Test.YtfinhhblcdkpgaaGreatDoorLib2
import Derived.Test.YtfinhhblcdkpgaaGreatDoorT0
import Derived.Test.YtfinhhblcdkpgaaGreatDoorLib3
set_option maxRecDepth 100000
set_option maxHeartbeats 64000000
set_option linter.unusedSimpArgs false
set_option linter.unusedVariables false
namespace Go.Proofs.YtfinhhblcdkpgaaGreatDoor
open Go Go.Abs
abbrev zkD (f:Fl):Option AObj:=some (.cells [.map 1,.pv (.bool f.1),.pv (.bool f.2)])
abbrev zln (pl:List Pl):Option AObj:=some (.map .string (pl.map zia))
theorem zmv (pl:List Pl) (n:List UInt8) (arr:Bool) (f:Fl):AC Tryz.prog gl 94 [.ref 0 0,.pv (.str n),.pv (.bool arr)] [zkD f,zln pl]
  (.tup [.pv (.int .i64 (zfC pl n arr f).1.1),.pv (.int .i64 (zfC pl n arr f).1.2)]) [zkD (zfC pl n arr f).2,zln pl]:=by
 have hm:=zjZ n pl
 cases h:zci n pl with
 |none=>
  simp only [h,Option.map_none] at hm
  have hq:zfC pl n arr f=((0,0),(true,f.2)):=by simp [zfC,h]
  rw [hq]
  refine zat (fun d=>2) 3 zGW ?_
  repeat' first|simp -implicitDefEqProofs +contextual (maxSteps:=9000000) only [kx,↓ky,zBm,simprocAttr,hm,zgs,Option.getD_none,Option.isSome_none,zdj]|(with_reducible first|refine SB.c ?_ ?_<;>intro _|exact zak)|with_reducible refine zaj ?_|omega
  (refine zax.mk [0,1,2] ?_ ?_<;>simp [kwr,zBm])
 |some q=>
  simp only [h,Option.map_some] at hm
  by_cases h2:arr=decide (q.2 > 0)
  ·have hq:zfC pl n arr f=(q,f):=by simp [zfC,h,h2]
   have h3:(arr==decide (q.2 > 0))=true:=by simpa using h2
   rw [hq]
   refine zat (fun d=>2) 3 zGW ?_
   repeat' first|simp -implicitDefEqProofs +contextual (maxSteps:=9000000) only [kx,↓ky,zBm,simprocAttr,hm,zgs,Option.getD_some,Option.isSome_some,zdj,h3]|(with_reducible first|refine SB.c ?_ ?_<;>intro _|exact zak)|with_reducible refine zaj ?_|omega
   (refine zax.mk [0,1,2] ?_ ?_<;>simp [kwr,zBm])
  ·have hq:zfC pl n arr f=(q,(f.1,true)):=by
    have:(arr != decide (q.2 > 0))=true:=by simpa using h2
    simp only [zfC,h,this,Bool.or_true]
   have h3:(arr==decide (q.2 > 0))=false:=by simpa using h2
   rw [hq]
   refine zat (fun d=>2) 3 zGW ?_
   repeat' first|simp -implicitDefEqProofs +contextual (maxSteps:=9000000) only [kx,↓ky,zBm,simprocAttr,hm,zgs,Option.getD_some,Option.isSome_some,zdj,h3]|(with_reducible first|refine SB.c ?_ ?_<;>intro _|exact zak)|with_reducible refine zaj ?_|omega
   (refine zax.mk [0,1,2] ?_ ?_<;>simp [kwr,zBm])
abbrev exV (e:Ex):AVal:=.agg [.pv (.int .i64 e.op),.pv (.int .i64 e.value),.pv (.str e.name),.pv (.int .i64 e.slot),.pv (.int .i64 e.size),.pv (.slice (e.args.map zbq))]
theorem zqJ (pl:List Pl) (n:Nat):∀ (e:Ex) (f:Fl),szE e≤n→n≤1000000000→AC Tryz.prog gl 95 [.ref 0 0,exV e] [zkD f,zln pl]
  (exV (rsE pl e f).1) [zkD (rsE pl e f).2,zln pl]:=by
 induction n with
 |zero=>intro e f h;have:=zbw e;omega
 |succ n ih=>
  intro e f hd hn
  have hsz:=zgv e
  have hal:=zdV e.args
  rw [zDJ]
  have hq2:e.op=2→zfC pl e.name false f=zde pl e.op e.name e.slot e.size f 2 3:=fun h=>by simp [zde,h]
  have hq3:¬ e.op=2→e.op=3→zfC pl e.name true f=zde pl e.op e.name e.slot e.size f 2 3:=fun h h'=>by simp [zde,h,h']
  have hq0:¬ e.op=2→¬ e.op=3→zde pl e.op e.name e.slot e.size f 2 3=((e.slot,e.size),f):=fun h h'=>by simp [zde,h,h']
  generalize zde pl e.op e.name e.slot e.size f 2 3=q at *
  simp only [exV,Ex.op_mk,Ex.value_mk,Ex.name_mk,Ex.slot_mk,Ex.size_mk,Ex.args_mk]
  rcases (show e.op=2∨(¬ e.op=2∧e.op=3)∨(¬ e.op=2∧¬ e.op=3) by omega) with h2|⟨h2,h3⟩|⟨h2,h3⟩
  ·have hc1:=zmv pl e.name false f
   rw [hq2 h2] at hc1
   have h2':(e.op==2)=true:=by simp [h2]
   refine zbv (fun d=>if d=3 then 2 else if d=4 then 3 else if d=7 then 5 else if d=44 then 6 else 9) 7 zGX ?_
   refine Wk1 (fA4 @kz zsA h2' (cX [0,1] [] ziY hc1)) ?_
   (refine LW.weak (zaY.nilRow 5 4 6 rfl rfl (by decide)) ?_;simp only [List.set_cons_zero,List.set_cons_succ])
   refine zaK (ι:={k:Nat // k≤e.args.length}) (fun i=>⟨(.ref 0 0::.junk::.junk::.ref 2 0::.ref 3 0::.row 4 i.1::jl 27 (.pv (.slice (e.args.map zbq))::.pv (.int .i64 e.args.length)::.pv (.int .i64 i.1)::jl 13 [])),[zkD (zec pl (e.args.take i.1) q.2).2,zln pl,some (.cells [.pv (.int .i64 e.op),.pv (.int .i64 e.value),.pv (.str e.name),.pv (.int .i64 q.1.1),.pv (.int .i64 q.1.2),.pv (.slice (e.args.map zbq))]),some (.cells [.pv (.int .i64 0),.pv (.int .i64 0),.pv (.str []),.pv (.int .i64 0),.pv (.int .i64 0),.snil]),some (.row 6 ((zec pl (e.args.take i.1) q.2).1.map zbq)),none,none]⟩) (fun i=>e.args.length - i.1) ⟨0,by omega⟩ (WFe (by simp [kwf,zec]) (by simp [kwf,zec])) ?_
   rintro ⟨k,hk⟩
   by_cases hlt:k<e.args.length
   ·have hlt':(k:Int)<e.args.length:=by omega
    have hget:=zaE zbq e.args k hlt
    have hmem:e.args[k] ∈ e.args:=List.getElem_mem hlt
    have hdx:=zcP e.args e.args[k] hmem
    have hsn:=zj0 pl e.args q.2 k hlt
    have hrl:(zec pl (e.args.take k) q.2).1.length=k:=by rw [ze0];simp;omega
    generalize hx:e.args[k]=x at *
    have hxe:=zaz x
    have hlen:=zdE x
    have hic:=ih x (zec pl (e.args.take k) q.2).2 (by omega) (by omega)
    generalize zec pl (e.args.take k) q.2=r at *
    have hye:=zaz (rsE pl x r.2).1
    generalize rsE pl x r.2=y at *
    have hw:=zaP k (by omega)
    have hrm:=zc3 (k+1) 72 (by omega)
    refine Wk1 (zgj @kz zsA hlt' hlt hget hxe hrl hrm hw (cX [0,1] [] zdU hic)) ?_
    exact ⟨⟨k+1,by omega⟩,(WTe [0,1,2,3,6,5,4] (by simp [kwt,hsn,hye]) (by simp [kwt,hsn,hye])),by simp;omega⟩
   ·have hlt':¬ (k:Int)<e.args.length:=by omega
    have hke:k=e.args.length:=by omega
    subst hke
    refine Wk1 (fA3 zsA hlt' @List.take_length.{0}) ?_
    refine ⟨_,zaY.freeze 4 rfl,?_⟩
    simp only [St.frz,zgh,frz,zgi,List.map_cons,List.map_nil,List.set_cons_zero,List.set_cons_succ,List.length_map,List.take_length,ze0,if_true,if_false,↓reduceIte,Nat.reduceEqDiff,eq_self,reduceCtorEq,Nat.succ_ne_self]
    (refine zax.mk [0,1,2,3,4,5,6] ?_ ?_<;>simp [kwr,zsA])
  ·have hc1:=zmv pl e.name true f
   rw [hq3 h2 h3] at hc1
   have h2':(e.op==2)=false:=by simpa using h2
   have h3':(e.op==3)=true:=by simp [h3]
   refine zbv (fun d=>if d=3 then 2 else if d=4 then 3 else if d=7 then 5 else if d=44 then 6 else 9) 7 zGX ?_
   refine Wk1 (fA5 @kz zsA h2' h3' (cX [0,1] [] ziY hc1)) ?_
   (refine LW.weak (zaY.nilRow 5 4 6 rfl rfl (by decide)) ?_;simp only [List.set_cons_zero,List.set_cons_succ])
   refine zaK (ι:={k:Nat // k≤e.args.length}) (fun i=>⟨(.ref 0 0::.junk::.junk::.ref 2 0::.ref 3 0::.row 4 i.1::jl 27 (.pv (.slice (e.args.map zbq))::.pv (.int .i64 e.args.length)::.pv (.int .i64 i.1)::jl 13 [])),[zkD (zec pl (e.args.take i.1) q.2).2,zln pl,some (.cells [.pv (.int .i64 e.op),.pv (.int .i64 e.value),.pv (.str e.name),.pv (.int .i64 q.1.1),.pv (.int .i64 q.1.2),.pv (.slice (e.args.map zbq))]),some (.cells [.pv (.int .i64 0),.pv (.int .i64 0),.pv (.str []),.pv (.int .i64 0),.pv (.int .i64 0),.snil]),some (.row 6 ((zec pl (e.args.take i.1) q.2).1.map zbq)),none,none]⟩) (fun i=>e.args.length - i.1) ⟨0,by omega⟩ (WFe (by simp [kwf,zec]) (by simp [kwf,zec])) ?_
   rintro ⟨k,hk⟩
   by_cases hlt:k<e.args.length
   ·have hlt':(k:Int)<e.args.length:=by omega
    have hget:=zaE zbq e.args k hlt
    have hmem:e.args[k] ∈ e.args:=List.getElem_mem hlt
    have hdx:=zcP e.args e.args[k] hmem
    have hsn:=zj0 pl e.args q.2 k hlt
    have hrl:(zec pl (e.args.take k) q.2).1.length=k:=by rw [ze0];simp;omega
    generalize hx:e.args[k]=x at *
    have hxe:=zaz x
    have hlen:=zdE x
    have hic:=ih x (zec pl (e.args.take k) q.2).2 (by omega) (by omega)
    generalize zec pl (e.args.take k) q.2=r at *
    have hye:=zaz (rsE pl x r.2).1
    generalize rsE pl x r.2=y at *
    have hw:=zaP k (by omega)
    have hrm:=zc3 (k+1) 72 (by omega)
    refine Wk1 (zgj @kz zsA hlt' hlt hget hxe hrl hrm hw (cX [0,1] [] zdU hic)) ?_
    exact ⟨⟨k+1,by omega⟩,(WTe [0,1,2,3,6,5,4] (by simp [kwt,hsn,hye]) (by simp [kwt,hsn,hye])),by simp;omega⟩
   ·have hlt':¬ (k:Int)<e.args.length:=by omega
    have hke:k=e.args.length:=by omega
    subst hke
    refine Wk1 (fA3 zsA hlt' @List.take_length.{0}) ?_
    refine ⟨_,zaY.freeze 4 rfl,?_⟩
    simp only [St.frz,zgh,frz,zgi,List.map_cons,List.map_nil,List.set_cons_zero,List.set_cons_succ,List.length_map,List.take_length,ze0,if_true,if_false,↓reduceIte,Nat.reduceEqDiff,eq_self,reduceCtorEq,Nat.succ_ne_self]
    (refine zax.mk [0,1,2,3,4,5,6] ?_ ?_<;>simp [kwr,zsA])
  ·have h2':(e.op==2)=false:=by simpa using h2
   have h3':(e.op==3)=false:=by simpa using h3
   have hq:=hq0 h2 h3
   have hs1:e.slot=q.1.1:=by rw [hq]
   have hs2:e.size=q.1.2:=by rw [hq]
   have hs3:f.1=q.2.1:=by rw [hq]
   have hs4:f.2=q.2.2:=by rw [hq]
   simp only [zkD,hs1,hs2,hs3,hs4]
   refine zbv (fun d=>if d=3 then 2 else if d=4 then 3 else if d=7 then 5 else if d=44 then 6 else 9) 7 zGX ?_
   refine Wk1 (fA3 zsA h2' h3') ?_
   (refine LW.weak (zaY.nilRow 5 4 6 rfl rfl (by decide)) ?_;simp only [List.set_cons_zero,List.set_cons_succ])
   refine zaK (ι:={k:Nat // k≤e.args.length}) (fun i=>⟨(.ref 0 0::.junk::.junk::.ref 2 0::.ref 3 0::.row 4 i.1::jl 27 (.pv (.slice (e.args.map zbq))::.pv (.int .i64 e.args.length)::.pv (.int .i64 i.1)::jl 13 [])),[zkD (zec pl (e.args.take i.1) q.2).2,zln pl,some (.cells [.pv (.int .i64 e.op),.pv (.int .i64 e.value),.pv (.str e.name),.pv (.int .i64 q.1.1),.pv (.int .i64 q.1.2),.pv (.slice (e.args.map zbq))]),some (.cells [.pv (.int .i64 0),.pv (.int .i64 0),.pv (.str []),.pv (.int .i64 0),.pv (.int .i64 0),.snil]),some (.row 6 ((zec pl (e.args.take i.1) q.2).1.map zbq)),none,none]⟩) (fun i=>e.args.length - i.1) ⟨0,by omega⟩ (WFe (by simp [kwf,zec]) (by simp [kwf,zec])) ?_
   rintro ⟨k,hk⟩
   by_cases hlt:k<e.args.length
   ·have hlt':(k:Int)<e.args.length:=by omega
    have hget:=zaE zbq e.args k hlt
    have hmem:e.args[k] ∈ e.args:=List.getElem_mem hlt
    have hdx:=zcP e.args e.args[k] hmem
    have hsn:=zj0 pl e.args q.2 k hlt
    have hrl:(zec pl (e.args.take k) q.2).1.length=k:=by rw [ze0];simp;omega
    generalize hx:e.args[k]=x at *
    have hxe:=zaz x
    have hlen:=zdE x
    have hic:=ih x (zec pl (e.args.take k) q.2).2 (by omega) (by omega)
    generalize zec pl (e.args.take k) q.2=r at *
    have hye:=zaz (rsE pl x r.2).1
    generalize rsE pl x r.2=y at *
    have hw:=zaP k (by omega)
    have hrm:=zc3 (k+1) 72 (by omega)
    refine Wk1 (zgj @kz zsA hlt' hlt hget hxe hrl hrm hw (cX [0,1] [] zdU hic)) ?_
    exact ⟨⟨k+1,by omega⟩,(WTe [0,1,2,3,6,5,4] (by simp [kwt,hsn,hye]) (by simp [kwt,hsn,hye])),by simp;omega⟩
   ·have hlt':¬ (k:Int)<e.args.length:=by omega
    have hke:k=e.args.length:=by omega
    subst hke
    refine Wk1 (fA3 zsA hlt' @List.take_length.{0}) ?_
    refine ⟨_,zaY.freeze 4 rfl,?_⟩
    simp only [St.frz,zgh,frz,zgi,List.map_cons,List.map_nil,List.set_cons_zero,List.set_cons_succ,List.length_map,List.take_length,ze0,if_true,if_false,↓reduceIte,Nat.reduceEqDiff,eq_self,reduceCtorEq,Nat.succ_ne_self]
    (refine zax.mk [0,1,2,3,4,5,6] ?_ ?_<;>simp [kwr,zsA])
abbrev smV (s:Sm):AVal:=.agg [.pv (.int .i64 s.kind),.pv (.str s.name),.pv (.int .i64 s.slot),.pv (.int .i64 s.size),
  .pv (.int .i64 s.place.op),.pv (.int .i64 s.place.value),.pv (.str s.place.name),.pv (.int .i64 s.place.slot),.pv (.int .i64 s.place.size),.pv (.slice (s.place.args.map zbq)),
  .pv (.int .i64 s.value.op),.pv (.int .i64 s.value.value),.pv (.str s.value.name),.pv (.int .i64 s.value.slot),.pv (.int .i64 s.value.size),.pv (.slice (s.value.args.map zbq)),
  .pv (.slice (s.body.map zah)),.pv (.slice (s.els.map zah))]
theorem zxG (pl:List Pl) (n:Nat) (hn:n≤1000000000) (ihl:∀ (l:List Sm) (f:Fl),zbz l≤n→AC Tryz.prog gl 43 [.ref 0 0,.pv (.slice (l.map zah))] [zkD f,zln pl] (.pv (.slice ((zck pl l f).1.map zah))) [zkD (zck pl l f).2,zln pl])
  (s:Sm) (f:Fl) (hs:szS s≤n+1):AC Tryz.prog gl 67 [.ref 0 0,smV s] [zkD f,zln pl] (smV (rsS pl s f).1) [zkD (rsS pl s f).2,zln pl]:=by
 have hsz:=zea s
 have h1:=zbw s.place
 have h2:=zbw s.value
 rw [zDK]
 have hq2:s.kind=1→zfC pl s.name false f=rsQ pl s f:=fun h=>by simp [rsQ,zde,h]
 have hq3:¬ s.kind=1→s.kind=2→zfC pl s.name true f=rsQ pl s f:=fun h h'=>by simp [rsQ,zde,h,h']
 have hq0:¬ s.kind=1→¬ s.kind=2→rsQ pl s f=((s.slot,s.size),f):=fun h h'=>by simp [rsQ,zde,h,h']
 have hP:rsP pl s f=rsE pl s.place (rsQ pl s f).2:=rfl
 have hV:rsV pl s f=rsE pl s.value (rsP pl s f).2:=rfl
 have hB:rsB pl s f=zck pl s.body (rsV pl s f).2:=rfl
 have hL:rsL pl s f=zck pl s.els (rsB pl s f).2:=rfl
 have cP:=zqJ pl n s.place (rsQ pl s f).2 (by omega) hn
 have cV:=zqJ pl n s.value (rsP pl s f).2 (by omega) hn
 have cB:=ihl s.body (rsV pl s f).2 (by omega)
 have cL:=ihl s.els (rsB pl s f).2 (by omega)
 rw [←hP] at cP
 rw [←hV] at cV
 rw [←hB] at cB
 rw [←hL] at cL
 clear hP hV hB hL ihl
 generalize rsQ pl s f=q at *
 generalize rsP pl s f=p' at *
 generalize rsV pl s f=v' at *
 generalize rsB pl s f=b' at *
 generalize rsL pl s f=l' at *
 simp only [exV,smV,Sm.kind_mk,Sm.name_mk,Sm.slot_mk,Sm.size_mk,Sm.place_mk,Sm.value_mk,Sm.body_mk,Sm.els_mk] at *
 rcases (show s.kind=1∨(¬ s.kind=1∧s.kind=2)∨(¬ s.kind=1∧¬ s.kind=2) by omega) with h2|⟨h2,h3⟩|⟨h2,h3⟩
 ·have hc1:=zmv pl s.name false f
  rw [hq2 h2] at hc1
  have h2':(s.kind==1)=true:=by simp [h2]
  refine zat (fun d=>if d=3 then 2 else if d=4 then 3 else 9) 4 zGT ?_
  repeat' first|refine Va (fA3 @kz zBl h2') ?_|(with_reducible first|refine SB.c ?_ ?_<;>intro _|exact zak)|refine CK.dx [0,1] [] ziY hc1 ?_|refine CK.dx [0,1] [] zdU cP ?_|refine CK.dx [0,1] [] zdU cV ?_|refine CK.dx [0,1] [] zbH cB ?_|refine CK.dx [0,1] [] zbH cL ?_|with_reducible refine zaj ?_|omega
  (refine zax.mk [0,1,2,3] ?_ ?_<;>simp [kwr,zBl])
 ·have hc1:=zmv pl s.name true f
  rw [hq3 h2 h3] at hc1
  have h2':(s.kind==1)=false:=by simpa using h2
  have h3':(s.kind==2)=true:=by simp [h3]
  refine zat (fun d=>if d=3 then 2 else if d=4 then 3 else 9) 4 zGT ?_
  repeat' first|refine Va (fA4 @kz zBl h2' h3') ?_|(with_reducible first|refine SB.c ?_ ?_<;>intro _|exact zak)|refine CK.dx [0,1] [] ziY hc1 ?_|refine CK.dx [0,1] [] zdU cP ?_|refine CK.dx [0,1] [] zdU cV ?_|refine CK.dx [0,1] [] zbH cB ?_|refine CK.dx [0,1] [] zbH cL ?_|with_reducible refine zaj ?_|omega
  (refine zax.mk [0,1,2,3] ?_ ?_<;>simp [kwr,zBl])
 ·have h2':(s.kind==1)=false:=by simpa using h2
  have h3':(s.kind==2)=false:=by simpa using h3
  have hq:=hq0 h2 h3
  have hs1:s.slot=q.1.1:=by rw [hq]
  have hs2:s.size=q.1.2:=by rw [hq]
  have hs3:f.1=q.2.1:=by rw [hq]
  have hs4:f.2=q.2.2:=by rw [hq]
  simp only [zkD,hs1,hs2,hs3,hs4]
  refine zat (fun d=>if d=3 then 2 else if d=4 then 3 else 9) 4 zGT ?_
  repeat' first|refine Va (fA4 @kz zBl h2' h3') ?_|(with_reducible first|refine SB.c ?_ ?_<;>intro _|exact zak)|refine CK.dx [0,1] [] zdU cP ?_|refine CK.dx [0,1] [] zdU cV ?_|refine CK.dx [0,1] [] zbH cB ?_|refine CK.dx [0,1] [] zbH cL ?_|with_reducible refine zaj ?_|omega
  (refine zax.mk [0,1,2,3] ?_ ?_<;>simp [kwr,zBl])
theorem zqK (pl:List Pl) (l:List Sm) (f:Fl) (hl:l.length≤1000000000) (ihs:∀ (s:Sm) (f:Fl),s ∈ l→AC Tryz.prog gl 67 [.ref 0 0,smV s] [zkD f,zln pl] (smV (rsS pl s f).1) [zkD (rsS pl s f).2,zln pl]) :
  AC Tryz.prog gl 43 [.ref 0 0,.pv (.slice (l.map zah))] [zkD f,zln pl] (.pv (.slice ((zck pl l f).1.map zah))) [zkD (zck pl l f).2,zln pl]:=by
 refine zbv (fun d=>if d=7 then 3 else if d=19 then 4 else 9) 5 zJJ ?_
 refine Wk1 zEJ ?_
 (refine LW.weak (zaY.nilRow 5 2 18 rfl rfl (by decide)) ?_;simp only [List.set_cons_zero,List.set_cons_succ])
 refine zaK (ι:={k:Nat // k≤l.length}) (fun i=>⟨(.ref 0 0::jl 3 (.snil::.row 2 i.1::.junk::.junk::.pv (.slice (l.map zah))::.pv (.int .i64 l.length)::.pv (.int .i64 i.1)::jl 11 [])),
    [zkD (zck pl (l.take i.1) f).2,zln pl,some (.row 18 ((zck pl (l.take i.1) f).1.map zah)),none,none]⟩) (fun i=>l.length - i.1) ⟨0,by omega⟩ (WFe (by simp [kwf,zck]) (by simp [kwf,zck])) ?_
 rintro ⟨k,hk⟩
 by_cases hlt:k<l.length
 ·have hlt':(k:Int)<l.length:=by omega
  have hget:=zaE zah l k hlt
  have hmem:l[k] ∈ l:=List.getElem_mem hlt
  have hsn:=zua pl l f k hlt
  have hrl:(zck pl (l.take k) f).1.length=k:=by rw [zmb];simp;omega
  have hic:=ihs l[k] (zck pl (l.take k) f).2 hmem
  generalize hx:l[k]=x at *
  have hxe:=zag x
  generalize zck pl (l.take k) f=r at *
  have hye:=zag (rsS pl x r.2).1
  generalize rsS pl x r.2=y at *
  have hw:IntKind.i64.wrap ((k:Int)+1)=((k+1:Nat):Int):=by rw [zay _ (by omega) (by omega)];rfl
  have hrm:=zc3 (k+1) 232 (by omega)
  refine Wk1 (zgj @kz zEJ hlt' hlt hget hxe hrl hrm hw (cX [0,1] [] zw2 hic)) ?_
  exact ⟨⟨k+1,by omega⟩,(WTe [0,1,4,3,2] (by simp [kwt,hsn,hye]) (by simp [kwt,hsn,hye])),by simp;omega⟩
 ·have hlt':¬ (k:Int)<l.length:=by omega
  have hke:k=l.length:=by omega
  subst hke
  refine Wk1 (fA3 zEJ hlt' @List.take_length.{0}) ?_
  refine ⟨_,zaY.freeze 2 rfl,?_⟩
  simp only [St.frz,zgh,frz,zgi,List.map_cons,List.map_nil,List.set_cons_zero,List.set_cons_succ,List.length_map,List.take_length,zmb,if_true,if_false,↓reduceIte,Nat.reduceEqDiff,eq_self,reduceCtorEq,Nat.succ_ne_self]
  (refine zax.mk [0,1,2,3,4] ?_ ?_<;>simp [kwr,zEJ])
theorem zr6 (pl:List Pl) (n:Nat):n≤1000000000→∀ (l:List Sm) (f:Fl),zbz l≤n→AC Tryz.prog gl 43 [.ref 0 0,.pv (.slice (l.map zah))] [zkD f,zln pl] (.pv (.slice ((zck pl l f).1.map zah))) [zkD (zck pl l f).2,zln pl]:=by
 induction n with
 |zero=>intro hn l f hl;exact zqK pl l f (by have:=zbO l;omega) (fun s f hs=>by have:=zaV l s hs;have:=zcm s;omega)
 |succ n ih=>
  intro hn l f hl
  exact zqK pl l f (by have:=zbO l;omega) (fun s f hs=>zxG pl n (by omega) (ih (by omega)) s f (by have:=zaV l s hs;omega))
theorem zi9 (pl:List Pl) (l:List Sm) (f:Fl) (hl:zbz l≤1000000000):AC Tryz.prog gl 43 [.ref 0 0,.pv (.slice (l.map zah))] [zkD f,zln pl] (.pv (.slice ((zck pl l f).1.map zah))) [zkD (zck pl l f).2,zln pl]:=zr6 pl _ (Nat.le_refl _) l f hl
end Go.Proofs.YtfinhhblcdkpgaaGreatDoor
