/- A part of the walk (Tryz_K1): its theorems have no condition beyond what they state. -/
import Derived.Test.YtfinhhblcdkpgaaGreatDoorT0
import Derived.Test.YtfinhhblcdkpgaaGreatDoorLib3
set_option maxRecDepth 100000
set_option maxHeartbeats 64000000
set_option linter.unusedSimpArgs false
set_option linter.unusedVariables false
set_option linter.defProp false
namespace Go.Proofs.YtfinhhblcdkpgaaGreatDoor
open Go Go.Abs
abbrev zj5 (f:Fl):Option AObj:=some (.cells [.map 1,.pv (.bool f.1),.pv (.bool f.2)])
abbrev zkU (pl:List Pl):Option AObj:=some (.map .string (pl.map zhx))
theorem zl8 (pl:List Pl) (n:List UInt8) (arr:Bool) (f:Fl):AC Tryz.prog gl 94 [.ref 0 0,.pv (.str n),.pv (.bool arr)] [zj5 f,zkU pl]
  (.tup [.pv (.int .i64 (zfm pl n arr f).1.1),.pv (.int .i64 (zfm pl n arr f).1.2)]) [zj5 (zfm pl n arr f).2,zkU pl]:=by
 have hm:=zjt n pl
 cases h:zb8 n pl with
 |none=>
  simp only [h,Option.map_none] at hm
  have hq:zfm pl n arr f=((0,0),(true,f.2)):=by simp [zfm,h]
  rw [hq]
  refine zax (fun d=>2) 3 zFk ?_
  repeat' first|simp -implicitDefEqProofs +contextual (maxSteps:=9000000) only [kx,↓ky,zzY,simprocAttr,hm,zf3,Option.getD_none,Option.isSome_none,zc4]|(with_reducible first|refine SB.c ?_ ?_<;>intro _|exact zad)|with_reducible refine zac ?_|omega
  (refine zay.mk [0,1,2] ?_ ?_<;>simp [kwr,zzY])
 |some q=>
  simp only [h,Option.map_some] at hm
  by_cases h2:arr=decide (q.2 > 0)
  ·have hq:zfm pl n arr f=(q,f):=by simp [zfm,h,h2]
   have h3:(arr==decide (q.2 > 0))=true:=by simpa using h2
   rw [hq]
   refine zax (fun d=>2) 3 zFk ?_
   repeat' first|simp -implicitDefEqProofs +contextual (maxSteps:=9000000) only [kx,↓ky,zzY,simprocAttr,hm,zf3,Option.getD_some,Option.isSome_some,zc4,h3]|(with_reducible first|refine SB.c ?_ ?_<;>intro _|exact zad)|with_reducible refine zac ?_|omega
   (refine zay.mk [0,1,2] ?_ ?_<;>simp [kwr,zzY])
  ·have hq:zfm pl n arr f=(q,(f.1,true)):=by
    have:(arr != decide (q.2 > 0))=true:=by simpa using h2
    simp only [zfm,h,this,Bool.or_true]
   have h3:(arr==decide (q.2 > 0))=false:=by simpa using h2
   rw [hq]
   refine zax (fun d=>2) 3 zFk ?_
   repeat' first|simp -implicitDefEqProofs +contextual (maxSteps:=9000000) only [kx,↓ky,zzY,simprocAttr,hm,zf3,Option.getD_some,Option.isSome_some,zc4,h3]|(with_reducible first|refine SB.c ?_ ?_<;>intro _|exact zad)|with_reducible refine zac ?_|omega
   (refine zay.mk [0,1,2] ?_ ?_<;>simp [kwr,zzY])
abbrev exV (e:Ex):AVal:=.agg [.pv (.int .i64 e.op),.pv (.int .i64 e.value),.pv (.str e.name),.pv (.int .i64 e.slot),.pv (.int .i64 e.size),.pv (.slice (e.args.map zbk))]
theorem zpT (pl:List Pl) (n:Nat):∀ (e:Ex) (f:Fl),szE e≤n→n≤1000000000→AC Tryz.prog gl 95 [.ref 0 0,exV e] [zj5 f,zkU pl]
  (exV (rsE pl e f).1) [zj5 (rsE pl e f).2,zkU pl]:=by
 induction n with
 |zero=>intro e f h;have:=zbx e;omega
 |succ n ih=>
  intro e f hd hn
  have hsz:=zgV e
  have hal:=zdJ e.args
  rw [zCl]
  have hq2:e.op=2→zfm pl e.name false f=zcY pl e.op e.name e.slot e.size f 2 3:=fun h=>by simp [zcY,h]
  have hq3:¬ e.op=2→e.op=3→zfm pl e.name true f=zcY pl e.op e.name e.slot e.size f 2 3:=fun h h'=>by simp [zcY,h,h']
  have hq0:¬ e.op=2→¬ e.op=3→zcY pl e.op e.name e.slot e.size f 2 3=((e.slot,e.size),f):=fun h h'=>by simp [zcY,h,h']
  generalize zcY pl e.op e.name e.slot e.size f 2 3=q at *
  simp only [exV,Ex.op_mk,Ex.value_mk,Ex.name_mk,Ex.slot_mk,Ex.size_mk,Ex.args_mk]
  rcases (show e.op=2∨(¬ e.op=2∧e.op=3)∨(¬ e.op=2∧¬ e.op=3) by omega) with h2|⟨h2,h3⟩|⟨h2,h3⟩
  ·have hc1:=zl8 pl e.name false f
   rw [hq2 h2] at hc1
   have h2':(e.op==2)=true:=by simp [h2]
   refine zbw (fun d=>if d=3 then 2 else if d=4 then 3 else if d=7 then 5 else if d=44 then 6 else 9) 7 zFl ?_
   repeat' first|refine Va (fA3 @kz zry h2') ?_|(with_reducible first|refine SB.c ?_ ?_<;>intro _|exact zad)|refine CK.dx [0,1] [] zim hc1 ?_|with_reducible refine zac ?_|omega
   (refine LW.weak (za0.nilRow 5 4 6 rfl rfl (by decide)) ?_;simp only [List.set_cons_zero,List.set_cons_succ])
   refine zaI (ι:={k:Nat // k≤e.args.length}) (fun i=>⟨(.ref 0 0::.junk::.junk::.ref 2 0::.ref 3 0::.row 4 i.1::jl 27 (.pv (.slice (e.args.map zbk))::.pv (.int .i64 e.args.length)::.pv (.int .i64 i.1)::jl 13 [])),[zj5 (zd2 pl (e.args.take i.1) q.2).2,zkU pl,some (.cells [.pv (.int .i64 e.op),.pv (.int .i64 e.value),.pv (.str e.name),.pv (.int .i64 q.1.1),.pv (.int .i64 q.1.2),.pv (.slice (e.args.map zbk))]),some (.cells [.pv (.int .i64 0),.pv (.int .i64 0),.pv (.str []),.pv (.int .i64 0),.pv (.int .i64 0),.snil]),some (.row 6 ((zd2 pl (e.args.take i.1) q.2).1.map zbk)),none,none]⟩) (fun i=>e.args.length - i.1) ⟨0,by omega⟩ (WFe (by simp [kwf,zd2]) (by simp [kwf,zd2])) ?_
   rintro ⟨k,hk⟩
   by_cases hlt:k<e.args.length
   ·have hlt':(k:Int)<e.args.length:=by omega
    have hget:=zaA zbk e.args k hlt
    have hmem:e.args[k] ∈ e.args:=List.getElem_mem hlt
    have hdx:=zcB e.args e.args[k] hmem
    have hsn:=zju pl e.args q.2 k hlt
    have hrl:(zd2 pl (e.args.take k) q.2).1.length=k:=by rw [zeK];simp;omega
    generalize hx:e.args[k]=x at *
    have hxe:=zaC x
    have hlen:=zdr x
    have hic:=ih x (zd2 pl (e.args.take k) q.2).2 (by omega) (by omega)
    generalize zd2 pl (e.args.take k) q.2=r at *
    have hye:=zaC (rsE pl x r.2).1
    generalize rsE pl x r.2=y at *
    have hw:=zaQ k (by omega)
    have hrm:=zc8 (k+1) 72 (by omega)
    repeat' first|refine Va (fA9 @kz zry hlt' hlt hget hxe hrl hrm hw) ?_|(with_reducible first|refine SB.c ?_ ?_<;>intro _|exact zad)|refine CK.dx [0,1] [] zdI hic ?_|with_reducible refine zac ?_|omega
    exact ⟨⟨k+1,by omega⟩,(WTe [0,1,2,3,6,5,4] (by simp [kwt,hsn,hye]) (by simp [kwt,hsn,hye])),by simp;omega⟩
   ·have hlt':¬ (k:Int)<e.args.length:=by omega
    have hke:k=e.args.length:=by omega
    subst hke
    repeat' first|refine Va (fA3 zry hlt' @List.take_length.{0}) ?_|(with_reducible first|refine SB.c ?_ ?_<;>intro _|exact zad)|with_reducible refine zac ?_|omega
    refine ⟨_,za0.freeze 4 rfl,?_⟩
    simp only [St.frz,zf6,frz,zf7,List.map_cons,List.map_nil,List.set_cons_zero,List.set_cons_succ,List.length_map,List.take_length,zeK,if_true,if_false,↓reduceIte,Nat.reduceEqDiff,eq_self,reduceCtorEq,Nat.succ_ne_self]
    (refine zay.mk [0,1,2,3,4,5,6] ?_ ?_<;>simp [kwr,zry])
  ·have hc1:=zl8 pl e.name true f
   rw [hq3 h2 h3] at hc1
   have h2':(e.op==2)=false:=by simpa using h2
   have h3':(e.op==3)=true:=by simp [h3]
   refine zbw (fun d=>if d=3 then 2 else if d=4 then 3 else if d=7 then 5 else if d=44 then 6 else 9) 7 zFl ?_
   repeat' first|refine Va (fA4 @kz zry h2' h3') ?_|(with_reducible first|refine SB.c ?_ ?_<;>intro _|exact zad)|refine CK.dx [0,1] [] zim hc1 ?_|with_reducible refine zac ?_|omega
   (refine LW.weak (za0.nilRow 5 4 6 rfl rfl (by decide)) ?_;simp only [List.set_cons_zero,List.set_cons_succ])
   refine zaI (ι:={k:Nat // k≤e.args.length}) (fun i=>⟨(.ref 0 0::.junk::.junk::.ref 2 0::.ref 3 0::.row 4 i.1::jl 27 (.pv (.slice (e.args.map zbk))::.pv (.int .i64 e.args.length)::.pv (.int .i64 i.1)::jl 13 [])),[zj5 (zd2 pl (e.args.take i.1) q.2).2,zkU pl,some (.cells [.pv (.int .i64 e.op),.pv (.int .i64 e.value),.pv (.str e.name),.pv (.int .i64 q.1.1),.pv (.int .i64 q.1.2),.pv (.slice (e.args.map zbk))]),some (.cells [.pv (.int .i64 0),.pv (.int .i64 0),.pv (.str []),.pv (.int .i64 0),.pv (.int .i64 0),.snil]),some (.row 6 ((zd2 pl (e.args.take i.1) q.2).1.map zbk)),none,none]⟩) (fun i=>e.args.length - i.1) ⟨0,by omega⟩ (WFe (by simp [kwf,zd2]) (by simp [kwf,zd2])) ?_
   rintro ⟨k,hk⟩
   by_cases hlt:k<e.args.length
   ·have hlt':(k:Int)<e.args.length:=by omega
    have hget:=zaA zbk e.args k hlt
    have hmem:e.args[k] ∈ e.args:=List.getElem_mem hlt
    have hdx:=zcB e.args e.args[k] hmem
    have hsn:=zju pl e.args q.2 k hlt
    have hrl:(zd2 pl (e.args.take k) q.2).1.length=k:=by rw [zeK];simp;omega
    generalize hx:e.args[k]=x at *
    have hxe:=zaC x
    have hlen:=zdr x
    have hic:=ih x (zd2 pl (e.args.take k) q.2).2 (by omega) (by omega)
    generalize zd2 pl (e.args.take k) q.2=r at *
    have hye:=zaC (rsE pl x r.2).1
    generalize rsE pl x r.2=y at *
    have hw:=zaQ k (by omega)
    have hrm:=zc8 (k+1) 72 (by omega)
    repeat' first|refine Va (fA9 @kz zry hlt' hlt hget hxe hrl hrm hw) ?_|(with_reducible first|refine SB.c ?_ ?_<;>intro _|exact zad)|refine CK.dx [0,1] [] zdI hic ?_|with_reducible refine zac ?_|omega
    exact ⟨⟨k+1,by omega⟩,(WTe [0,1,2,3,6,5,4] (by simp [kwt,hsn,hye]) (by simp [kwt,hsn,hye])),by simp;omega⟩
   ·have hlt':¬ (k:Int)<e.args.length:=by omega
    have hke:k=e.args.length:=by omega
    subst hke
    repeat' first|refine Va (fA3 zry hlt' @List.take_length.{0}) ?_|(with_reducible first|refine SB.c ?_ ?_<;>intro _|exact zad)|with_reducible refine zac ?_|omega
    refine ⟨_,za0.freeze 4 rfl,?_⟩
    simp only [St.frz,zf6,frz,zf7,List.map_cons,List.map_nil,List.set_cons_zero,List.set_cons_succ,List.length_map,List.take_length,zeK,if_true,if_false,↓reduceIte,Nat.reduceEqDiff,eq_self,reduceCtorEq,Nat.succ_ne_self]
    (refine zay.mk [0,1,2,3,4,5,6] ?_ ?_<;>simp [kwr,zry])
  ·have h2':(e.op==2)=false:=by simpa using h2
   have h3':(e.op==3)=false:=by simpa using h3
   have hq:=hq0 h2 h3
   have hs1:e.slot=q.1.1:=by rw [hq]
   have hs2:e.size=q.1.2:=by rw [hq]
   have hs3:f.1=q.2.1:=by rw [hq]
   have hs4:f.2=q.2.2:=by rw [hq]
   simp only [zj5,hs1,hs2,hs3,hs4]
   refine zbw (fun d=>if d=3 then 2 else if d=4 then 3 else if d=7 then 5 else if d=44 then 6 else 9) 7 zFl ?_
   repeat' first|refine Va (fA3 zry h2' h3') ?_|(with_reducible first|refine SB.c ?_ ?_<;>intro _|exact zad)|with_reducible refine zac ?_|omega
   (refine LW.weak (za0.nilRow 5 4 6 rfl rfl (by decide)) ?_;simp only [List.set_cons_zero,List.set_cons_succ])
   refine zaI (ι:={k:Nat // k≤e.args.length}) (fun i=>⟨(.ref 0 0::.junk::.junk::.ref 2 0::.ref 3 0::.row 4 i.1::jl 27 (.pv (.slice (e.args.map zbk))::.pv (.int .i64 e.args.length)::.pv (.int .i64 i.1)::jl 13 [])),[zj5 (zd2 pl (e.args.take i.1) q.2).2,zkU pl,some (.cells [.pv (.int .i64 e.op),.pv (.int .i64 e.value),.pv (.str e.name),.pv (.int .i64 q.1.1),.pv (.int .i64 q.1.2),.pv (.slice (e.args.map zbk))]),some (.cells [.pv (.int .i64 0),.pv (.int .i64 0),.pv (.str []),.pv (.int .i64 0),.pv (.int .i64 0),.snil]),some (.row 6 ((zd2 pl (e.args.take i.1) q.2).1.map zbk)),none,none]⟩) (fun i=>e.args.length - i.1) ⟨0,by omega⟩ (WFe (by simp [kwf,zd2]) (by simp [kwf,zd2])) ?_
   rintro ⟨k,hk⟩
   by_cases hlt:k<e.args.length
   ·have hlt':(k:Int)<e.args.length:=by omega
    have hget:=zaA zbk e.args k hlt
    have hmem:e.args[k] ∈ e.args:=List.getElem_mem hlt
    have hdx:=zcB e.args e.args[k] hmem
    have hsn:=zju pl e.args q.2 k hlt
    have hrl:(zd2 pl (e.args.take k) q.2).1.length=k:=by rw [zeK];simp;omega
    generalize hx:e.args[k]=x at *
    have hxe:=zaC x
    have hlen:=zdr x
    have hic:=ih x (zd2 pl (e.args.take k) q.2).2 (by omega) (by omega)
    generalize zd2 pl (e.args.take k) q.2=r at *
    have hye:=zaC (rsE pl x r.2).1
    generalize rsE pl x r.2=y at *
    have hw:=zaQ k (by omega)
    have hrm:=zc8 (k+1) 72 (by omega)
    repeat' first|refine Va (fA9 @kz zry hlt' hlt hget hxe hrl hrm hw) ?_|(with_reducible first|refine SB.c ?_ ?_<;>intro _|exact zad)|refine CK.dx [0,1] [] zdI hic ?_|with_reducible refine zac ?_|omega
    exact ⟨⟨k+1,by omega⟩,(WTe [0,1,2,3,6,5,4] (by simp [kwt,hsn,hye]) (by simp [kwt,hsn,hye])),by simp;omega⟩
   ·have hlt':¬ (k:Int)<e.args.length:=by omega
    have hke:k=e.args.length:=by omega
    subst hke
    repeat' first|refine Va (fA3 zry hlt' @List.take_length.{0}) ?_|(with_reducible first|refine SB.c ?_ ?_<;>intro _|exact zad)|with_reducible refine zac ?_|omega
    refine ⟨_,za0.freeze 4 rfl,?_⟩
    simp only [St.frz,zf6,frz,zf7,List.map_cons,List.map_nil,List.set_cons_zero,List.set_cons_succ,List.length_map,List.take_length,zeK,if_true,if_false,↓reduceIte,Nat.reduceEqDiff,eq_self,reduceCtorEq,Nat.succ_ne_self]
    (refine zay.mk [0,1,2,3,4,5,6] ?_ ?_<;>simp [kwr,zry])
end Go.Proofs.YtfinhhblcdkpgaaGreatDoor
