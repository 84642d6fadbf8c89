/- The resolver of expressions. No condition. -/
import Derived.Test.YtfinhhblcdkpgaaGreatDoorK1
set_option maxRecDepth 100000
set_option maxHeartbeats 64000000
set_option linter.unusedSimpArgs false
set_option linter.unusedVariables false
set_option linter.defProp false
namespace Go.Proofs.YtfinhhblcdkpgaaGreatDoor
open Go Go.Abs
abbrev exV (e:Ex):AVal:=.agg [.pv (.int .i64 e.op),.pv (.int .i64 e.value),.pv (.str e.name),.pv (.int .i64 e.slot),.pv (.int .i64 e.size),.pv (.slice (e.args.map zbg))]
theorem zoj (pl:List Pl) (n:Nat):∀ (e:Ex) (f:Fl),szE e≤n→n≤1000000000→AC Tryz.prog gl 95 [.ref 0 0,exV e] [ziN f,zjE pl]
  (exV (rsE pl e f).1) [ziN (rsE pl e f).2,zjE pl]:=by
 induction n with
 |zero=>intro e f h;have:=zbo e;omega
 |succ n ih=>
  intro e f hd hn
  have hsz:=zgM e
  have hal:=zeW e.args
  rw [zzP]
  have hq2:e.op=2→zfx pl e.name false f=zdK pl e.op e.name e.slot e.size f 2 3:=fun h=>by simp [zdK,h]
  have hq3:¬ e.op=2→e.op=3→zfx pl e.name true f=zdK pl e.op e.name e.slot e.size f 2 3:=fun h h'=>by simp [zdK,h,h']
  have hq0:¬ e.op=2→¬ e.op=3→zdK pl e.op e.name e.slot e.size f 2 3=((e.slot,e.size),f):=fun h h'=>by simp [zdK,h,h']
  generalize zdK pl e.op e.name e.slot e.size f 2 3=q at *
  simp only [exV,Ex.op_mk,Ex.value_mk,Ex.name_mk,Ex.slot_mk,Ex.size_mk,Ex.args_mk]
  rcases (show e.op=2∨(¬ e.op=2∧e.op=3)∨(¬ e.op=2∧¬ e.op=3) by omega) with h2|⟨h2,h3⟩|⟨h2,h3⟩
  ·have hc1:=zkJ pl e.name false f
   rw [hq2 h2] at hc1
   have h2':(e.op==2)=true:=by simp [h2]
   refine zg0 (fun d=>if d=3 then 2 else if d=4 then 3 else if d=7 then 5 else if d=44 then 6 else 9) 7 zCC ?_
   (repeat' (first|refine Va (fA3 @kz zpE h2') ?_|(with_reducible first|refine SB.c ?_ ?_<;>intro _|exact zac)|refine CK.dx [0,1] [] zhd hc1 ?_|with_reducible refine zab ?_|omega))
   (refine LW.weak (zbK.nilRow 5 4 6 rfl rfl (by decide)) ?_;simp only [List.set_cons_zero,List.set_cons_succ])
   refine za6 (ι:={k:Nat // k≤e.args.length}) (fun i=>⟨(.ref 0 0::.junk::.junk::.ref 2 0::.ref 3 0::.row 4 i.1::jl 27 (.pv (.slice (e.args.map zbg))::.pv (.int .i64 e.args.length)::.pv (.int .i64 i.1)::jl 13 [])),[ziN (zdR pl (e.args.take i.1) q.2).2,zjE pl,some (.cells [.pv (.int .i64 e.op),.pv (.int .i64 e.value),.pv (.str e.name),.pv (.int .i64 q.1.1),.pv (.int .i64 q.1.2),.pv (.slice (e.args.map zbg))]),some (.cells [.pv (.int .i64 0),.pv (.int .i64 0),.pv (.str []),.pv (.int .i64 0),.pv (.int .i64 0),.snil]),some (.row 6 ((zdR pl (e.args.take i.1) q.2).1.map zbg)),none,none]⟩) (fun i=>e.args.length - i.1) ⟨0,by omega⟩ (WFe (by simp [kwf,zdR]) (by simp [kwf,zdR])) ?_
   rintro ⟨k,hk⟩
   by_cases hlt:k<e.args.length
   ·have hlt':(k:Int)<e.args.length:=by omega
    have hget:=zaN zbg e.args k hlt
    have hmem:e.args[k] ∈ e.args:=List.getElem_mem hlt
    have hdx:=zdx e.args e.args[k] hmem
    have hsn:=zh9 pl e.args q.2 k hlt
    have hrl:(zdR pl (e.args.take k) q.2).1.length=k:=by rw [zdZ];simp;omega
    generalize hx:e.args[k]=x at *
    have hxe:=zaq x
    have hlen:=zbh x
    have hic:=ih x (zdR pl (e.args.take k) q.2).2 (by omega) (by omega)
    generalize zdR pl (e.args.take k) q.2=r at *
    have hye:=zaq (rsE pl x r.2).1
    generalize rsE pl x r.2=y at *
    have hw:=zbc k (by omega)
    have hrm:=zej (k+1) 72 (by omega)
    (repeat' (first|refine Va (fA9 @kz zpE hlt' hlt hget hxe hrl hrm hw) ?_|(with_reducible first|refine SB.c ?_ ?_<;>intro _|exact zac)|refine CK.dx [0,1] [] zc6 hic ?_|with_reducible refine zab ?_|omega))
    exact ⟨⟨k+1,by omega⟩,(WTe [0,1,2,3,6,5,4] (by simp [kwt,hsn,hye]) (by simp [kwt,hsn,hye])),by simp;omega⟩
   ·have hlt':¬ (k:Int)<e.args.length:=by omega
    have hke:k=e.args.length:=by omega
    subst hke
    (repeat' (first|refine Va (fA3 zpE hlt' @List.take_length.{0}) ?_|(with_reducible first|refine SB.c ?_ ?_<;>intro _|exact zac)|with_reducible refine zab ?_|omega))
    refine ⟨_,zbK.freeze 4 rfl,?_⟩
    simp only [St.frz,zgI,frz,zgJ,List.map_cons,List.map_nil,List.set_cons_zero,List.set_cons_succ,List.length_map,List.take_length,zdZ,if_true,if_false,↓reduceIte,Nat.reduceEqDiff,eq_self,reduceCtorEq,Nat.succ_ne_self]
    (refine zaJ.mk [0,1,2,3,4,5,6] ?_ ?_<;>simp [kwr,zpE])
  ·have hc1:=zkJ pl e.name true f
   rw [hq3 h2 h3] at hc1
   have h2':(e.op==2)=false:=by simpa using h2
   have h3':(e.op==3)=true:=by simp [h3]
   refine zg0 (fun d=>if d=3 then 2 else if d=4 then 3 else if d=7 then 5 else if d=44 then 6 else 9) 7 zCC ?_
   (repeat' (first|refine Va (fA4 @kz zpE h2' h3') ?_|(with_reducible first|refine SB.c ?_ ?_<;>intro _|exact zac)|refine CK.dx [0,1] [] zhd hc1 ?_|with_reducible refine zab ?_|omega))
   (refine LW.weak (zbK.nilRow 5 4 6 rfl rfl (by decide)) ?_;simp only [List.set_cons_zero,List.set_cons_succ])
   refine za6 (ι:={k:Nat // k≤e.args.length}) (fun i=>⟨(.ref 0 0::.junk::.junk::.ref 2 0::.ref 3 0::.row 4 i.1::jl 27 (.pv (.slice (e.args.map zbg))::.pv (.int .i64 e.args.length)::.pv (.int .i64 i.1)::jl 13 [])),[ziN (zdR pl (e.args.take i.1) q.2).2,zjE pl,some (.cells [.pv (.int .i64 e.op),.pv (.int .i64 e.value),.pv (.str e.name),.pv (.int .i64 q.1.1),.pv (.int .i64 q.1.2),.pv (.slice (e.args.map zbg))]),some (.cells [.pv (.int .i64 0),.pv (.int .i64 0),.pv (.str []),.pv (.int .i64 0),.pv (.int .i64 0),.snil]),some (.row 6 ((zdR pl (e.args.take i.1) q.2).1.map zbg)),none,none]⟩) (fun i=>e.args.length - i.1) ⟨0,by omega⟩ (WFe (by simp [kwf,zdR]) (by simp [kwf,zdR])) ?_
   rintro ⟨k,hk⟩
   by_cases hlt:k<e.args.length
   ·have hlt':(k:Int)<e.args.length:=by omega
    have hget:=zaN zbg e.args k hlt
    have hmem:e.args[k] ∈ e.args:=List.getElem_mem hlt
    have hdx:=zdx e.args e.args[k] hmem
    have hsn:=zh9 pl e.args q.2 k hlt
    have hrl:(zdR pl (e.args.take k) q.2).1.length=k:=by rw [zdZ];simp;omega
    generalize hx:e.args[k]=x at *
    have hxe:=zaq x
    have hlen:=zbh x
    have hic:=ih x (zdR pl (e.args.take k) q.2).2 (by omega) (by omega)
    generalize zdR pl (e.args.take k) q.2=r at *
    have hye:=zaq (rsE pl x r.2).1
    generalize rsE pl x r.2=y at *
    have hw:=zbc k (by omega)
    have hrm:=zej (k+1) 72 (by omega)
    (repeat' (first|refine Va (fA9 @kz zpE hlt' hlt hget hxe hrl hrm hw) ?_|(with_reducible first|refine SB.c ?_ ?_<;>intro _|exact zac)|refine CK.dx [0,1] [] zc6 hic ?_|with_reducible refine zab ?_|omega))
    exact ⟨⟨k+1,by omega⟩,(WTe [0,1,2,3,6,5,4] (by simp [kwt,hsn,hye]) (by simp [kwt,hsn,hye])),by simp;omega⟩
   ·have hlt':¬ (k:Int)<e.args.length:=by omega
    have hke:k=e.args.length:=by omega
    subst hke
    (repeat' (first|refine Va (fA3 zpE hlt' @List.take_length.{0}) ?_|(with_reducible first|refine SB.c ?_ ?_<;>intro _|exact zac)|with_reducible refine zab ?_|omega))
    refine ⟨_,zbK.freeze 4 rfl,?_⟩
    simp only [St.frz,zgI,frz,zgJ,List.map_cons,List.map_nil,List.set_cons_zero,List.set_cons_succ,List.length_map,List.take_length,zdZ,if_true,if_false,↓reduceIte,Nat.reduceEqDiff,eq_self,reduceCtorEq,Nat.succ_ne_self]
    (refine zaJ.mk [0,1,2,3,4,5,6] ?_ ?_<;>simp [kwr,zpE])
  ·have h2':(e.op==2)=false:=by simpa using h2
   have h3':(e.op==3)=false:=by simpa using h3
   have hq:=hq0 h2 h3
   have hs1:e.slot=q.1.1:=by rw [hq]
   have hs2:e.size=q.1.2:=by rw [hq]
   have hs3:f.1=q.2.1:=by rw [hq]
   have hs4:f.2=q.2.2:=by rw [hq]
   simp only [ziN,hs1,hs2,hs3,hs4]
   refine zg0 (fun d=>if d=3 then 2 else if d=4 then 3 else if d=7 then 5 else if d=44 then 6 else 9) 7 zCC ?_
   (repeat' (first|refine Va (fA3 zpE h2' h3') ?_|(with_reducible first|refine SB.c ?_ ?_<;>intro _|exact zac)|with_reducible refine zab ?_|omega))
   (refine LW.weak (zbK.nilRow 5 4 6 rfl rfl (by decide)) ?_;simp only [List.set_cons_zero,List.set_cons_succ])
   refine za6 (ι:={k:Nat // k≤e.args.length}) (fun i=>⟨(.ref 0 0::.junk::.junk::.ref 2 0::.ref 3 0::.row 4 i.1::jl 27 (.pv (.slice (e.args.map zbg))::.pv (.int .i64 e.args.length)::.pv (.int .i64 i.1)::jl 13 [])),[ziN (zdR pl (e.args.take i.1) q.2).2,zjE pl,some (.cells [.pv (.int .i64 e.op),.pv (.int .i64 e.value),.pv (.str e.name),.pv (.int .i64 q.1.1),.pv (.int .i64 q.1.2),.pv (.slice (e.args.map zbg))]),some (.cells [.pv (.int .i64 0),.pv (.int .i64 0),.pv (.str []),.pv (.int .i64 0),.pv (.int .i64 0),.snil]),some (.row 6 ((zdR pl (e.args.take i.1) q.2).1.map zbg)),none,none]⟩) (fun i=>e.args.length - i.1) ⟨0,by omega⟩ (WFe (by simp [kwf,zdR]) (by simp [kwf,zdR])) ?_
   rintro ⟨k,hk⟩
   by_cases hlt:k<e.args.length
   ·have hlt':(k:Int)<e.args.length:=by omega
    have hget:=zaN zbg e.args k hlt
    have hmem:e.args[k] ∈ e.args:=List.getElem_mem hlt
    have hdx:=zdx e.args e.args[k] hmem
    have hsn:=zh9 pl e.args q.2 k hlt
    have hrl:(zdR pl (e.args.take k) q.2).1.length=k:=by rw [zdZ];simp;omega
    generalize hx:e.args[k]=x at *
    have hxe:=zaq x
    have hlen:=zbh x
    have hic:=ih x (zdR pl (e.args.take k) q.2).2 (by omega) (by omega)
    generalize zdR pl (e.args.take k) q.2=r at *
    have hye:=zaq (rsE pl x r.2).1
    generalize rsE pl x r.2=y at *
    have hw:=zbc k (by omega)
    have hrm:=zej (k+1) 72 (by omega)
    (repeat' (first|refine Va (fA9 @kz zpE hlt' hlt hget hxe hrl hrm hw) ?_|(with_reducible first|refine SB.c ?_ ?_<;>intro _|exact zac)|refine CK.dx [0,1] [] zc6 hic ?_|with_reducible refine zab ?_|omega))
    exact ⟨⟨k+1,by omega⟩,(WTe [0,1,2,3,6,5,4] (by simp [kwt,hsn,hye]) (by simp [kwt,hsn,hye])),by simp;omega⟩
   ·have hlt':¬ (k:Int)<e.args.length:=by omega
    have hke:k=e.args.length:=by omega
    subst hke
    (repeat' (first|refine Va (fA3 zpE hlt' @List.take_length.{0}) ?_|(with_reducible first|refine SB.c ?_ ?_<;>intro _|exact zac)|with_reducible refine zab ?_|omega))
    refine ⟨_,zbK.freeze 4 rfl,?_⟩
    simp only [St.frz,zgI,frz,zgJ,List.map_cons,List.map_nil,List.set_cons_zero,List.set_cons_succ,List.length_map,List.take_length,zdZ,if_true,if_false,↓reduceIte,Nat.reduceEqDiff,eq_self,reduceCtorEq,Nat.succ_ne_self]
    (refine zaJ.mk [0,1,2,3,4,5,6] ?_ ?_<;>simp [kwr,zpE])
end Go.Proofs.YtfinhhblcdkpgaaGreatDoor
