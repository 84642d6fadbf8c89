/- The reference's resolver: expressions and statements. No condition. -/
import Derived.Test.YtfinhhblcdkpgaaGreatDoorLib2
import Derived.Test.YtfinhhblcdkpgaaGreatDoorK12
set_option maxRecDepth 100000
set_option maxHeartbeats 64000000
set_option linter.unusedSimpArgs false
set_option linter.unusedVariables false
namespace Go.Proofs.YtfinhhblcdkpgaaGreatDoor
open Go Go.Abs
theorem zq6 (l:List VarD) (hl:l.length≤1000000) (n:Nat):∀ e:Ex,szE e≤n→n≤1000000000→AC Tryz.prog gl 111 [.pv (.slice (l.map zav)),exP e] [] (.tup [exP (r3E l e).1,.pv (.bool (r3E l e).2)]) []:=by
 induction n with
 |zero=>intro e h;have:=zbw e;omega
 |succ n ih=>
  intro e hd hn
  have hsz:=zgv e
  have hal:=zdV e.args
  have cl:=zjd l e.name hl
  unfold zrM at cl
  rw [zDM]
  have hqt:(e.op==2 || e.op==3)=true→zdu l e.op e.name e.slot e.size 2 3=(((zaM e.name 0 l).1,(zaM e.name 0 l).2.1),(e.op==3)==decide ((zaM e.name 0 l).2.1 > 0)):=fun h=>by unfold zdu;rw [if_pos h]
  have hqf:(e.op==2 || e.op==3)=false→zdu l e.op e.name e.slot e.size 2 3=((e.slot,e.size),true):=fun h=>by unfold zdu;rw [if_neg (by rw [h];simp)]
  generalize (zaM e.name 0 l).1=q1 at *
  generalize (zaM e.name 0 l).2.1=q2 at *
  generalize (zaM e.name 0 l).2.2=q3 at *
  generalize zdu l e.op e.name e.slot e.size 2 3=q at *
  simp only [exP,Ex.op_mk,Ex.value_mk,Ex.name_mk,Ex.slot_mk,Ex.size_mk,Ex.args_mk] at ih ⊢
  cases ho:(e.op==2 || e.op==3)
  ·have hq:=hqf ho
   clear hqt hqf cl
   refine zas (fun d=>if d=3 then 0 else if d=4 then 1 else if d=6 then 2 else if d=12 then 3 else if d=63 then 5 else 9) 6 zDt ?_
   refine Wk1 (fA2 zrH ho) ?_
   (refine LW.weak (zaY.nilRowC 2 5 4 6 rfl rfl rfl (by decide)) ?_;simp only [List.set_cons_zero,List.set_cons_succ])
   refine zaK (ι:={k:Nat // k≤e.args.length}) (fun i=>⟨(.pv (.slice (l.map zav))::.junk::.junk::.ref 0 0::.ref 1 0::.junk::.ref 2 0::.pv (.bool (q.2&&(ze1 l (e.args.take i.1)).2))::jl 3 (.pv (.int .i64 i.1)::jl 59 [])),
    [some (.cells [.pv (.int .i64 e.op),.pv (.int .i64 e.value),.pv (.str e.name),.pv (.int .i64 e.slot),.pv (.int .i64 e.size),.pv (.slice (e.args.map zbq))]),some (.cells [.pv (.int .i64 0),.pv (.int .i64 0),.pv (.str []),.pv (.int .i64 0),.pv (.int .i64 0),.snil]),some (.cells [.pv (.int .i64 e.op),.pv (.int .i64 e.value),.pv (.str e.name),.pv (.int .i64 q.1.1),.pv (.int .i64 q.1.2),.row 4 i.1]),none,some (.row 6 ((ze1 l (e.args.take i.1)).1.map zbq)),none]⟩) (fun i=>e.args.length - i.1) ⟨0,by omega⟩ (WFe (by simp [kwf,hq,ze1]) (by simp [kwf,hq,ze1])) ?_
   rintro ⟨k,hk⟩
   by_cases hlt:k<e.args.length
   ·have hlt':(k:Int)<e.args.length:=by omega
    have hget:=zaE zbq e.args k hlt
    have hdx:=zcP e.args e.args[k] (List.getElem_mem hlt)
    have hsn:=znE l e.args k hlt
    have hrl:(ze1 l (e.args.take k)).1.length=k:=by rw [zhz];simp;omega
    generalize hx:e.args[k]=x at *
    have hxe:=zaz x
    have hic:=ih x (by omega) (by omega)
    have hye:=zaz (r3E l x).1
    generalize r3E l x=y at *
    generalize ze1 l (e.args.take k)=r at *
    have hw:=zaP k (by omega)
    have hrm:=zc3 (k+1) 72 (by omega)
    refine Wk1 (fA9 zrH hlt' hlt hget hxe hw hrl hrm (CE.mk zeH hic)) ?_
    exact ⟨⟨k+1,by omega⟩,(WTe [0,1,2,3,5,4] (by simp [kwt,hsn,hye,Bool.and_assoc]) (by simp [kwt,hsn,hye,Bool.and_assoc])),by show e.args.length - (k+1)<e.args.length - k;omega⟩
   ·have hlt':¬ (k:Int)<e.args.length:=by omega
    have hke:k=e.args.length:=by omega
    subst hke
    refine Wk0 (fA4 zrH hlt' @List.take_length.{0} @zhz)
  ·have hq:=hqt ho
   clear hqt hqf
   refine zas (fun d=>if d=3 then 0 else if d=4 then 1 else if d=6 then 2 else if d=12 then 3 else if d=63 then 5 else 9) 6 zDt ?_
   refine Wk1 (fA3 zrH ho (CE.mk zhm cl)) ?_
   clear cl
   (refine LW.weak (zaY.nilRowC 2 5 4 6 rfl rfl rfl (by decide)) ?_;simp only [List.set_cons_zero,List.set_cons_succ])
   refine zaK (ι:={k:Nat // k≤e.args.length}) (fun i=>⟨(.pv (.slice (l.map zav))::.junk::.junk::.ref 0 0::.ref 1 0::.junk::.ref 2 0::.pv (.bool (q.2&&(ze1 l (e.args.take i.1)).2))::jl 3 (.pv (.int .i64 i.1)::jl 59 [])),
    [some (.cells [.pv (.int .i64 e.op),.pv (.int .i64 e.value),.pv (.str e.name),.pv (.int .i64 e.slot),.pv (.int .i64 e.size),.pv (.slice (e.args.map zbq))]),some (.cells [.pv (.int .i64 0),.pv (.int .i64 0),.pv (.str []),.pv (.int .i64 0),.pv (.int .i64 0),.snil]),some (.cells [.pv (.int .i64 e.op),.pv (.int .i64 e.value),.pv (.str e.name),.pv (.int .i64 q.1.1),.pv (.int .i64 q.1.2),.row 4 i.1]),none,some (.row 6 ((ze1 l (e.args.take i.1)).1.map zbq)),none]⟩) (fun i=>e.args.length - i.1) ⟨0,by omega⟩ (WFe (by simp [kwf,hq,ze1]) (by simp [kwf,hq,ze1])) ?_
   rintro ⟨k,hk⟩
   by_cases hlt:k<e.args.length
   ·have hlt':(k:Int)<e.args.length:=by omega
    have hget:=zaE zbq e.args k hlt
    have hdx:=zcP e.args e.args[k] (List.getElem_mem hlt)
    have hsn:=znE l e.args k hlt
    have hrl:(ze1 l (e.args.take k)).1.length=k:=by rw [zhz];simp;omega
    generalize hx:e.args[k]=x at *
    have hxe:=zaz x
    have hic:=ih x (by omega) (by omega)
    have hye:=zaz (r3E l x).1
    generalize r3E l x=y at *
    generalize ze1 l (e.args.take k)=r at *
    have hw:=zaP k (by omega)
    have hrm:=zc3 (k+1) 72 (by omega)
    refine Wk1 (fA9 zrH hlt' hlt hget hxe hw hrl hrm (CE.mk zeH hic)) ?_
    exact ⟨⟨k+1,by omega⟩,(WTe [0,1,2,3,5,4] (by simp [kwt,hsn,hye,Bool.and_assoc]) (by simp [kwt,hsn,hye,Bool.and_assoc])),by show e.args.length - (k+1)<e.args.length - k;omega⟩
   ·have hlt':¬ (k:Int)<e.args.length:=by omega
    have hke:k=e.args.length:=by omega
    subst hke
    refine Wk0 (fA4 zrH hlt' @List.take_length.{0} @zhz)
abbrev r3A (r:List Sm × Bool):AVal:=.tup [.pv (.slice (r.1.map zah)),.pv (.bool r.2)]
theorem zob (l:List VarD) (hl:l.length≤1000000) (s:List Sm) (hs:s.length≤1000000000)
  (cE:∀ x ∈ s,AC Tryz.prog gl 111 [.pv (.slice (l.map zav)),exP x.place] [] (.tup [exP (r3E l x.place).1,.pv (.bool (r3E l x.place).2)]) []∧AC Tryz.prog gl 111 [.pv (.slice (l.map zav)),exP x.value] [] (.tup [exP (r3E l x.value).1,.pv (.bool (r3E l x.value).2)]) [])
  (cL:∀ x ∈ s,AC Tryz.prog gl 80 [.pv (.slice (l.map zav)),.pv (.slice (x.body.map zah))] [] (r3A (zcd l x.body)) []∧AC Tryz.prog gl 80 [.pv (.slice (l.map zav)),.pv (.slice (x.els.map zah))] [] (r3A (zcd l x.els)) []) :
  AC Tryz.prog gl 80 [.pv (.slice (l.map zav)),.pv (.slice (s.map zah))] [] (r3A (zcd l s)) []:=by
 refine zas (fun d=>if d=9 then 1 else if d=13 then 2 else if d=15 then 3 else if d=99 then 4 else 9) 5 zJ2 ?_
 refine Wk1 zEN ?_
 (refine LW.weak (zaY.nilRow 6 0 18 rfl rfl (by decide)) ?_;simp only [List.set_cons_zero,List.set_cons_succ])
 refine zaK (ι:={k:Nat // k≤s.length}) (fun i=>⟨(.pv (.slice (l.map zav))::.pv (.slice (s.map zah))::jl 4 (.row 0 i.1::.pv (.bool (zcd l (s.take i.1)).2)::.pv (.int .i64 i.1)::jl 106 [])),[some (.row 18 ((zcd l (s.take i.1)).1.map zah)),none,none,none,none]⟩) (fun i=>s.length - i.1) ⟨0,by simp⟩ (WFe (by simp [kwf,zcd]) (by simp [kwf,zcd])) ?_
 rintro ⟨k,hk⟩
 by_cases hlt:k<s.length
 ·have hlt':(k:Int)<s.length:=by omega
  have hget:=zaE zah s k hlt
  have hmem:s[k] ∈ s:=List.getElem_mem hlt
  have hsn:=zug l s k hlt
  have hrl:(zcd l (s.take k)).1.length=k:=by rw [zmd];simp;omega
  obtain ⟨cP,cV⟩:=cE s[k] hmem
  obtain ⟨cB,cN⟩:=cL s[k] hmem
  clear cE cL
  generalize hx:s[k]=x at *
  have hxe:=zag x
  have hye:=zag (r3S l x).1
  rw [zDN] at hsn hye
  simp only [Sm.kind_mk,Sm.name_mk,Sm.slot_mk,Sm.size_mk,Sm.place_mk,Sm.value_mk,Sm.body_mk,Sm.els_mk] at hye
  have cl:=zjd l x.name hl
  unfold zrM at cl
  have hqt:(x.kind==1 || x.kind==2)=true→zdu l x.kind x.name x.slot x.size 1 2=(((zaM x.name 0 l).1,(zaM x.name 0 l).2.1),(x.kind==2)==decide ((zaM x.name 0 l).2.1 > 0)):=fun h=>by unfold zdu;rw [if_pos h]
  have hqf:(x.kind==1 || x.kind==2)=false→zdu l x.kind x.name x.slot x.size 1 2=((x.slot,x.size),true):=fun h=>by unfold zdu;rw [if_neg (by rw [h];simp)]
  simp only [exP,r3A] at cP cV cB cN
  generalize (zaM x.name 0 l).1=q1 at *
  generalize (zaM x.name 0 l).2.1=q2 at *
  generalize (zaM x.name 0 l).2.2=q3 at *
  generalize zdu l x.kind x.name x.slot x.size 1 2=q at *
  generalize r3E l x.place=yp at *
  generalize r3E l x.value=yv at *
  generalize zcd l x.body=yb at *
  generalize zcd l x.els=yl at *
  generalize zcd l (s.take k)=r at *
  have hw:=zaP k (by omega)
  have hrm:=zc3 (k+1) 232 (by omega)
  cases ho:(x.kind==1 || x.kind==2)
  ·have hq:=hqf ho
   simp only [hq] at hye hsn
   refine Wk1 (zhQ zEN ho hlt' hlt hget hxe hw hrl hrm (CE.mk zeH cP) (CE.mk zeH cV) (CE.mk zcO cB) (CE.mk zcO cN)) ?_
   exact ⟨⟨k+1,by omega⟩,(WTe [4,1,2,3,0] (by simp [kwt,hsn,hye,hq,Bool.and_assoc]) (by simp [kwt,hsn,hye,hq,Bool.and_assoc])),by show s.length - (k+1)<s.length - k;omega⟩
  ·have hq:=hqt ho
   simp only [hq] at hye hsn
   refine Wk1 (zrC zEN ho hlt' hlt hget hxe hw hrl hrm (CE.mk zhm cl) (CE.mk zeH cP) (CE.mk zeH cV) (CE.mk zcO cB) (CE.mk zcO cN)) ?_
   exact ⟨⟨k+1,by omega⟩,(WTe [4,1,2,3,0] (by simp [kwt,hsn,hye,hq,Bool.and_assoc]) (by simp [kwt,hsn,hye,hq,Bool.and_assoc])),by show s.length - (k+1)<s.length - k;omega⟩
 ·have hlt':¬ (k:Int)<s.length:=by omega
  have hke:k=s.length:=by omega
  subst hke
  refine Wk0 (fA4 zEN hlt' @List.take_length.{0} @zmd)
theorem zpv (l:List VarD) (hl:l.length≤1000000) (n:Nat):n≤1000000000→∀ s:List Sm,zbz s≤n→AC Tryz.prog gl 80 [.pv (.slice (l.map zav)),.pv (.slice (s.map zah))] [] (r3A (zcd l s)) []:=by
 induction n with
 |zero=>intro hn s hs;exact zob l hl s (by have:=zbO s;omega) (fun x hx=>by have:=zaV s x hx;have:=zcm x;omega) (fun x hx=>by have:=zaV s x hx;have:=zcm x;omega)
 |succ n ih=>
  intro hn s hs
  exact zob l hl s (by have:=zbO s;omega) (fun x hx=>by
   have:=zaV s x hx;have:=zea x
   exact ⟨zq6 l hl n x.place (by omega) (by omega),zq6 l hl n x.value (by omega) (by omega)⟩) (fun x hx=>by
   have:=zaV s x hx;have:=zea x;have:=zbw x.place
   exact ⟨ih (by omega) x.body (by omega),ih (by omega) x.els (by omega)⟩)
theorem zhL (l:List VarD) (hl:l.length≤1000000) (s:List Sm) (hs:zbz s≤1000000000):AC Tryz.prog gl 80 [.pv (.slice (l.map zav)),.pv (.slice (s.map zah))] [] (r3A (zcd l s)) []:=zpv l hl _ (Nat.le_refl _) s hs
end Go.Proofs.YtfinhhblcdkpgaaGreatDoor
