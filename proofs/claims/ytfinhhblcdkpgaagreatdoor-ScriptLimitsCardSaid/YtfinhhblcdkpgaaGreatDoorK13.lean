/- The reference's resolver: expressions and statements. No condition. -/
import Derived.Test.YtfinhhblcdkpgaaGreatDoorK12
set_option maxRecDepth 100000
set_option maxHeartbeats 64000000
set_option linter.unusedSimpArgs false
set_option linter.unusedVariables false
set_option linter.defProp false
namespace Go.Proofs.YtfinhhblcdkpgaaGreatDoor
open Go Go.Abs
theorem zp6 (l:List VarD) (hl:l.length≤1000000) (n:Nat):∀ e:Ex,szE e≤n→n≤1000000000→AC Tryz.prog gl 111 [.pv (.slice (l.map zat)),exP e] [] (.tup [exP (r3E l e).1,.pv (.bool (r3E l e).2)]) []:=by
 induction n with
 |zero=>intro e h;have:=zbx e;omega
 |succ n ih=>
  intro e hd hn
  have hsz:=zgV e
  have hal:=zdJ e.args
  have cl:=ziE l e.name hl
  unfold zqO at cl
  rw [zCo]
  have hqt:(e.op==2 || e.op==3)=true→zdh l e.op e.name e.slot e.size 2 3=(((zaK e.name 0 l).1,(zaK e.name 0 l).2.1),(e.op==3)==decide ((zaK e.name 0 l).2.1 > 0)):=fun h=>by unfold zdh;rw [if_pos h]
  have hqf:(e.op==2 || e.op==3)=false→zdh l e.op e.name e.slot e.size 2 3=((e.slot,e.size),true):=fun h=>by unfold zdh;rw [if_neg (by rw [h];simp)]
  generalize (zaK e.name 0 l).1=q1 at *
  generalize (zaK e.name 0 l).2.1=q2 at *
  generalize (zaK e.name 0 l).2.2=q3 at *
  generalize zdh l e.op e.name e.slot e.size 2 3=q at *
  simp only [exP,Ex.op_mk,Ex.value_mk,Ex.name_mk,Ex.slot_mk,Ex.size_mk,Ex.args_mk] at ih ⊢
  cases ho:(e.op==2 || e.op==3)
  ·have hq:=hqf ho
   clear hqt hqf cl
   refine zap (fun d=>if d=3 then 0 else if d=4 then 1 else if d=6 then 2 else if d=12 then 3 else if d=63 then 5 else 9) 6 zB6 ?_
   repeat' first|refine Va (fA2 zqI ho) ?_|(with_reducible first|refine SB.c ?_ ?_<;>intro _|exact zad)|with_reducible refine zac ?_|omega
   (refine LW.weak (za0.nilRowC 2 5 4 6 rfl rfl rfl (by decide)) ?_;simp only [List.set_cons_zero,List.set_cons_succ])
   refine zaI (ι:={k:Nat // k≤e.args.length}) (fun i=>⟨(.pv (.slice (l.map zat))::.junk::.junk::.ref 0 0::.ref 1 0::.junk::.ref 2 0::.pv (.bool (q.2&&(zeL l (e.args.take i.1)).2))::jl 3 (.pv (.int .i64 i.1)::jl 59 [])),
    [some (.cells [.pv (.int .i64 e.op),.pv (.int .i64 e.value),.pv (.str e.name),.pv (.int .i64 e.slot),.pv (.int .i64 e.size),.pv (.slice (e.args.map zbk))]),some (.cells [.pv (.int .i64 0),.pv (.int .i64 0),.pv (.str []),.pv (.int .i64 0),.pv (.int .i64 0),.snil]),some (.cells [.pv (.int .i64 e.op),.pv (.int .i64 e.value),.pv (.str e.name),.pv (.int .i64 q.1.1),.pv (.int .i64 q.1.2),.row 4 i.1]),none,some (.row 6 ((zeL l (e.args.take i.1)).1.map zbk)),none]⟩) (fun i=>e.args.length - i.1) ⟨0,by omega⟩ (WFe (by simp [kwf,hq,zeL]) (by simp [kwf,hq,zeL])) ?_
   rintro ⟨k,hk⟩
   by_cases hlt:k<e.args.length
   ·have hlt':(k:Int)<e.args.length:=by omega
    have hget:=zaA zbk e.args k hlt
    have hdx:=zcB e.args e.args[k] (List.getElem_mem hlt)
    have hsn:=znd l e.args k hlt
    have hrl:(zeL l (e.args.take k)).1.length=k:=by rw [zg1];simp;omega
    generalize hx:e.args[k]=x at *
    have hxe:=zaC x
    have hic:=ih x (by omega) (by omega)
    have hye:=zaC (r3E l x).1
    generalize r3E l x=y at *
    generalize zeL l (e.args.take k)=r at *
    have hw:=zaQ k (by omega)
    have hrm:=zc8 (k+1) 72 (by omega)
    repeat' first|refine Va (fA8 zqI hlt' hlt hget hxe hw hrl hrm) ?_|(with_reducible first|refine SB.c ?_ ?_<;>intro _|exact zad)|refine CK.d0 zes hic ?_|with_reducible refine zac ?_|omega
    exact ⟨⟨k+1,by omega⟩,(WTe [0,1,2,3,5,4] (by simp [kwt,hsn,hye,Bool.and_assoc]) (by simp [kwt,hsn,hye,Bool.and_assoc])),by show e.args.length - (k+1)<e.args.length - k;omega⟩
   ·have hlt':¬ (k:Int)<e.args.length:=by omega
    have hke:k=e.args.length:=by omega
    subst hke
    repeat' first|refine Va (fA4 zqI hlt' @List.take_length.{0} @zg1) ?_|(with_reducible first|refine SB.c ?_ ?_<;>intro _|exact zad)|with_reducible refine zac ?_|omega
  ·have hq:=hqt ho
   clear hqt hqf
   refine zap (fun d=>if d=3 then 0 else if d=4 then 1 else if d=6 then 2 else if d=12 then 3 else if d=63 then 5 else 9) 6 zB6 ?_
   repeat' first|refine Va (fA2 zqI ho) ?_|(with_reducible first|refine SB.c ?_ ?_<;>intro _|exact zad)|refine CK.d0 zgP cl ?_|with_reducible refine zac ?_|omega
   clear cl
   (refine LW.weak (za0.nilRowC 2 5 4 6 rfl rfl rfl (by decide)) ?_;simp only [List.set_cons_zero,List.set_cons_succ])
   refine zaI (ι:={k:Nat // k≤e.args.length}) (fun i=>⟨(.pv (.slice (l.map zat))::.junk::.junk::.ref 0 0::.ref 1 0::.junk::.ref 2 0::.pv (.bool (q.2&&(zeL l (e.args.take i.1)).2))::jl 3 (.pv (.int .i64 i.1)::jl 59 [])),
    [some (.cells [.pv (.int .i64 e.op),.pv (.int .i64 e.value),.pv (.str e.name),.pv (.int .i64 e.slot),.pv (.int .i64 e.size),.pv (.slice (e.args.map zbk))]),some (.cells [.pv (.int .i64 0),.pv (.int .i64 0),.pv (.str []),.pv (.int .i64 0),.pv (.int .i64 0),.snil]),some (.cells [.pv (.int .i64 e.op),.pv (.int .i64 e.value),.pv (.str e.name),.pv (.int .i64 q.1.1),.pv (.int .i64 q.1.2),.row 4 i.1]),none,some (.row 6 ((zeL l (e.args.take i.1)).1.map zbk)),none]⟩) (fun i=>e.args.length - i.1) ⟨0,by omega⟩ (WFe (by simp [kwf,hq,zeL]) (by simp [kwf,hq,zeL])) ?_
   rintro ⟨k,hk⟩
   by_cases hlt:k<e.args.length
   ·have hlt':(k:Int)<e.args.length:=by omega
    have hget:=zaA zbk e.args k hlt
    have hdx:=zcB e.args e.args[k] (List.getElem_mem hlt)
    have hsn:=znd l e.args k hlt
    have hrl:(zeL l (e.args.take k)).1.length=k:=by rw [zg1];simp;omega
    generalize hx:e.args[k]=x at *
    have hxe:=zaC x
    have hic:=ih x (by omega) (by omega)
    have hye:=zaC (r3E l x).1
    generalize r3E l x=y at *
    generalize zeL l (e.args.take k)=r at *
    have hw:=zaQ k (by omega)
    have hrm:=zc8 (k+1) 72 (by omega)
    repeat' first|refine Va (fA8 zqI hlt' hlt hget hxe hw hrl hrm) ?_|(with_reducible first|refine SB.c ?_ ?_<;>intro _|exact zad)|refine CK.d0 zes hic ?_|with_reducible refine zac ?_|omega
    exact ⟨⟨k+1,by omega⟩,(WTe [0,1,2,3,5,4] (by simp [kwt,hsn,hye,Bool.and_assoc]) (by simp [kwt,hsn,hye,Bool.and_assoc])),by show e.args.length - (k+1)<e.args.length - k;omega⟩
   ·have hlt':¬ (k:Int)<e.args.length:=by omega
    have hke:k=e.args.length:=by omega
    subst hke
    repeat' first|refine Va (fA4 zqI hlt' @List.take_length.{0} @zg1) ?_|(with_reducible first|refine SB.c ?_ ?_<;>intro _|exact zad)|with_reducible refine zac ?_|omega
abbrev r3A (r:List Sm × Bool):AVal:=.tup [.pv (.slice (r.1.map zai)),.pv (.bool r.2)]
theorem znB (l:List VarD) (hl:l.length≤1000000) (s:List Sm) (hs:s.length≤1000000000)
  (cE:∀ x ∈ s,AC Tryz.prog gl 111 [.pv (.slice (l.map zat)),exP x.place] [] (.tup [exP (r3E l x.place).1,.pv (.bool (r3E l x.place).2)]) []∧AC Tryz.prog gl 111 [.pv (.slice (l.map zat)),exP x.value] [] (.tup [exP (r3E l x.value).1,.pv (.bool (r3E l x.value).2)]) [])
  (cL:∀ x ∈ s,AC Tryz.prog gl 80 [.pv (.slice (l.map zat)),.pv (.slice (x.body.map zai))] [] (r3A (zb4 l x.body)) []∧AC Tryz.prog gl 80 [.pv (.slice (l.map zat)),.pv (.slice (x.els.map zai))] [] (r3A (zb4 l x.els)) []) :
  AC Tryz.prog gl 80 [.pv (.slice (l.map zat)),.pv (.slice (s.map zai))] [] (r3A (zb4 l s)) []:=by
 refine zap (fun d=>if d=9 then 1 else if d=13 then 2 else if d=15 then 3 else if d=99 then 4 else 9) 5 zIn ?_
 repeat' first|refine Va zDe ?_|(with_reducible first|refine SB.c ?_ ?_<;>intro _|exact zad)|with_reducible refine zac ?_|omega
 (refine LW.weak (za0.nilRow 6 0 18 rfl rfl (by decide)) ?_;simp only [List.set_cons_zero,List.set_cons_succ])
 refine zaI (ι:={k:Nat // k≤s.length}) (fun i=>⟨(.pv (.slice (l.map zat))::.pv (.slice (s.map zai))::jl 4 (.row 0 i.1::.pv (.bool (zb4 l (s.take i.1)).2)::.pv (.int .i64 i.1)::jl 106 [])),[some (.row 18 ((zb4 l (s.take i.1)).1.map zai)),none,none,none,none]⟩) (fun i=>s.length - i.1) ⟨0,by simp⟩ (WFe (by simp [kwf,zb4]) (by simp [kwf,zb4])) ?_
 rintro ⟨k,hk⟩
 by_cases hlt:k<s.length
 ·have hlt':(k:Int)<s.length:=by omega
  have hget:=zaA zai s k hlt
  have hmem:s[k] ∈ s:=List.getElem_mem hlt
  have hsn:=zs6 l s k hlt
  have hrl:(zb4 l (s.take k)).1.length=k:=by rw [zlN];simp;omega
  obtain ⟨cP,cV⟩:=cE s[k] hmem
  obtain ⟨cB,cN⟩:=cL s[k] hmem
  clear cE cL
  generalize hx:s[k]=x at *
  have hxe:=zan x
  have hye:=zan (r3S l x).1
  rw [zCp] at hsn hye
  simp only [Sm.kind_mk,Sm.name_mk,Sm.slot_mk,Sm.size_mk,Sm.place_mk,Sm.value_mk,Sm.body_mk,Sm.els_mk] at hye
  have cl:=ziE l x.name hl
  unfold zqO at cl
  have hqt:(x.kind==1 || x.kind==2)=true→zdh l x.kind x.name x.slot x.size 1 2=(((zaK x.name 0 l).1,(zaK x.name 0 l).2.1),(x.kind==2)==decide ((zaK x.name 0 l).2.1 > 0)):=fun h=>by unfold zdh;rw [if_pos h]
  have hqf:(x.kind==1 || x.kind==2)=false→zdh l x.kind x.name x.slot x.size 1 2=((x.slot,x.size),true):=fun h=>by unfold zdh;rw [if_neg (by rw [h];simp)]
  simp only [exP,r3A] at cP cV cB cN
  generalize (zaK x.name 0 l).1=q1 at *
  generalize (zaK x.name 0 l).2.1=q2 at *
  generalize (zaK x.name 0 l).2.2=q3 at *
  generalize zdh l x.kind x.name x.slot x.size 1 2=q at *
  generalize r3E l x.place=yp at *
  generalize r3E l x.value=yv at *
  generalize zb4 l x.body=yb at *
  generalize zb4 l x.els=yl at *
  generalize zb4 l (s.take k)=r at *
  have hw:=zaQ k (by omega)
  have hrm:=zc8 (k+1) 232 (by omega)
  cases ho:(x.kind==1 || x.kind==2)
  ·have hq:=hqf ho
   simp only [hq] at hye hsn
   repeat' first|refine Va (fA9 zDe ho hlt' hlt hget hxe hw hrl hrm) ?_|(with_reducible first|refine SB.c ?_ ?_<;>intro _|exact zad)|refine CK.d0 zes cP ?_|refine CK.d0 zes cV ?_|refine CK.d0 zcA cB ?_|refine CK.d0 zcA cN ?_|with_reducible refine zac ?_|omega
   exact ⟨⟨k+1,by omega⟩,(WTe [4,1,2,3,0] (by simp [kwt,hsn,hye,hq,Bool.and_assoc]) (by simp [kwt,hsn,hye,hq,Bool.and_assoc])),by show s.length - (k+1)<s.length - k;omega⟩
  ·have hq:=hqt ho
   simp only [hq] at hye hsn
   repeat' first|refine Va (fA9 zDe ho hlt' hlt hget hxe hw hrl hrm) ?_|(with_reducible first|refine SB.c ?_ ?_<;>intro _|exact zad)|refine CK.d0 zgP cl ?_|refine CK.d0 zes cP ?_|refine CK.d0 zes cV ?_|refine CK.d0 zcA cB ?_|refine CK.d0 zcA cN ?_|with_reducible refine zac ?_|omega
   exact ⟨⟨k+1,by omega⟩,(WTe [4,1,2,3,0] (by simp [kwt,hsn,hye,hq,Bool.and_assoc]) (by simp [kwt,hsn,hye,hq,Bool.and_assoc])),by show s.length - (k+1)<s.length - k;omega⟩
 ·have hlt':¬ (k:Int)<s.length:=by omega
  have hke:k=s.length:=by omega
  subst hke
  repeat' first|refine Va (fA4 zDe hlt' @List.take_length.{0} @zlN) ?_|(with_reducible first|refine SB.c ?_ ?_<;>intro _|exact zad)|with_reducible refine zac ?_|omega
theorem zoN (l:List VarD) (hl:l.length≤1000000) (n:Nat):n≤1000000000→∀ s:List Sm,zbT s≤n→AC Tryz.prog gl 80 [.pv (.slice (l.map zat)),.pv (.slice (s.map zai))] [] (r3A (zb4 l s)) []:=by
 induction n with
 |zero=>intro hn s hs;exact znB l hl s (by have:=zbY s;omega) (fun x hx=>by have:=za1 s x hx;have:=zde x;omega) (fun x hx=>by have:=za1 s x hx;have:=zde x;omega)
 |succ n ih=>
  intro hn s hs
  exact znB l hl s (by have:=zbY s;omega) (fun x hx=>by
   have:=za1 s x hx;have:=zed x
   exact ⟨zp6 l hl n x.place (by omega) (by omega),zp6 l hl n x.value (by omega) (by omega)⟩) (fun x hx=>by
   have:=za1 s x hx;have:=zed x;have:=zbx x.place
   exact ⟨ih (by omega) x.body (by omega),ih (by omega) x.els (by omega)⟩)
theorem zhc (l:List VarD) (hl:l.length≤1000000) (s:List Sm) (hs:zbT s≤1000000000):AC Tryz.prog gl 80 [.pv (.slice (l.map zat)),.pv (.slice (s.map zai))] [] (r3A (zb4 l s)) []:=zoN l hl _ (Nat.le_refl _) s hs
end Go.Proofs.YtfinhhblcdkpgaaGreatDoor
