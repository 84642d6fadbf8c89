/- A part of the walk (Tryz_S2): its theorems have no condition beyond what they state. -/
import Derived.Test.YtfinhhblcdkpgaaGreatDoorS1
set_option maxRecDepth 100000
set_option maxHeartbeats 64000000
set_option linter.unusedSimpArgs false
set_option linter.unusedVariables false
set_option linter.defProp false
namespace Go.Proofs.YtfinhhblcdkpgaaGreatDoor
open Go Go.Abs
theorem zpd (n:Nat):∀ e:Ex,szE e≤n→n≤1000000000→AC Tryz.prog gl 68 [exP e,exP e] [] (.pv (.bool true)) []:=by
 induction n with
 |zero=>intro e h;have:=zb1 e;omega
 |succ n ih=>
  intro e hd hn
  have hsz:=zjB e
  have hal:=zga e.args
  unfold exP
  refine zaK (fun d=>if d=2 then 0 else 1) 2 zG8 ?_
  (repeat' (first|refine Va (fA2 zDX @bne_self_eq_false.{0}) ?_|(with_reducible first|refine SB.c ?_ ?_<;>intro _|exact zad)|with_reducible refine zac ?_|omega))
  refine zbx (ι:={k:Nat // k≤e.args.length}) (fun i=>⟨(.junk::.junk::.ref 0 0::.ref 1 0::.junk::.pv (.int .i64 i.1)::jl 61 []),[some (.cells [.pv (.int .i64 e.op),.pv (.int .i64 e.value),.pv (.str e.name),.pv (.int .i64 e.slot),.pv (.int .i64 e.size),.pv (.slice (e.args.map zbr))]),some (.cells [.pv (.int .i64 e.op),.pv (.int .i64 e.value),.pv (.str e.name),.pv (.int .i64 e.slot),.pv (.int .i64 e.size),.pv (.slice (e.args.map zbr))])]⟩) (fun i=>e.args.length - i.1) ⟨0,by simp⟩ WFn ?_
  rintro ⟨k,hk⟩
  by_cases hlt:k<e.args.length
  ·have hlt':(k:Int)<e.args.length:=by omega
   have hget:=zaV zbr e.args k hlt
   have hdx:=zdJ e.args e.args[k] (List.getElem_mem hlt)
   generalize hx:e.args[k]=x at *
   have hxe:=zay x
   have hic:=ih x (by omega) (by omega)
   have hw:=zbu k (by omega)
   (repeat' (first|refine Va (fA6 zDX hlt' hlt hget hxe hw) ?_|(with_reducible first|refine SB.c ?_ ?_<;>intro _|exact zad)|refine CK.d0 zkB hic ?_|with_reducible refine zac ?_|omega))
   exact ⟨⟨k+1,by omega⟩,WFn,by show e.args.length - (k+1)<e.args.length - k;omega⟩
  ·have hlt':¬ (k:Int)<e.args.length:=by omega
   (repeat' (first|refine Va (fA2 zDX hlt') ?_|(with_reducible first|refine SB.c ?_ ?_<;>intro _|exact zad)|with_reducible refine zac ?_|omega))
theorem zpe (l:List Sm) (hl:l.length≤1000000000) (cE:∀ s ∈ l,AC Tryz.prog gl 68 [exP s.place,exP s.place] [] (.pv (.bool true)) []∧AC Tryz.prog gl 68 [exP s.value,exP s.value] [] (.pv (.bool true)) [])
  (cL:∀ s ∈ l,AC Tryz.prog gl 45 [.pv (.slice (s.body.map zam)),.pv (.slice (s.body.map zam))] [] (.pv (.bool true)) []∧AC Tryz.prog gl 45 [.pv (.slice (s.els.map zam)),.pv (.slice (s.els.map zam))] [] (.pv (.bool true)) []) :
  AC Tryz.prog gl 45 [.pv (.slice (l.map zam)),.pv (.slice (l.map zam))] [] (.pv (.bool true)) []:=by
 refine zaK (fun d=>if d=6 then 0 else 1) 2 zG2 ?_
 (repeat' (first|refine Va (fA2 zDW @bne_self_eq_false.{0}) ?_|(with_reducible first|refine SB.c ?_ ?_<;>intro _|exact zad)|with_reducible refine zac ?_|omega))
 refine zbx (ι:={k:Nat // k≤l.length}) (fun i=>⟨(.pv (.slice (l.map zam))::.pv (.slice (l.map zam))::jl 3 (.pv (.int .i64 i.1)::jl 79 [])),[none,none]⟩) (fun i=>l.length - i.1) ⟨0,by simp⟩ WFn ?_
 rintro ⟨k,hk⟩
 by_cases hlt:k<l.length
 ·have hlt':(k:Int)<l.length:=by omega
  have hget:=zaV zam l k hlt
  have hmem:l[k] ∈ l:=List.getElem_mem hlt
  obtain ⟨cP,cV⟩:=cE l[k] hmem
  obtain ⟨cB,cN⟩:=cL l[k] hmem
  clear cE cL
  generalize hx:l[k]=x at *
  have hxe:=zar x
  have hw:=zbu k (by omega)
  (repeat' (first|refine Va (fA7 zDW @bne_self_eq_false.{0} hlt' hlt hget hxe hw) ?_|(with_reducible first|refine SB.c ?_ ?_<;>intro _|exact zad)|refine CK.d0 zkB cP ?_|refine CK.d0 zkB cV ?_|refine CK.d0 ze5 cB ?_|refine CK.d0 ze5 cN ?_|with_reducible refine zac ?_|omega))
  exact ⟨⟨k+1,by omega⟩,WFn,by show l.length - (k+1)<l.length - k;omega⟩
 ·have hlt':¬ (k:Int)<l.length:=by omega
  (repeat' (first|refine Va (fA2 zDW hlt') ?_|(with_reducible first|refine SB.c ?_ ?_<;>intro _|exact zad)|with_reducible refine zac ?_|omega))
theorem zqp (n:Nat):n≤1000000000→∀ l:List Sm,zbh l≤n→AC Tryz.prog gl 45 [.pv (.slice (l.map zam)),.pv (.slice (l.map zam))] [] (.pv (.bool true)) []:=by
 induction n with
 |zero=>intro hn l hl;exact zpe l (by have:=zcU l;omega) (fun s hs=>by have:=zbK l s hs;have:=zfE s;omega) (fun s hs=>by have:=zbK l s hs;have:=zfE s;omega)
 |succ n ih=>
  intro hn l hl
  exact zpe l (by have:=zcU l;omega) (fun s hs=>by
   have:=zbK l s hs;have:=zgb s
   exact ⟨zpd n s.place (by omega) (by omega),zpd n s.value (by omega) (by omega)⟩) (fun s hs=>by
   have:=zbK l s hs;have:=zgb s;have:=zb1 s.place
   exact ⟨ih (by omega) s.body (by omega),ih (by omega) s.els (by omega)⟩)
theorem zhy (l:List Sm) (hl:zbh l≤1000000000):AC Tryz.prog gl 45 [.pv (.slice (l.map zam)),.pv (.slice (l.map zam))] [] (.pv (.bool true)) []:=zqp _ (Nat.le_refl _) l hl
end Go.Proofs.YtfinhhblcdkpgaaGreatDoor
