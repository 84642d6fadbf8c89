/- Equality of steps, codes and configs; what is read is read alike. No condition. -/
import Derived.Test.YtfinhhblcdkpgaaGreatDoorK21
import Derived.Test.YtfinhhblcdkpgaaGreatDoorS2
import Derived.Test.YtfinhhblcdkpgaaGreatDoorLib3
set_option maxRecDepth 100000
set_option maxHeartbeats 64000000
set_option linter.unusedSimpArgs false
set_option linter.unusedVariables false
set_option linter.defProp false
namespace Go.Proofs.YtfinhhblcdkpgaaGreatDoor
open Go Go.Abs Go.RowKit
theorem znJ (l:List Int) (hl:l.length≤1000000000):AC Tryz.prog gl 44 [.pv (.slice (l.map zl1)),.pv (.slice (l.map zl1))] [] (.pv (.bool true)) []:=by
 refine zaK (fun _=>0) 0 zG1 ?_
 (repeat' (first|refine Va (fA2 zDV @bne_self_eq_false.{0}) ?_|(with_reducible first|refine SB.c ?_ ?_<;>intro _|exact zad)|with_reducible refine zac ?_|omega))
 refine zbx (ι:={k:Nat // k≤l.length}) (fun i=>⟨(.pv (.slice (l.map zl1))::.pv (.slice (l.map zl1))::jl 3 (.pv (.int .i64 i.1)::jl 20 [])),[]⟩) (fun i=>l.length - i.1) ⟨0,by simp⟩ WFn ?_
 rintro ⟨k,hk⟩
 by_cases hlt:k<l.length
 ·have hlt':(k:Int)<l.length:=by omega
  have hget:=zaV zl1 l k hlt
  generalize l[k]=x at *
  have hxe:zl1 x=[.int .i64 x]:=rfl
  have hw:=zbu k (by omega)
  (repeat' (first|refine Va (fA7 zDV @bne_self_eq_false.{0} hlt' hlt hget hxe hw) ?_|(with_reducible first|refine SB.c ?_ ?_<;>intro _|exact zad)|with_reducible refine zac ?_|omega))
  exact ⟨⟨k+1,by omega⟩,WFn,by show l.length - (k+1)<l.length - k;omega⟩
 ·have hlt':¬ (k:Int)<l.length:=by omega
  (repeat' (first|refine Va (fA2 zDV hlt') ?_|(with_reducible first|refine SB.c ?_ ?_<;>intro _|exact zad)|with_reducible refine zac ?_|omega))
theorem zmw (l:List StD) (hl:l.length≤1000000000):AC Tryz.prog gl 21 [.pv (.slice (l.map zcE)),.pv (.slice (l.map zcE))] [] (.pv (.bool true)) []:=by
 refine zaK (fun _=>0) 0 zGU ?_
 (repeat' (first|refine Va (fA2 zDT @bne_self_eq_false.{0}) ?_|(with_reducible first|refine SB.c ?_ ?_<;>intro _|exact zad)|with_reducible refine zac ?_|omega))
 refine zbx (ι:={k:Nat // k≤l.length}) (fun i=>⟨(.pv (.slice (l.map zcE))::.pv (.slice (l.map zcE))::jl 3 (.pv (.int .i64 i.1)::jl 20 [])),[]⟩) (fun i=>l.length - i.1) ⟨0,by simp⟩ WFn ?_
 rintro ⟨k,hk⟩
 by_cases hlt:k<l.length
 ·have hlt':(k:Int)<l.length:=by omega
  have hget:=zaV zcE l k hlt
  generalize l[k]=x at *
  have hxe:zcE x=[.int .i64 x.kind,.int .i64 x.proc,.int .i64 x.place,.int .i64 x.value]:=rfl
  have hw:=zbu k (by omega)
  (repeat' (first|refine Va (fA7 zDT @bne_self_eq_false.{0} hlt' hlt hget hxe hw) ?_|(with_reducible first|refine SB.c ?_ ?_<;>intro _|exact zad)|with_reducible refine zac ?_|omega))
  exact ⟨⟨k+1,by omega⟩,WFn,by show l.length - (k+1)<l.length - k;omega⟩
 ·have hlt':¬ (k:Int)<l.length:=by omega
  (repeat' (first|refine Va (fA2 zDT hlt') ?_|(with_reducible first|refine SB.c ?_ ?_<;>intro _|exact zad)|with_reducible refine zac ?_|omega))
theorem znK (c:CdD) (h:zy5 c):AC Tryz.prog gl 23 [cdA c,cdA c] [] (.pv (.bool true)) []:=by
 have c0:=znJ c.init (by have:=h.1;omega)
 have c1:=zhy c.start h.2
 have c2:=zhy c.message h.3
 have c3:=zhy c.tick h.4
 have c4:=zhy c.input h.5
 unfold cdA
 refine zaK (fun d=>if d=2 then 0 else 1) 2 zGW ?_
 (repeat' (first|refine Va zGQ ?_|(with_reducible first|refine SB.c ?_ ?_<;>intro _|exact zad)|refine CK.d0 zuY c0 ?_|refine CK.d0 ze5 c1 ?_|refine CK.d0 ze5 c2 ?_|refine CK.d0 ze5 c3 ?_|refine CK.d0 ze5 c4 ?_|with_reducible refine zac ?_|omega))
end Go.Proofs.YtfinhhblcdkpgaaGreatDoor
