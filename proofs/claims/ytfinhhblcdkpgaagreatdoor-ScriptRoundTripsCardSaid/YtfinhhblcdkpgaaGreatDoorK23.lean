/- A part of the walk (Tryz_S2): its theorems have no condition beyond what they state. -/
import Derived.Test.YtfinhhblcdkpgaaGreatDoorS1
import Derived.Test.YtfinhhblcdkpgaaGreatDoorS5
import Derived.Test.YtfinhhblcdkpgaaGreatDoorLib3
import Derived.Test.YtfinhhblcdkpgaaGreatDoorN9
import Derived.Test.YtfinhhblcdkpgaaGreatDoorP8
import Derived.Test.YtfinhhblcdkpgaaGreatDoorP9
import Derived.Test.YtfinhhblcdkpgaaGreatDoorP10
import Derived.Test.YtfinhhblcdkpgaaGreatDoorP11
import Derived.Test.YtfinhhblcdkpgaaGreatDoorLib2
import Derived.Test.YtfinhhblcdkpgaaGreatDoorS3
import Derived.Test.YtfinhhblcdkpgaaGreatDoorK18
import Derived.Test.YtfinhhblcdkpgaaGreatDoorK16
set_option maxRecDepth 100000
set_option maxHeartbeats 64000000
namespace Go.Proofs.YtfinhhblcdkpgaaGreatDoor
open Go Go.Abs
theorem zo5 (n:Nat):∀ e:Ex,szE e≤n→n≤1000000000→AC Tryz.prog gl 68 [exP e,exP e] [] (.pv (.bool true)) []:=by
 induction n with
 |zero=>intro e h;have:=zb1 e;omega
 |succ n ih=>
  intro e hd hn
  have hsz:=zjA e
  have hal:=zf6 e.args
  unfold exP
  refine zaK (fun d=>if d=2 then 0 else 1) 2 zGU ?_
  (repeat' (first|refine V0 (And.intro zDJ @bne_self_eq_false.{0}) ?_|(with_reducible first|refine SB.c (fun _=>?_) fun _=>?_|exact zad)|with_reducible refine zac ?_|omega))
  refine zbw (ι:={k:Nat // k≤e.args.length}) (fun i=>⟨(.junk::.junk::.ref 0 0::.ref 1 0::.junk::.pv (.int .i64 i.1)::jl 61 []),[some (.cells [.pv (.int .i64 e.op),.pv (.int .i64 e.value),.pv (.str e.name),.pv (.int .i64 e.slot),.pv (.int .i64 e.size),.pv (.slice (e.args.map zbr))]),some (.cells [.pv (.int .i64 e.op),.pv (.int .i64 e.value),.pv (.str e.name),.pv (.int .i64 e.slot),.pv (.int .i64 e.size),.pv (.slice (e.args.map zbr))])]⟩) (fun i=>e.args.length - i.1) ⟨0,by simp⟩ WFn ?_
  rintro ⟨k,hk⟩
  by_cases hlt:k<e.args.length
  ·have hlt':(k:Int)<e.args.length:=by omega
   have hget:=zaV zbr e.args k hlt
   have hdx:=zdI e.args e.args[k] (List.getElem_mem hlt)
   generalize hx:e.args[k]=x at *
   have hxe:=zay x
   have hic:=ih x (by omega) (by omega)
   have hw:=zbu k (by omega)
   (repeat' (first|refine V0 (And.intro zDJ <|And.intro @hlt' <|And.intro @hlt <|And.intro @hget <|And.intro @hxe @hw) ?_|(with_reducible first|refine SB.c (fun _=>?_) fun _=>?_|exact zad)|refine CK.d0 zkz hic ?_|with_reducible refine zac ?_|omega))
   exact ⟨⟨k+1,by omega⟩,WFn,by show e.args.length - (k+1)<e.args.length - k;omega⟩
  ·have hlt':¬ (k:Int)<e.args.length:=by omega
   (repeat' (first|refine V0 (And.intro zDJ @hlt') ?_|(with_reducible first|refine SB.c (fun _=>?_) fun _=>?_|exact zad)|with_reducible refine zac ?_|omega))
theorem zo6 (l:List Sm) (hl:l.length≤1000000000) (cE:∀ s ∈ l,AC Tryz.prog gl 68 [exP s.place,exP s.place] [] (.pv (.bool true)) []∧AC Tryz.prog gl 68 [exP s.value,exP s.value] [] (.pv (.bool true)) [])
  (cL:∀ s ∈ l,AC Tryz.prog gl 45 [.pv (.slice (s.body.map zam)),.pv (.slice (s.body.map zam))] [] (.pv (.bool true)) []∧AC Tryz.prog gl 45 [.pv (.slice (s.els.map zam)),.pv (.slice (s.els.map zam))] [] (.pv (.bool true)) []) :
  AC Tryz.prog gl 45 [.pv (.slice (l.map zam)),.pv (.slice (l.map zam))] [] (.pv (.bool true)) []:=by
 refine zaK (fun d=>if d=6 then 0 else 1) 2 zGO ?_
 (repeat' (first|refine V0 (And.intro zDI @bne_self_eq_false.{0}) ?_|(with_reducible first|refine SB.c (fun _=>?_) fun _=>?_|exact zad)|with_reducible refine zac ?_|omega))
 refine zbw (ι:={k:Nat // k≤l.length}) (fun i=>⟨(.pv (.slice (l.map zam))::.pv (.slice (l.map zam))::jl 3 (.pv (.int .i64 i.1)::jl 79 [])),[none,none]⟩) (fun i=>l.length - i.1) ⟨0,by simp⟩ WFn ?_
 rintro ⟨k,hk⟩
 by_cases hlt:k<l.length
 ·have hlt':(k:Int)<l.length:=by omega
  have hget:=zaV zam l k hlt
  have hmem:l[k] ∈ l:=List.getElem_mem hlt
  obtain ⟨cP,cV⟩:=cE l[k] hmem
  obtain ⟨cB,cN⟩:=cL l[k] hmem
  clear cE cL
  generalize hx:l[k]=x at *
  have hxe:=zar x
  have hw:=zbu k (by omega)
  (repeat' (first|refine V0 (And.intro zDI <|And.intro @bne_self_eq_false.{0} <|And.intro @hlt' <|And.intro @hlt <|And.intro @hget <|And.intro @hxe @hw) ?_|(with_reducible first|refine SB.c (fun _=>?_) fun _=>?_|exact zad)|refine CK.d0 zkz cP ?_|refine CK.d0 zkz cV ?_|refine CK.d0 ze2 cB ?_|refine CK.d0 ze2 cN ?_|with_reducible refine zac ?_|omega))
  exact ⟨⟨k+1,by omega⟩,WFn,by show l.length - (k+1)<l.length - k;omega⟩
 ·have hlt':¬ (k:Int)<l.length:=by omega
  (repeat' (first|refine V0 (And.intro zDI @hlt') ?_|(with_reducible first|refine SB.c (fun _=>?_) fun _=>?_|exact zad)|with_reducible refine zac ?_|omega))
theorem zqj (n:Nat):n≤1000000000→∀ l:List Sm,zbh l≤n→AC Tryz.prog gl 45 [.pv (.slice (l.map zam)),.pv (.slice (l.map zam))] [] (.pv (.bool true)) []:=by
 induction n with
 |zero=>intro hn l hl;exact zo6 l (by have:=zcT l;omega) (fun s hs=>by have:=zbJ l s hs;have:=zfB s;omega) (fun s hs=>by have:=zbJ l s hs;have:=zfB s;omega)
 |succ n ih=>
  intro hn l hl
  exact zo6 l (by have:=zcT l;omega) (fun s hs=>by
   have:=zbJ l s hs;have:=zf7 s
   exact ⟨zo5 n s.place (by omega) (by omega),zo5 n s.value (by omega) (by omega)⟩) (fun s hs=>by
   have:=zbJ l s hs;have:=zf7 s;have:=zb1 s.place
   exact ⟨ih (by omega) s.body (by omega),ih (by omega) s.els (by omega)⟩)
theorem zhy (l:List Sm) (hl:zbh l≤1000000000):AC Tryz.prog gl 45 [.pv (.slice (l.map zam)),.pv (.slice (l.map zam))] [] (.pv (.bool true)) []:=zqj _ (Nat.le_refl _) l hl
open Go Go.Abs Go.RowKit
abbrev okC (l:List TkD) (n k:Nat):AObj:=.cells [.pv (.slice (l.map zh8)),.pv (.int .i64 k),.pv (.int .i64 n),.pv (.int .i64 0),.pv (.bool true)]
abbrev flC (l:List TkD) (n k:Nat) (b:Int):AObj:=.cells [.pv (.slice (l.map zh8)),.pv (.int .i64 k),.pv (.int .i64 n),.pv (.int .i64 b),.pv (.bool false)]
abbrev okO (l:List TkD) (n k:Nat):List (Option AObj):=[some (okC l n k)]
abbrev flO (l:List TkD) (n k:Nat) (b:Int):List (Option AObj):=[some (flC l n k b)]
noncomputable def gBk (l:List TkD) (n k kb:Nat):List Sm:=@dite _ (∃ b:List Sm,AC Tryz.prog gl 108 [.ref 0 0] (okO l n k) (lsA b) (flO l n kb (zga l n kb))) (Classical.propDecidable _) (fun h=>h.choose) (fun _=>[])
noncomputable def hnG (l:List TkD) (n:Nat) (p:PgD) (z:Seen) (k kb:Nat):PgD:=match za4 l [111,110] k with
 |.ok _ k1=>if !z.s&&isT l k1 [115,116,97,114,116] then { p with start:=gBk l n (k1+1) kb } else if !z.m&&isT l k1 [109,101,115,115,97,103,101] then { p with message:=gBk l n (k1+1) kb } else if !z.t&&isT l k1 [116,105,99,107] then { p with tick:=gBk l n (k1+1) kb } else if !z.i&&isT l k1 [105,110,112,117,116] then { p with input:=gBk l n (k1+1) kb } else p
 |_=>p
noncomputable def zFi (l:List TkD) (n:Nat):Nat→PgD→Seen→Nat→PgD
 |0,p,_,_=>p
 |j+1,p,z,k=>match zso l p z k with
  |.ok q k2=>zFi l n j q.1 q.2 k2
  |.bad kb=>hnG l n p z k kb
  |.out=>p
structure HR (l:List TkD) (n:Nat) (R:PR PgD) (G:PgD) where
 j:Nat
 p:PgD
 z:Seen
 k:Nat
 hk:k≤l.length
 h:zgW l j p z k=R
 hG:zFi l n j p z k=G
end Go.Proofs.YtfinhhblcdkpgaaGreatDoor
