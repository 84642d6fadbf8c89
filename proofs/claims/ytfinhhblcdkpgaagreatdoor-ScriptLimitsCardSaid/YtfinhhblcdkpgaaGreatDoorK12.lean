/- A part of the walk (Tryz_S2): its theorems have no condition beyond what they state. -/
import Derived.Test.YtfinhhblcdkpgaaGreatDoorK34
import Derived.Test.YtfinhhblcdkpgaaGreatDoorS5
import Derived.Test.YtfinhhblcdkpgaaGreatDoorLib3
set_option maxRecDepth 100000
set_option maxHeartbeats 64000000
set_option linter.unusedSimpArgs false
set_option linter.unusedVariables false
set_option linter.defProp false
namespace Go.Proofs.YtfinhhblcdkpgaaGreatDoor
open Go Go.Abs
theorem zp2 (n:Nat):∀ e:Ex,szE e≤n→n≤1000000000→AC Tryz.prog gl 68 [exP e,exP e] [] (.pv (.bool true)) []:=by
 induction n with
 |zero=>intro e h;have:=zbx e;omega
 |succ n ih=>
  intro e hd hn
  have hsz:=zgV e
  have hal:=zdJ e.args
  unfold exP
  refine zap (fun d=>if d=2 then 0 else 1) 2 zIg ?_
  repeat' first|refine Va (fA2 zEO @bne_self_eq_false.{0}) ?_|(with_reducible first|refine SB.c ?_ ?_<;>intro _|exact zad)|with_reducible refine zac ?_|omega
  refine zaI (ι:={k:Nat // k≤e.args.length}) (fun i=>⟨(.junk::.junk::.ref 0 0::.ref 1 0::.junk::.pv (.int .i64 i.1)::jl 61 []),[some (.cells [.pv (.int .i64 e.op),.pv (.int .i64 e.value),.pv (.str e.name),.pv (.int .i64 e.slot),.pv (.int .i64 e.size),.pv (.slice (e.args.map zbk))]),some (.cells [.pv (.int .i64 e.op),.pv (.int .i64 e.value),.pv (.str e.name),.pv (.int .i64 e.slot),.pv (.int .i64 e.size),.pv (.slice (e.args.map zbk))])]⟩) (fun i=>e.args.length - i.1) ⟨0,by simp⟩ WFn ?_
  rintro ⟨k,hk⟩
  by_cases hlt:k<e.args.length
  ·have hlt':(k:Int)<e.args.length:=by omega
   have hget:=zaA zbk e.args k hlt
   have hdx:=zcB e.args e.args[k] (List.getElem_mem hlt)
   generalize hx:e.args[k]=x at *
   have hxe:=zaC x
   have hic:=ih x (by omega) (by omega)
   have hw:=zaQ k (by omega)
   repeat' first|refine Va (fA6 zEO hlt' hlt hget hxe hw) ?_|(with_reducible first|refine SB.c ?_ ?_<;>intro _|exact zad)|refine CK.d0 zlB hic ?_|with_reducible refine zac ?_|omega
   exact ⟨⟨k+1,by omega⟩,WFn,by show e.args.length - (k+1)<e.args.length - k;omega⟩
  ·have hlt':¬ (k:Int)<e.args.length:=by omega
   repeat' first|refine Va (fA2 zEO hlt') ?_|(with_reducible first|refine SB.c ?_ ?_<;>intro _|exact zad)|with_reducible refine zac ?_|omega
theorem zp3 (l:List Sm) (hl:l.length≤1000000000) (cE:∀ s ∈ l,AC Tryz.prog gl 68 [exP s.place,exP s.place] [] (.pv (.bool true)) []∧AC Tryz.prog gl 68 [exP s.value,exP s.value] [] (.pv (.bool true)) [])
  (cL:∀ s ∈ l,AC Tryz.prog gl 45 [.pv (.slice (s.body.map zai)),.pv (.slice (s.body.map zai))] [] (.pv (.bool true)) []∧AC Tryz.prog gl 45 [.pv (.slice (s.els.map zai)),.pv (.slice (s.els.map zai))] [] (.pv (.bool true)) []) :
  AC Tryz.prog gl 45 [.pv (.slice (l.map zai)),.pv (.slice (l.map zai))] [] (.pv (.bool true)) []:=by
 refine zap (fun d=>if d=6 then 0 else 1) 2 zH7 ?_
 repeat' first|refine Va (fA2 zEM @bne_self_eq_false.{0}) ?_|(with_reducible first|refine SB.c ?_ ?_<;>intro _|exact zad)|with_reducible refine zac ?_|omega
 refine zaI (ι:={k:Nat // k≤l.length}) (fun i=>⟨(.pv (.slice (l.map zai))::.pv (.slice (l.map zai))::jl 3 (.pv (.int .i64 i.1)::jl 79 [])),[none,none]⟩) (fun i=>l.length - i.1) ⟨0,by simp⟩ WFn ?_
 rintro ⟨k,hk⟩
 by_cases hlt:k<l.length
 ·have hlt':(k:Int)<l.length:=by omega
  have hget:=zaA zai l k hlt
  have hmem:l[k] ∈ l:=List.getElem_mem hlt
  obtain ⟨cP,cV⟩:=cE l[k] hmem
  obtain ⟨cB,cN⟩:=cL l[k] hmem
  clear cE cL
  generalize hx:l[k]=x at *
  have hxe:=zan x
  have hw:=zaQ k (by omega)
  repeat' first|refine Va (fA7 zEM @bne_self_eq_false.{0} hlt' hlt hget hxe hw) ?_|(with_reducible first|refine SB.c ?_ ?_<;>intro _|exact zad)|refine CK.d0 zlB cP ?_|refine CK.d0 zlB cV ?_|refine CK.d0 zfD cB ?_|refine CK.d0 zfD cN ?_|with_reducible refine zac ?_|omega
  exact ⟨⟨k+1,by omega⟩,WFn,by show l.length - (k+1)<l.length - k;omega⟩
 ·have hlt':¬ (k:Int)<l.length:=by omega
  repeat' first|refine Va (fA2 zEM hlt') ?_|(with_reducible first|refine SB.c ?_ ?_<;>intro _|exact zad)|with_reducible refine zac ?_|omega
theorem zrm (n:Nat):n≤1000000000→∀ l:List Sm,zbT l≤n→AC Tryz.prog gl 45 [.pv (.slice (l.map zai)),.pv (.slice (l.map zai))] [] (.pv (.bool true)) []:=by
 induction n with
 |zero=>intro hn l hl;exact zp3 l (by have:=zbY l;omega) (fun s hs=>by have:=za1 l s hs;have:=zde s;omega) (fun s hs=>by have:=za1 l s hs;have:=zde s;omega)
 |succ n ih=>
  intro hn l hl
  exact zp3 l (by have:=zbY l;omega) (fun s hs=>by
   have:=za1 l s hs;have:=zed s
   exact ⟨zp2 n s.place (by omega) (by omega),zp2 n s.value (by omega) (by omega)⟩) (fun s hs=>by
   have:=za1 l s hs;have:=zed s;have:=zbx s.place
   exact ⟨ih (by omega) s.body (by omega),ih (by omega) s.els (by omega)⟩)
theorem ziD (l:List Sm) (hl:zbT l≤1000000000):AC Tryz.prog gl 45 [.pv (.slice (l.map zai)),.pv (.slice (l.map zai))] [] (.pv (.bool true)) []:=zrm _ (Nat.le_refl _) l hl
structure LkI (l:List VarD) (name:List UInt8) where
 k:Nat
 first:Int
 hk:k≤l.length
 h0:0≤first
 h1:first≤2147483648
 eq:zaK name first (l.drop k)=zaK name 0 l
theorem zp4 (v:VarD):AC Tryz.prog gl 78 [.agg [.pv (.str v.name),.pv (.int .i64 v.size),.pv (.int .i64 v.init)]] [] (.pv (.int .i64 (znI (mx v.size 1) 2147483649))) []:=by
 refine zap (fun d=>0) 1 zIl ?_
 repeat' first|refine Va (fA2 zHT @mx.eq_1) ?_|(with_reducible first|refine SB.c ?_ ?_<;>intro _|exact zad)|with_reducible refine zac ?_|omega
theorem ziE (l:List VarD) (name:List UInt8) (hl:l.length≤1000000) :
  AC Tryz.prog gl 109 [.pv (.slice (l.map zat)),.pv (.str name)] [] (zqO name l) []:=by
 unfold zqO
 refine zap (fun _=>0) 0 zFq ?_
 repeat' first|refine Va zsA ?_|(with_reducible first|refine SB.c ?_ ?_<;>intro _|exact zad)|with_reducible refine zac ?_|omega
 refine zaI (ι:=LkI l name) (fun i=>⟨(.pv (.slice (l.map zat))::.pv (.str name)::jl 5 (.pv (.int .i64 i.first)::.pv (.int .i64 i.k)::jl 29 [])),[]⟩) (fun i=>l.length - i.k) ⟨0,0,by simp,by simp,by simp,by simp⟩ WFn ?_
 rintro ⟨k,first,hk,h0,h1,heq⟩
 by_cases hlt:k<l.length
 ·have hlt':(k:Int)<l.length:=by omega
  have hget:=zaA zat l k hlt
  rw [List.drop_eq_getElem_cons hlt,zaK] at heq
  generalize l[k]=x at *
  have hxe:zat x=[.str x.name,.int .i64 x.size,.int .i64 x.init]:=rfl
  have hw:=zaQ k (by omega)
  obtain ⟨c1,c2,c3,c4⟩:=zs4 first x.size h0 h1
  have hw1:IntKind.i64.wrap (first+znI (mx x.size 1) 2147483649)=first+znI (mx x.size 1) 2147483649:=zaS _ (by omega) (by omega)
  have hc:=zp4 x
  cases h2:x.name==name
  ·by_cases h3:mx x.size 1 > 2147483648 - first
   ·have h4:=c1.2 h3
    rw [if_neg (by rw [h2];simp),if_pos h3] at heq
    rw [←heq]
    repeat' first|refine Va (fA8 zsA hlt' hlt hget hxe h2 hw1 h4) ?_|(with_reducible first|refine SB.c ?_ ?_<;>intro _|exact zad)|refine CK.d0 zik hc ?_|with_reducible refine zac ?_|omega
   ·have h4:=mt c1.1 h3
    rw [if_neg (by rw [h2];simp),if_neg h3] at heq
    repeat' first|refine Va (fA9 zsA hlt' hlt hget hxe h2 hw1 h4 hw) ?_|(with_reducible first|refine SB.c ?_ ?_<;>intro _|exact zad)|refine CK.d0 zik hc ?_|with_reducible refine zac ?_|omega
    exact ⟨⟨k+1,first+znI (mx x.size 1) 2147483649,by omega,by omega,by omega,by rw [←heq,c2 h3]⟩,WFn,by show l.length - (k+1)<l.length - k;omega⟩
  ·rw [if_pos h2] at heq
   rw [←heq]
   repeat' first|refine Va (fA7 zsA hlt' hlt hget hxe h2 @mx.eq_1) ?_|(with_reducible first|refine SB.c ?_ ?_<;>intro _|exact zad)|with_reducible refine zac ?_|omega
 ·have hlt':¬ (k:Int)<l.length:=by omega
  rw [List.drop_eq_nil_of_le (by omega),zaK] at heq
  rw [←heq]
  repeat' first|refine Va (fA2 zsA hlt') ?_|(with_reducible first|refine SB.c ?_ ?_<;>intro _|exact zad)|with_reducible refine zac ?_|omega
theorem zp5 (l:List VarD) (hl:l.length≤1000000) (n:Nat):∀ e:Ex,szE e≤n→n≤1000000000→AC Tryz.prog gl 110 [.pv (.slice (l.map zat)),exP e] [] (.pv (.bool (zeh l e))) []:=by
 induction n with
 |zero=>intro e h;have:=zbx e;omega
 |succ n ih=>
  intro e hd hn
  have hsz:=zgV e
  have hal:=zdJ e.args
  have hge:=zs5 l e
  have cl:=ziE l e.name hl
  unfold zqO at cl
  have hf:(zaK e.name 0 l).2.2=zpA l e.name:=rfl
  rw [hf] at cl
  generalize (zaK e.name 0 l).1=q1 at *
  generalize (zaK e.name 0 l).2.1=q2 at *
  unfold exP
  refine zap (fun _=>0) 1 zFr ?_
  repeat' first|refine Va zvA ?_|(with_reducible first|refine SB.c ?_ ?_<;>intro _|exact zad)|refine CK.d0 zgP cl ?_|((with_reducible first|refine VX.sb (fun hb=>?_) (fun hb=>?_)|refine CK.sb (fun hb=>?_) (fun hb=>?_)|refine VX.sa (fun hb=>?_) (fun hb=>?_)|refine CK.sa (fun hb=>?_) (fun hb=>?_))<;>simp only [hb])|with_reducible refine zac ?_|omega
  all_goals clear cl
  all_goals try (clear ih;rw [hge];grind)
  all_goals (
   have hh:zeh l e=zcZ l e.args:=by
    clear ih
    rw [hge]
    grind
   rw [hh]
   refine zaI (ι:={k:Nat // k≤e.args.length∧zcZ l e.args=zcZ l (e.args.drop k)}) (fun i=>⟨(.pv (.slice (l.map zat))::.junk::.junk::.ref 0 0::jl 4 (.pv (.int .i64 i.1)::jl 35 [])),[some (.cells [.pv (.int .i64 e.op),.pv (.int .i64 e.value),.pv (.str e.name),.pv (.int .i64 e.slot),.pv (.int .i64 e.size),.pv (.slice (e.args.map zbk))])]⟩) (fun i=>e.args.length - i.1) ⟨0,by simp⟩ WFn ?_
   rintro ⟨k,hk,hkg⟩
   by_cases hlt:k<e.args.length
   ·have hlt':(k:Int)<e.args.length:=by omega
    have hget:=zaA zbk e.args k hlt
    have hdx:=zcB e.args e.args[k] (List.getElem_mem hlt)
    rw [List.drop_eq_getElem_cons hlt,zcZ] at hkg
    generalize hx:e.args[k]=x at *
    have hxe:=zaC x
    have hic:=ih x (by omega) (by omega)
    have hw:=zaQ k (by omega)
    cases hgx:zeh l x
    ·rw [hgx,Bool.false_and] at hkg
     rw [hgx] at hic
     repeat' first|refine Va (fA6 zvA hlt' hlt hget hxe hkg) ?_|(with_reducible first|refine SB.c ?_ ?_<;>intro _|exact zad)|refine CK.d0 zgQ hic ?_|with_reducible refine zac ?_|omega
    ·rw [hgx,Bool.true_and] at hkg
     rw [hgx] at hic
     repeat' first|refine Va (fA6 zvA hlt' hlt hget hxe hw) ?_|(with_reducible first|refine SB.c ?_ ?_<;>intro _|exact zad)|refine CK.d0 zgQ hic ?_|with_reducible refine zac ?_|omega
     exact ⟨⟨k+1,by omega,hkg⟩,WFn,by show e.args.length - (k+1)<e.args.length - k;omega⟩
   ·have hlt':¬ (k:Int)<e.args.length:=by omega
    rw [List.drop_eq_nil_of_le (by omega),zcZ] at hkg
    (repeat' (first|refine Va (fA3 zvA hlt' hkg) ?_|(with_reducible first|refine SB.c ?_ ?_<;>intro _|exact zad)|with_reducible refine zac ?_|omega)))
theorem zjW (l:List VarD) (hl:l.length≤1000000) (s:List Sm) (hs:s.length≤1000000000)
  (cE:∀ x ∈ s,AC Tryz.prog gl 110 [.pv (.slice (l.map zat)),exP x.place] [] (.pv (.bool (zeh l x.place))) []∧AC Tryz.prog gl 110 [.pv (.slice (l.map zat)),exP x.value] [] (.pv (.bool (zeh l x.value))) [])
  (cL:∀ x ∈ s,AC Tryz.prog gl 79 [.pv (.slice (l.map zat)),.pv (.slice (x.body.map zai))] [] (.pv (.bool (zcv l x.body))) []∧AC Tryz.prog gl 79 [.pv (.slice (l.map zat)),.pv (.slice (x.els.map zai))] [] (.pv (.bool (zcv l x.els))) []) :
  AC Tryz.prog gl 79 [.pv (.slice (l.map zat)),.pv (.slice (s.map zai))] [] (.pv (.bool (zcv l s))) []:=by
 refine zap (fun _=>0) 0 zIm ?_
 repeat' first|refine Va zEP ?_|(with_reducible first|refine SB.c ?_ ?_<;>intro _|exact zad)|with_reducible refine zac ?_|omega
 refine zaI (ι:={k:Nat // k≤s.length∧zcv l s=zcv l (s.drop k)}) (fun i=>⟨(.pv (.slice (l.map zat))::.pv (.slice (s.map zai))::jl 3 (.pv (.int .i64 i.1)::jl 76 [])),[]⟩) (fun i=>s.length - i.1) ⟨0,by simp⟩ WFn ?_
 rintro ⟨k,hk,hkg⟩
 by_cases hlt:k<s.length
 ·have hlt':(k:Int)<s.length:=by omega
  have hget:=zaA zai s k hlt
  have hmem:s[k] ∈ s:=List.getElem_mem hlt
  rw [List.drop_eq_getElem_cons hlt,zcv] at hkg
  obtain ⟨cP,cV⟩:=cE s[k] hmem
  obtain ⟨cB,cN⟩:=cL s[k] hmem
  clear cE cL
  generalize hx:s[k]=x at *
  have hxe:=zan x
  have hgx:=zv7 l x
  have cl:=ziE l x.name hl
  unfold zqO at cl
  have hf:(zaK x.name 0 l).2.2=zpA l x.name:=rfl
  rw [hf] at cl
  generalize (zaK x.name 0 l).1=q1 at *
  generalize (zaK x.name 0 l).2.1=q2 at *
  have hw:=zaQ k (by omega)
  repeat' first|refine Va (fA6 zEP hlt' hlt hget hxe hw) ?_|(with_reducible first|refine SB.c ?_ ?_<;>intro _|exact zad)|refine CK.d0 zgP cl ?_|refine CK.d0 zgQ cP ?_|refine CK.d0 zgQ cV ?_|refine CK.d0 zb6 cB ?_|refine CK.d0 zb6 cN ?_|((with_reducible first|refine VX.sb (fun hb=>?_) (fun hb=>?_)|refine CK.sb (fun hb=>?_) (fun hb=>?_)|refine VX.sa (fun hb=>?_) (fun hb=>?_)|refine CK.sa (fun hb=>?_) (fun hb=>?_))<;>simp only [hb])|with_reducible refine zac ?_|omega
  all_goals clear cP cV cB cN cl
  all_goals try (
   have hz:zlM l x=false:=by (rw [hgx];grind)
   rw [hkg,hz,Bool.false_and]
   done)
  all_goals (
   have hz:zlM l x=true:=by (rw [hgx];grind)
   rw [hz,Bool.true_and] at hkg
   exact ⟨⟨k+1,by omega,hkg⟩,WFn,by show s.length - (k+1)<s.length - k;omega⟩)
 ·have hlt':¬ (k:Int)<s.length:=by omega
  rw [List.drop_eq_nil_of_le (by omega),zcv] at hkg
  repeat' first|refine Va (fA3 zEP hlt' hkg) ?_|(with_reducible first|refine SB.c ?_ ?_<;>intro _|exact zad)|with_reducible refine zac ?_|omega
theorem zme (l:List VarD) (hl:l.length≤1000000) (n:Nat):n≤1000000000→∀ s:List Sm,zbT s≤n→AC Tryz.prog gl 79 [.pv (.slice (l.map zat)),.pv (.slice (s.map zai))] [] (.pv (.bool (zcv l s))) []:=by
 induction n with
 |zero=>intro hn s hs;exact zjW l hl s (by have:=zbY s;omega) (fun x hx=>by have:=za1 s x hx;have:=zde x;omega) (fun x hx=>by have:=za1 s x hx;have:=zde x;omega)
 |succ n ih=>
  intro hn s hs
  exact zjW l hl s (by have:=zbY s;omega) (fun x hx=>by
   have:=za1 s x hx;have:=zed x
   exact ⟨zp5 l hl n x.place (by omega) (by omega),zp5 l hl n x.value (by omega) (by omega)⟩) (fun x hx=>by
   have:=za1 s x hx;have:=zed x;have:=zbx x.place
   exact ⟨ih (by omega) x.body (by omega),ih (by omega) x.els (by omega)⟩)
theorem zeQ (l:List VarD) (hl:l.length≤1000000) (s:List Sm) (hs:zbT s≤1000000000):AC Tryz.prog gl 79 [.pv (.slice (l.map zat)),.pv (.slice (s.map zai))] [] (.pv (.bool (zcv l s))) []:=zme l hl _ (Nat.le_refl _) s hs
end Go.Proofs.YtfinhhblcdkpgaaGreatDoor
