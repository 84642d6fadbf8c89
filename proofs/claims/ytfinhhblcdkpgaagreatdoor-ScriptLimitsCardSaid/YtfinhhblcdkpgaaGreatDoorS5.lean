/- A part of the walk (Tryz_S5): its theorems have no condition beyond what they state. -/
import Derived.Test.YtfinhhblcdkpgaaGreatDoorK34
import Derived.Test.YtfinhhblcdkpgaaGreatDoorLib4
import Derived.Test.YtfinhhblcdkpgaaGreatDoorN9
set_option maxRecDepth 100000
set_option maxHeartbeats 64000000
set_option linter.unusedSimpArgs false
set_option linter.unusedVariables false
set_option linter.defProp false
namespace Go.Proofs.YtfinhhblcdkpgaaGreatDoor
open Go Go.Abs
theorem zjL (s:List UInt8) (m:Bool):AC Tryz.prog gl 129 [.pv (.str s),.pv (.bool m)] [] (.pv (.bool (zdt s m))) []:=by
 have cV:=ziz s
 refine zap (fun _=>0) 0 zFx ?_
 cases m
 all_goals (repeat' (first|refine Va zEZ ?_|(with_reducible first|refine SB.c ?_ ?_<;>intro _|exact zad)|refine CK.d0 zgL cV ?_|with_reducible refine zac ?_|omega))
 all_goals simp [zdt]
theorem zwt (n:Int):AC Tryz.prog gl 166 [.pv (.int .i64 n)] [] (.pv (.int .i64 (zm4 n))) []:=by
 refine zap (fun _=>0) 0 zFK ?_
 repeat' first|refine Va zE5 ?_|(with_reducible first|refine SB.c ?_ ?_<;>intro _|exact zad)|with_reducible refine zac ?_|omega
 all_goals (simp only [zm4];grind)
theorem zoE (e:Ex):AC Tryz.prog gl 131 [.pv (.ptr (zbk e))] [] (.pv (.bool (zm5 e))) []:=by
 rw [zaC]
 refine zap (fun _=>0) 0 zFz ?_
 repeat' first|refine Va zE0 ?_|(with_reducible first|refine SB.c ?_ ?_<;>intro _|exact zad)|with_reducible refine zac ?_|omega
 all_goals (simp only [zm5];grind)
theorem zjM (n:Nat):∀ e:Ex,szE e≤n→n≤1000000000→AC Tryz.prog gl 130 [.pv (.ptr (zbk e))] [] (.pv (.bool (zee e))) []:=by
 induction n with
 |zero=>intro e h;have:=zbx e;omega
 |succ n ih=>
  intro e hd hn
  have hsz:=zgV e
  have hal:=zdJ e.args
  have he:=zaC e
  have hge:=zm6 e
  have cA:=zwt e.op
  rw [he]
  refine zap (fun _=>0) 0 zFy ?_
  repeat' first|refine Va zvB ?_|(with_reducible first|refine SB.c ?_ ?_<;>intro _|exact zad)|refine CK.d0 zsN cA ?_|refine CK.d0 zmS (zjL _ _) ?_|((with_reducible first|refine VX.sb (fun hb=>?_) (fun hb=>?_)|refine CK.sb (fun hb=>?_) (fun hb=>?_)|refine VX.sa (fun hb=>?_) (fun hb=>?_)|refine CK.sa (fun hb=>?_) (fun hb=>?_))<;>simp only [hb])|with_reducible refine zac ?_|omega
  all_goals try (clear ih;rw [hge];simp only [zhK];grind)
  all_goals (
   have hh:zee e=zdg e.args:=by
    clear ih
    have:zhK e.op e.value e.name e.slot e.size e.args.length=true:=by (simp only [zhK];grind)
    rw [hge,this,Bool.true_and]
   rw [hh]
   refine zaI (ι:={k:Nat // k≤e.args.length∧zdg e.args=zdg (e.args.drop k)}) (fun i=>⟨(.pv (.ptr [.int .i64 e.op,.int .i64 e.value,.str e.name,.int .i64 e.slot,.int .i64 e.size,.slice (e.args.map zbk)])::.junk::.pv (.bool false)::jl 67 (.pv (.int .i64 e.args.length)::.pv (.int .i64 i.1)::jl 11 [])),[]⟩) (fun i=>e.args.length - i.1) ⟨0,by simp⟩ WFn ?_
   rintro ⟨k,hk,hkg⟩
   by_cases hlt:k<e.args.length
   ·have hlt':(k:Int)<e.args.length:=by omega
    have hget:=zaA zbk e.args k hlt
    have hmem:e.args[k] ∈ e.args:=List.getElem_mem hlt
    have hdx:=zcB e.args e.args[k] hmem
    rw [List.drop_eq_getElem_cons hlt,zdg] at hkg
    generalize hx:e.args[k]=x at *
    have hlen:=zdr x
    have hw:=zaQ k (by omega)
    have hc:=ih x (by omega) (by omega)
    cases hgx:zee x
    ·rw [hgx,Bool.false_and] at hkg
     rw [hgx] at hc
     repeat' first|refine Va (fA6 zvB hlt' hlt hget hlen hkg) ?_|(with_reducible first|refine SB.c ?_ ?_<;>intro _|exact zad)|refine CK.d0 zgS hc ?_|with_reducible refine zac ?_|omega
    ·rw [hgx,Bool.true_and] at hkg
     rw [hgx] at hc
     repeat' first|refine Va (fA6 zvB hlt' hlt hget hlen hw) ?_|(with_reducible first|refine SB.c ?_ ?_<;>intro _|exact zad)|refine CK.d0 zgS hc ?_|with_reducible refine zac ?_|omega
     exact ⟨⟨k+1,by omega,hkg⟩,WFn,by show e.args.length - (k+1)<e.args.length - k;omega⟩
   ·have hlt':¬ (k:Int)<e.args.length:=by omega
    rw [List.drop_eq_nil_of_le (by omega),zdg] at hkg
    (repeat' (first|refine Va (fA3 zvB hlt' hkg) ?_|(with_reducible first|refine SB.c ?_ ?_<;>intro _|exact zad)|with_reducible refine zac ?_|omega)))
theorem zoF (n:Nat) (hn:n≤1000000000) (ihl:∀ l:List Sm,zbT l≤n→AC Tryz.prog gl 66 [.pv (.slice (l.map zai))] [] (.pv (.bool (zaT l))) []) (s:Sm) (hs:szS s≤n+1):AC Tryz.prog gl 93 [.pv (.ptr (zai s))] [] (.pv (.bool (zhL s))) []:=by
 have hsz:=zed s
 have h1:=zbx s.place
 have h2:=zbx s.value
 have hcP:=zjM n s.place (by omega) hn
 have hcV:=zjM n s.value (by omega) hn
 have hcZ:=zoE s.place
 have hcB:=ihl s.body (by omega)
 have hcE:=ihl s.els (by omega)
 have hge:=zm8 s
 rw [zaC] at hcP hcV hcZ
 rw [zan]
 refine zap (fun _=>0) 0 zIr ?_
 repeat' first|refine Va zHU ?_|(with_reducible first|refine SB.c ?_ ?_<;>intro _|exact zad)|refine CK.d0 zmS (zjL _ _) ?_|refine CK.d0 zgS hcP ?_|refine CK.d0 zgS hcV ?_|refine CK.d0 zsI hcZ ?_|refine CK.d0 zeE hcB ?_|refine CK.d0 zeE hcE ?_|((with_reducible first|refine VX.sb (fun hb=>?_) (fun hb=>?_)|refine CK.sb (fun hb=>?_) (fun hb=>?_)|refine VX.sa (fun hb=>?_) (fun hb=>?_)|refine CK.sa (fun hb=>?_) (fun hb=>?_))<;>simp only [hb])|with_reducible refine zac ?_|omega
 all_goals clear ihl hcP hcV hcZ hcB hcE
 all_goals (rw [hge];simp only [zm7];grind)
theorem zjN (l:List Sm) (hl:l.length≤1000000000) (ihs:∀ s:Sm,s ∈ l→AC Tryz.prog gl 93 [.pv (.ptr (zai s))] [] (.pv (.bool (zhL s))) []):AC Tryz.prog gl 66 [.pv (.slice (l.map zai))] [] (.pv (.bool (zaT l))) []:=by
 refine zap (fun _=>0) 0 zGu ?_
 repeat' first|refine Va zzW ?_|(with_reducible first|refine SB.c ?_ ?_<;>intro _|exact zad)|with_reducible refine zac ?_|omega
 refine zaI (ι:={k:Nat // k≤l.length∧zaT l=zaT (l.drop k)}) (fun i=>⟨(.pv (.slice (l.map zai))::.junk::.pv (.bool false)::.junk::.junk::.pv (.int .i64 l.length)::.pv (.int .i64 i.1)::jl 8 []),[]⟩) (fun i=>l.length - i.1) ⟨0,by simp⟩ WFn ?_
 rintro ⟨k,hk,hkg⟩
 by_cases hlt:k<l.length
 ·have hlt':(k:Int)<l.length:=by omega
  have hget:=zaA zai l k hlt
  have hmem:l[k] ∈ l:=List.getElem_mem hlt
  rw [List.drop_eq_getElem_cons hlt,zaT] at hkg
  have hc:=ihs l[k] hmem
  generalize hx:l[k]=x at *
  have hlen:=zhJ x
  have hw:=zaQ k (by omega)
  cases hgx:zhL x
  ·rw [hgx,Bool.false_and] at hkg
   rw [hgx] at hc
   repeat' first|refine Va (fA6 zzW hlt' hlt hget hlen hkg) ?_|(with_reducible first|refine SB.c ?_ ?_<;>intro _|exact zad)|refine CK.d0 zpr hc ?_|with_reducible refine zac ?_|omega
  ·rw [hgx,Bool.true_and] at hkg
   rw [hgx] at hc
   repeat' first|refine Va (fA6 zzW hlt' hlt hget hlen hw) ?_|(with_reducible first|refine SB.c ?_ ?_<;>intro _|exact zad)|refine CK.d0 zpr hc ?_|with_reducible refine zac ?_|omega
   exact ⟨⟨k+1,by omega,hkg⟩,WFn,by show l.length - (k+1)<l.length - k;omega⟩
 ·have hlt':¬ (k:Int)<l.length:=by omega
  rw [List.drop_eq_nil_of_le (by omega),zaT] at hkg
  repeat' first|refine Va (fA3 zzW hlt' hkg) ?_|(with_reducible first|refine SB.c ?_ ?_<;>intro _|exact zad)|with_reducible refine zac ?_|omega
theorem zl6 (n:Nat):n≤1000000000→∀ l:List Sm,zbT l≤n→AC Tryz.prog gl 66 [.pv (.slice (l.map zai))] [] (.pv (.bool (zaT l))) []:=by
 induction n with
 |zero=>intro hn l hl;exact zjN l (by have:=zbY l;omega) (fun s hs=>by have:=za1 l s hs;have:=zde s;omega)
 |succ n ih=>
  intro hn l hl
  exact zjN l (by have:=zbY l;omega) (fun s hs=>zoF n (by omega) (ih (by omega)) s (by have:=za1 l s hs;omega))
theorem zeP (l:List Sm) (hl:zbT l≤1000000000):AC Tryz.prog gl 66 [.pv (.slice (l.map zai))] [] (.pv (.bool (zaT l))) []:=zl6 _ (Nat.le_refl _) l hl
theorem zq7 (v:VarD):AC Tryz.prog gl 65 [.agg [.pv (.str v.name),.pv (.int .i64 v.size),.pv (.int .i64 v.init)]] [] (.pv (.bool (zcV v))) []:=by
 have cV:=ziz v.name
 refine zap (fun _=>0) 1 zIf ?_
 repeat' first|refine Va zHR ?_|(with_reducible first|refine SB.c ?_ ?_<;>intro _|exact zad)|refine CK.d0 zgL cV ?_|((with_reducible first|refine VX.sb (fun hb=>?_) (fun hb=>?_)|refine CK.sb (fun hb=>?_) (fun hb=>?_)|refine VX.sa (fun hb=>?_) (fun hb=>?_)|refine CK.sa (fun hb=>?_) (fun hb=>?_))<;>simp only [hb])|with_reducible refine zac ?_|omega
 all_goals (simp only [zcV];grind)
theorem zwu (p:PgD) (hp:szP p≤1000000000):AC Tryz.prog gl 42 [pgA p] [] (.pv (.int .i64 (zcW zaT p))) []:=by
 have hal:p.vars.length≤1000000000:=by unfold szP at hp;omega
 have hd:=zl1 p hp
 have g1:=zeP p.start (by unfold szP at hp;omega)
 have g2:=zeP p.message (by unfold szP at hp;omega)
 have g3:=zeP p.tick (by unfold szP at hp;omega)
 have g4:=zeP p.input (by unfold szP at hp;omega)
 unfold pgA at hd ⊢
 unfold zcW
 by_cases h1:zuf p > 16
 ·rw [if_pos h1]
  refine zap (fun d=>if d=4 then 1 else 0) 2 zFc ?_
  repeat' first|refine Va (fA2 zyN h1) ?_|(with_reducible first|refine SB.c ?_ ?_<;>intro _|exact zad)|refine CK.d0 zgJ hd ?_|with_reducible refine zac ?_|omega
 rw [if_neg h1]
 refine zap (fun d=>if d=4 then 1 else 0) 2 zFc ?_
 repeat' first|refine Va (fA2 zyN h1) ?_|(with_reducible first|refine SB.c ?_ ?_<;>intro _|exact zad)|refine CK.d0 zgJ hd ?_|with_reducible refine zac ?_|omega
 refine zaI (ι:={k:Nat // k≤p.vars.length∧p.vars.any (fun v=>!zcV v)=(p.vars.drop k).any (fun v=>!zcV v)}) (fun i=>⟨(.junk::.ref 0 0::jl 7 (.pv (.slice (p.vars.map zat))::.pv (.int .i64 p.vars.length)::.pv (.int .i64 i.1)::jl 29 [])),[some (.cells [.pv (.slice (p.vars.map zat)),.pv (.slice (p.start.map zai)),.pv (.slice (p.message.map zai)),.pv (.slice (p.tick.map zai)),.pv (.slice (p.input.map zai))]),none]⟩) (fun i=>p.vars.length - i.1) ⟨0,by simp⟩ WFn ?_
 rintro ⟨k,hk,hany⟩
 by_cases hlt:k<p.vars.length
 ·have hlt':(k:Int)<p.vars.length:=by omega
  have hget:=zaA zat p.vars k hlt
  rw [List.drop_eq_getElem_cons hlt,List.any_cons] at hany
  have hc:=zq7 p.vars[k]
  generalize p.vars[k]=x at *
  have hw:=zaQ k (by omega)
  have hxe:zat x=[.str x.name,.int .i64 x.size,.int .i64 x.init]:=rfl
  cases hgv:zcV x
  ·rw [hgv,Bool.not_false,Bool.true_or] at hany
   rw [hgv] at hc
   repeat' first|refine Va (fA6 zyN hlt' hlt hget hxe hany) ?_|(with_reducible first|refine SB.c ?_ ?_<;>intro _|exact zad)|refine CK.d0 zpq hc ?_|with_reducible refine zac ?_|omega
  ·rw [hgv,Bool.not_true,Bool.false_or] at hany
   rw [hgv] at hc
   repeat' first|refine Va (fA6 zyN hlt' hlt hget hxe hw) ?_|(with_reducible first|refine SB.c ?_ ?_<;>intro _|exact zad)|refine CK.d0 zpq hc ?_|with_reducible refine zac ?_|omega
   exact ⟨⟨k+1,by omega,hany⟩,WFn,by show p.vars.length - (k+1)<p.vars.length - k;omega⟩
 ·have hlt':¬ (k:Int)<p.vars.length:=by omega
  rw [List.drop_eq_nil_of_le (by omega),List.any_nil] at hany
  repeat' first|refine Va (fA3 zyN hlt' hany) ?_|(with_reducible first|refine SB.c ?_ ?_<;>intro _|exact zad)|refine CK.d0 zeE g1 ?_|refine CK.d0 zeE g2 ?_|refine CK.d0 zeE g3 ?_|refine CK.d0 zeE g4 ?_|with_reducible refine zac ?_|omega
  all_goals grind
theorem zwv (e:Ex):AC Tryz.prog gl 101 [exP e] [] (.pv (.bool (zm5 e))) []:=by
 unfold exP
 refine zap (fun _=>0) 1 zFn ?_
 repeat' first|refine Va zEU ?_|(with_reducible first|refine SB.c ?_ ?_<;>intro _|exact zad)|with_reducible refine zac ?_|omega
 all_goals (simp only [zm5];grind)
theorem zoG (n:Int):AC Tryz.prog gl 133 [.pv (.int .i64 n)] [] (.pv (.int .i64 (zm4 n))) []:=by
 refine zap (fun _=>0) 0 zFB ?_
 repeat' first|refine Va zE1 ?_|(with_reducible first|refine SB.c ?_ ?_<;>intro _|exact zad)|with_reducible refine zac ?_|omega
 all_goals simp only [zm4]
 all_goals simp at *
 all_goals (repeat' split)
 all_goals omega
theorem zpS (n:Nat):∀ e:Ex,szE e≤n→n≤1000000000→AC Tryz.prog gl 100 [exP e] [] (.pv (.bool (zee e))) []:=by
 induction n with
 |zero=>intro e h;have:=zbx e;omega
 |succ n ih=>
  intro e hd hn
  have hsz:=zgV e
  have hal:=zdJ e.args
  have hge:=zm6 e
  have cO:=zoG e.op
  have cV:=zfu e.name
  unfold exP
  refine zap (fun _=>0) 1 zFm ?_
  repeat' first|refine Va zvz ?_|(with_reducible first|refine SB.c ?_ ?_<;>intro _|exact zad)|refine CK.d0 zsJ cO ?_|refine CK.d0 zfF cV ?_|((with_reducible first|refine VX.sb (fun hb=>?_) (fun hb=>?_)|refine CK.sb (fun hb=>?_) (fun hb=>?_)|refine VX.sa (fun hb=>?_) (fun hb=>?_)|refine CK.sa (fun hb=>?_) (fun hb=>?_))<;>simp only [hb])|with_reducible refine zac ?_|omega
  all_goals try (clear ih;rw [hge];simp only [zhK,zdt];grind)
  all_goals (
   have hh:zee e=zdg e.args:=by
    clear ih
    have:zhK e.op e.value e.name e.slot e.size e.args.length=true:=by (simp only [zhK,zdt];grind)
    rw [hge,this,Bool.true_and]
   rw [hh]
   refine zaI (ι:={k:Nat // k≤e.args.length∧zdg e.args=zdg (e.args.drop k)}) (fun i=>⟨(.junk::.ref 0 0::.junk::.junk::.pv (.int .i64 i.1)::jl 77 []),[some (.cells [.pv (.int .i64 e.op),.pv (.int .i64 e.value),.pv (.str e.name),.pv (.int .i64 e.slot),.pv (.int .i64 e.size),.pv (.slice (e.args.map zbk))])]⟩) (fun i=>e.args.length - i.1) ⟨0,by simp⟩ WFn ?_
   rintro ⟨k,hk,hkg⟩
   by_cases hlt:k<e.args.length
   ·have hlt':(k:Int)<e.args.length:=by omega
    have hget:=zaA zbk e.args k hlt
    have hdx:=zcB e.args e.args[k] (List.getElem_mem hlt)
    rw [List.drop_eq_getElem_cons hlt,zdg] at hkg
    generalize hx:e.args[k]=x at *
    have hxe:=zaC x
    have hic:=ih x (by omega) (by omega)
    have hw:=zaQ k (by omega)
    cases hgx:zee x
    ·rw [hgx,Bool.false_and] at hkg
     rw [hgx] at hic
     repeat' first|refine Va (fA6 zvz hlt' hlt hget hxe hkg) ?_|(with_reducible first|refine SB.c ?_ ?_<;>intro _|exact zad)|refine CK.d0 zgM hic ?_|with_reducible refine zac ?_|omega
    ·rw [hgx,Bool.true_and] at hkg
     rw [hgx] at hic
     repeat' first|refine Va (fA6 zvz hlt' hlt hget hxe hw) ?_|(with_reducible first|refine SB.c ?_ ?_<;>intro _|exact zad)|refine CK.d0 zgM hic ?_|with_reducible refine zac ?_|omega
     exact ⟨⟨k+1,by omega,hkg⟩,WFn,by show e.args.length - (k+1)<e.args.length - k;omega⟩
   ·have hlt':¬ (k:Int)<e.args.length:=by omega
    rw [List.drop_eq_nil_of_le (by omega),zdg] at hkg
    (repeat' (first|refine Va (fA3 zvz hlt' hkg) ?_|(with_reducible first|refine SB.c ?_ ?_<;>intro _|exact zad)|with_reducible refine zac ?_|omega)))
theorem ztD (l:List Sm) (hl:l.length≤1000000000) (cE:∀ s ∈ l,AC Tryz.prog gl 100 [exP s.place] [] (.pv (.bool (zee s.place))) []∧AC Tryz.prog gl 100 [exP s.value] [] (.pv (.bool (zee s.value))) [])
  (cL:∀ s ∈ l,AC Tryz.prog gl 72 [.pv (.slice (s.body.map zai))] [] (.pv (.bool (zaT s.body))) []∧AC Tryz.prog gl 72 [.pv (.slice (s.els.map zai))] [] (.pv (.bool (zaT s.els))) []) :
  AC Tryz.prog gl 72 [.pv (.slice (l.map zai))] [] (.pv (.bool (zaT l))) []:=by
 refine zap (fun _=>0) 1 zGv ?_
 repeat' first|refine Va zBZ ?_|(with_reducible first|refine SB.c ?_ ?_<;>intro _|exact zad)|with_reducible refine zac ?_|omega
 refine zaI (ι:={k:Nat // k≤l.length∧zaT l=zaT (l.drop k)}) (fun i=>⟨(.pv (.slice (l.map zai))::.junk::.junk::.pv (.int .i64 i.1)::jl 128 []),[none]⟩) (fun i=>l.length - i.1) ⟨0,by simp⟩ WFn ?_
 rintro ⟨k,hk,hkg⟩
 by_cases hlt:k<l.length
 ·have hlt':(k:Int)<l.length:=by omega
  have hget:=zaA zai l k hlt
  have hmem:l[k] ∈ l:=List.getElem_mem hlt
  rw [List.drop_eq_getElem_cons hlt,zaT] at hkg
  obtain ⟨cP,cV⟩:=cE l[k] hmem
  obtain ⟨cB,cN⟩:=cL l[k] hmem
  have cZ:=zwv l[k].place
  have cW:=zfu l[k].name
  clear cE cL
  generalize hx:l[k]=x at *
  have hxe:=zan x
  have hgx:=zm8 x
  have hw:=zaQ k (by omega)
  repeat' first|refine Va (fA6 zBZ hlt' hlt hget hxe hw) ?_|(with_reducible first|refine SB.c ?_ ?_<;>intro _|exact zad)|refine CK.d0 zfF cW ?_|refine CK.d0 zgM cP ?_|refine CK.d0 zgM cV ?_|refine CK.d0 zsF cZ ?_|refine CK.d0 zeF cB ?_|refine CK.d0 zeF cN ?_|((with_reducible first|refine VX.sb (fun hb=>?_) (fun hb=>?_)|refine CK.sb (fun hb=>?_) (fun hb=>?_)|refine VX.sa (fun hb=>?_) (fun hb=>?_)|refine CK.sa (fun hb=>?_) (fun hb=>?_))<;>simp only [hb])|with_reducible refine zac ?_|omega
  all_goals clear cP cV cB cN cZ cW
  all_goals try (
   have hz:zhL x=false:=by (rw [hgx];simp only [zm7,zdt];grind)
   rw [hkg,hz,Bool.false_and]
   done)
  all_goals (
   have hz:zhL x=true:=by (rw [hgx];simp only [zm7,zdt];grind)
   rw [hz,Bool.true_and] at hkg
   exact ⟨⟨k+1,by omega,hkg⟩,WFn,by show l.length - (k+1)<l.length - k;omega⟩)
 ·have hlt':¬ (k:Int)<l.length:=by omega
  rw [List.drop_eq_nil_of_le (by omega),zaT] at hkg
  repeat' first|refine Va (fA3 zBZ hlt' hkg) ?_|(with_reducible first|refine SB.c ?_ ?_<;>intro _|exact zad)|with_reducible refine zac ?_|omega
theorem ztE (n:Nat):n≤1000000000→∀ l:List Sm,zbT l≤n→AC Tryz.prog gl 72 [.pv (.slice (l.map zai))] [] (.pv (.bool (zaT l))) []:=by
 induction n with
 |zero=>intro hn l hl;exact ztD l (by have:=zbY l;omega) (fun s hs=>by have:=za1 l s hs;have:=zde s;omega) (fun s hs=>by have:=za1 l s hs;have:=zde s;omega)
 |succ n ih=>
  intro hn l hl
  exact ztD l (by have:=zbY l;omega) (fun s hs=>by
   have:=za1 l s hs;have:=zed s
   exact ⟨zpS n s.place (by omega) (by omega),zpS n s.value (by omega) (by omega)⟩) (fun s hs=>by
   have:=za1 l s hs;have:=zed s;have:=zbx s.place
   exact ⟨ih (by omega) s.body (by omega),ih (by omega) s.els (by omega)⟩)
theorem zl7 (l:List Sm) (hl:zbT l≤1000000000):AC Tryz.prog gl 72 [.pv (.slice (l.map zai))] [] (.pv (.bool (zaT l))) []:=ztE _ (Nat.le_refl _) l hl
theorem ztF (p:PgD) (hp:szP p≤1000000000):AC Tryz.prog gl 48 [pgA p] [] (.pv (.int .i64 (zcW zaT p))) []:=by
 have hal:p.vars.length≤1000000000:=by unfold szP at hp;omega
 have hd:=zjG p hp
 have g1:=zl7 p.start (by unfold szP at hp;omega)
 have g2:=zl7 p.message (by unfold szP at hp;omega)
 have g3:=zl7 p.tick (by unfold szP at hp;omega)
 have g4:=zl7 p.input (by unfold szP at hp;omega)
 unfold pgA at hd ⊢
 unfold zcW
 by_cases h1:zuf p > 16
 ·rw [if_pos h1]
  refine zap (fun d=>if d=4 then 1 else 0) 2 zFd ?_
  repeat' first|refine Va (fA2 zzU h1) ?_|(with_reducible first|refine SB.c ?_ ?_<;>intro _|exact zad)|refine CK.d0 zgK hd ?_|with_reducible refine zac ?_|omega
 rw [if_neg h1]
 refine zap (fun d=>if d=4 then 1 else 0) 2 zFd ?_
 repeat' first|refine Va (fA2 zzU h1) ?_|(with_reducible first|refine SB.c ?_ ?_<;>intro _|exact zad)|refine CK.d0 zgK hd ?_|with_reducible refine zac ?_|omega
 refine zaI (ι:={k:Nat // k≤p.vars.length∧p.vars.any (fun v=>!zcV v)=(p.vars.drop k).any (fun v=>!zcV v)}) (fun i=>⟨(.junk::.ref 0 0::.junk::.pv (.int .i64 i.1)::jl 62 []),[some (.cells [.pv (.slice (p.vars.map zat)),.pv (.slice (p.start.map zai)),.pv (.slice (p.message.map zai)),.pv (.slice (p.tick.map zai)),.pv (.slice (p.input.map zai))]),none]⟩) (fun i=>p.vars.length - i.1) ⟨0,by simp⟩ WFn ?_
 rintro ⟨k,hk,hany⟩
 by_cases hlt:k<p.vars.length
 ·have hlt':(k:Int)<p.vars.length:=by omega
  have hget:=zaA zat p.vars k hlt
  rw [List.drop_eq_getElem_cons hlt,List.any_cons] at hany
  have hc:=zfu p.vars[k].name
  generalize p.vars[k]=x at *
  have hw:=zaQ k (by omega)
  have hxe:zat x=[.str x.name,.int .i64 x.size,.int .i64 x.init]:=rfl
  have hgx:zcV x=zcV x:=rfl
  conv at hgx=>rhs;unfold zcV
  repeat' first|refine Va (fA6 zzU hlt' hlt hget hxe hw) ?_|(with_reducible first|refine SB.c ?_ ?_<;>intro _|exact zad)|refine CK.d0 zfF hc ?_|((with_reducible first|refine VX.sb (fun hb=>?_) (fun hb=>?_)|refine CK.sb (fun hb=>?_) (fun hb=>?_)|refine VX.sa (fun hb=>?_) (fun hb=>?_)|refine CK.sa (fun hb=>?_) (fun hb=>?_))<;>simp only [hb])|with_reducible refine zac ?_|omega
  all_goals try (
   have hz:zcV x=false:=by (rw [hgx];grind)
   rw [hany,hz,Bool.not_false,Bool.true_or,if_pos rfl]
   done)
  all_goals (
   have hz:zcV x=true:=by (rw [hgx];grind)
   rw [hz,Bool.not_true,Bool.false_or] at hany
   exact ⟨⟨k+1,by omega,hany⟩,WFn,by show p.vars.length - (k+1)<p.vars.length - k;omega⟩)
 ·have hlt':¬ (k:Int)<p.vars.length:=by omega
  rw [List.drop_eq_nil_of_le (by omega),List.any_nil] at hany
  repeat' first|refine Va (fA3 zzU hlt' hany) ?_|(with_reducible first|refine SB.c ?_ ?_<;>intro _|exact zad)|refine CK.d0 zeF g1 ?_|refine CK.d0 zeF g2 ?_|refine CK.d0 zeF g3 ?_|refine CK.d0 zeF g4 ?_|with_reducible refine zac ?_|omega
  all_goals grind
end Go.Proofs.YtfinhhblcdkpgaaGreatDoor
