/- A part of the walk (Tryz_S5): its theorems have no condition beyond what they state. -/
import Derived.Test.YtfinhhblcdkpgaaGreatDoorS1
import Derived.Test.YtfinhhblcdkpgaaGreatDoorLib3
import Derived.Test.YtfinhhblcdkpgaaGreatDoorP1
set_option maxRecDepth 100000
set_option maxHeartbeats 64000000
set_option linter.unusedSimpArgs false
set_option linter.unusedVariables false
set_option linter.defProp false
namespace Go.Proofs.YtfinhhblcdkpgaaGreatDoor
open Go Go.Abs
theorem ziv (s:List UInt8) (m:Bool):AC Tryz.prog gl 129 [.pv (.str s),.pv (.bool m)] [] (.pv (.bool (zb1 s m))) []:=by
 have cV:=zhl s
 refine zam (fun _=>0) 0 zCL ?_
 cases m
 all_goals (repeat' (first|refine Va zCm ?_|(with_reducible first|refine SB.c ?_ ?_<;>intro _|exact zac)|refine CK.d0 zfY cV ?_|with_reducible refine zab ?_|omega))
 all_goals simp [zb1]
theorem zug (n:Int):AC Tryz.prog gl 166 [.pv (.int .i64 n)] [] (.pv (.int .i64 (zjr n))) []:=by
 refine zam (fun _=>0) 0 zCX ?_
 (repeat' (first|refine Va zCs ?_|(with_reducible first|refine SB.c ?_ ?_<;>intro _|exact zac)|with_reducible refine zab ?_|omega))
 all_goals (simp only [zjr];grind)
theorem zmS (e:Ex):AC Tryz.prog gl 131 [.pv (.ptr (zbg e))] [] (.pv (.bool (zgN e))) []:=by
 rw [zaq]
 refine zam (fun _=>0) 0 zCN ?_
 (repeat' (first|refine Va zCn ?_|(with_reducible first|refine SB.c ?_ ?_<;>intro _|exact zac)|with_reducible refine zab ?_|omega))
 all_goals (simp only [zgN];grind)
theorem ziw (n:Nat):∀ e:Ex,szE e≤n→n≤1000000000→AC Tryz.prog gl 130 [.pv (.ptr (zbg e))] [] (.pv (.bool (zbq e))) []:=by
 induction n with
 |zero=>intro e h;have:=zbo e;omega
 |succ n ih=>
  intro e hd hn
  have hsz:=zgM e
  have hal:=zeW e.args
  have he:=zaq e
  have hge:=zf3 e
  have cA:=zug e.op
  rw [he]
  refine zam (fun _=>0) 0 zCM ?_
  (repeat' (first|refine Va ztB ?_|(with_reducible first|refine SB.c ?_ ?_<;>intro _|exact zac)|refine CK.d0 zqY cA ?_|refine CK.d0 zlm (ziv _ _) ?_|((with_reducible first|refine VX.sb (fun hb=>?_) (fun hb=>?_)|refine CK.sb (fun hb=>?_) (fun hb=>?_)|refine VX.sa (fun hb=>?_) (fun hb=>?_)|refine CK.sa (fun hb=>?_) (fun hb=>?_))<;>simp only [hb])|with_reducible refine zab ?_|omega))
  all_goals try (clear ih;rw [hge];simp only [zfe];grind)
  all_goals (
   have hh:zbq e=zbP e.args:=by
    clear ih
    have:zfe e.op e.value e.name e.slot e.size e.args.length=true:=by (simp only [zfe];grind)
    rw [hge,this,Bool.true_and]
   rw [hh]
   refine za6 (ι:={k:Nat // k≤e.args.length∧zbP e.args=zbP (e.args.drop k)}) (fun i=>⟨(.pv (.ptr [.int .i64 e.op,.int .i64 e.value,.str e.name,.int .i64 e.slot,.int .i64 e.size,.slice (e.args.map zbg)])::.junk::.pv (.bool false)::jl 67 (.pv (.int .i64 e.args.length)::.pv (.int .i64 i.1)::jl 11 [])),[]⟩) (fun i=>e.args.length - i.1) ⟨0,by simp⟩ WFn ?_
   rintro ⟨k,hk,hkg⟩
   by_cases hlt:k<e.args.length
   ·have hlt':(k:Int)<e.args.length:=by omega
    have hget:=zaN zbg e.args k hlt
    have hmem:e.args[k] ∈ e.args:=List.getElem_mem hlt
    have hdx:=zdx e.args e.args[k] hmem
    rw [List.drop_eq_getElem_cons hlt,zbP] at hkg
    generalize hx:e.args[k]=x at *
    have hlen:=zbh x
    have hw:=zbc k (by omega)
    have hc:=ih x (by omega) (by omega)
    cases hgx:zbq x
    ·rw [hgx,Bool.false_and] at hkg
     rw [hgx] at hc
     (repeat' (first|refine Va (fA6 ztB hlt' hlt hget hlen hkg) ?_|(with_reducible first|refine SB.c ?_ ?_<;>intro _|exact zac)|refine CK.d0 zf1 hc ?_|with_reducible refine zab ?_|omega))
    ·rw [hgx,Bool.true_and] at hkg
     rw [hgx] at hc
     (repeat' (first|refine Va (fA6 ztB hlt' hlt hget hlen hw) ?_|(with_reducible first|refine SB.c ?_ ?_<;>intro _|exact zac)|refine CK.d0 zf1 hc ?_|with_reducible refine zab ?_|omega))
     exact ⟨⟨k+1,by omega,hkg⟩,WFn,by show e.args.length - (k+1)<e.args.length - k;omega⟩
   ·have hlt':¬ (k:Int)<e.args.length:=by omega
    rw [List.drop_eq_nil_of_le (by omega),zbP] at hkg
    (repeat' (first|refine Va (fA3 ztB hlt' hkg) ?_|(with_reducible first|refine SB.c ?_ ?_<;>intro _|exact zac)|with_reducible refine zab ?_|omega)))
theorem zmT (n:Nat) (hn:n≤1000000000) (ihl:∀ l:List Sm,zbx l≤n→AC Tryz.prog gl 66 [.pv (.slice (l.map zah))] [] (.pv (.bool (zao l))) []) (s:Sm) (hs:szS s≤n+1):AC Tryz.prog gl 93 [.pv (.ptr (zah s))] [] (.pv (.bool (zdJ s))) []:=by
 have hsz:=zeA s
 have h1:=zbo s.place
 have h2:=zbo s.value
 have hcP:=ziw n s.place (by omega) hn
 have hcV:=ziw n s.value (by omega) hn
 have hcZ:=zmS s.place
 have hcB:=ihl s.body (by omega)
 have hcE:=ihl s.els (by omega)
 have hge:=zf4 s
 rw [zaq] at hcP hcV hcZ
 rw [zar]
 refine zam (fun _=>0) 0 zFu ?_
 (repeat' (first|refine Va zE9 ?_|(with_reducible first|refine SB.c ?_ ?_<;>intro _|exact zac)|refine CK.d0 zlm (ziv _ _) ?_|refine CK.d0 zf1 hcP ?_|refine CK.d0 zf1 hcV ?_|refine CK.d0 zqT hcZ ?_|refine CK.d0 zeS hcB ?_|refine CK.d0 zeS hcE ?_|((with_reducible first|refine VX.sb (fun hb=>?_) (fun hb=>?_)|refine CK.sb (fun hb=>?_) (fun hb=>?_)|refine VX.sa (fun hb=>?_) (fun hb=>?_)|refine CK.sa (fun hb=>?_) (fun hb=>?_))<;>simp only [hb])|with_reducible refine zab ?_|omega))
 all_goals clear ihl hcP hcV hcZ hcB hcE
 all_goals (rw [hge];simp only [zh4];grind)
theorem zix (l:List Sm) (hl:l.length≤1000000000) (ihs:∀ s:Sm,s ∈ l→AC Tryz.prog gl 93 [.pv (.ptr (zah s))] [] (.pv (.bool (zdJ s))) []):AC Tryz.prog gl 66 [.pv (.slice (l.map zah))] [] (.pv (.bool (zao l))) []:=by
 refine zam (fun _=>0) 0 zFm ?_
 (repeat' (first|refine Va zAA ?_|(with_reducible first|refine SB.c ?_ ?_<;>intro _|exact zac)|with_reducible refine zab ?_|omega))
 refine za6 (ι:={k:Nat // k≤l.length∧zao l=zao (l.drop k)}) (fun i=>⟨(.pv (.slice (l.map zah))::.junk::.pv (.bool false)::.junk::.junk::.pv (.int .i64 l.length)::.pv (.int .i64 i.1)::jl 8 []),[]⟩) (fun i=>l.length - i.1) ⟨0,by simp⟩ WFn ?_
 rintro ⟨k,hk,hkg⟩
 by_cases hlt:k<l.length
 ·have hlt':(k:Int)<l.length:=by omega
  have hget:=zaN zah l k hlt
  have hmem:l[k] ∈ l:=List.getElem_mem hlt
  rw [List.drop_eq_getElem_cons hlt,zao] at hkg
  have hc:=ihs l[k] hmem
  generalize hx:l[k]=x at *
  have hlen:=zez x
  have hw:=zbc k (by omega)
  cases hgx:zdJ x
  ·rw [hgx,Bool.false_and] at hkg
   rw [hgx] at hc
   (repeat' (first|refine Va (fA6 zAA hlt' hlt hget hlen hkg) ?_|(with_reducible first|refine SB.c ?_ ?_<;>intro _|exact zac)|refine CK.d0 znK hc ?_|with_reducible refine zab ?_|omega))
  ·rw [hgx,Bool.true_and] at hkg
   rw [hgx] at hc
   (repeat' (first|refine Va (fA6 zAA hlt' hlt hget hlen hw) ?_|(with_reducible first|refine SB.c ?_ ?_<;>intro _|exact zac)|refine CK.d0 znK hc ?_|with_reducible refine zab ?_|omega))
   exact ⟨⟨k+1,by omega,hkg⟩,WFn,by show l.length - (k+1)<l.length - k;omega⟩
 ·have hlt':¬ (k:Int)<l.length:=by omega
  rw [List.drop_eq_nil_of_le (by omega),zao] at hkg
  (repeat' (first|refine Va (fA3 zAA hlt' hkg) ?_|(with_reducible first|refine SB.c ?_ ?_<;>intro _|exact zac)|with_reducible refine zab ?_|omega))
theorem zkF (n:Nat):n≤1000000000→∀ l:List Sm,zbx l≤n→AC Tryz.prog gl 66 [.pv (.slice (l.map zah))] [] (.pv (.bool (zao l))) []:=by
 induction n with
 |zero=>intro hn l hl;exact zix l (by have:=zbW l;omega) (fun s hs=>by have:=za1 l s hs;have:=zcW s;omega)
 |succ n ih=>
  intro hn l hl
  exact zix l (by have:=zbW l;omega) (fun s hs=>zmT n (by omega) (ih (by omega)) s (by have:=za1 l s hs;omega))
theorem zd1 (l:List Sm) (hl:zbx l≤1000000000):AC Tryz.prog gl 66 [.pv (.slice (l.map zah))] [] (.pv (.bool (zao l))) []:=zkF _ (Nat.le_refl _) l hl
theorem zph (v:VarD):AC Tryz.prog gl 65 [.agg [.pv (.str v.name),.pv (.int .i64 v.size),.pv (.int .i64 v.init)]] [] (.pv (.bool (zbt v))) []:=by
 have cV:=zhl v.name
 refine zam (fun _=>0) 1 zFl ?_
 (repeat' (first|refine Va zE7 ?_|(with_reducible first|refine SB.c ?_ ?_<;>intro _|exact zac)|refine CK.d0 zfY cV ?_|((with_reducible first|refine VX.sb (fun hb=>?_) (fun hb=>?_)|refine CK.sb (fun hb=>?_) (fun hb=>?_)|refine VX.sa (fun hb=>?_) (fun hb=>?_)|refine CK.sa (fun hb=>?_) (fun hb=>?_))<;>simp only [hb])|with_reducible refine zab ?_|omega))
 all_goals (simp only [zbt];grind)
theorem zoh (p:PgD) (hp:szP p≤1000000000):AC Tryz.prog gl 42 [pgA p] [] (.pv (.int .i64 (zcP zao p))) []:=by
 have hal:p.vars.length≤1000000000:=by unfold szP at hp;omega
 have hd:=zog p hp
 have g1:=zd1 p.start (by unfold szP at hp;omega)
 have g2:=zd1 p.message (by unfold szP at hp;omega)
 have g3:=zd1 p.tick (by unfold szP at hp;omega)
 have g4:=zd1 p.input (by unfold szP at hp;omega)
 unfold pgA at hd ⊢
 unfold zcP
 by_cases h1:zsc p > 16
 ·rw [if_pos h1]
  refine zam (fun d=>if d=4 then 1 else 0) 2 zDM ?_
  (repeat' (first|refine Va (fA2 zzw h1) ?_|(with_reducible first|refine SB.c ?_ ?_<;>intro _|exact zac)|refine CK.d0 zhb hd ?_|with_reducible refine zab ?_|omega))
 rw [if_neg h1]
 refine zam (fun d=>if d=4 then 1 else 0) 2 zDM ?_
 (repeat' (first|refine Va (fA2 zzw h1) ?_|(with_reducible first|refine SB.c ?_ ?_<;>intro _|exact zac)|refine CK.d0 zhb hd ?_|with_reducible refine zab ?_|omega))
 refine za6 (ι:={k:Nat // k≤p.vars.length∧p.vars.any (fun v=>!zbt v)=(p.vars.drop k).any (fun v=>!zbt v)}) (fun i=>⟨(.junk::.ref 0 0::jl 7 (.pv (.slice (p.vars.map zas))::.pv (.int .i64 p.vars.length)::.pv (.int .i64 i.1)::jl 29 [])),[some (.cells [.pv (.slice (p.vars.map zas)),.pv (.slice (p.start.map zah)),.pv (.slice (p.message.map zah)),.pv (.slice (p.tick.map zah)),.pv (.slice (p.input.map zah))]),none]⟩) (fun i=>p.vars.length - i.1) ⟨0,by simp⟩ WFn ?_
 rintro ⟨k,hk,hany⟩
 by_cases hlt:k<p.vars.length
 ·have hlt':(k:Int)<p.vars.length:=by omega
  have hget:=zaN zas p.vars k hlt
  rw [List.drop_eq_getElem_cons hlt,List.any_cons] at hany
  have hc:=zph p.vars[k]
  generalize p.vars[k]=x at *
  have hw:=zbc k (by omega)
  have hxe:zas x=[.str x.name,.int .i64 x.size,.int .i64 x.init]:=rfl
  cases hgv:zbt x
  ·rw [hgv,Bool.not_false,Bool.true_or] at hany
   rw [hgv] at hc
   (repeat' (first|refine Va (fA6 zzw hlt' hlt hget hxe hany) ?_|(with_reducible first|refine SB.c ?_ ?_<;>intro _|exact zac)|refine CK.d0 znI hc ?_|with_reducible refine zab ?_|omega))
  ·rw [hgv,Bool.not_true,Bool.false_or] at hany
   rw [hgv] at hc
   (repeat' (first|refine Va (fA6 zzw hlt' hlt hget hxe hw) ?_|(with_reducible first|refine SB.c ?_ ?_<;>intro _|exact zac)|refine CK.d0 znI hc ?_|with_reducible refine zab ?_|omega))
   exact ⟨⟨k+1,by omega,hany⟩,WFn,by show p.vars.length - (k+1)<p.vars.length - k;omega⟩
 ·have hlt':¬ (k:Int)<p.vars.length:=by omega
  rw [List.drop_eq_nil_of_le (by omega),List.any_nil] at hany
  (repeat' (first|refine Va (fA3 zzw hlt' hany) ?_|(with_reducible first|refine SB.c ?_ ?_<;>intro _|exact zac)|refine CK.d0 zeS g1 ?_|refine CK.d0 zeS g2 ?_|refine CK.d0 zeS g3 ?_|refine CK.d0 zeS g4 ?_|with_reducible refine zab ?_|omega))
  all_goals grind
theorem zuh (e:Ex):AC Tryz.prog gl 101 [exP e] [] (.pv (.bool (zgN e))) []:=by
 unfold exP
 refine zam (fun _=>0) 1 zCE ?_
 (repeat' (first|refine Va zCi ?_|(with_reducible first|refine SB.c ?_ ?_<;>intro _|exact zac)|with_reducible refine zab ?_|omega))
 all_goals (simp only [zgN];grind)
theorem zmU (n:Int):AC Tryz.prog gl 133 [.pv (.int .i64 n)] [] (.pv (.int .i64 (zjr n))) []:=by
 refine zam (fun _=>0) 0 zCP ?_
 (repeat' (first|refine Va zCo ?_|(with_reducible first|refine SB.c ?_ ?_<;>intro _|exact zac)|with_reducible refine zab ?_|omega))
 all_goals simp only [zjr]
 all_goals simp at *
 all_goals (repeat' split)
 all_goals omega
theorem zoi (n:Nat):∀ e:Ex,szE e≤n→n≤1000000000→AC Tryz.prog gl 100 [exP e] [] (.pv (.bool (zbq e))) []:=by
 induction n with
 |zero=>intro e h;have:=zbo e;omega
 |succ n ih=>
  intro e hd hn
  have hsz:=zgM e
  have hal:=zeW e.args
  have hge:=zf3 e
  have cO:=zmU e.op
  have cV:=zir e.name
  unfold exP
  refine zam (fun _=>0) 1 zCD ?_
  (repeat' (first|refine Va ztz ?_|(with_reducible first|refine SB.c ?_ ?_<;>intro _|exact zac)|refine CK.d0 zqU cO ?_|refine CK.d0 zkf cV ?_|((with_reducible first|refine VX.sb (fun hb=>?_) (fun hb=>?_)|refine CK.sb (fun hb=>?_) (fun hb=>?_)|refine VX.sa (fun hb=>?_) (fun hb=>?_)|refine CK.sa (fun hb=>?_) (fun hb=>?_))<;>simp only [hb])|with_reducible refine zab ?_|omega))
  all_goals try (clear ih;rw [hge];simp only [zfe,zb1];grind)
  all_goals (
   have hh:zbq e=zbP e.args:=by
    clear ih
    have:zfe e.op e.value e.name e.slot e.size e.args.length=true:=by (simp only [zfe,zb1];grind)
    rw [hge,this,Bool.true_and]
   rw [hh]
   refine za6 (ι:={k:Nat // k≤e.args.length∧zbP e.args=zbP (e.args.drop k)}) (fun i=>⟨(.junk::.ref 0 0::.junk::.junk::.pv (.int .i64 i.1)::jl 77 []),[some (.cells [.pv (.int .i64 e.op),.pv (.int .i64 e.value),.pv (.str e.name),.pv (.int .i64 e.slot),.pv (.int .i64 e.size),.pv (.slice (e.args.map zbg))])]⟩) (fun i=>e.args.length - i.1) ⟨0,by simp⟩ WFn ?_
   rintro ⟨k,hk,hkg⟩
   by_cases hlt:k<e.args.length
   ·have hlt':(k:Int)<e.args.length:=by omega
    have hget:=zaN zbg e.args k hlt
    have hdx:=zdx e.args e.args[k] (List.getElem_mem hlt)
    rw [List.drop_eq_getElem_cons hlt,zbP] at hkg
    generalize hx:e.args[k]=x at *
    have hxe:=zaq x
    have hic:=ih x (by omega) (by omega)
    have hw:=zbc k (by omega)
    cases hgx:zbq x
    ·rw [hgx,Bool.false_and] at hkg
     rw [hgx] at hic
     (repeat' (first|refine Va (fA6 ztz hlt' hlt hget hxe hkg) ?_|(with_reducible first|refine SB.c ?_ ?_<;>intro _|exact zac)|refine CK.d0 zfZ hic ?_|with_reducible refine zab ?_|omega))
    ·rw [hgx,Bool.true_and] at hkg
     rw [hgx] at hic
     (repeat' (first|refine Va (fA6 ztz hlt' hlt hget hxe hw) ?_|(with_reducible first|refine SB.c ?_ ?_<;>intro _|exact zac)|refine CK.d0 zfZ hic ?_|with_reducible refine zab ?_|omega))
     exact ⟨⟨k+1,by omega,hkg⟩,WFn,by show e.args.length - (k+1)<e.args.length - k;omega⟩
   ·have hlt':¬ (k:Int)<e.args.length:=by omega
    rw [List.drop_eq_nil_of_le (by omega),zbP] at hkg
    (repeat' (first|refine Va (fA3 ztz hlt' hkg) ?_|(with_reducible first|refine SB.c ?_ ?_<;>intro _|exact zac)|with_reducible refine zab ?_|omega)))
theorem zrF (l:List Sm) (hl:l.length≤1000000000) (cE:∀ s ∈ l,AC Tryz.prog gl 100 [exP s.place] [] (.pv (.bool (zbq s.place))) []∧AC Tryz.prog gl 100 [exP s.value] [] (.pv (.bool (zbq s.value))) [])
  (cL:∀ s ∈ l,AC Tryz.prog gl 72 [.pv (.slice (s.body.map zah))] [] (.pv (.bool (zao s.body))) []∧AC Tryz.prog gl 72 [.pv (.slice (s.els.map zah))] [] (.pv (.bool (zao s.els))) []) :
  AC Tryz.prog gl 72 [.pv (.slice (l.map zah))] [] (.pv (.bool (zao l))) []:=by
 refine zam (fun _=>0) 1 zFp ?_
 (repeat' (first|refine Va zCd ?_|(with_reducible first|refine SB.c ?_ ?_<;>intro _|exact zac)|with_reducible refine zab ?_|omega))
 refine za6 (ι:={k:Nat // k≤l.length∧zao l=zao (l.drop k)}) (fun i=>⟨(.pv (.slice (l.map zah))::.junk::.junk::.pv (.int .i64 i.1)::jl 128 []),[none]⟩) (fun i=>l.length - i.1) ⟨0,by simp⟩ WFn ?_
 rintro ⟨k,hk,hkg⟩
 by_cases hlt:k<l.length
 ·have hlt':(k:Int)<l.length:=by omega
  have hget:=zaN zah l k hlt
  have hmem:l[k] ∈ l:=List.getElem_mem hlt
  rw [List.drop_eq_getElem_cons hlt,zao] at hkg
  obtain ⟨cP,cV⟩:=cE l[k] hmem
  obtain ⟨cB,cN⟩:=cL l[k] hmem
  have cZ:=zuh l[k].place
  have cW:=zir l[k].name
  clear cE cL
  generalize hx:l[k]=x at *
  have hxe:=zar x
  have hgx:=zf4 x
  have hw:=zbc k (by omega)
  (repeat' (first|refine Va (fA6 zCd hlt' hlt hget hxe hw) ?_|(with_reducible first|refine SB.c ?_ ?_<;>intro _|exact zac)|refine CK.d0 zkf cW ?_|refine CK.d0 zfZ cP ?_|refine CK.d0 zfZ cV ?_|refine CK.d0 zqQ cZ ?_|refine CK.d0 zeT cB ?_|refine CK.d0 zeT cN ?_|((with_reducible first|refine VX.sb (fun hb=>?_) (fun hb=>?_)|refine CK.sb (fun hb=>?_) (fun hb=>?_)|refine VX.sa (fun hb=>?_) (fun hb=>?_)|refine CK.sa (fun hb=>?_) (fun hb=>?_))<;>simp only [hb])|with_reducible refine zab ?_|omega))
  all_goals clear cP cV cB cN cZ cW
  all_goals try (
   have hz:zdJ x=false:=by (rw [hgx];simp only [zh4,zb1];grind)
   rw [hkg,hz,Bool.false_and]
   done)
  all_goals (
   have hz:zdJ x=true:=by (rw [hgx];simp only [zh4,zb1];grind)
   rw [hz,Bool.true_and] at hkg
   exact ⟨⟨k+1,by omega,hkg⟩,WFn,by show l.length - (k+1)<l.length - k;omega⟩)
 ·have hlt':¬ (k:Int)<l.length:=by omega
  rw [List.drop_eq_nil_of_le (by omega),zao] at hkg
  (repeat' (first|refine Va (fA3 zCd hlt' hkg) ?_|(with_reducible first|refine SB.c ?_ ?_<;>intro _|exact zac)|with_reducible refine zab ?_|omega))
theorem zrG (n:Nat):n≤1000000000→∀ l:List Sm,zbx l≤n→AC Tryz.prog gl 72 [.pv (.slice (l.map zah))] [] (.pv (.bool (zao l))) []:=by
 induction n with
 |zero=>intro hn l hl;exact zrF l (by have:=zbW l;omega) (fun s hs=>by have:=za1 l s hs;have:=zcW s;omega) (fun s hs=>by have:=za1 l s hs;have:=zcW s;omega)
 |succ n ih=>
  intro hn l hl
  exact zrF l (by have:=zbW l;omega) (fun s hs=>by
   have:=za1 l s hs;have:=zeA s
   exact ⟨zoi n s.place (by omega) (by omega),zoi n s.value (by omega) (by omega)⟩) (fun s hs=>by
   have:=za1 l s hs;have:=zeA s;have:=zbo s.place
   exact ⟨ih (by omega) s.body (by omega),ih (by omega) s.els (by omega)⟩)
theorem zkG (l:List Sm) (hl:zbx l≤1000000000):AC Tryz.prog gl 72 [.pv (.slice (l.map zah))] [] (.pv (.bool (zao l))) []:=zrG _ (Nat.le_refl _) l hl
theorem zrH (p:PgD) (hp:szP p≤1000000000):AC Tryz.prog gl 48 [pgA p] [] (.pv (.int .i64 (zcP zao p))) []:=by
 have hal:p.vars.length≤1000000000:=by unfold szP at hp;omega
 have hd:=zrE p hp
 have g1:=zkG p.start (by unfold szP at hp;omega)
 have g2:=zkG p.message (by unfold szP at hp;omega)
 have g3:=zkG p.tick (by unfold szP at hp;omega)
 have g4:=zkG p.input (by unfold szP at hp;omega)
 unfold pgA at hd ⊢
 unfold zcP
 by_cases h1:zsc p > 16
 ·rw [if_pos h1]
  refine zam (fun d=>if d=4 then 1 else 0) 2 zDO ?_
  (repeat' (first|refine Va (fA2 zAz h1) ?_|(with_reducible first|refine SB.c ?_ ?_<;>intro _|exact zac)|refine CK.d0 znJ hd ?_|with_reducible refine zab ?_|omega))
 rw [if_neg h1]
 refine zam (fun d=>if d=4 then 1 else 0) 2 zDO ?_
 (repeat' (first|refine Va (fA2 zAz h1) ?_|(with_reducible first|refine SB.c ?_ ?_<;>intro _|exact zac)|refine CK.d0 znJ hd ?_|with_reducible refine zab ?_|omega))
 refine za6 (ι:={k:Nat // k≤p.vars.length∧p.vars.any (fun v=>!zbt v)=(p.vars.drop k).any (fun v=>!zbt v)}) (fun i=>⟨(.junk::.ref 0 0::.junk::.pv (.int .i64 i.1)::jl 62 []),[some (.cells [.pv (.slice (p.vars.map zas)),.pv (.slice (p.start.map zah)),.pv (.slice (p.message.map zah)),.pv (.slice (p.tick.map zah)),.pv (.slice (p.input.map zah))]),none]⟩) (fun i=>p.vars.length - i.1) ⟨0,by simp⟩ WFn ?_
 rintro ⟨k,hk,hany⟩
 by_cases hlt:k<p.vars.length
 ·have hlt':(k:Int)<p.vars.length:=by omega
  have hget:=zaN zas p.vars k hlt
  rw [List.drop_eq_getElem_cons hlt,List.any_cons] at hany
  have hc:=zir p.vars[k].name
  generalize p.vars[k]=x at *
  have hw:=zbc k (by omega)
  have hxe:zas x=[.str x.name,.int .i64 x.size,.int .i64 x.init]:=rfl
  have hgx:zbt x=zbt x:=rfl
  conv at hgx=>rhs;unfold zbt
  (repeat' (first|refine Va (fA6 zAz hlt' hlt hget hxe hw) ?_|(with_reducible first|refine SB.c ?_ ?_<;>intro _|exact zac)|refine CK.d0 zkf hc ?_|((with_reducible first|refine VX.sb (fun hb=>?_) (fun hb=>?_)|refine CK.sb (fun hb=>?_) (fun hb=>?_)|refine VX.sa (fun hb=>?_) (fun hb=>?_)|refine CK.sa (fun hb=>?_) (fun hb=>?_))<;>simp only [hb])|with_reducible refine zab ?_|omega))
  all_goals try (
   have hz:zbt x=false:=by (rw [hgx];grind)
   rw [hany,hz,Bool.not_false,Bool.true_or,if_pos rfl]
   done)
  all_goals (
   have hz:zbt x=true:=by (rw [hgx];grind)
   rw [hz,Bool.not_true,Bool.false_or] at hany
   exact ⟨⟨k+1,by omega,hany⟩,WFn,by show p.vars.length - (k+1)<p.vars.length - k;omega⟩)
 ·have hlt':¬ (k:Int)<p.vars.length:=by omega
  rw [List.drop_eq_nil_of_le (by omega),List.any_nil] at hany
  (repeat' (first|refine Va (fA3 zAz hlt' hany) ?_|(with_reducible first|refine SB.c ?_ ?_<;>intro _|exact zac)|refine CK.d0 zeT g1 ?_|refine CK.d0 zeT g2 ?_|refine CK.d0 zeT g3 ?_|refine CK.d0 zeT g4 ?_|with_reducible refine zab ?_|omega))
  all_goals grind
end Go.Proofs.YtfinhhblcdkpgaaGreatDoor
