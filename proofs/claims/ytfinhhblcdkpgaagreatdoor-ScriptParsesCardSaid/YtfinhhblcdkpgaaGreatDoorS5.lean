/- A part of the walk (Tryz_S5): its theorems have no condition beyond what they state. -/
import Derived.Test.YtfinhhblcdkpgaaGreatDoorLib2
import Derived.Test.YtfinhhblcdkpgaaGreatDoorN9
import Derived.Test.YtfinhhblcdkpgaaGreatDoorLib3
set_option maxRecDepth 100000
set_option maxHeartbeats 64000000
set_option linter.unusedSimpArgs false
set_option linter.unusedVariables false
namespace Go.Proofs.YtfinhhblcdkpgaaGreatDoor
open Go Go.Abs
theorem zki (s:List UInt8) (m:Bool):AC Tryz.prog gl 129 [.pv (.str s),.pv (.bool m)] [] (.pv (.bool (zcF s m))) []:=by
 have cV:=zi8 s
 refine zas (fun _=>0) 0 zG9 ?_
 cases m
 all_goals (repeat' (first|refine Va zGD ?_|(with_reducible first|refine SB.c ?_ ?_<;>intro _|exact zak)|refine CK.d0 zhi cV ?_|with_reducible refine zaj ?_|omega))
 all_goals simp [zcF]
theorem zxD (n:Int):AC Tryz.prog gl 166 [.pv (.int .i64 n)] [] (.pv (.int .i64 (zlc n))) []:=by
 refine zas (fun _=>0) 0 zHn ?_
 repeat' first|refine Va zGK ?_|(with_reducible first|refine SB.c ?_ ?_<;>intro _|exact zak)|with_reducible refine zaj ?_|omega
 all_goals (simp only [zlc];grind)
theorem zpa (e:Ex):AC Tryz.prog gl 131 [.pv (.ptr (zbq e))] [] (.pv (.bool (zis e))) []:=by
 rw [zaz]
 refine zas (fun _=>0) 0 zHb ?_
 refine Wk1 zGE ?_
 all_goals (simp only [zis];grind)
theorem zkj (n:Nat):∀ e:Ex,szE e≤n→n≤1000000000→AC Tryz.prog gl 130 [.pv (.ptr (zbq e))] [] (.pv (.bool (zb2 e))) []:=by
 induction n with
 |zero=>intro e h;have:=zbw e;omega
 |succ n ih=>
  intro e hd hn
  have hsz:=zgv e
  have hal:=zdV e.args
  have he:=zaz e
  have hge:=zhs e
  have cA:=zxD e.op
  rw [he]
  refine zas (fun _=>0) 0 zHa ?_
  repeat' first|refine Va zwM ?_|(with_reducible first|refine SB.c ?_ ?_<;>intro _|exact zak)|refine CK.d0 ztW cA ?_|refine CK.d0 znn (zki _ _) ?_|((with_reducible first|refine VX.sb (fun hb=>?_) (fun hb=>?_)|refine CK.sb (fun hb=>?_) (fun hb=>?_)|refine VX.sa (fun hb=>?_) (fun hb=>?_)|refine CK.sa (fun hb=>?_) (fun hb=>?_))<;>simp only [hb])|with_reducible refine zaj ?_|omega
  all_goals try (clear ih;rw [hge];simp only [zgw];grind)
  all_goals (
   have hh:zb2 e=zco e.args:=by
    clear ih
    have:zgw e.op e.value e.name e.slot e.size e.args.length=true:=by (simp only [zgw];grind)
    rw [hge,this,Bool.true_and]
   rw [hh]
   refine zaK (ι:={k:Nat // k≤e.args.length∧zco e.args=zco (e.args.drop k)}) (fun i=>⟨(.pv (.ptr [.int .i64 e.op,.int .i64 e.value,.str e.name,.int .i64 e.slot,.int .i64 e.size,.slice (e.args.map zbq)])::.junk::.pv (.bool false)::jl 67 (.pv (.int .i64 e.args.length)::.pv (.int .i64 i.1)::jl 11 [])),[]⟩) (fun i=>e.args.length - i.1) ⟨0,by simp⟩ WFn ?_
   rintro ⟨k,hk,hkg⟩
   by_cases hlt:k<e.args.length
   ·have hlt':(k:Int)<e.args.length:=by omega
    have hget:=zaE zbq e.args k hlt
    have hmem:e.args[k] ∈ e.args:=List.getElem_mem hlt
    have hdx:=zcP e.args e.args[k] hmem
    rw [List.drop_eq_getElem_cons hlt,zco] at hkg
    generalize hx:e.args[k]=x at *
    have hlen:=zdE x
    have hw:=zaP k (by omega)
    have hc:=ih x (by omega) (by omega)
    cases hgx:zb2 x
    ·rw [hgx,Bool.false_and] at hkg
     rw [hgx] at hc
     refine Wk0 (fA7 zwM hlt' hlt hget hlen hkg (CE.mk zhp hc))
    ·rw [hgx,Bool.true_and] at hkg
     rw [hgx] at hc
     repeat' first|refine Va (fA6 zwM hlt' hlt hget hlen hw) ?_|(with_reducible first|refine SB.c ?_ ?_<;>intro _|exact zak)|refine CK.d0 zhp hc ?_|with_reducible refine zaj ?_|omega
     exact ⟨⟨k+1,by omega,hkg⟩,WFn,by show e.args.length - (k+1)<e.args.length - k;omega⟩
   ·have hlt':¬ (k:Int)<e.args.length:=by omega
    rw [List.drop_eq_nil_of_le (by omega),zco] at hkg
    (repeat' (first|refine Va (fA3 zwM hlt' hkg) ?_|(with_reducible first|refine SB.c ?_ ?_<;>intro _|exact zak)|with_reducible refine zaj ?_|omega)))
theorem zpb (n:Nat) (hn:n≤1000000000) (ihl:∀ l:List Sm,zbz l≤n→AC Tryz.prog gl 66 [.pv (.slice (l.map zah))] [] (.pv (.bool (zaA l))) []) (s:Sm) (hs:szS s≤n+1):AC Tryz.prog gl 93 [.pv (.ptr (zah s))] [] (.pv (.bool (zfz s))) []:=by
 have hsz:=zea s
 have h1:=zbw s.place
 have h2:=zbw s.value
 have hcP:=zkj n s.place (by omega) hn
 have hcV:=zkj n s.value (by omega) hn
 have hcZ:=zpa s.place
 have hcB:=ihl s.body (by omega)
 have hcE:=ihl s.els (by omega)
 have hge:=zht s
 rw [zaz] at hcP hcV hcZ
 rw [zag]
 refine zas (fun _=>0) 0 zJ5 ?_
 repeat' first|refine Va zJy ?_|(with_reducible first|refine SB.c ?_ ?_<;>intro _|exact zak)|refine CK.d0 znn (zki _ _) ?_|refine CK.d0 zhp hcP ?_|refine CK.d0 zhp hcV ?_|refine CK.d0 ztR hcZ ?_|refine CK.d0 zfX hcB ?_|refine CK.d0 zfX hcE ?_|((with_reducible first|refine VX.sb (fun hb=>?_) (fun hb=>?_)|refine CK.sb (fun hb=>?_) (fun hb=>?_)|refine VX.sa (fun hb=>?_) (fun hb=>?_)|refine CK.sa (fun hb=>?_) (fun hb=>?_))<;>simp only [hb])|with_reducible refine zaj ?_|omega
 all_goals clear ihl hcP hcV hcZ hcB hcE
 all_goals (rw [hge];simp only [zjT];grind)
theorem zkk (l:List Sm) (hl:l.length≤1000000000) (ihs:∀ s:Sm,s ∈ l→AC Tryz.prog gl 93 [.pv (.ptr (zah s))] [] (.pv (.bool (zfz s))) []):AC Tryz.prog gl 66 [.pv (.slice (l.map zah))] [] (.pv (.bool (zaA l))) []:=by
 refine zas (fun _=>0) 0 zJS ?_
 refine Wk1 zEM ?_
 refine zaK (ι:={k:Nat // k≤l.length∧zaA l=zaA (l.drop k)}) (fun i=>⟨(.pv (.slice (l.map zah))::.junk::.pv (.bool false)::.junk::.junk::.pv (.int .i64 l.length)::.pv (.int .i64 i.1)::jl 8 []),[]⟩) (fun i=>l.length - i.1) ⟨0,by simp⟩ WFn ?_
 rintro ⟨k,hk,hkg⟩
 by_cases hlt:k<l.length
 ·have hlt':(k:Int)<l.length:=by omega
  have hget:=zaE zah l k hlt
  have hmem:l[k] ∈ l:=List.getElem_mem hlt
  rw [List.drop_eq_getElem_cons hlt,zaA] at hkg
  have hc:=ihs l[k] hmem
  generalize hx:l[k]=x at *
  have hlen:=zir x
  have hw:=zaP k (by omega)
  cases hgx:zfz x
  ·rw [hgx,Bool.false_and] at hkg
   rw [hgx] at hc
   refine Wk0 (fA7 zEM hlt' hlt hget hlen hkg (CE.mk zqb hc))
  ·rw [hgx,Bool.true_and] at hkg
   rw [hgx] at hc
   refine Wk1 (fA7 zEM hlt' hlt hget hlen hw (CE.mk zqb hc)) ?_
   exact ⟨⟨k+1,by omega,hkg⟩,WFn,by show l.length - (k+1)<l.length - k;omega⟩
 ·have hlt':¬ (k:Int)<l.length:=by omega
  rw [List.drop_eq_nil_of_le (by omega),zaA] at hkg
  refine Wk0 (fA3 zEM hlt' hkg)
theorem zmt (n:Nat):n≤1000000000→∀ l:List Sm,zbz l≤n→AC Tryz.prog gl 66 [.pv (.slice (l.map zah))] [] (.pv (.bool (zaA l))) []:=by
 induction n with
 |zero=>intro hn l hl;exact zkk l (by have:=zbO l;omega) (fun s hs=>by have:=zaV l s hs;have:=zcm s;omega)
 |succ n ih=>
  intro hn l hl
  exact zkk l (by have:=zbO l;omega) (fun s hs=>zpb n (by omega) (ih (by omega)) s (by have:=zaV l s hs;omega))
theorem ze3 (l:List Sm) (hl:zbz l≤1000000000):AC Tryz.prog gl 66 [.pv (.slice (l.map zah))] [] (.pv (.bool (zaA l))) []:=zmt _ (Nat.le_refl _) l hl
theorem zr5 (v:VarD):AC Tryz.prog gl 65 [.agg [.pv (.str v.name),.pv (.int .i64 v.size),.pv (.int .i64 v.init)]] [] (.pv (.bool (zbA v))) []:=by
 have cV:=zi8 v.name
 refine zas (fun _=>0) 1 zJR ?_
 repeat' first|refine Va zJv ?_|(with_reducible first|refine SB.c ?_ ?_<;>intro _|exact zak)|refine CK.d0 zhi cV ?_|((with_reducible first|refine VX.sb (fun hb=>?_) (fun hb=>?_)|refine CK.sb (fun hb=>?_) (fun hb=>?_)|refine VX.sa (fun hb=>?_) (fun hb=>?_)|refine CK.sa (fun hb=>?_) (fun hb=>?_))<;>simp only [hb])|with_reducible refine zaj ?_|omega
 all_goals (simp only [zbA];grind)
theorem zxE (p:PgD) (hp:szP p≤1000000000):AC Tryz.prog gl 42 [pgA p] [] (.pv (.int .i64 (zcn zaA p))) []:=by
 have hal:p.vars.length≤1000000000:=by unfold szP at hp;omega
 have hd:=zqH p hp
 have g1:=ze3 p.start (by unfold szP at hp;omega)
 have g2:=ze3 p.message (by unfold szP at hp;omega)
 have g3:=ze3 p.tick (by unfold szP at hp;omega)
 have g4:=ze3 p.input (by unfold szP at hp;omega)
 unfold pgA at hd ⊢
 unfold zcn
 by_cases h1:zt1 p > 16
 ·rw [if_pos h1]
  refine zas (fun d=>if d=4 then 1 else 0) 2 zH5 ?_
  refine Wk0 (fA3 zDk h1 (CE.mk ziT hd))
 rw [if_neg h1]
 refine zas (fun d=>if d=4 then 1 else 0) 2 zH5 ?_
 refine Wk1 (fA3 zDk h1 (CE.mk ziT hd)) ?_
 refine zaK (ι:={k:Nat // k≤p.vars.length∧p.vars.any (fun v=>!zbA v)=(p.vars.drop k).any (fun v=>!zbA v)}) (fun i=>⟨(.junk::.ref 0 0::jl 7 (.pv (.slice (p.vars.map zav))::.pv (.int .i64 p.vars.length)::.pv (.int .i64 i.1)::jl 29 [])),[some (.cells [.pv (.slice (p.vars.map zav)),.pv (.slice (p.start.map zah)),.pv (.slice (p.message.map zah)),.pv (.slice (p.tick.map zah)),.pv (.slice (p.input.map zah))]),none]⟩) (fun i=>p.vars.length - i.1) ⟨0,by simp⟩ WFn ?_
 rintro ⟨k,hk,hany⟩
 by_cases hlt:k<p.vars.length
 ·have hlt':(k:Int)<p.vars.length:=by omega
  have hget:=zaE zav p.vars k hlt
  rw [List.drop_eq_getElem_cons hlt,List.any_cons] at hany
  have hc:=zr5 p.vars[k]
  generalize p.vars[k]=x at *
  have hw:=zaP k (by omega)
  have hxe:zav x=[.str x.name,.int .i64 x.size,.int .i64 x.init]:=rfl
  cases hgv:zbA x
  ·rw [hgv,Bool.not_false,Bool.true_or] at hany
   rw [hgv] at hc
   refine Wk0 (fA7 zDk hlt' hlt hget hxe hany (CE.mk zqa hc))
  ·rw [hgv,Bool.not_true,Bool.false_or] at hany
   rw [hgv] at hc
   refine Wk1 (fA7 zDk hlt' hlt hget hxe hw (CE.mk zqa hc)) ?_
   exact ⟨⟨k+1,by omega,hany⟩,WFn,by show p.vars.length - (k+1)<p.vars.length - k;omega⟩
 ·have hlt':¬ (k:Int)<p.vars.length:=by omega
  rw [List.drop_eq_nil_of_le (by omega),List.any_nil] at hany
  refine Wk0 (fA7 zDk hlt' hany (CE.mk zfX g1) (CE.mk zfX g2) (CE.mk zfX g3) (CE.mk zfX g4))
  all_goals grind
theorem zxF (e:Ex):AC Tryz.prog gl 101 [exP e] [] (.pv (.bool (zis e))) []:=by
 unfold exP
 refine zas (fun _=>0) 1 zGZ ?_
 refine Wk1 zGy ?_
 all_goals (simp only [zis];grind)
theorem zpc (n:Int):AC Tryz.prog gl 133 [.pv (.int .i64 n)] [] (.pv (.int .i64 (zlc n))) []:=by
 refine zas (fun _=>0) 0 zHd ?_
 repeat' first|refine Va zGF ?_|(with_reducible first|refine SB.c ?_ ?_<;>intro _|exact zak)|with_reducible refine zaj ?_|omega
 all_goals simp only [zlc]
 all_goals simp at *
 all_goals (repeat' split)
 all_goals omega
theorem zqI (n:Nat):∀ e:Ex,szE e≤n→n≤1000000000→AC Tryz.prog gl 100 [exP e] [] (.pv (.bool (zb2 e))) []:=by
 induction n with
 |zero=>intro e h;have:=zbw e;omega
 |succ n ih=>
  intro e hd hn
  have hsz:=zgv e
  have hal:=zdV e.args
  have hge:=zhs e
  have cO:=zpc e.op
  have cV:=zfK e.name
  unfold exP
  refine zas (fun _=>0) 1 zGY ?_
  repeat' first|refine Va zwK ?_|(with_reducible first|refine SB.c ?_ ?_<;>intro _|exact zak)|refine CK.d0 ztS cO ?_|refine CK.d0 zfY cV ?_|((with_reducible first|refine VX.sb (fun hb=>?_) (fun hb=>?_)|refine CK.sb (fun hb=>?_) (fun hb=>?_)|refine VX.sa (fun hb=>?_) (fun hb=>?_)|refine CK.sa (fun hb=>?_) (fun hb=>?_))<;>simp only [hb])|with_reducible refine zaj ?_|omega
  all_goals try (clear ih;rw [hge];simp only [zgw,zcF];grind)
  all_goals (
   have hh:zb2 e=zco e.args:=by
    clear ih
    have:zgw e.op e.value e.name e.slot e.size e.args.length=true:=by (simp only [zgw,zcF];grind)
    rw [hge,this,Bool.true_and]
   rw [hh]
   refine zaK (ι:={k:Nat // k≤e.args.length∧zco e.args=zco (e.args.drop k)}) (fun i=>⟨(.junk::.ref 0 0::.junk::.junk::.pv (.int .i64 i.1)::jl 77 []),[some (.cells [.pv (.int .i64 e.op),.pv (.int .i64 e.value),.pv (.str e.name),.pv (.int .i64 e.slot),.pv (.int .i64 e.size),.pv (.slice (e.args.map zbq))])]⟩) (fun i=>e.args.length - i.1) ⟨0,by simp⟩ WFn ?_
   rintro ⟨k,hk,hkg⟩
   by_cases hlt:k<e.args.length
   ·have hlt':(k:Int)<e.args.length:=by omega
    have hget:=zaE zbq e.args k hlt
    have hdx:=zcP e.args e.args[k] (List.getElem_mem hlt)
    rw [List.drop_eq_getElem_cons hlt,zco] at hkg
    generalize hx:e.args[k]=x at *
    have hxe:=zaz x
    have hic:=ih x (by omega) (by omega)
    have hw:=zaP k (by omega)
    cases hgx:zb2 x
    ·rw [hgx,Bool.false_and] at hkg
     rw [hgx] at hic
     refine Wk0 (fA7 zwK hlt' hlt hget hxe hkg (CE.mk zhj hic))
    ·rw [hgx,Bool.true_and] at hkg
     rw [hgx] at hic
     repeat' first|refine Va (fA6 zwK hlt' hlt hget hxe hw) ?_|(with_reducible first|refine SB.c ?_ ?_<;>intro _|exact zak)|refine CK.d0 zhj hic ?_|with_reducible refine zaj ?_|omega
     exact ⟨⟨k+1,by omega,hkg⟩,WFn,by show e.args.length - (k+1)<e.args.length - k;omega⟩
   ·have hlt':¬ (k:Int)<e.args.length:=by omega
    rw [List.drop_eq_nil_of_le (by omega),zco] at hkg
    (repeat' (first|refine Va (fA3 zwK hlt' hkg) ?_|(with_reducible first|refine SB.c ?_ ?_<;>intro _|exact zak)|with_reducible refine zaj ?_|omega)))
theorem zuM (l:List Sm) (hl:l.length≤1000000000) (cE:∀ s ∈ l,AC Tryz.prog gl 100 [exP s.place] [] (.pv (.bool (zb2 s.place))) []∧AC Tryz.prog gl 100 [exP s.value] [] (.pv (.bool (zb2 s.value))) [])
  (cL:∀ s ∈ l,AC Tryz.prog gl 72 [.pv (.slice (s.body.map zah))] [] (.pv (.bool (zaA s.body))) []∧AC Tryz.prog gl 72 [.pv (.slice (s.els.map zah))] [] (.pv (.bool (zaA s.els))) []) :
  AC Tryz.prog gl 72 [.pv (.slice (l.map zah))] [] (.pv (.bool (zaA l))) []:=by
 refine zas (fun _=>0) 1 zJW ?_
 refine Wk1 zGs ?_
 refine zaK (ι:={k:Nat // k≤l.length∧zaA l=zaA (l.drop k)}) (fun i=>⟨(.pv (.slice (l.map zah))::.junk::.junk::.pv (.int .i64 i.1)::jl 128 []),[none]⟩) (fun i=>l.length - i.1) ⟨0,by simp⟩ WFn ?_
 rintro ⟨k,hk,hkg⟩
 by_cases hlt:k<l.length
 ·have hlt':(k:Int)<l.length:=by omega
  have hget:=zaE zah l k hlt
  have hmem:l[k] ∈ l:=List.getElem_mem hlt
  rw [List.drop_eq_getElem_cons hlt,zaA] at hkg
  obtain ⟨cP,cV⟩:=cE l[k] hmem
  obtain ⟨cB,cN⟩:=cL l[k] hmem
  have cZ:=zxF l[k].place
  have cW:=zfK l[k].name
  clear cE cL
  generalize hx:l[k]=x at *
  have hxe:=zag x
  have hgx:=zht x
  have hw:=zaP k (by omega)
  repeat' first|refine Va (fA6 zGs hlt' hlt hget hxe hw) ?_|(with_reducible first|refine SB.c ?_ ?_<;>intro _|exact zak)|refine CK.d0 zfY cW ?_|refine CK.d0 zhj cP ?_|refine CK.d0 zhj cV ?_|refine CK.d0 ztO cZ ?_|refine CK.d0 zfZ cB ?_|refine CK.d0 zfZ cN ?_|((with_reducible first|refine VX.sb (fun hb=>?_) (fun hb=>?_)|refine CK.sb (fun hb=>?_) (fun hb=>?_)|refine VX.sa (fun hb=>?_) (fun hb=>?_)|refine CK.sa (fun hb=>?_) (fun hb=>?_))<;>simp only [hb])|with_reducible refine zaj ?_|omega
  all_goals clear cP cV cB cN cZ cW
  all_goals try (
   have hz:zfz x=false:=by (rw [hgx];simp only [zjT,zcF];grind)
   rw [hkg,hz,Bool.false_and]
   done)
  all_goals (
   have hz:zfz x=true:=by (rw [hgx];simp only [zjT,zcF];grind)
   rw [hz,Bool.true_and] at hkg
   exact ⟨⟨k+1,by omega,hkg⟩,WFn,by show l.length - (k+1)<l.length - k;omega⟩)
 ·have hlt':¬ (k:Int)<l.length:=by omega
  rw [List.drop_eq_nil_of_le (by omega),zaA] at hkg
  refine Wk0 (fA3 zGs hlt' hkg)
theorem zuN (n:Nat):n≤1000000000→∀ l:List Sm,zbz l≤n→AC Tryz.prog gl 72 [.pv (.slice (l.map zah))] [] (.pv (.bool (zaA l))) []:=by
 induction n with
 |zero=>intro hn l hl;exact zuM l (by have:=zbO l;omega) (fun s hs=>by have:=zaV l s hs;have:=zcm s;omega) (fun s hs=>by have:=zaV l s hs;have:=zcm s;omega)
 |succ n ih=>
  intro hn l hl
  exact zuM l (by have:=zbO l;omega) (fun s hs=>by
   have:=zaV l s hs;have:=zea s
   exact ⟨zqI n s.place (by omega) (by omega),zqI n s.value (by omega) (by omega)⟩) (fun s hs=>by
   have:=zaV l s hs;have:=zea s;have:=zbw s.place
   exact ⟨ih (by omega) s.body (by omega),ih (by omega) s.els (by omega)⟩)
theorem zmu (l:List Sm) (hl:zbz l≤1000000000):AC Tryz.prog gl 72 [.pv (.slice (l.map zah))] [] (.pv (.bool (zaA l))) []:=zuN _ (Nat.le_refl _) l hl
theorem znU (p:PgD) (hp:szP p≤1000000000):AC Tryz.prog gl 48 [pgA p] [] (.pv (.int .i64 (zcn zaA p))) []:=by
 have hal:p.vars.length≤1000000000:=by unfold szP at hp;omega
 have hd:=znT p hp
 have g1:=zmu p.start (by unfold szP at hp;omega)
 have g2:=zmu p.message (by unfold szP at hp;omega)
 have g3:=zmu p.tick (by unfold szP at hp;omega)
 have g4:=zmu p.input (by unfold szP at hp;omega)
 unfold pgA at hd ⊢
 unfold zcn
 by_cases h1:zt1 p > 16
 ·rw [if_pos h1]
  refine zas (fun d=>if d=4 then 1 else 0) 2 zH7 ?_
  refine Wk0 (fA3 zEL h1 (CE.mk ziU hd))
 rw [if_neg h1]
 refine zas (fun d=>if d=4 then 1 else 0) 2 zH7 ?_
 refine Wk1 (fA3 zEL h1 (CE.mk ziU hd)) ?_
 refine zaK (ι:={k:Nat // k≤p.vars.length∧p.vars.any (fun v=>!zbA v)=(p.vars.drop k).any (fun v=>!zbA v)}) (fun i=>⟨(.junk::.ref 0 0::.junk::.pv (.int .i64 i.1)::jl 62 []),[some (.cells [.pv (.slice (p.vars.map zav)),.pv (.slice (p.start.map zah)),.pv (.slice (p.message.map zah)),.pv (.slice (p.tick.map zah)),.pv (.slice (p.input.map zah))]),none]⟩) (fun i=>p.vars.length - i.1) ⟨0,by simp⟩ WFn ?_
 rintro ⟨k,hk,hany⟩
 by_cases hlt:k<p.vars.length
 ·have hlt':(k:Int)<p.vars.length:=by omega
  have hget:=zaE zav p.vars k hlt
  rw [List.drop_eq_getElem_cons hlt,List.any_cons] at hany
  have hc:=zfK p.vars[k].name
  generalize p.vars[k]=x at *
  have hw:=zaP k (by omega)
  have hxe:zav x=[.str x.name,.int .i64 x.size,.int .i64 x.init]:=rfl
  have hgx:zbA x=zbA x:=rfl
  conv at hgx=>rhs;unfold zbA
  repeat' first|refine Va (fA6 zEL hlt' hlt hget hxe hw) ?_|(with_reducible first|refine SB.c ?_ ?_<;>intro _|exact zak)|refine CK.d0 zfY hc ?_|((with_reducible first|refine VX.sb (fun hb=>?_) (fun hb=>?_)|refine CK.sb (fun hb=>?_) (fun hb=>?_)|refine VX.sa (fun hb=>?_) (fun hb=>?_)|refine CK.sa (fun hb=>?_) (fun hb=>?_))<;>simp only [hb])|with_reducible refine zaj ?_|omega
  all_goals try (
   have hz:zbA x=false:=by (rw [hgx];grind)
   rw [hany,hz,Bool.not_false,Bool.true_or,if_pos rfl]
   done)
  all_goals (
   have hz:zbA x=true:=by (rw [hgx];grind)
   rw [hz,Bool.not_true,Bool.false_or] at hany
   exact ⟨⟨k+1,by omega,hany⟩,WFn,by show p.vars.length - (k+1)<p.vars.length - k;omega⟩)
 ·have hlt':¬ (k:Int)<p.vars.length:=by omega
  rw [List.drop_eq_nil_of_le (by omega),List.any_nil] at hany
  refine Wk0 (fA7 zEL hlt' hany (CE.mk zfZ g1) (CE.mk zfZ g2) (CE.mk zfZ g3) (CE.mk zfZ g4))
  all_goals grind
end Go.Proofs.YtfinhhblcdkpgaaGreatDoor
