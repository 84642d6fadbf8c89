/- A part of the walk (Tryz_S5): its theorems have no condition beyond what they state. -/
import Derived.Test.YtfinhhblcdkpgaaGreatDoorS1
import Derived.Test.YtfinhhblcdkpgaaGreatDoorLib3
import Derived.Test.YtfinhhblcdkpgaaGreatDoorP1
set_option maxRecDepth 100000
set_option maxHeartbeats 64000000
set_option linter.unusedSimpArgs false
set_option linter.unusedVariables false
set_option linter.defProp false
namespace Go.Proofs.YtfinhhblcdkpgaaGreatDoor
open Go Go.Abs
theorem ziA (s:List UInt8) (m:Bool):AC Tryz.prog gl 129 [.pv (.str s),.pv (.bool m)] [] (.pv (.bool (zaW s m))) []:=by
 have cV:=zhs s
 refine zaK (fun _=>0) 0 zEp ?_
 cases m
 all_goals (repeat' (first|refine Va zD4 ?_|(with_reducible first|refine SB.c ?_ ?_<;>intro _|exact zad)|refine CK.d0 zf6 cV ?_|with_reducible refine zac ?_|omega))
 all_goals simp [zaW]
theorem zvn (n:Int):AC Tryz.prog gl 166 [.pv (.int .i64 n)] [] (.pv (.int .i64 (zdK n))) []:=by
 refine zaK (fun _=>0) 0 zEy ?_
 (repeat' (first|refine Va zD8 ?_|(with_reducible first|refine SB.c ?_ ?_<;>intro _|exact zad)|with_reducible refine zac ?_|omega))
 all_goals (simp only [zdK];grind)
theorem znv (e:Ex):AC Tryz.prog gl 131 [.pv (.ptr (zbr e))] [] (.pv (.bool (zen e))) []:=by
 rw [zay]
 refine zaK (fun _=>0) 0 zEr ?_
 (repeat' (first|refine Va zD5 ?_|(with_reducible first|refine SB.c ?_ ?_<;>intro _|exact zad)|with_reducible refine zac ?_|omega))
 all_goals (simp only [zen];grind)
theorem ziB (n:Nat):∀ e:Ex,szE e≤n→n≤1000000000→AC Tryz.prog gl 130 [.pv (.ptr (zbr e))] [] (.pv (.bool (zbc e))) []:=by
 induction n with
 |zero=>intro e h;have:=zb1 e;omega
 |succ n ih=>
  intro e hd hn
  have hsz:=zjB e
  have hal:=zga e.args
  have he:=zay e
  have hge:=zh6 e
  have cA:=zvn e.op
  rw [he]
  refine zaK (fun _=>0) 0 zEq ?_
  (repeat' (first|refine Va zuN ?_|(with_reducible first|refine SB.c ?_ ?_<;>intro _|exact zad)|refine CK.d0 zrP cA ?_|refine CK.d0 zlO (ziA _ _) ?_|((with_reducible first|refine VX.sb (fun hb=>?_) (fun hb=>?_)|refine CK.sb (fun hb=>?_) (fun hb=>?_)|refine VX.sa (fun hb=>?_) (fun hb=>?_)|refine CK.sa (fun hb=>?_) (fun hb=>?_))<;>simp only [hb])|with_reducible refine zac ?_|omega))
  all_goals try (clear ih;rw [hge];simp only [zd0];grind)
  all_goals (
   have hh:zbc e=zby e.args:=by
    clear ih
    have:zd0 e.op e.value e.name e.slot e.size e.args.length=true:=by (simp only [zd0];grind)
    rw [hge,this,Bool.true_and]
   rw [hh]
   refine zbx (ι:={k:Nat // k≤e.args.length∧zby e.args=zby (e.args.drop k)}) (fun i=>⟨(.pv (.ptr [.int .i64 e.op,.int .i64 e.value,.str e.name,.int .i64 e.slot,.int .i64 e.size,.slice (e.args.map zbr)])::.junk::.pv (.bool false)::jl 67 (.pv (.int .i64 e.args.length)::.pv (.int .i64 i.1)::jl 11 [])),[]⟩) (fun i=>e.args.length - i.1) ⟨0,by simp⟩ WFn ?_
   rintro ⟨k,hk,hkg⟩
   by_cases hlt:k<e.args.length
   ·have hlt':(k:Int)<e.args.length:=by omega
    have hget:=zaV zbr e.args k hlt
    have hmem:e.args[k] ∈ e.args:=List.getElem_mem hlt
    have hdx:=zdJ e.args e.args[k] hmem
    rw [List.drop_eq_getElem_cons hlt,zby] at hkg
    generalize hx:e.args[k]=x at *
    have hlen:=zbj x
    have hw:=zbu k (by omega)
    have hc:=ih x (by omega) (by omega)
    cases hgx:zbc x
    ·rw [hgx,Bool.false_and] at hkg
     rw [hgx] at hc
     (repeat' (first|refine Va (fA6 zuN hlt' hlt hget hlen hkg) ?_|(with_reducible first|refine SB.c ?_ ?_<;>intro _|exact zad)|refine CK.d0 zf8 hc ?_|with_reducible refine zac ?_|omega))
    ·rw [hgx,Bool.true_and] at hkg
     rw [hgx] at hc
     (repeat' (first|refine Va (fA6 zuN hlt' hlt hget hlen hw) ?_|(with_reducible first|refine SB.c ?_ ?_<;>intro _|exact zad)|refine CK.d0 zf8 hc ?_|with_reducible refine zac ?_|omega))
     exact ⟨⟨k+1,by omega,hkg⟩,WFn,by show e.args.length - (k+1)<e.args.length - k;omega⟩
   ·have hlt':¬ (k:Int)<e.args.length:=by omega
    rw [List.drop_eq_nil_of_le (by omega),zby] at hkg
    (repeat' (first|refine Va (fA3 zuN hlt' hkg) ?_|(with_reducible first|refine SB.c ?_ ?_<;>intro _|exact zad)|with_reducible refine zac ?_|omega)))
theorem znw (n:Nat) (hn:n≤1000000000) (ihl:∀ l:List Sm,zbh l≤n→AC Tryz.prog gl 66 [.pv (.slice (l.map zam))] [] (.pv (.bool (zan l))) []) (s:Sm) (hs:szS s≤n+1):AC Tryz.prog gl 93 [.pv (.ptr (zam s))] [] (.pv (.bool (zct s))) []:=by
 have hsz:=zgb s
 have h1:=zb1 s.place
 have h2:=zb1 s.value
 have hcP:=ziB n s.place (by omega) hn
 have hcV:=ziB n s.value (by omega) hn
 have hcZ:=znv s.place
 have hcB:=ihl s.body (by omega)
 have hcE:=ihl s.els (by omega)
 have hge:=zh8 s
 rw [zay] at hcP hcV hcZ
 rw [zar]
 refine zaK (fun _=>0) 0 zHc ?_
 (repeat' (first|refine Va zGT ?_|(with_reducible first|refine SB.c ?_ ?_<;>intro _|exact zad)|refine CK.d0 zlO (ziA _ _) ?_|refine CK.d0 zf8 hcP ?_|refine CK.d0 zf8 hcV ?_|refine CK.d0 zrL hcZ ?_|refine CK.d0 ze6 hcB ?_|refine CK.d0 ze6 hcE ?_|((with_reducible first|refine VX.sb (fun hb=>?_) (fun hb=>?_)|refine CK.sb (fun hb=>?_) (fun hb=>?_)|refine VX.sa (fun hb=>?_) (fun hb=>?_)|refine CK.sa (fun hb=>?_) (fun hb=>?_))<;>simp only [hb])|with_reducible refine zac ?_|omega))
 all_goals clear ihl hcP hcV hcZ hcB hcE
 all_goals (rw [hge];simp only [zeo];grind)
theorem ziC (l:List Sm) (hl:l.length≤1000000000) (ihs:∀ s:Sm,s ∈ l→AC Tryz.prog gl 93 [.pv (.ptr (zam s))] [] (.pv (.bool (zct s))) []):AC Tryz.prog gl 66 [.pv (.slice (l.map zam))] [] (.pv (.bool (zan l))) []:=by
 refine zaK (fun _=>0) 0 zG7 ?_
 (repeat' (first|refine Va zCo ?_|(with_reducible first|refine SB.c ?_ ?_<;>intro _|exact zad)|with_reducible refine zac ?_|omega))
 refine zbx (ι:={k:Nat // k≤l.length∧zan l=zan (l.drop k)}) (fun i=>⟨(.pv (.slice (l.map zam))::.junk::.pv (.bool false)::.junk::.junk::.pv (.int .i64 l.length)::.pv (.int .i64 i.1)::jl 8 []),[]⟩) (fun i=>l.length - i.1) ⟨0,by simp⟩ WFn ?_
 rintro ⟨k,hk,hkg⟩
 by_cases hlt:k<l.length
 ·have hlt':(k:Int)<l.length:=by omega
  have hget:=zaV zam l k hlt
  have hmem:l[k] ∈ l:=List.getElem_mem hlt
  rw [List.drop_eq_getElem_cons hlt,zan] at hkg
  have hc:=ihs l[k] hmem
  generalize hx:l[k]=x at *
  have hlen:=zeN x
  have hw:=zbu k (by omega)
  cases hgx:zct x
  ·rw [hgx,Bool.false_and] at hkg
   rw [hgx] at hc
   (repeat' (first|refine Va (fA6 zCo hlt' hlt hget hlen hkg) ?_|(with_reducible first|refine SB.c ?_ ?_<;>intro _|exact zad)|refine CK.d0 zom hc ?_|with_reducible refine zac ?_|omega))
  ·rw [hgx,Bool.true_and] at hkg
   rw [hgx] at hc
   (repeat' (first|refine Va (fA6 zCo hlt' hlt hget hlen hw) ?_|(with_reducible first|refine SB.c ?_ ?_<;>intro _|exact zad)|refine CK.d0 zom hc ?_|with_reducible refine zac ?_|omega))
   exact ⟨⟨k+1,by omega,hkg⟩,WFn,by show l.length - (k+1)<l.length - k;omega⟩
 ·have hlt':¬ (k:Int)<l.length:=by omega
  rw [List.drop_eq_nil_of_le (by omega),zan] at hkg
  (repeat' (first|refine Va (fA3 zCo hlt' hkg) ?_|(with_reducible first|refine SB.c ?_ ?_<;>intro _|exact zad)|with_reducible refine zac ?_|omega))
theorem zk4 (n:Nat):n≤1000000000→∀ l:List Sm,zbh l≤n→AC Tryz.prog gl 66 [.pv (.slice (l.map zam))] [] (.pv (.bool (zan l))) []:=by
 induction n with
 |zero=>intro hn l hl;exact ziC l (by have:=zcU l;omega) (fun s hs=>by have:=zbK l s hs;have:=zfE s;omega)
 |succ n ih=>
  intro hn l hl
  exact ziC l (by have:=zcU l;omega) (fun s hs=>znw n (by omega) (ih (by omega)) s (by have:=zbK l s hs;omega))
theorem zei (l:List Sm) (hl:zbh l≤1000000000):AC Tryz.prog gl 66 [.pv (.slice (l.map zam))] [] (.pv (.bool (zan l))) []:=zk4 _ (Nat.le_refl _) l hl
theorem zp7 (v:VarD):AC Tryz.prog gl 65 [.agg [.pv (.str v.name),.pv (.int .i64 v.size),.pv (.int .i64 v.init)]] [] (.pv (.bool (zcB v))) []:=by
 have cV:=zhs v.name
 refine zaK (fun _=>0) 1 zG6 ?_
 (repeat' (first|refine Va zGS ?_|(with_reducible first|refine SB.c ?_ ?_<;>intro _|exact zad)|refine CK.d0 zf6 cV ?_|((with_reducible first|refine VX.sb (fun hb=>?_) (fun hb=>?_)|refine CK.sb (fun hb=>?_) (fun hb=>?_)|refine VX.sa (fun hb=>?_) (fun hb=>?_)|refine CK.sa (fun hb=>?_) (fun hb=>?_))<;>simp only [hb])|with_reducible refine zac ?_|omega))
 all_goals (simp only [zcB];grind)
theorem zo0 (p:PgD) (hp:szP p≤1000000000):AC Tryz.prog gl 42 [pgA p] [] (.pv (.int .i64 (zbF zan p))) []:=by
 have hal:p.vars.length≤1000000000:=by unfold szP at hp;omega
 have hd:=zoZ p hp
 have g1:=zei p.start (by unfold szP at hp;omega)
 have g2:=zei p.message (by unfold szP at hp;omega)
 have g3:=zei p.tick (by unfold szP at hp;omega)
 have g4:=zei p.input (by unfold szP at hp;omega)
 unfold pgA at hd ⊢
 unfold zbF
 by_cases h1:znc p > 16
 ·rw [if_pos h1]
  refine zaK (fun d=>if d=4 then 1 else 0) 2 zFp ?_
  (repeat' (first|refine Va (fA2 zA8 h1) ?_|(with_reducible first|refine SB.c ?_ ?_<;>intro _|exact zad)|refine CK.d0 zhl hd ?_|with_reducible refine zac ?_|omega))
 rw [if_neg h1]
 refine zaK (fun d=>if d=4 then 1 else 0) 2 zFp ?_
 (repeat' (first|refine Va (fA2 zA8 h1) ?_|(with_reducible first|refine SB.c ?_ ?_<;>intro _|exact zad)|refine CK.d0 zhl hd ?_|with_reducible refine zac ?_|omega))
 refine zbx (ι:={k:Nat // k≤p.vars.length∧p.vars.any (fun v=>!zcB v)=(p.vars.drop k).any (fun v=>!zcB v)}) (fun i=>⟨(.junk::.ref 0 0::jl 7 (.pv (.slice (p.vars.map za3))::.pv (.int .i64 p.vars.length)::.pv (.int .i64 i.1)::jl 29 [])),[some (.cells [.pv (.slice (p.vars.map za3)),.pv (.slice (p.start.map zam)),.pv (.slice (p.message.map zam)),.pv (.slice (p.tick.map zam)),.pv (.slice (p.input.map zam))]),none]⟩) (fun i=>p.vars.length - i.1) ⟨0,by simp⟩ WFn ?_
 rintro ⟨k,hk,hany⟩
 by_cases hlt:k<p.vars.length
 ·have hlt':(k:Int)<p.vars.length:=by omega
  have hget:=zaV za3 p.vars k hlt
  rw [List.drop_eq_getElem_cons hlt,List.any_cons] at hany
  have hc:=zp7 p.vars[k]
  generalize p.vars[k]=x at *
  have hw:=zbu k (by omega)
  have hxe:za3 x=[.str x.name,.int .i64 x.size,.int .i64 x.init]:=rfl
  cases hgv:zcB x
  ·rw [hgv,Bool.not_false,Bool.true_or] at hany
   rw [hgv] at hc
   (repeat' (first|refine Va (fA6 zA8 hlt' hlt hget hxe hany) ?_|(with_reducible first|refine SB.c ?_ ?_<;>intro _|exact zad)|refine CK.d0 zol hc ?_|with_reducible refine zac ?_|omega))
  ·rw [hgv,Bool.not_true,Bool.false_or] at hany
   rw [hgv] at hc
   (repeat' (first|refine Va (fA6 zA8 hlt' hlt hget hxe hw) ?_|(with_reducible first|refine SB.c ?_ ?_<;>intro _|exact zad)|refine CK.d0 zol hc ?_|with_reducible refine zac ?_|omega))
   exact ⟨⟨k+1,by omega,hany⟩,WFn,by show p.vars.length - (k+1)<p.vars.length - k;omega⟩
 ·have hlt':¬ (k:Int)<p.vars.length:=by omega
  rw [List.drop_eq_nil_of_le (by omega),List.any_nil] at hany
  (repeat' (first|refine Va (fA3 zA8 hlt' hany) ?_|(with_reducible first|refine SB.c ?_ ?_<;>intro _|exact zad)|refine CK.d0 ze6 g1 ?_|refine CK.d0 ze6 g2 ?_|refine CK.d0 ze6 g3 ?_|refine CK.d0 ze6 g4 ?_|with_reducible refine zac ?_|omega))
  all_goals grind
end Go.Proofs.YtfinhhblcdkpgaaGreatDoor
