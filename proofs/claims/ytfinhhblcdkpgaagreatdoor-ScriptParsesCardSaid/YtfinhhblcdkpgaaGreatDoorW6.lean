/- A part of the walk (Tryz_W6): its theorems have no condition beyond what they state. -/
import Derived.Test.YtfinhhblcdkpgaaGreatDoorLib2
import Derived.Test.YtfinhhblcdkpgaaGreatDoorW5
import Derived.Test.YtfinhhblcdkpgaaGreatDoorN12
set_option maxRecDepth 100000
set_option maxHeartbeats 64000000
set_option linter.unusedSimpArgs false
set_option linter.unusedVariables false
namespace Go.Proofs.YtfinhhblcdkpgaaGreatDoor
open Go Go.Abs Go.RowKit
theorem zqV (n:Int) (h0:8≤n) (h1:n≤22):AC Tryz.prog gl 134 [.pv (.int .i64 n)] [] (.pv (.str (sgF n.toNat))) []:=by
 have:n=8∨n=9∨n=10∨n=11∨n=12∨n=13∨n=14∨n=15∨n=16∨n=17∨n=18∨n=19∨n=20∨n=21∨n=22:=by omega
 rcases this with rfl|rfl|rfl|rfl|rfl|rfl|rfl|rfl|rfl|rfl|rfl|rfl|rfl|rfl|rfl
 all_goals
  refine zas (fun _=>0) 0 zHe ?_
  repeat' first|refine Va zGG ?_|(with_reducible first|refine SB.c ?_ ?_<;>intro _|exact zak)|with_reducible refine zaj ?_|omega
  try rfl
theorem zgU (e:Ex) (hb:(fmE e).length≤140000000000000) (hE:AC Tryz.prog gl 102 [exP e] [] (.pv (.str (fmE e))) []) :
  AC Tryz.prog gl 135 [exP e] [] (.pv (.str (zom (decide (e.op≥8),fmE e)))) []:=by
 unfold exP at hE ⊢
 by_cases h:e.op≥8
 ·rw [decide_eq_true h,show zom (true,fmE e)=[40]++fmE e++[41] from rfl]
  refine zas (fun _=>0) 1 zDu ?_
  repeat' first|refine Va (fA5 zDo h @List.length_append.{0} @List.length_cons.{0} @List.length_nil.{0}) ?_|(with_reducible first|refine SB.c ?_ ?_<;>intro _|exact zak)|refine CK.d0 zca hE ?_|with_reducible refine zaj ?_|omega
 ·rw [decide_eq_false h,show zom (false,fmE e)=fmE e from rfl]
  refine zas (fun _=>0) 1 zDu ?_
  refine Wk0 (fA3 zDo h (CE.mk zca hE))
theorem zqW (n:Nat):∀ e:Ex,szE e≤n→n≤1000000→zb2 e=true→rgE e=true→AC Tryz.prog gl 102 [exP e] [] (.pv (.str (fmE e))) []:=by
 induction n with
 |zero=>intro e h;have:=zbw e;omega
 |succ n ih=>
  intro e hn hm hg hr
  have hbl:=zgN e hg
  have hsz:=zgv e
  rw [zDS,Bool.and_eq_true] at hr
  obtain ⟨hrv,hra⟩:=hr
  have hb:(fmE e).length≤140000000000000:=by omega
  unfold exP at ih ⊢
  rw [zDQ] at hb ⊢
  rcases zrN hg with ⟨h1,h2,h3⟩|⟨h1,h3⟩|⟨h1,a,h3,h4⟩|⟨h1,h3⟩|⟨h1,a,h3,h4⟩|⟨h1,a,b,h3,h4,h5⟩
  ·rw [h1]
   have ev:fmN 1 e.value e.name (zon e.args)=zei e.value:=rfl
   rw [ev]
   have hv:=zfG hrv
   have cI:=zeN e.value hv.2
   refine zas (fun _=>0) 1 zlY ?_
   refine Wk0 (fA2 zlU (CE.mk zhf cI))
  ·rw [h1]
   have ev:fmN 2 e.value e.name (zon e.args)=e.name:=rfl
   rw [ev]
   refine zas (fun _=>0) 1 zlY ?_
   refine Wk0 zlU
  ·rw [h1,h3] at hb ⊢
   rw [h3] at hsz hra
   simp only [zh3] at hsz
   simp only [zsC,Bool.and_true] at hra
   have ev:fmN 3 e.value e.name (zon [a])=e.name++[91]++fmE a++[93]:=by
    show e.name++91::(fmE a++[93])=_
    simp
   rw [ev] at hb ⊢
   simp only [List.length_append,List.length_cons,List.length_nil] at hb
   have c2:=ih a (by omega) (by omega) h4 hra
   have hl:=zaz a
   refine zas (fun _=>0) 1 zlY ?_
   repeat' first|refine Va (fA5 zlU hl @List.length_append.{0} @List.length_cons.{0} @List.length_nil.{0}) ?_|(with_reducible first|refine SB.c ?_ ?_<;>intro _|exact zak)|refine CK.d0 zca c2 ?_|with_reducible refine zaj ?_|omega
  ·rw [h3]
   rcases h1 with h1|h1|h1|h1
   ·rw [h1]
    have ev:fmN 4 e.value e.name (zon [])=[115,101,108,102]:=rfl
    rw [ev]
    refine zas (fun _=>0) 1 zlY ?_
    refine Wk0 zlU
   ·rw [h1]
    have ev:fmN 5 e.value e.name (zon [])=[112,114,111,99,115]:=rfl
    rw [ev]
    refine zas (fun _=>0) 1 zlY ?_
    refine Wk0 zlU
   ·rw [h1]
    have ev:fmN 6 e.value e.name (zon [])=[102,114,111,109]:=rfl
    rw [ev]
    refine zas (fun _=>0) 1 zlY ?_
    refine Wk0 zlU
   ·rw [h1]
    have ev:fmN 7 e.value e.name (zon [])=[118,97,108,117,101]:=rfl
    rw [ev]
    refine zas (fun _=>0) 1 zlY ?_
    refine Wk0 zlU
  ·rw [h3] at hb hsz hra ⊢
   simp only [zh3] at hsz
   simp only [zsC,Bool.and_true] at hra
   have ev:fmN e.op e.value e.name (zon [a])=sgF e.op.toNat++zom (decide (a.op≥8),fmE a):=by
    rcases h1 with h1|h1<;>rw [h1]<;>rfl
   rw [ev] at hb ⊢
   simp only [List.length_append] at hb
   have cS:=zqV e.op (by omega) (by omega)
   have hal:=zgN a h4
   have c2:=zgU a (by omega) (ih a (by omega) (by omega) h4 hra)
   unfold exP at c2
   have hl:=zaz a
   generalize sgF e.op.toNat=sg at *
   generalize zom (decide (a.op≥8),fmE a)=oa at *
   rcases h1 with h1|h1
   all_goals (
    rw [h1] at cS ⊢
    refine zas (fun _=>0) 1 zlY ?_
    (repeat' (first|refine Va (fA2 zlU hl) ?_|(with_reducible first|refine SB.c ?_ ?_<;>intro _|exact zak)|refine CK.d0 zno cS ?_|refine CK.d0 zjL c2 ?_|with_reducible refine zaj ?_|omega)))
  ·rw [h3] at hb hsz hra ⊢
   simp only [zh3] at hsz
   simp only [zsC,Bool.and_true,Bool.and_eq_true] at hra
   have ev:fmN e.op e.value e.name (zon [a,b])=zom (decide (a.op≥8),fmE a)++[32]++sgF e.op.toNat++[32]++zom (decide (b.op≥8),fmE b):=by
    unfold fmN
    rw [if_neg (by omega),if_neg (by omega),if_neg (by omega),if_neg (by omega),if_neg (by omega),if_neg (by omega),if_neg (by omega),if_neg (by omega)]
    show zom (decide (a.op≥8),fmE a)++32::(sgF e.op.toNat++32::zom (decide (b.op≥8),fmE b))=_
    simp
   rw [ev] at hb ⊢
   simp only [List.length_append,List.length_cons,List.length_nil] at hb
   have cS:=zqV e.op (by omega) (by omega)
   have hal:=zgN a h4
   have hbl:=zgN b h5
   have c1:=zgU a (by omega) (ih a (by omega) (by omega) h4 hra.1)
   have c3:=zgU b (by omega) (ih b (by omega) (by omega) h5 hra.2)
   unfold exP at c1 c3
   have hla:=zaz a
   have hlb:=zaz b
   generalize sgF e.op.toNat=sg at *
   generalize zom (decide (a.op≥8),fmE a)=oa at *
   generalize zom (decide (b.op≥8),fmE b)=ob at *
   have q1:(e.op==1)=false:=zsB (by omega)
   have q2:(e.op==2)=false:=zsB (by omega)
   have q3:(e.op==3)=false:=zsB (by omega)
   have q4:(e.op==4)=false:=zsB (by omega)
   have q5:(e.op==5)=false:=zsB (by omega)
   have q6:(e.op==6)=false:=zsB (by omega)
   have q7:(e.op==7)=false:=zsB (by omega)
   have q8:(e.op==8)=false:=zsB (by omega)
   have q9:(e.op==9)=false:=zsB (by omega)
   refine zas (fun _=>0) 1 zlY ?_
   repeat' first|refine Va (zBe zlU hla hlb q1 q2 q3 q4 q5 q6 q7 q8 q9 @List.length_append.{0} @List.length_cons.{0} @List.length_nil.{0}) ?_|(with_reducible first|refine SB.c ?_ ?_<;>intro _|exact zak)|refine CK.d0 zjL c1 ?_|refine CK.d0 zno cS ?_|refine CK.d0 zjL c3 ?_|with_reducible refine zaj ?_|omega
end Go.Proofs.YtfinhhblcdkpgaaGreatDoor
