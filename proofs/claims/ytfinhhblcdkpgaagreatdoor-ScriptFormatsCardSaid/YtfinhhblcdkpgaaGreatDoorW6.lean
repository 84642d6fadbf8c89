/- A part of the walk (Tryz_W6): its theorems have no condition beyond what they state. -/
import Derived.Test.YtfinhhblcdkpgaaGreatDoorW5
import Derived.Test.YtfinhhblcdkpgaaGreatDoorN12
set_option maxRecDepth 100000
set_option maxHeartbeats 64000000
set_option linter.unusedSimpArgs false
set_option linter.unusedVariables false
set_option linter.defProp false
namespace Go.Proofs.YtfinhhblcdkpgaaGreatDoor
open Go Go.Abs Go.RowKit
theorem zoq (n:Int) (h0:8≤n) (h1:n≤22):AC Tryz.prog gl 134 [.pv (.int .i64 n)] [] (.pv (.str (sgF n.toNat))) []:=by
 have:n=8∨n=9∨n=10∨n=11∨n=12∨n=13∨n=14∨n=15∨n=16∨n=17∨n=18∨n=19∨n=20∨n=21∨n=22:=by omega
 rcases this with rfl|rfl|rfl|rfl|rfl|rfl|rfl|rfl|rfl|rfl|rfl|rfl|rfl|rfl|rfl
 all_goals
  refine zam (fun _=>0) 0 zCQ ?_
  (repeat' (first|refine Va zCp ?_|(with_reducible first|refine SB.c ?_ ?_<;>intro _|exact zac)|with_reducible refine zab ?_|omega))
  try rfl
theorem zfC (e:Ex) (hb:(fmE e).length≤140000000000000) (hE:AC Tryz.prog gl 102 [exP e] [] (.pv (.str (fmE e))) []) :
  AC Tryz.prog gl 135 [exP e] [] (.pv (.str (zgA (decide (e.op≥8),fmE e)))) []:=by
 unfold exP at hE ⊢
 by_cases h:e.op≥8
 ·rw [decide_eq_true h,show zgA (true,fmE e)=[40]++fmE e++[41] from rfl]
  refine zam (fun _=>0) 1 zzC ?_
  (repeat' (first|refine Va (fA5 zzy h @List.length_append.{0} @List.length_cons.{0} @List.length_nil.{0}) ?_|(with_reducible first|refine SB.c ?_ ?_<;>intro _|exact zac)|refine CK.d0 zbG hE ?_|with_reducible refine zab ?_|omega))
 ·rw [decide_eq_false h,show zgA (false,fmE e)=fmE e from rfl]
  refine zam (fun _=>0) 1 zzC ?_
  (repeat' (first|refine Va (fA2 zzy h) ?_|(with_reducible first|refine SB.c ?_ ?_<;>intro _|exact zac)|refine CK.d0 zbG hE ?_|with_reducible refine zab ?_|omega))
theorem zor (n:Nat):∀ e:Ex,szE e≤n→n≤1000000→zbq e=true→rgE e=true→AC Tryz.prog gl 102 [exP e] [] (.pv (.str (fmE e))) []:=by
 induction n with
 |zero=>intro e h;have:=zbo e;omega
 |succ n ih=>
  intro e hn hm hg hr
  have hbl:=zeC e hg
  have hsz:=zgM e
  rw [zuX,Bool.and_eq_true] at hr
  obtain ⟨hrv,hra⟩:=hr
  have hb:(fmE e).length≤140000000000000:=by omega
  unfold exP at ih ⊢
  rw [zuW] at hb ⊢
  rcases zjv hg with ⟨h1,h2,h3⟩|⟨h1,h3⟩|⟨h1,a,h3,h4⟩|⟨h1,h3⟩|⟨h1,a,h3,h4⟩|⟨h1,a,b,h3,h4,h5⟩
  ·rw [h1]
   have ev:fmN 1 e.value e.name (zg1 e.args)=zdm e.value:=rfl
   rw [ev]
   have hv:=zeD hrv
   have cI:=zdO e.value hv.2
   refine zam (fun _=>0) 1 zkc ?_
   (repeat' (first|refine Va zj8 ?_|(with_reducible first|refine SB.c ?_ ?_<;>intro _|exact zac)|refine CK.d0 zfW cI ?_|with_reducible refine zab ?_|omega))
  ·rw [h1]
   have ev:fmN 2 e.value e.name (zg1 e.args)=e.name:=rfl
   rw [ev]
   refine zam (fun _=>0) 1 zkc ?_
   (repeat' (first|refine Va zj8 ?_|(with_reducible first|refine SB.c ?_ ?_<;>intro _|exact zac)|with_reducible refine zab ?_|omega))
  ·rw [h1,h3] at hb ⊢
   rw [h3] at hsz hra
   simp only [zgu] at hsz
   simp only [zmF,Bool.and_true] at hra
   have ev:fmN 3 e.value e.name (zg1 [a])=e.name++[91]++fmE a++[93]:=by
    show e.name++91::(fmE a++[93])=_
    simp
   rw [ev] at hb ⊢
   simp only [List.length_append,List.length_cons,List.length_nil] at hb
   have c2:=ih a (by omega) (by omega) h4 hra
   have hl:=zaq a
   refine zam (fun _=>0) 1 zkc ?_
   (repeat' (first|refine Va (fA5 zj8 hl @List.length_append.{0} @List.length_cons.{0} @List.length_nil.{0}) ?_|(with_reducible first|refine SB.c ?_ ?_<;>intro _|exact zac)|refine CK.d0 zbG c2 ?_|with_reducible refine zab ?_|omega))
  ·rw [h3]
   rcases h1 with h1|h1|h1|h1
   ·rw [h1]
    have ev:fmN 4 e.value e.name (zg1 [])=[115,101,108,102]:=rfl
    rw [ev]
    refine zam (fun _=>0) 1 zkc ?_
    (repeat' (first|refine Va zj8 ?_|(with_reducible first|refine SB.c ?_ ?_<;>intro _|exact zac)|with_reducible refine zab ?_|omega))
   ·rw [h1]
    have ev:fmN 5 e.value e.name (zg1 [])=[112,114,111,99,115]:=rfl
    rw [ev]
    refine zam (fun _=>0) 1 zkc ?_
    (repeat' (first|refine Va zj8 ?_|(with_reducible first|refine SB.c ?_ ?_<;>intro _|exact zac)|with_reducible refine zab ?_|omega))
   ·rw [h1]
    have ev:fmN 6 e.value e.name (zg1 [])=[102,114,111,109]:=rfl
    rw [ev]
    refine zam (fun _=>0) 1 zkc ?_
    (repeat' (first|refine Va zj8 ?_|(with_reducible first|refine SB.c ?_ ?_<;>intro _|exact zac)|with_reducible refine zab ?_|omega))
   ·rw [h1]
    have ev:fmN 7 e.value e.name (zg1 [])=[118,97,108,117,101]:=rfl
    rw [ev]
    refine zam (fun _=>0) 1 zkc ?_
    (repeat' (first|refine Va zj8 ?_|(with_reducible first|refine SB.c ?_ ?_<;>intro _|exact zac)|with_reducible refine zab ?_|omega))
  ·rw [h3] at hb hsz hra ⊢
   simp only [zgu] at hsz
   simp only [zmF,Bool.and_true] at hra
   have ev:fmN e.op e.value e.name (zg1 [a])=sgF e.op.toNat++zgA (decide (a.op≥8),fmE a):=by
    rcases h1 with h1|h1<;>rw [h1]<;>rfl
   rw [ev] at hb ⊢
   simp only [List.length_append] at hb
   have cS:=zoq e.op (by omega) (by omega)
   have hal:=zeC a h4
   have c2:=zfC a (by omega) (ih a (by omega) (by omega) h4 hra)
   unfold exP at c2
   have hl:=zaq a
   generalize sgF e.op.toNat=sg at *
   generalize zgA (decide (a.op≥8),fmE a)=oa at *
   rcases h1 with h1|h1
   all_goals (
    rw [h1] at cS ⊢
    refine zam (fun _=>0) 1 zkc ?_
    (repeat' (first|refine Va (fA2 zj8 hl) ?_|(with_reducible first|refine SB.c ?_ ?_<;>intro _|exact zac)|refine CK.d0 zln cS ?_|refine CK.d0 zhZ c2 ?_|with_reducible refine zab ?_|omega)))
  ·rw [h3] at hb hsz hra ⊢
   simp only [zgu] at hsz
   simp only [zmF,Bool.and_true,Bool.and_eq_true] at hra
   have ev:fmN e.op e.value e.name (zg1 [a,b])=zgA (decide (a.op≥8),fmE a)++[32]++sgF e.op.toNat++[32]++zgA (decide (b.op≥8),fmE b):=by
    unfold fmN
    rw [if_neg (by omega),if_neg (by omega),if_neg (by omega),if_neg (by omega),if_neg (by omega),if_neg (by omega),if_neg (by omega),if_neg (by omega)]
    show zgA (decide (a.op≥8),fmE a)++32::(sgF e.op.toNat++32::zgA (decide (b.op≥8),fmE b))=_
    simp
   rw [ev] at hb ⊢
   simp only [List.length_append,List.length_cons,List.length_nil] at hb
   have cS:=zoq e.op (by omega) (by omega)
   have hal:=zeC a h4
   have hbl:=zeC b h5
   have c1:=zfC a (by omega) (ih a (by omega) (by omega) h4 hra.1)
   have c3:=zfC b (by omega) (ih b (by omega) (by omega) h5 hra.2)
   unfold exP at c1 c3
   have hla:=zaq a
   have hlb:=zaq b
   generalize sgF e.op.toNat=sg at *
   generalize zgA (decide (a.op≥8),fmE a)=oa at *
   generalize zgA (decide (b.op≥8),fmE b)=ob at *
   have q1:(e.op==1)=false:=zi2 (by omega)
   have q2:(e.op==2)=false:=zi2 (by omega)
   have q3:(e.op==3)=false:=zi2 (by omega)
   have q4:(e.op==4)=false:=zi2 (by omega)
   have q5:(e.op==5)=false:=zi2 (by omega)
   have q6:(e.op==6)=false:=zi2 (by omega)
   have q7:(e.op==7)=false:=zi2 (by omega)
   have q8:(e.op==8)=false:=zi2 (by omega)
   have q9:(e.op==9)=false:=zi2 (by omega)
   refine zam (fun _=>0) 1 zkc ?_
   (repeat' (first|refine Va (zDv zj8 hla hlb q1 q2 q3 q4 q5 q6 q7 q8 q9 @List.length_append.{0} @List.length_cons.{0} @List.length_nil.{0}) ?_|(with_reducible first|refine SB.c ?_ ?_<;>intro _|exact zac)|refine CK.d0 zhZ c1 ?_|refine CK.d0 zln cS ?_|refine CK.d0 zhZ c3 ?_|with_reducible refine zab ?_|omega))
end Go.Proofs.YtfinhhblcdkpgaaGreatDoor
