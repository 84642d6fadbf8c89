/- A part of the walk (Tryz_W2): its theorems have no condition beyond what they state. -/
import Derived.Test.YtfinhhblcdkpgaaGreatDoorW1
set_option maxRecDepth 100000
set_option maxHeartbeats 64000000
set_option linter.unusedSimpArgs false
set_option linter.unusedVariables false
set_option linter.defProp false
namespace Go.Proofs.YtfinhhblcdkpgaaGreatDoor
open Go Go.Abs Go.RowKit
theorem zc7 (n:Nat):∀ e:Ex,szE e≤n→zbq e=true→rgE e=true→∀ t:List UInt8,t.length+(fmE e).length≤140000000000000→AC Tryz.prog gl 171 [.ref 0 0,.pv (.ptr (zbg e))] (wrO t) (.tup []) (wrQ (t++fmE e)):=by
 induction n with
 |zero=>intro e h;have:=zbo e;omega
 |succ n ih=>
  intro e hn hg hr t hb
  have hsz:=zgM e
  rw [zuX,Bool.and_eq_true] at hr
  obtain ⟨hrv,hra⟩:=hr
  have he:=zaq e
  rw [he]
  rw [zuW] at hb ⊢
  rcases zjv hg with ⟨h1,h2,h3⟩|⟨h1,h3⟩|⟨h1,a,h3,h4⟩|⟨h1,h3⟩|⟨h1,a,h3,h4⟩|⟨h1,a,b,h3,h4,h5⟩
  ·rw [h1] at hb ⊢
   have ev:fmN 1 e.value e.name (zg1 e.args)=zdm e.value:=rfl
   rw [ev] at hb ⊢
   have hv:=zeD hrv
   have cI:=zky e.value hv.1 hv.2
   rw [zig _ hv.1 hv.2,show itT e.value=zdm e.value by unfold itT;rw [if_neg (by omega)]] at cI
   have c1:=zfF (zdm e.value) t (by simpa using hb)
   refine zay (fun _=>2) 5 zkd ?_
   (repeat' (first|refine Va (fA2 @kz zec) ?_|(with_reducible first|refine SB.c ?_ ?_<;>intro _|exact zac)|refine CK.d0 zbL cI ?_|refine CK.dx [0,1] [2] zav c1 ?_|with_reducible refine zab ?_|omega))
   (refine zaJ.mk [0,1,2] ?_ ?_<;>simp [kwr,zec])
  ·rw [h1] at hb ⊢
   have ev:fmN 2 e.value e.name (zg1 e.args)=e.name:=rfl
   rw [ev] at hb ⊢
   have c1:=zfF e.name t (by simpa using hb)
   refine zay (fun _=>2) 5 zkd ?_
   (repeat' (first|refine Va (fA2 @kz zec) ?_|(with_reducible first|refine SB.c ?_ ?_<;>intro _|exact zac)|refine CK.dx [0,1] [2] zav c1 ?_|with_reducible refine zab ?_|omega))
   (refine zaJ.mk [0,1,2] ?_ ?_<;>simp [kwr,zec])
  ·rw [h1,h3] at hb ⊢
   rw [h3] at hsz hra
   simp only [zgu] at hsz
   simp only [zmF,Bool.and_true] at hra
   have ev:fmN 3 e.value e.name (zg1 [a])=e.name++91::(fmE a++[93]):=rfl
   rw [ev] at hb ⊢
   simp only [List.length_append,List.length_cons,List.length_nil] at hb
   have c1:=zDj e.name [91] t (by simp;omega)
   have c2:=ih a (by omega) h4 hra (t++(e.name++[91])) (by simp;omega)
   have c3:=zfF [93] (t++(e.name++[91])++fmE a) (by simp;omega)
   have e1:t++(e.name++[91])++fmE a++[93]=t++(e.name++91::(fmE a++[93])):=by simp
   rw [e1] at c3
   have hl:=zbh a
   refine zay (fun _=>2) 5 zkd ?_
   (repeat' (first|refine Va (fA3 @kz zec hl) ?_|(with_reducible first|refine SB.c ?_ ?_<;>intro _|exact zac)|refine CK.dx [0,1] [2] zav c1 ?_|refine CK.dx [0,2] [3] zbH c2 ?_|refine CK.dx [0,3] [4] zav c3 ?_|with_reducible refine zab ?_|omega))
   (refine zaJ.mk [0,1,4] ?_ ?_<;>simp [kwr,zec])
  ·rw [h3] at hb ⊢
   rcases h1 with h1|h1|h1|h1
   ·rw [h1] at hb ⊢
    have ev:fmN 4 e.value e.name (zg1 [])=[115,101,108,102]:=rfl
    rw [ev] at hb ⊢
    have c1:=zfF [115,101,108,102] t (by simpa using hb)
    refine zay (fun _=>2) 5 zkd ?_
    (repeat' (first|refine Va (fA2 @kz zec) ?_|(with_reducible first|refine SB.c ?_ ?_<;>intro _|exact zac)|refine CK.dx [0,1] [2] zav c1 ?_|with_reducible refine zab ?_|omega))
    (refine zaJ.mk [0,1,2] ?_ ?_<;>simp [kwr,zec])
   ·rw [h1] at hb ⊢
    have ev:fmN 5 e.value e.name (zg1 [])=[112,114,111,99,115]:=rfl
    rw [ev] at hb ⊢
    have c1:=zfF [112,114,111,99,115] t (by simpa using hb)
    refine zay (fun _=>2) 5 zkd ?_
    (repeat' (first|refine Va (fA2 @kz zec) ?_|(with_reducible first|refine SB.c ?_ ?_<;>intro _|exact zac)|refine CK.dx [0,1] [2] zav c1 ?_|with_reducible refine zab ?_|omega))
    (refine zaJ.mk [0,1,2] ?_ ?_<;>simp [kwr,zec])
   ·rw [h1] at hb ⊢
    have ev:fmN 6 e.value e.name (zg1 [])=[102,114,111,109]:=rfl
    rw [ev] at hb ⊢
    have c1:=zfF [102,114,111,109] t (by simpa using hb)
    refine zay (fun _=>2) 5 zkd ?_
    (repeat' (first|refine Va (fA2 @kz zec) ?_|(with_reducible first|refine SB.c ?_ ?_<;>intro _|exact zac)|refine CK.dx [0,1] [2] zav c1 ?_|with_reducible refine zab ?_|omega))
    (refine zaJ.mk [0,1,2] ?_ ?_<;>simp [kwr,zec])
   ·rw [h1] at hb ⊢
    have ev:fmN 7 e.value e.name (zg1 [])=[118,97,108,117,101]:=rfl
    rw [ev] at hb ⊢
    have c1:=zfF [118,97,108,117,101] t (by simpa using hb)
    refine zay (fun _=>2) 5 zkd ?_
    (repeat' (first|refine Va (fA2 @kz zec) ?_|(with_reducible first|refine SB.c ?_ ?_<;>intro _|exact zac)|refine CK.dx [0,1] [2] zav c1 ?_|with_reducible refine zab ?_|omega))
    (refine zaJ.mk [0,1,2] ?_ ?_<;>simp [kwr,zec])
  ·rw [h3] at hb hsz hra ⊢
   simp only [zgu] at hsz
   simp only [zmF,Bool.and_true] at hra
   have ev:fmN e.op e.value e.name (zg1 [a])=sgF e.op.toNat++zgA (decide (a.op≥8),fmE a):=by
    rcases h1 with h1|h1<;>rw [h1]<;>rfl
   rw [ev] at hb ⊢
   simp only [List.length_append] at hb
   have cS:=zis e.op.toNat (by omega) (by omega)
   have hop:((e.op.toNat:Nat):Int)=e.op:=by omega
   rw [hop] at cS
   have c1:=zfF (sgF e.op.toNat) t (by simp;omega)
   have c2:=zfB a (t++sgF e.op.toNat) (by simp only [List.length_append];omega) (fun t ht=>ih a (by omega) h4 hra t ht)
   rw [List.append_assoc] at c2
   have hl:=zbh a
   generalize sgF e.op.toNat=sg at *
   generalize zgA (decide (a.op≥8),fmE a)=oa at *
   rcases h1 with h1|h1
   all_goals (
    rw [h1] at cS ⊢
    refine zay (fun _=>2) 5 zkd ?_
    (repeat' (first|refine Va (fA3 @kz zec hl) ?_|(with_reducible first|refine SB.c ?_ ?_<;>intro _|exact zac)|refine CK.d0 zey cS ?_|refine CK.dx [0,1] [2] zav c1 ?_|refine CK.dx [0,2] [3] zh1 c2 ?_|with_reducible refine zab ?_|omega))
    (refine zaJ.mk [0,1,3] ?_ ?_<;>simp [kwr,zec]))
  ·rw [h3] at hb hsz hra ⊢
   simp only [zgu] at hsz
   simp only [zmF,Bool.and_true,Bool.and_eq_true] at hra
   have ev:fmN e.op e.value e.name (zg1 [a,b])=zgA (decide (a.op≥8),fmE a)++32::(sgF e.op.toNat++32::zgA (decide (b.op≥8),fmE b)):=by
    unfold fmN
    rw [if_neg (by omega),if_neg (by omega),if_neg (by omega),if_neg (by omega),if_neg (by omega),if_neg (by omega),if_neg (by omega),if_neg (by omega)]
    rfl
   rw [ev] at hb ⊢
   simp only [List.length_append,List.length_cons] at hb
   have cS:=zis e.op.toNat (by omega) (by omega)
   have hop:((e.op.toNat:Nat):Int)=e.op:=by omega
   rw [hop] at cS
   have c1:=zfB a t (by omega) (fun t ht=>ih a (by omega) h4 hra.1 t ht)
   have c2:=zDk [32] (sgF e.op.toNat) [32] (t++zgA (decide (a.op≥8),fmE a)) (by simp only [List.length_append,List.length_cons,List.length_nil];omega)
   have c3:=zfB b (t++zgA (decide (a.op≥8),fmE a)++([32]++(sgF e.op.toNat++[32]))) (by simp only [List.length_append,List.length_cons,List.length_nil];omega) (fun t ht=>ih b (by omega) h5 hra.2 t ht)
   have hla:=zbh a
   have hlb:=zbh b
   generalize sgF e.op.toNat=sg at *
   generalize zgA (decide (a.op≥8),fmE a)=oa at *
   generalize zgA (decide (b.op≥8),fmE b)=ob at *
   have e3:t++oa++([32]++(sg++[32]))++ob=t++(oa++32::(sg++32::ob)):=by simp
   rw [e3] at c3
   have q1:(e.op==1)=false:=zi2 (by omega)
   have q2:(e.op==2)=false:=zi2 (by omega)
   have q3:(e.op==3)=false:=zi2 (by omega)
   have q4:(e.op==4)=false:=zi2 (by omega)
   have q5:(e.op==5)=false:=zi2 (by omega)
   have q6:(e.op==6)=false:=zi2 (by omega)
   have q7:(e.op==7)=false:=zi2 (by omega)
   have q8:(e.op==8)=false:=zi2 (by omega)
   have q9:(e.op==9)=false:=zi2 (by omega)
   refine zay (fun _=>2) 5 zkd ?_
   (repeat' (first|refine Va (zoZ @kz zec hla hlb q1 q2 q3 q4 q5 q6 q7 q8 q9) ?_|(with_reducible first|refine SB.c ?_ ?_<;>intro _|exact zac)|refine CK.dx [0,1] [2] zh1 c1 ?_|refine CK.d0 zey cS ?_|refine CK.dx [0,2] [3] zav c2 ?_|refine CK.dx [0,3] [4] zh1 c3 ?_|with_reducible refine zab ?_|omega))
   (refine zaJ.mk [0,1,4] ?_ ?_<;>simp [kwr,zec])
end Go.Proofs.YtfinhhblcdkpgaaGreatDoor
