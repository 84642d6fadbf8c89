/- A part of the walk (Tryz_W2): its theorems have no condition beyond what they state. -/
import Derived.Test.YtfinhhblcdkpgaaGreatDoorW1
set_option maxRecDepth 100000
set_option maxHeartbeats 64000000
set_option linter.unusedSimpArgs false
set_option linter.unusedVariables false
set_option linter.defProp false
namespace Go.Proofs.YtfinhhblcdkpgaaGreatDoor
open Go Go.Abs Go.RowKit
theorem zdc (n:Nat):∀ e:Ex,szE e≤n→zbc e=true→rgE e=true→∀ t:List UInt8,t.length+(fmE e).length≤140000000000000→AC Tryz.prog gl 171 [.ref 0 0,.pv (.ptr (zbr e))] (wrO t) (.tup []) (wrQ (t++fmE e)):=by
 induction n with
 |zero=>intro e h;have:=zb1 e;omega
 |succ n ih=>
  intro e hn hg hr t hb
  have hsz:=zjB e
  rw [zBs,Bool.and_eq_true] at hr
  obtain ⟨hrv,hra⟩:=hr
  have he:=zay e
  rw [he]
  rw [zBr] at hb ⊢
  rcases zpW hg with ⟨h1,h2,h3⟩|⟨h1,h3⟩|⟨h1,a,h3,h4⟩|⟨h1,h3⟩|⟨h1,a,h3,h4⟩|⟨h1,a,b,h3,h4,h5⟩
  ·rw [h1] at hb ⊢
   have ev:fmN 1 e.value e.name (zl4 e.args)=zdM e.value:=rfl
   rw [ev] at hb ⊢
   have hv:=zdS hrv
   have cI:=zkW e.value hv.1 hv.2
   rw [zil _ hv.1 hv.2,show itT e.value=zdM e.value by unfold itT;rw [if_neg (by omega)]] at cI
   have c1:=zfR (zdM e.value) t (by simpa using hb)
   refine zax (fun _=>2) 5 zkz ?_
   (repeat' (first|refine Va (fA2 @kz zer) ?_|(with_reducible first|refine SB.c ?_ ?_<;>intro _|exact zad)|refine CK.d0 zbW cI ?_|refine CK.dx [0,1] [2] zaq c1 ?_|with_reducible refine zac ?_|omega))
   (refine zaI.mk [0,1,2] ?_ ?_<;>simp [kwr,zer])
  ·rw [h1] at hb ⊢
   have ev:fmN 2 e.value e.name (zl4 e.args)=e.name:=rfl
   rw [ev] at hb ⊢
   have c1:=zfR e.name t (by simpa using hb)
   refine zax (fun _=>2) 5 zkz ?_
   (repeat' (first|refine Va (fA2 @kz zer) ?_|(with_reducible first|refine SB.c ?_ ?_<;>intro _|exact zad)|refine CK.dx [0,1] [2] zaq c1 ?_|with_reducible refine zac ?_|omega))
   (refine zaI.mk [0,1,2] ?_ ?_<;>simp [kwr,zer])
  ·rw [h1,h3] at hb ⊢
   rw [h3] at hsz hra
   simp only [zgs] at hsz
   simp only [zoG,Bool.and_true] at hra
   have ev:fmN 3 e.value e.name (zl4 [a])=e.name++91::(fmE a++[93]):=rfl
   rw [ev] at hb ⊢
   simp only [List.length_append,List.length_cons,List.length_nil] at hb
   have c1:=zET e.name [91] t (by simp;omega)
   have c2:=ih a (by omega) h4 hra (t++(e.name++[91])) (by simp;omega)
   have c3:=zfR [93] (t++(e.name++[91])++fmE a) (by simp;omega)
   have e1:t++(e.name++[91])++fmE a++[93]=t++(e.name++91::(fmE a++[93])):=by simp
   rw [e1] at c3
   have hl:=zbj a
   refine zax (fun _=>2) 5 zkz ?_
   (repeat' (first|refine Va (fA3 @kz zer hl) ?_|(with_reducible first|refine SB.c ?_ ?_<;>intro _|exact zad)|refine CK.dx [0,1] [2] zaq c1 ?_|refine CK.dx [0,2] [3] zbR c2 ?_|refine CK.dx [0,3] [4] zaq c3 ?_|with_reducible refine zac ?_|omega))
   (refine zaI.mk [0,1,4] ?_ ?_<;>simp [kwr,zer])
  ·rw [h3] at hb ⊢
   rcases h1 with h1|h1|h1|h1
   ·rw [h1] at hb ⊢
    have ev:fmN 4 e.value e.name (zl4 [])=[115,101,108,102]:=rfl
    rw [ev] at hb ⊢
    have c1:=zfR [115,101,108,102] t (by simpa using hb)
    refine zax (fun _=>2) 5 zkz ?_
    (repeat' (first|refine Va (fA2 @kz zer) ?_|(with_reducible first|refine SB.c ?_ ?_<;>intro _|exact zad)|refine CK.dx [0,1] [2] zaq c1 ?_|with_reducible refine zac ?_|omega))
    (refine zaI.mk [0,1,2] ?_ ?_<;>simp [kwr,zer])
   ·rw [h1] at hb ⊢
    have ev:fmN 5 e.value e.name (zl4 [])=[112,114,111,99,115]:=rfl
    rw [ev] at hb ⊢
    have c1:=zfR [112,114,111,99,115] t (by simpa using hb)
    refine zax (fun _=>2) 5 zkz ?_
    (repeat' (first|refine Va (fA2 @kz zer) ?_|(with_reducible first|refine SB.c ?_ ?_<;>intro _|exact zad)|refine CK.dx [0,1] [2] zaq c1 ?_|with_reducible refine zac ?_|omega))
    (refine zaI.mk [0,1,2] ?_ ?_<;>simp [kwr,zer])
   ·rw [h1] at hb ⊢
    have ev:fmN 6 e.value e.name (zl4 [])=[102,114,111,109]:=rfl
    rw [ev] at hb ⊢
    have c1:=zfR [102,114,111,109] t (by simpa using hb)
    refine zax (fun _=>2) 5 zkz ?_
    (repeat' (first|refine Va (fA2 @kz zer) ?_|(with_reducible first|refine SB.c ?_ ?_<;>intro _|exact zad)|refine CK.dx [0,1] [2] zaq c1 ?_|with_reducible refine zac ?_|omega))
    (refine zaI.mk [0,1,2] ?_ ?_<;>simp [kwr,zer])
   ·rw [h1] at hb ⊢
    have ev:fmN 7 e.value e.name (zl4 [])=[118,97,108,117,101]:=rfl
    rw [ev] at hb ⊢
    have c1:=zfR [118,97,108,117,101] t (by simpa using hb)
    refine zax (fun _=>2) 5 zkz ?_
    (repeat' (first|refine Va (fA2 @kz zer) ?_|(with_reducible first|refine SB.c ?_ ?_<;>intro _|exact zad)|refine CK.dx [0,1] [2] zaq c1 ?_|with_reducible refine zac ?_|omega))
    (refine zaI.mk [0,1,2] ?_ ?_<;>simp [kwr,zer])
  ·rw [h3] at hb hsz hra ⊢
   simp only [zgs] at hsz
   simp only [zoG,Bool.and_true] at hra
   have ev:fmN e.op e.value e.name (zl4 [a])=sgF e.op.toNat++zg0 (decide (a.op≥8),fmE a):=by
    rcases h1 with h1|h1<;>rw [h1]<;>rfl
   rw [ev] at hb ⊢
   simp only [List.length_append] at hb
   have cS:=zix e.op.toNat (by omega) (by omega)
   have hop:((e.op.toNat:Nat):Int)=e.op:=by omega
   rw [hop] at cS
   have c1:=zfR (sgF e.op.toNat) t (by simp;omega)
   have c2:=zfN a (t++sgF e.op.toNat) (by simp only [List.length_append];omega) (fun t ht=>ih a (by omega) h4 hra t ht)
   rw [List.append_assoc] at c2
   have hl:=zbj a
   generalize sgF e.op.toNat=sg at *
   generalize zg0 (decide (a.op≥8),fmE a)=oa at *
   rcases h1 with h1|h1
   all_goals (
    rw [h1] at cS ⊢
    refine zax (fun _=>2) 5 zkz ?_
    (repeat' (first|refine Va (fA3 @kz zer hl) ?_|(with_reducible first|refine SB.c ?_ ?_<;>intro _|exact zad)|refine CK.d0 zeM cS ?_|refine CK.dx [0,1] [2] zaq c1 ?_|refine CK.dx [0,2] [3] zh3 c2 ?_|with_reducible refine zac ?_|omega))
    (refine zaI.mk [0,1,3] ?_ ?_<;>simp [kwr,zer]))
  ·rw [h3] at hb hsz hra ⊢
   simp only [zgs] at hsz
   simp only [zoG,Bool.and_true,Bool.and_eq_true] at hra
   have ev:fmN e.op e.value e.name (zl4 [a,b])=zg0 (decide (a.op≥8),fmE a)++32::(sgF e.op.toNat++32::zg0 (decide (b.op≥8),fmE b)):=by
    unfold fmN
    rw [if_neg (by omega),if_neg (by omega),if_neg (by omega),if_neg (by omega),if_neg (by omega),if_neg (by omega),if_neg (by omega),if_neg (by omega)]
    rfl
   rw [ev] at hb ⊢
   simp only [List.length_append,List.length_cons] at hb
   have cS:=zix e.op.toNat (by omega) (by omega)
   have hop:((e.op.toNat:Nat):Int)=e.op:=by omega
   rw [hop] at cS
   have c1:=zfN a t (by omega) (fun t ht=>ih a (by omega) h4 hra.1 t ht)
   have c2:=zEU [32] (sgF e.op.toNat) [32] (t++zg0 (decide (a.op≥8),fmE a)) (by simp only [List.length_append,List.length_cons,List.length_nil];omega)
   have c3:=zfN b (t++zg0 (decide (a.op≥8),fmE a)++([32]++(sgF e.op.toNat++[32]))) (by simp only [List.length_append,List.length_cons,List.length_nil];omega) (fun t ht=>ih b (by omega) h5 hra.2 t ht)
   have hla:=zbj a
   have hlb:=zbj b
   generalize sgF e.op.toNat=sg at *
   generalize zg0 (decide (a.op≥8),fmE a)=oa at *
   generalize zg0 (decide (b.op≥8),fmE b)=ob at *
   have e3:t++oa++([32]++(sg++[32]))++ob=t++(oa++32::(sg++32::ob)):=by simp
   rw [e3] at c3
   have q1:(e.op==1)=false:=zu3 (by omega)
   have q2:(e.op==2)=false:=zu3 (by omega)
   have q3:(e.op==3)=false:=zu3 (by omega)
   have q4:(e.op==4)=false:=zu3 (by omega)
   have q5:(e.op==5)=false:=zu3 (by omega)
   have q6:(e.op==6)=false:=zu3 (by omega)
   have q7:(e.op==7)=false:=zu3 (by omega)
   have q8:(e.op==8)=false:=zu3 (by omega)
   have q9:(e.op==9)=false:=zu3 (by omega)
   refine zax (fun _=>2) 5 zkz ?_
   (repeat' (first|refine Va (ztq @kz zer hla hlb q1 q2 q3 q4 q5 q6 q7 q8 q9) ?_|(with_reducible first|refine SB.c ?_ ?_<;>intro _|exact zad)|refine CK.dx [0,1] [2] zh3 c1 ?_|refine CK.d0 zeM cS ?_|refine CK.dx [0,2] [3] zaq c2 ?_|refine CK.dx [0,3] [4] zh3 c3 ?_|with_reducible refine zac ?_|omega))
   (refine zaI.mk [0,1,4] ?_ ?_<;>simp [kwr,zer])
end Go.Proofs.YtfinhhblcdkpgaaGreatDoor
