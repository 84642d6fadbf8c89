/- The line of a step. No condition. -/
import Derived.Test.YtfinhhblcdkpgaaGreatDoorN9a
import Derived.Test.YtfinhhblcdkpgaaGreatDoorLib3
set_option maxRecDepth 100000
set_option maxHeartbeats 64000000
set_option linter.unusedSimpArgs false
set_option linter.unusedVariables false
set_option linter.defProp false
namespace Go.Proofs.YtfinhhblcdkpgaaGreatDoor
open Go Go.Abs
structure KdI (a:List UInt8) where
 k:Nat
 h1:1≤k
 h2:k≤15
 no:∀ j:Nat,1≤j→j<k→wdF j≠a
theorem zuk (line:List UInt8) (hl:line.length≤100000):AC Tryz.prog gl 63 [.pv (.str line)] [] (.tup [stA (ze8 line).1,.pv (.bool (ze8 line).2)]) []:=by
 have cP:=zkx line 32 (by omega)
 have hpc:=zoa 32 line
 have hnum:=zip 32 line
 obtain ⟨a,l,hs⟩:∃ a l,zan 32 line=a::l:=by
  match h:zan 32 line,zbO 32 line with
  |a::l,_=>exact ⟨a,l,rfl⟩
 have hnl:∀ w ∈ l,w.length≤100000:=fun w hw=>by
  have:=hpc w (by rw [hs];simp [hw])
  omega
 rw [hs,List.length_cons] at hnum
 clear hpc
 rw [hs] at cP
 have w0:IntKind.i64.wrap 0=0:=by decide
 have w1:IntKind.i64.wrap 1=1:=by decide
 have w2:IntKind.i64.wrap 2=2:=by decide
 generalize hG:ze8 line=G
 refine zam (fun d=>if d=2 then 0 else 1) 3 zFj ?_
 (repeat' (first|refine Va zgs ?_|(with_reducible first|refine SB.c ?_ ?_<;>intro _|exact zac)|refine CK.d0 zeQ cP ?_|with_reducible refine zab ?_|omega))
 refine za6 (ι:=KdI a) (fun i=>⟨(.junk::.junk::.ref 0 0::.pv (.bool false)::.pv (.slice ([.str a]::l.map fun x=>[.str x]))::.pv (.int .i64 i.k)::jl 54 []),[some (.cells [.pv (.int .i64 0),.pv (.int .i64 0),.pv (.int .i64 0),.pv (.int .i64 0)]),none,none]⟩) (fun i=>15 - i.k) ⟨1,by omega,by omega,fun j h1 h2=>by omega⟩ WFn ?_
 rintro ⟨k,h1,h2,hno⟩
 by_cases hlt:k<15
 ·have hlt':(k:Int)≤14:=by omega
  have hk1:1≤(k:Int):=by omega
  have hcell:=zw8 k hlt
  simp only [zsd,List.map_cons,List.map_nil] at hcell
  have hw:=zbc k (by omega)
  by_cases he:wdF k=a
  ·subst he
   have hne:(wdF (k:Int)==wdF (k:Int))=true:=by simp
   rcases zbS k with ⟨_,hsh⟩|⟨_,hsh⟩|⟨_,hsh⟩|⟨_,_,_,_,_,_,_,_,_,_,_,hsh⟩
   ·have cF:=zjx ⟨k,0,0,0⟩ hsh
    have hnf:nfF k=1:=by simp [nfF,hsh]
    match l,hs,hnl,hnum with
    |[],hs,_,_=>
     have:=zcU hs hk1 hlt' (by rw [hnf];simp)
     rw [hG] at this
     subst this
     (repeat' (first|refine Va (zmr @kz zgs hlt hlt' hcell hne @Nat.mul_one w0 w1 w2 @stA.eq_1 @st0.eq_1) ?_|(with_reducible first|refine SB.c ?_ ?_<;>intro _|exact zac)|refine CK.dx [1] [2] zaK cF ?_|with_reducible refine zab ?_|omega))
    |[b],hs,hnl,_=>
     have:=zw5 hs hk1 hlt' hsh
     rw [hG] at this
     have cN:=zih b (hnl b (by simp))
     cases hb:(zdN b).2
     ·rw [hb,if_neg (by simp)] at this
      subst this
      rw [zoc hb] at cN
      (repeat' (first|refine Va (zmr @kz zgs hlt hlt' hcell hne @Nat.mul_one w0 w1 w2 @stA.eq_1 @st0.eq_1) ?_|(with_reducible first|refine SB.c ?_ ?_<;>intro _|exact zac)|refine CK.dx [1] [2] zaK cF ?_|with_reducible refine zab ?_|omega))
      refine LW.rounds (zck _ _) mixed 2 ?_
      (repeat' (first|refine Va (fA6 zgs @zbw w1 w2 @stA.eq_1 @st0.eq_1) ?_|(with_reducible first|refine SB.c ?_ ?_<;>intro _|exact zac)|refine CK.d0 zcL cN ?_|with_reducible refine zab ?_|omega))
     ·rw [hb,if_pos rfl] at this
      subst this
      rw [zob hb] at cN
      (repeat' (first|refine Va (zhT @kz zgs hlt hlt' hcell hne @Nat.mul_one w0 w1 w2 @stA.eq_1) ?_|(with_reducible first|refine SB.c ?_ ?_<;>intro _|exact zac)|refine CK.dx [1] [2] zaK cF ?_|with_reducible refine zab ?_|omega))
      refine LW.rounds (zck _ _) mixed 2 ?_
      (repeat' (first|refine Va (fA5 zgs @zbw w1 w2 @stA.eq_1) ?_|(with_reducible first|refine SB.c ?_ ?_<;>intro _|exact zac)|refine CK.d0 zcL cN ?_|with_reducible refine zab ?_|omega))
    |b::c::r,hs,_,hnum=>
     simp only [List.length_cons] at hnum
     have hwl:IntKind.i64.wrap (((r.length+1+1+1:Nat):Int) - 1)=(r.length:Int)+2:=by rw [zat _ (by omega) (by omega)];omega
     have hwn:((1:Int) != (r.length:Int)+2)=true:=by simp;omega
     have:=zcU hs hk1 hlt' (by rw [hnf];simp)
     rw [hG] at this
     subst this
     (repeat' (first|refine Va (zhT @kz zgs hlt hlt' hcell hne @Nat.mul_one hwl hwn @stA.eq_1 @st0.eq_1) ?_|(with_reducible first|refine SB.c ?_ ?_<;>intro _|exact zac)|refine CK.dx [1] [2] zaK cF ?_|with_reducible refine zab ?_|omega))
   ·have cF:=zjy ⟨k,0,0,0⟩ hsh
    have hnf:nfF k=2:=by simp [nfF,hsh]
    match l,hs,hnl,hnum with
    |[],hs,_,_=>
     have:=zcU hs hk1 hlt' (by rw [hnf];simp)
     rw [hG] at this
     subst this
     (repeat' (first|refine Va (zmr @kz zgs hlt hlt' hcell hne @Nat.mul_one w0 w1 w2 @stA.eq_1 @st0.eq_1) ?_|(with_reducible first|refine SB.c ?_ ?_<;>intro _|exact zac)|refine CK.dx [1] [2] zaK cF ?_|with_reducible refine zab ?_|omega))
    |[b],hs,_,_=>
     have:=zcU hs hk1 hlt' (by rw [hnf];simp)
     rw [hG] at this
     subst this
     (repeat' (first|refine Va (zmr @kz zgs hlt hlt' hcell hne @Nat.mul_one w0 w1 w2 @stA.eq_1 @st0.eq_1) ?_|(with_reducible first|refine SB.c ?_ ?_<;>intro _|exact zac)|refine CK.dx [1] [2] zaK cF ?_|with_reducible refine zab ?_|omega))
    |[b,c],hs,hnl,_=>
     have:=zw7 hs hk1 hlt' hsh
     rw [hG] at this
     have cN:=zih b (hnl b (by simp))
     have cM:=zih c (hnl c (by simp))
     cases hb:(zdN b).2
     ·rw [hb,if_neg (by simp)] at this
      subst this
      rw [zoc hb] at cN
      (repeat' (first|refine Va (zmr @kz zgs hlt hlt' hcell hne @Nat.mul_one w0 w1 w2 @stA.eq_1 @st0.eq_1) ?_|(with_reducible first|refine SB.c ?_ ?_<;>intro _|exact zac)|refine CK.dx [1] [2] zaK cF ?_|with_reducible refine zab ?_|omega))
      refine LW.rounds (zck _ _) mixed 3 ?_
      (repeat' (first|refine Va (fA6 zgs @zbw w1 w2 @stA.eq_1 @st0.eq_1) ?_|(with_reducible first|refine SB.c ?_ ?_<;>intro _|exact zac)|refine CK.d0 zcL cN ?_|with_reducible refine zab ?_|omega))
     ·rw [hb,if_pos rfl] at this
      rw [zob hb] at cN
      cases hc:(zdN c).2
      ·rw [hc,if_neg (by simp)] at this
       subst this
       rw [zoc hc] at cM
       (repeat' (first|refine Va (zmr @kz zgs hlt hlt' hcell hne @Nat.mul_one w0 w1 w2 @stA.eq_1 @st0.eq_1) ?_|(with_reducible first|refine SB.c ?_ ?_<;>intro _|exact zac)|refine CK.dx [1] [2] zaK cF ?_|with_reducible refine zab ?_|omega))
       refine LW.rounds (zck _ _) mixed 3 ?_
       (repeat' (first|refine Va (fA6 zgs @zbw w1 w2 @stA.eq_1 @st0.eq_1) ?_|(with_reducible first|refine SB.c ?_ ?_<;>intro _|exact zac)|refine CK.d0 zcL cN ?_|refine CK.d0 zcL cM ?_|with_reducible refine zab ?_|omega))
      ·rw [hc,if_pos rfl] at this
       subst this
       rw [zob hc] at cM
       (repeat' (first|refine Va (zhT @kz zgs hlt hlt' hcell hne @Nat.mul_one w0 w1 w2 @stA.eq_1) ?_|(with_reducible first|refine SB.c ?_ ?_<;>intro _|exact zac)|refine CK.dx [1] [2] zaK cF ?_|with_reducible refine zab ?_|omega))
       refine LW.rounds (zck _ _) mixed 3 ?_
       (repeat' (first|refine Va (fA5 zgs @zbw w1 w2 @stA.eq_1) ?_|(with_reducible first|refine SB.c ?_ ?_<;>intro _|exact zac)|refine CK.d0 zcL cN ?_|refine CK.d0 zcL cM ?_|with_reducible refine zab ?_|omega))
    |b::c::d::r,hs,_,hnum=>
     simp only [List.length_cons] at hnum
     have hwl:IntKind.i64.wrap (((r.length+1+1+1+1:Nat):Int) - 1)=(r.length:Int)+3:=by rw [zat _ (by omega) (by omega)];omega
     have hwn:((2:Int) != (r.length:Int)+3)=true:=by simp;omega
     have:=zcU hs hk1 hlt' (by rw [hnf];simp)
     rw [hG] at this
     subst this
     (repeat' (first|refine Va (zhT @kz zgs hlt hlt' hcell hne @Nat.mul_one hwl hwn @stA.eq_1 @st0.eq_1) ?_|(with_reducible first|refine SB.c ?_ ?_<;>intro _|exact zac)|refine CK.dx [1] [2] zaK cF ?_|with_reducible refine zab ?_|omega))
   ·have cF:=zjz ⟨k,0,0,0⟩ hsh
    have hnf:nfF k=1:=by simp [nfF,hsh]
    match l,hs,hnl,hnum with
    |[],hs,_,_=>
     have:=zcU hs hk1 hlt' (by rw [hnf];simp)
     rw [hG] at this
     subst this
     (repeat' (first|refine Va (zmr @kz zgs hlt hlt' hcell hne @Nat.mul_one w0 w1 w2 @stA.eq_1 @st0.eq_1) ?_|(with_reducible first|refine SB.c ?_ ?_<;>intro _|exact zac)|refine CK.dx [1] [2] zaK cF ?_|with_reducible refine zab ?_|omega))
    |[b],hs,hnl,_=>
     have:=zw6 hs hk1 hlt' hsh
     rw [hG] at this
     have cN:=zih b (hnl b (by simp))
     cases hb:(zdN b).2
     ·rw [hb,if_neg (by simp)] at this
      subst this
      rw [zoc hb] at cN
      (repeat' (first|refine Va (zmr @kz zgs hlt hlt' hcell hne @Nat.mul_one w0 w1 w2 @stA.eq_1 @st0.eq_1) ?_|(with_reducible first|refine SB.c ?_ ?_<;>intro _|exact zac)|refine CK.dx [1] [2] zaK cF ?_|with_reducible refine zab ?_|omega))
      refine LW.rounds (zck _ _) mixed 2 ?_
      (repeat' (first|refine Va (fA6 zgs @zbw w1 w2 @stA.eq_1 @st0.eq_1) ?_|(with_reducible first|refine SB.c ?_ ?_<;>intro _|exact zac)|refine CK.d0 zcL cN ?_|with_reducible refine zab ?_|omega))
     ·rw [hb,if_pos rfl] at this
      subst this
      rw [zob hb] at cN
      (repeat' (first|refine Va (zhT @kz zgs hlt hlt' hcell hne @Nat.mul_one w0 w1 w2 @stA.eq_1) ?_|(with_reducible first|refine SB.c ?_ ?_<;>intro _|exact zac)|refine CK.dx [1] [2] zaK cF ?_|with_reducible refine zab ?_|omega))
      refine LW.rounds (zck _ _) mixed 2 ?_
      (repeat' (first|refine Va (fA5 zgs @zbw w1 w2 @stA.eq_1) ?_|(with_reducible first|refine SB.c ?_ ?_<;>intro _|exact zac)|refine CK.d0 zcL cN ?_|with_reducible refine zab ?_|omega))
    |b::c::r,hs,_,hnum=>
     simp only [List.length_cons] at hnum
     have hwl:IntKind.i64.wrap (((r.length+1+1+1:Nat):Int) - 1)=(r.length:Int)+2:=by rw [zat _ (by omega) (by omega)];omega
     have hwn:((1:Int) != (r.length:Int)+2)=true:=by simp;omega
     have:=zcU hs hk1 hlt' (by rw [hnf];simp)
     rw [hG] at this
     subst this
     (repeat' (first|refine Va (zhT @kz zgs hlt hlt' hcell hne @Nat.mul_one hwl hwn @stA.eq_1 @st0.eq_1) ?_|(with_reducible first|refine SB.c ?_ ?_<;>intro _|exact zac)|refine CK.dx [1] [2] zaK cF ?_|with_reducible refine zab ?_|omega))
   ·have cF:=zjA ⟨k,0,0,0⟩ hsh
    have hnf:nfF k=0:=by simp [nfF,hsh]
    match l,hs,hnl,hnum with
    |[],hs,_,_=>
     have:=zw4 hs hk1 hlt' hsh
     rw [hG] at this
     subst this
     (repeat' (first|refine Va (zhT @kz zgs hlt hlt' hcell hne @Nat.mul_one w0 w1 w2 @stA.eq_1) ?_|(with_reducible first|refine SB.c ?_ ?_<;>intro _|exact zac)|refine CK.dx [1] [] zaK cF ?_|with_reducible refine zab ?_|omega))
     refine LW.rounds (zck _ _) mixed 1 ?_
     (repeat' (first|refine Va (fA3 zgs @zbw @stA.eq_1) ?_|(with_reducible first|refine SB.c ?_ ?_<;>intro _|exact zac)|with_reducible refine zab ?_|omega))
    |b::r,hs,_,hnum=>
     simp only [List.length_cons] at hnum
     have hwl:IntKind.i64.wrap (((r.length+1+1:Nat):Int) - 1)=(r.length:Int)+1:=by rw [zat _ (by omega) (by omega)];omega
     have hwn:((0:Int) != (r.length:Int)+1)=true:=by simp;omega
     have:=zcU hs hk1 hlt' (by rw [hnf];simp)
     rw [hG] at this
     subst this
     (repeat' (first|refine Va (zhT @kz zgs hlt hlt' hcell hne @Nat.mul_one hwl hwn @stA.eq_1 @st0.eq_1) ?_|(with_reducible first|refine SB.c ?_ ?_<;>intro _|exact zac)|refine CK.dx [1] [] zaK cF ?_|with_reducible refine zab ?_|omega))
  ·have hne:(wdF (k:Int)==a)=false:=by simpa using he
   (repeat' (first|refine Va (fA7 zgs hlt hlt' hcell hne @Nat.mul_one hw) ?_|(with_reducible first|refine SB.c ?_ ?_<;>intro _|exact zac)|with_reducible refine zab ?_|omega))
   exact ⟨⟨k+1,by omega,by omega,fun j h3 h4=>by
    by_cases hj:j=k
    ·subst hj;exact he
    ·exact hno j h3 (by omega)⟩,WFn,by show 15 - (k+1)<15 - k;omega⟩
 ·have hlt':¬ (k:Int)≤14:=by omega
  have hk15:k=15:=by omega
  subst hk15
  have:=zpc hs (fun j h3 h4=>hno j h3 h4)
  rw [hG] at this
  subst this
  (repeat' (first|refine Va (fA4 zgs hlt' @stA.eq_1 @st0.eq_1) ?_|(with_reducible first|refine SB.c ?_ ?_<;>intro _|exact zac)|with_reducible refine zab ?_|omega))
end Go.Proofs.YtfinhhblcdkpgaaGreatDoor
