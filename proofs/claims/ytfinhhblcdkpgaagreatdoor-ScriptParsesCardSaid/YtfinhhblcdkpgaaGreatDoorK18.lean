/- The reference's reading of a step's line and of the first line. No condition. -/
import Derived.Test.YtfinhhblcdkpgaaGreatDoorLib2
import Derived.Test.YtfinhhblcdkpgaaGreatDoorK6
import Derived.Test.YtfinhhblcdkpgaaGreatDoorK15
import Derived.Test.YtfinhhblcdkpgaaGreatDoorLib4
set_option maxRecDepth 100000
set_option maxHeartbeats 64000000
set_option linter.unusedSimpArgs false
set_option linter.unusedVariables false
namespace Go.Proofs.YtfinhhblcdkpgaaGreatDoor
open Go Go.Abs
theorem zq3 (line:List UInt8) (hl:line.length≤100000):AC Tryz.prog gl 54 [.pv (.str line)] [] (.tup [stA (zcW line).1,.pv (.bool (zcW line).2)]) []:=by
 have cP:=zqA line (by omega)
 have hpc:=zhF 32 line
 have hnum:=zhG 32 line
 obtain ⟨a,l,hs⟩:∃ a l,zal 32 line=a::l:=by
  match h:zal 32 line,zbM 32 line with
  |a::l,_=>exact ⟨a,l,rfl⟩
 have hnl:∀ w ∈ l,w.length≤100000:=fun w hw=>by
  have:=hpc w (by rw [hs];simp [hw])
  omega
 rw [hs,List.length_cons] at hnum
 clear hpc
 rw [hs,List.map_cons] at cP
 have ee:zff a=[.str a]:=rfl
 rw [ee] at cP
 have w2:IntKind.i64.wrap 2=2:=by decide
 have w3:IntKind.i64.wrap 3=3:=by decide
 generalize hG:zcW line=G
 refine zas (fun d=>if d=2 then 0 else 1) 2 zJO ?_
 refine Wk1 (fA2 ziN (CE.mk ziV cP)) ?_
 refine zaK (ι:=KdI a) (fun i=>⟨(.pv (.str line)::.junk::.ref 0 0::.junk::.pv (.slice ([.str a]::l.map zff))::.pv (.int .i64 i.k)::jl 104 []),[some (.cells [.pv (.int .i64 0),.pv (.int .i64 0),.pv (.int .i64 0),.pv (.int .i64 0)]),none]⟩) (fun i=>15 - i.k) ⟨1,by omega,by omega,fun j h1 h2=>by omega⟩ WFn ?_
 rintro ⟨k,h1,h2,hno⟩
 have cW:=zmo k
 by_cases hlt:k<15
 ·have hlt':(k:Int)≤14:=by omega
  have hk1:1≤(k:Int):=by omega
  have hw:=zaP k (by omega)
  by_cases he:wdF k=a
  ·subst he
   have hne:(wdF (k:Int)==wdF (k:Int))=true:=by simp
   have cS:=zms k
   rcases zcs k with ⟨_,hsh⟩|⟨_,hsh⟩|⟨_,hsh⟩|⟨_,_,_,_,_,_,_,_,_,_,_,hsh⟩
   ·rw [hsh] at cS
    replace cS:AC Tryz.prog gl 29 [.pv (.int .i64 k)] [] (.tup [.pv (.bool true),.pv (.bool false),.pv (.bool false)]) []:=cS
    have hnf:nfF k=1:=by simp [nfF,hsh]
    match l,hs,hnl,hnum with
    |[],hs,_,_=>
     have hv:=zmI hs hk1 hlt' (.inr rfl)
     rw [hG] at hv
     have cL:=zb8 ⟨k,0,0,0⟩ (zfN ⟨hk1,hlt'⟩ (by omega) (by omega) (by omega))
     unfold stA at cL
     by_cases hx:line=zbf ⟨k,0,0,0⟩
     ·rw [if_pos hx] at hv
      subst hv
      have hx':(line==zbf ⟨k,0,0,0⟩)=true:=by simpa using hx
      refine Wk0 (zgj ziN hlt' hne w2 w3 hx' @stA.eq_1 (CE.mk zaF cW) (CE.mk zaI cS) (CE.mk zbs cL))
     ·rw [if_neg hx] at hv
      subst hv
      have hx':(line==zbf ⟨k,0,0,0⟩)=false:=by simpa using hx
      refine Wk0 (zg7 ziN hlt' hne w2 w3 hx' @stA.eq_1 @st0.eq_1 (CE.mk zaF cW) (CE.mk zaI cS) (CE.mk zbs cL))
    |b::r,hs,hnl,hnum=>
     have hv:=zA0 hs hk1 hlt' hsh
     rw [hG] at hv
     simp only [List.length_cons] at hnum
     have l1:(1:Int)<((r.length+1+1:Nat):Int):=by omega
     have l2:1<r.length+1+1:=by omega
     have cNb:=zf8 b (by have:=hnl b (by simp);omega)
     have eb:zff b=[.str b]:=rfl
     cases hbb:(zaX b).2
     ·rw [hbb,if_neg (by simp)] at hv
      rw [hbb] at cNb
      subst hv
      refine Wk0 (zhQ ziN hlt' hne w2 w3 l1 l2 eb @stA.eq_1 @st0.eq_1 (CE.mk zaF cW) (CE.mk zaI cS) (CE.mk zbI cNb))
     ·rw [hbb,if_pos rfl] at hv
      rw [hbb] at cNb
      have nb:=zdi b hbb
      have cL:=zb8 ⟨k,0,(zaX b).1,0⟩ (zfN ⟨hk1,hlt'⟩ (by omega) ⟨nb.2.1,nb.2.2⟩ (by omega))
      unfold stA at cL
      by_cases hx:line=zbf ⟨k,0,(zaX b).1,0⟩
      ·rw [if_pos hx] at hv
       subst hv
       have hx':(line==zbf ⟨k,0,(zaX b).1,0⟩)=true:=by simpa using hx
       refine Wk0 (zrC ziN hlt' hne w2 w3 hx' @stA.eq_1 l1 l2 eb (CE.mk zaF cW) (CE.mk zaI cS) (CE.mk zbI cNb) (CE.mk zbs cL))
      ·rw [if_neg hx] at hv
       subst hv
       have hx':(line==zbf ⟨k,0,(zaX b).1,0⟩)=false:=by simpa using hx
       refine Wk0 (zBe ziN hlt' hne w2 w3 hx' @stA.eq_1 @st0.eq_1 l1 l2 eb (CE.mk zaF cW) (CE.mk zaI cS) (CE.mk zbI cNb) (CE.mk zbs cL))
   ·rw [hsh] at cS
    replace cS:AC Tryz.prog gl 29 [.pv (.int .i64 k)] [] (.tup [.pv (.bool false),.pv (.bool true),.pv (.bool true)]) []:=cS
    have hnf:nfF k=2:=by simp [nfF,hsh]
    match l,hs,hnl,hnum with
    |[],hs,_,_=>
     have hv:=zmI hs hk1 hlt' (.inr rfl)
     rw [hG] at hv
     have cL:=zb8 ⟨k,0,0,0⟩ (zfN ⟨hk1,hlt'⟩ (by omega) (by omega) (by omega))
     unfold stA at cL
     by_cases hx:line=zbf ⟨k,0,0,0⟩
     ·rw [if_pos hx] at hv
      subst hv
      have hx':(line==zbf ⟨k,0,0,0⟩)=true:=by simpa using hx
      refine Wk0 (zgj ziN hlt' hne w2 w3 hx' @stA.eq_1 (CE.mk zaF cW) (CE.mk zaI cS) (CE.mk zbs cL))
     ·rw [if_neg hx] at hv
      subst hv
      have hx':(line==zbf ⟨k,0,0,0⟩)=false:=by simpa using hx
      refine Wk0 (zg7 ziN hlt' hne w2 w3 hx' @stA.eq_1 @st0.eq_1 (CE.mk zaF cW) (CE.mk zaI cS) (CE.mk zbs cL))
    |[b],hs,hnl,hnum=>
     have hv:=zA2 hs hk1 hlt' hsh
     rw [hG] at hv
     have cNb:=zf8 b (by have:=hnl b (by simp);omega)
     have eb:zff b=[.str b]:=rfl
     cases hbb:(zaX b).2
     ·rw [hbb,if_neg (by simp)] at hv
      rw [hbb] at cNb
      subst hv
      refine Wk0 (zg7 ziN hlt' hne w2 w3 eb @stA.eq_1 @st0.eq_1 (CE.mk zaF cW) (CE.mk zaI cS) (CE.mk zbI cNb))
     ·rw [hbb,if_pos rfl] at hv
      rw [hbb] at cNb
      have nb:=zdi b hbb
      have cL:=zb8 ⟨k,(zaX b).1,0,0⟩ (zfN ⟨hk1,hlt'⟩ ⟨nb.2.1,nb.2.2⟩ (by omega) (by omega))
      unfold stA at cL
      by_cases hx:line=zbf ⟨k,(zaX b).1,0,0⟩
      ·rw [if_pos hx] at hv
       subst hv
       have hx':(line==zbf ⟨k,(zaX b).1,0,0⟩)=true:=by simpa using hx
       refine Wk0 (zg8 ziN hlt' hne w2 w3 hx' @stA.eq_1 eb (CE.mk zaF cW) (CE.mk zaI cS) (CE.mk zbI cNb) (CE.mk zbs cL))
      ·rw [if_neg hx] at hv
       subst hv
       have hx':(line==zbf ⟨k,(zaX b).1,0,0⟩)=false:=by simpa using hx
       refine Wk0 (zhQ ziN hlt' hne w2 w3 hx' @stA.eq_1 @st0.eq_1 eb (CE.mk zaF cW) (CE.mk zaI cS) (CE.mk zbI cNb) (CE.mk zbs cL))
    |b::c::r,hs,hnl,hnum=>
     have hv:=zxU hs hk1 hlt' hsh
     rw [hG] at hv
     simp only [List.length_cons] at hnum
     have l1:(1:Int)<((r.length+1+1+1:Nat):Int):=by omega
     have l2:1<r.length+1+1+1:=by omega
     have l3:(2:Int)<((r.length+1+1+1:Nat):Int):=by omega
     have l4:2<r.length+1+1+1:=by omega
     have cNb:=zf8 b (by have:=hnl b (by simp);omega)
     have cNc:=zf8 c (by have:=hnl c (by simp);omega)
     have eb:zff b=[.str b]:=rfl
     have ec:zff c=[.str c]:=rfl
     cases hbb:(zaX b).2
     ·rw [hbb,if_neg (by simp)] at hv
      rw [hbb] at cNb
      subst hv
      repeat' first|refine Va (zhQ ziN hlt' hne w2 w3 l1 l2 l3 l4 eb ec @stA.eq_1 @st0.eq_1) ?_|(with_reducible first|refine SB.c ?_ ?_<;>intro _|exact zak)|refine CK.d0 zaF cW ?_|refine CK.d0 zaI cS ?_|refine CK.d0 zbI cNb ?_|refine CK.d0 zbI cNc ?_|with_reducible refine zaj ?_|omega
     ·rw [hbb,if_pos rfl] at hv
      rw [hbb] at cNb
      have nb:=zdi b hbb
      cases hbc:(zaX c).2
      ·rw [hbc,if_neg (by simp)] at hv
       rw [hbc] at cNc
       subst hv
       repeat' first|refine Va (zhQ ziN hlt' hne w2 w3 l1 l2 l3 l4 eb ec @stA.eq_1 @st0.eq_1) ?_|(with_reducible first|refine SB.c ?_ ?_<;>intro _|exact zak)|refine CK.d0 zaF cW ?_|refine CK.d0 zaI cS ?_|refine CK.d0 zbI cNb ?_|refine CK.d0 zbI cNc ?_|with_reducible refine zaj ?_|omega
      ·rw [hbc,if_pos rfl] at hv
       rw [hbc] at cNc
       have nc:=zdi c hbc
       have cL:=zb8 ⟨k,(zaX b).1,0,(zaX c).1⟩ (zfN ⟨hk1,hlt'⟩ ⟨nb.2.1,nb.2.2⟩ (by omega) ⟨nc.2.1,nc.2.2⟩)
       unfold stA at cL
       by_cases hx:line=zbf ⟨k,(zaX b).1,0,(zaX c).1⟩
       ·rw [if_pos hx] at hv
        subst hv
        have hx':(line==zbf ⟨k,(zaX b).1,0,(zaX c).1⟩)=true:=by simpa using hx
        repeat' first|refine Va (zhQ ziN hlt' hne w2 w3 hx' @stA.eq_1 l1 l2 l3 l4 eb ec) ?_|(with_reducible first|refine SB.c ?_ ?_<;>intro _|exact zak)|refine CK.d0 zaF cW ?_|refine CK.d0 zaI cS ?_|refine CK.d0 zbI cNb ?_|refine CK.d0 zbI cNc ?_|refine CK.d0 zbs cL ?_|with_reducible refine zaj ?_|omega
       ·rw [if_neg hx] at hv
        subst hv
        have hx':(line==zbf ⟨k,(zaX b).1,0,(zaX c).1⟩)=false:=by simpa using hx
        repeat' first|refine Va (zrC ziN hlt' hne w2 w3 hx' @stA.eq_1 @st0.eq_1 l1 l2 l3 l4 eb ec) ?_|(with_reducible first|refine SB.c ?_ ?_<;>intro _|exact zak)|refine CK.d0 zaF cW ?_|refine CK.d0 zaI cS ?_|refine CK.d0 zbI cNb ?_|refine CK.d0 zbI cNc ?_|refine CK.d0 zbs cL ?_|with_reducible refine zaj ?_|omega
   ·rw [hsh] at cS
    replace cS:AC Tryz.prog gl 29 [.pv (.int .i64 k)] [] (.tup [.pv (.bool false),.pv (.bool true),.pv (.bool false)]) []:=cS
    have hnf:nfF k=1:=by simp [nfF,hsh]
    match l,hs,hnl,hnum with
    |[],hs,_,_=>
     have hv:=zmI hs hk1 hlt' (.inr rfl)
     rw [hG] at hv
     have cL:=zb8 ⟨k,0,0,0⟩ (zfN ⟨hk1,hlt'⟩ (by omega) (by omega) (by omega))
     unfold stA at cL
     by_cases hx:line=zbf ⟨k,0,0,0⟩
     ·rw [if_pos hx] at hv
      subst hv
      have hx':(line==zbf ⟨k,0,0,0⟩)=true:=by simpa using hx
      refine Wk0 (zgj ziN hlt' hne w2 w3 hx' @stA.eq_1 (CE.mk zaF cW) (CE.mk zaI cS) (CE.mk zbs cL))
     ·rw [if_neg hx] at hv
      subst hv
      have hx':(line==zbf ⟨k,0,0,0⟩)=false:=by simpa using hx
      refine Wk0 (zg7 ziN hlt' hne w2 w3 hx' @stA.eq_1 @st0.eq_1 (CE.mk zaF cW) (CE.mk zaI cS) (CE.mk zbs cL))
    |b::r,hs,hnl,hnum=>
     have hv:=zA1 hs hk1 hlt' hsh
     rw [hG] at hv
     simp only [List.length_cons] at hnum
     have l1:(1:Int)<((r.length+1+1:Nat):Int):=by omega
     have l2:1<r.length+1+1:=by omega
     have cNb:=zf8 b (by have:=hnl b (by simp);omega)
     have eb:zff b=[.str b]:=rfl
     cases hbb:(zaX b).2
     ·rw [hbb,if_neg (by simp)] at hv
      rw [hbb] at cNb
      subst hv
      refine Wk0 (zhQ ziN hlt' hne w2 w3 l1 l2 eb @stA.eq_1 @st0.eq_1 (CE.mk zaF cW) (CE.mk zaI cS) (CE.mk zbI cNb))
     ·rw [hbb,if_pos rfl] at hv
      rw [hbb] at cNb
      have nb:=zdi b hbb
      have cL:=zb8 ⟨k,(zaX b).1,0,0⟩ (zfN ⟨hk1,hlt'⟩ ⟨nb.2.1,nb.2.2⟩ (by omega) (by omega))
      unfold stA at cL
      by_cases hx:line=zbf ⟨k,(zaX b).1,0,0⟩
      ·rw [if_pos hx] at hv
       subst hv
       have hx':(line==zbf ⟨k,(zaX b).1,0,0⟩)=true:=by simpa using hx
       refine Wk0 (zrC ziN hlt' hne w2 w3 hx' @stA.eq_1 l1 l2 eb (CE.mk zaF cW) (CE.mk zaI cS) (CE.mk zbI cNb) (CE.mk zbs cL))
      ·rw [if_neg hx] at hv
       subst hv
       have hx':(line==zbf ⟨k,(zaX b).1,0,0⟩)=false:=by simpa using hx
       refine Wk0 (zBe ziN hlt' hne w2 w3 hx' @stA.eq_1 @st0.eq_1 l1 l2 eb (CE.mk zaF cW) (CE.mk zaI cS) (CE.mk zbI cNb) (CE.mk zbs cL))
   ·rw [hsh] at cS
    replace cS:AC Tryz.prog gl 29 [.pv (.int .i64 k)] [] (.tup [.pv (.bool false),.pv (.bool false),.pv (.bool false)]) []:=cS
    have hnf:nfF k=0:=by simp [nfF,hsh]
    have hv:=zmI hs hk1 hlt' (.inl hnf)
    rw [hG] at hv
    have cL:=zb8 ⟨k,0,0,0⟩ (zfN ⟨hk1,hlt'⟩ (by omega) (by omega) (by omega))
    unfold stA at cL
    by_cases hx:line=zbf ⟨k,0,0,0⟩
    ·rw [if_pos hx] at hv
     subst hv
     have hx':(line==zbf ⟨k,0,0,0⟩)=true:=by simpa using hx
     refine Wk0 (zgj ziN hlt' hne w2 w3 hx' @stA.eq_1 (CE.mk zaF cW) (CE.mk zaI cS) (CE.mk zbs cL))
    ·rw [if_neg hx] at hv
     subst hv
     have hx':(line==zbf ⟨k,0,0,0⟩)=false:=by simpa using hx
     refine Wk0 (zg7 ziN hlt' hne w2 w3 hx' @stA.eq_1 @st0.eq_1 (CE.mk zaF cW) (CE.mk zaI cS) (CE.mk zbs cL))
  ·have hne:(wdF (k:Int)==a)=false:=by simpa using he
   repeat' first|refine Va (fA4 ziN hlt' hne hw) ?_|(with_reducible first|refine SB.c ?_ ?_<;>intro _|exact zak)|refine CK.d0 zaF cW ?_|with_reducible refine zaj ?_|omega
   exact ⟨⟨k+1,by omega,by omega,fun j h3 h4=>by
    by_cases hj:j=k
    ·subst hj;exact he
    ·exact hno j h3 (by omega)⟩,WFn,by show 15 - (k+1)<15 - k;omega⟩
 ·have hlt':¬ (k:Int)≤14:=by omega
  have hk15:k=15:=by omega
  subst hk15
  have:=zlm hs (fun j h3 h4=>hno j h3 h4)
  rw [hG] at this
  subst this
  refine Wk0 (fA4 ziN hlt' @stA.eq_1 @st0.eq_1)
structure HdI (b:List UInt8) where
 k:Nat
 h1:1≤k
 h2:k≤9
 no:∀ j:Nat,1≤j→j<k→prF j≠b
theorem zA4 (line:List UInt8) (hl:line.length≤100000):AC Tryz.prog gl 51 [.pv (.str line)] [] (.tup [.pv (.int .i64 (zel line).1),.pv (.int .i64 (zel line).2.1),.pv (.bool (zel line).2.2)]) []:=by
 have cP:=zqA line (by omega)
 have hpc:=zhF 32 line
 by_cases h3:(zal 32 line).length=3
 ·match hs:zal 32 line,h3 with
  |[a,b,c],_=>
   have hv:=zEm hs
   generalize zel line=G at *
   rw [hs] at cP hpc
   have hc:=hpc c (by simp)
   have cN:=zf8 c (by omega)
   have ea:zff a=[.str a]:=rfl
   have eb:zff b=[.str b]:=rfl
   have ec:zff c=[.str c]:=rfl
   simp only [List.map_cons,List.map_nil,ea,eb,ec] at cP
   by_cases ha:a=[112,114,111,116,111,99,111,108]
   ·subst ha
    refine zas (fun _=>0) 0 zGQ ?_
    repeat' first|refine Va (fA2 zBk @bne_self_eq_false.{0}) ?_|(with_reducible first|refine SB.c ?_ ?_<;>intro _|exact zak)|refine CK.d0 ziV cP ?_|refine CK.d0 zbI cN ?_|with_reducible refine zaj ?_|omega
    refine zaK (ι:=HdI b) (fun i=>⟨(jl 5 (.pv (.slice [[.str [112,114,111,116,111,99,111,108]],[.str b],[.str c]])::.pv (.int .i64 (zaX c).1)::.pv (.bool (zaX c).2)::.pv (.int .i64 i.k)::jl 31 [])),[]⟩) (fun i=>9 - i.k) ⟨1,by omega,by omega,fun j h1 h2=>by omega⟩ WFn ?_
    rintro ⟨k,h1,h2,hno⟩
    have cR:=zkf k
    by_cases hlt:k<9
    ·have hlt':(k:Int)≤8:=by omega
     have hw:=zaP k (by omega)
     by_cases he:prF k=b
     ·subst he
      rw [if_pos ⟨rfl,zuJ k h1 (by omega)⟩,(zqD k h1 (by omega)).2] at hv
      subst hv
      refine Wk0 (fA3 zBk hlt' (CE.mk zeU cR))
     ·have he':(prF (k:Int)==b)=false:=by simpa using he
      refine Wk1 (fA5 zBk hlt' he' hw (CE.mk zeU cR)) ?_
      exact ⟨⟨k+1,by omega,by omega,fun j h3 h4=>by
       by_cases hj:j=k
       ·subst hj;exact he
       ·exact hno j h3 (by omega)⟩,WFn,by show 9 - (k+1)<9 - k;omega⟩
    ·have hlt':¬ (k:Int)≤8:=by omega
     have hk9:k=9:=by omega
     subst hk9
     rw [if_neg] at hv
     ·subst hv
      refine Wk0 (fA2 zBk hlt')
     ·rintro ⟨_,hm⟩
      obtain ⟨j,j1,j2,rfl⟩:=znQ b hm
      exact hno j j1 (by omega) rfl
   ·rw [if_neg (fun h=>ha h.1)] at hv
    subst hv
    have ha':(a==[112,114,111,116,111,99,111,108])=false:=by simpa using ha
    refine zas (fun _=>0) 0 zGQ ?_
    refine Wk0 (fA3 zBk ha' (CE.mk ziV cP))
 ·have h32:(((zal 32 line).length:Int) != 3)=true:=by simpa using fun e=>h3 (by omega)
  rw [zA3 line h3]
  refine zas (fun _=>0) 0 zGQ ?_
  refine Wk0 (fA3 zBk h32 (CE.mk ziV cP))
end Go.Proofs.YtfinhhblcdkpgaaGreatDoor
