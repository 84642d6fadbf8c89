/- The reference's reading of a step's line and of the first line. No condition. -/
import Derived.Test.YtfinhhblcdkpgaaGreatDoorK6
import Derived.Test.YtfinhhblcdkpgaaGreatDoorN9a
import Derived.Test.YtfinhhblcdkpgaaGreatDoorLib4
set_option maxRecDepth 100000
set_option maxHeartbeats 64000000
set_option linter.unusedSimpArgs false
set_option linter.unusedVariables false
set_option linter.defProp false
namespace Go.Proofs.YtfinhhblcdkpgaaGreatDoor
open Go Go.Abs
theorem zp1 (line:List UInt8) (hl:line.length≤100000):AC Tryz.prog gl 54 [.pv (.str line)] [] (.tup [stA (zcG line).1,.pv (.bool (zcG line).2)]) []:=by
 have cP:=zpL line (by omega)
 have hpc:=zg7 32 line
 have hnum:=zg8 32 line
 obtain ⟨a,l,hs⟩:∃ a l,zaj 32 line=a::l:=by
  match h:zaj 32 line,zbG 32 line with
  |a::l,_=>exact ⟨a,l,rfl⟩
 have hnl:∀ w ∈ l,w.length≤100000:=fun w hw=>by
  have:=hpc w (by rw [hs];simp [hw])
  omega
 rw [hs,List.length_cons] at hnum
 clear hpc
 rw [hs,List.map_cons] at cP
 have ee:ze0 a=[.str a]:=rfl
 rw [ee] at cP
 have w2:IntKind.i64.wrap 2=2:=by decide
 have w3:IntKind.i64.wrap 3=3:=by decide
 generalize hG:zcG line=G
 refine zap (fun d=>if d=2 then 0 else 1) 2 zIb ?_
 repeat' first|refine Va zh7 ?_|(with_reducible first|refine SB.c ?_ ?_<;>intro _|exact zad)|refine CK.d0 zii cP ?_|with_reducible refine zac ?_|omega
 refine zaI (ι:=KdI a) (fun i=>⟨(.pv (.str line)::.junk::.ref 0 0::.junk::.pv (.slice ([.str a]::l.map ze0))::.pv (.int .i64 i.k)::jl 104 []),[some (.cells [.pv (.int .i64 0),.pv (.int .i64 0),.pv (.int .i64 0),.pv (.int .i64 0)]),none]⟩) (fun i=>15 - i.k) ⟨1,by omega,by omega,fun j h1 h2=>by omega⟩ WFn ?_
 rintro ⟨k,h1,h2,hno⟩
 have cW:=zlW k
 by_cases hlt:k<15
 ·have hlt':(k:Int)≤14:=by omega
  have hk1:1≤(k:Int):=by omega
  have hw:=zaQ k (by omega)
  by_cases he:wdF k=a
  ·subst he
   have hne:(wdF (k:Int)==wdF (k:Int))=true:=by simp
   have cS:=zl0 k
   rcases zch k with ⟨_,hsh⟩|⟨_,hsh⟩|⟨_,hsh⟩|⟨_,_,_,_,_,_,_,_,_,_,_,hsh⟩
   ·rw [hsh] at cS
    replace cS:AC Tryz.prog gl 29 [.pv (.int .i64 k)] [] (.tup [.pv (.bool true),.pv (.bool false),.pv (.bool false)]) []:=cS
    have hnf:nfF k=1:=by simp [nfF,hsh]
    match l,hs,hnl,hnum with
    |[],hs,_,_=>
     have hv:=zmd hs hk1 hlt' (.inr rfl)
     rw [hG] at hv
     have cL:=zbZ ⟨k,0,0,0⟩ (zfw ⟨hk1,hlt'⟩ (by omega) (by omega) (by omega))
     unfold stA at cL
     by_cases hx:line=zaO ⟨k,0,0,0⟩
     ·rw [if_pos hx] at hv
      subst hv
      have hx':(line==zaO ⟨k,0,0,0⟩)=true:=by simpa using hx
      repeat' first|refine Va (fA7 zh7 hlt' hne w2 w3 hx' @stA.eq_1) ?_|(with_reducible first|refine SB.c ?_ ?_<;>intro _|exact zad)|refine CK.d0 zaB cW ?_|refine CK.d0 zaH cS ?_|refine CK.d0 zbn cL ?_|with_reducible refine zac ?_|omega
     ·rw [if_neg hx] at hv
      subst hv
      have hx':(line==zaO ⟨k,0,0,0⟩)=false:=by simpa using hx
      repeat' first|refine Va (fA8 zh7 hlt' hne w2 w3 hx' @stA.eq_1 @st0.eq_1) ?_|(with_reducible first|refine SB.c ?_ ?_<;>intro _|exact zad)|refine CK.d0 zaB cW ?_|refine CK.d0 zaH cS ?_|refine CK.d0 zbn cL ?_|with_reducible refine zac ?_|omega
    |b::r,hs,hnl,hnum=>
     have hv:=zzz hs hk1 hlt' hsh
     rw [hG] at hv
     simp only [List.length_cons] at hnum
     have l1:(1:Int)<((r.length+1+1:Nat):Int):=by omega
     have l2:1<r.length+1+1:=by omega
     have cNb:=zfN b (by have:=hnl b (by simp);omega)
     have eb:ze0 b=[.str b]:=rfl
     cases hbb:(zaW b).2
     ·rw [hbb,if_neg (by simp)] at hv
      rw [hbb] at cNb
      subst hv
      repeat' first|refine Va (zj4 zh7 hlt' hne w2 w3 l1 l2 eb @stA.eq_1 @st0.eq_1) ?_|(with_reducible first|refine SB.c ?_ ?_<;>intro _|exact zad)|refine CK.d0 zaB cW ?_|refine CK.d0 zaH cS ?_|refine CK.d0 zbB cNb ?_|with_reducible refine zac ?_|omega
     ·rw [hbb,if_pos rfl] at hv
      rw [hbb] at cNb
      have nb:=zc0 b hbb
      have cL:=zbZ ⟨k,0,(zaW b).1,0⟩ (zfw ⟨hk1,hlt'⟩ (by omega) ⟨nb.2.1,nb.2.2⟩ (by omega))
      unfold stA at cL
      by_cases hx:line=zaO ⟨k,0,(zaW b).1,0⟩
      ·rw [if_pos hx] at hv
       subst hv
       have hx':(line==zaO ⟨k,0,(zaW b).1,0⟩)=true:=by simpa using hx
       repeat' first|refine Va (zj4 zh7 hlt' hne w2 w3 hx' @stA.eq_1 l1 l2 eb) ?_|(with_reducible first|refine SB.c ?_ ?_<;>intro _|exact zad)|refine CK.d0 zaB cW ?_|refine CK.d0 zaH cS ?_|refine CK.d0 zbB cNb ?_|refine CK.d0 zbn cL ?_|with_reducible refine zac ?_|omega
      ·rw [if_neg hx] at hv
       subst hv
       have hx':(line==zaO ⟨k,0,(zaW b).1,0⟩)=false:=by simpa using hx
       repeat' first|refine Va (zfA zh7 hlt' hne w2 w3 hx' @stA.eq_1 @st0.eq_1 l1 l2 eb) ?_|(with_reducible first|refine SB.c ?_ ?_<;>intro _|exact zad)|refine CK.d0 zaB cW ?_|refine CK.d0 zaH cS ?_|refine CK.d0 zbB cNb ?_|refine CK.d0 zbn cL ?_|with_reducible refine zac ?_|omega
   ·rw [hsh] at cS
    replace cS:AC Tryz.prog gl 29 [.pv (.int .i64 k)] [] (.tup [.pv (.bool false),.pv (.bool true),.pv (.bool true)]) []:=cS
    have hnf:nfF k=2:=by simp [nfF,hsh]
    match l,hs,hnl,hnum with
    |[],hs,_,_=>
     have hv:=zmd hs hk1 hlt' (.inr rfl)
     rw [hG] at hv
     have cL:=zbZ ⟨k,0,0,0⟩ (zfw ⟨hk1,hlt'⟩ (by omega) (by omega) (by omega))
     unfold stA at cL
     by_cases hx:line=zaO ⟨k,0,0,0⟩
     ·rw [if_pos hx] at hv
      subst hv
      have hx':(line==zaO ⟨k,0,0,0⟩)=true:=by simpa using hx
      repeat' first|refine Va (fA7 zh7 hlt' hne w2 w3 hx' @stA.eq_1) ?_|(with_reducible first|refine SB.c ?_ ?_<;>intro _|exact zad)|refine CK.d0 zaB cW ?_|refine CK.d0 zaH cS ?_|refine CK.d0 zbn cL ?_|with_reducible refine zac ?_|omega
     ·rw [if_neg hx] at hv
      subst hv
      have hx':(line==zaO ⟨k,0,0,0⟩)=false:=by simpa using hx
      repeat' first|refine Va (fA8 zh7 hlt' hne w2 w3 hx' @stA.eq_1 @st0.eq_1) ?_|(with_reducible first|refine SB.c ?_ ?_<;>intro _|exact zad)|refine CK.d0 zaB cW ?_|refine CK.d0 zaH cS ?_|refine CK.d0 zbn cL ?_|with_reducible refine zac ?_|omega
    |[b],hs,hnl,hnum=>
     have hv:=zzB hs hk1 hlt' hsh
     rw [hG] at hv
     have cNb:=zfN b (by have:=hnl b (by simp);omega)
     have eb:ze0 b=[.str b]:=rfl
     cases hbb:(zaW b).2
     ·rw [hbb,if_neg (by simp)] at hv
      rw [hbb] at cNb
      subst hv
      repeat' first|refine Va (fA8 zh7 hlt' hne w2 w3 eb @stA.eq_1 @st0.eq_1) ?_|(with_reducible first|refine SB.c ?_ ?_<;>intro _|exact zad)|refine CK.d0 zaB cW ?_|refine CK.d0 zaH cS ?_|refine CK.d0 zbB cNb ?_|with_reducible refine zac ?_|omega
     ·rw [hbb,if_pos rfl] at hv
      rw [hbb] at cNb
      have nb:=zc0 b hbb
      have cL:=zbZ ⟨k,(zaW b).1,0,0⟩ (zfw ⟨hk1,hlt'⟩ ⟨nb.2.1,nb.2.2⟩ (by omega) (by omega))
      unfold stA at cL
      by_cases hx:line=zaO ⟨k,(zaW b).1,0,0⟩
      ·rw [if_pos hx] at hv
       subst hv
       have hx':(line==zaO ⟨k,(zaW b).1,0,0⟩)=true:=by simpa using hx
       repeat' first|refine Va (fA8 zh7 hlt' hne w2 w3 hx' @stA.eq_1 eb) ?_|(with_reducible first|refine SB.c ?_ ?_<;>intro _|exact zad)|refine CK.d0 zaB cW ?_|refine CK.d0 zaH cS ?_|refine CK.d0 zbB cNb ?_|refine CK.d0 zbn cL ?_|with_reducible refine zac ?_|omega
      ·rw [if_neg hx] at hv
       subst hv
       have hx':(line==zaO ⟨k,(zaW b).1,0,0⟩)=false:=by simpa using hx
       repeat' first|refine Va (fA9 zh7 hlt' hne w2 w3 hx' @stA.eq_1 @st0.eq_1 eb) ?_|(with_reducible first|refine SB.c ?_ ?_<;>intro _|exact zad)|refine CK.d0 zaB cW ?_|refine CK.d0 zaH cS ?_|refine CK.d0 zbB cNb ?_|refine CK.d0 zbn cL ?_|with_reducible refine zac ?_|omega
    |b::c::r,hs,hnl,hnum=>
     have hv:=zwI hs hk1 hlt' hsh
     rw [hG] at hv
     simp only [List.length_cons] at hnum
     have l1:(1:Int)<((r.length+1+1+1:Nat):Int):=by omega
     have l2:1<r.length+1+1+1:=by omega
     have l3:(2:Int)<((r.length+1+1+1:Nat):Int):=by omega
     have l4:2<r.length+1+1+1:=by omega
     have cNb:=zfN b (by have:=hnl b (by simp);omega)
     have cNc:=zfN c (by have:=hnl c (by simp);omega)
     have eb:ze0 b=[.str b]:=rfl
     have ec:ze0 c=[.str c]:=rfl
     cases hbb:(zaW b).2
     ·rw [hbb,if_neg (by simp)] at hv
      rw [hbb] at cNb
      subst hv
      repeat' first|refine Va (zru zh7 hlt' hne w2 w3 l1 l2 l3 l4 eb ec @stA.eq_1 @st0.eq_1) ?_|(with_reducible first|refine SB.c ?_ ?_<;>intro _|exact zad)|refine CK.d0 zaB cW ?_|refine CK.d0 zaH cS ?_|refine CK.d0 zbB cNb ?_|refine CK.d0 zbB cNc ?_|with_reducible refine zac ?_|omega
     ·rw [hbb,if_pos rfl] at hv
      rw [hbb] at cNb
      have nb:=zc0 b hbb
      cases hbc:(zaW c).2
      ·rw [hbc,if_neg (by simp)] at hv
       rw [hbc] at cNc
       subst hv
       repeat' first|refine Va (zru zh7 hlt' hne w2 w3 l1 l2 l3 l4 eb ec @stA.eq_1 @st0.eq_1) ?_|(with_reducible first|refine SB.c ?_ ?_<;>intro _|exact zad)|refine CK.d0 zaB cW ?_|refine CK.d0 zaH cS ?_|refine CK.d0 zbB cNb ?_|refine CK.d0 zbB cNc ?_|with_reducible refine zac ?_|omega
      ·rw [hbc,if_pos rfl] at hv
       rw [hbc] at cNc
       have nc:=zc0 c hbc
       have cL:=zbZ ⟨k,(zaW b).1,0,(zaW c).1⟩ (zfw ⟨hk1,hlt'⟩ ⟨nb.2.1,nb.2.2⟩ (by omega) ⟨nc.2.1,nc.2.2⟩)
       unfold stA at cL
       by_cases hx:line=zaO ⟨k,(zaW b).1,0,(zaW c).1⟩
       ·rw [if_pos hx] at hv
        subst hv
        have hx':(line==zaO ⟨k,(zaW b).1,0,(zaW c).1⟩)=true:=by simpa using hx
        repeat' first|refine Va (zru zh7 hlt' hne w2 w3 hx' @stA.eq_1 l1 l2 l3 l4 eb ec) ?_|(with_reducible first|refine SB.c ?_ ?_<;>intro _|exact zad)|refine CK.d0 zaB cW ?_|refine CK.d0 zaH cS ?_|refine CK.d0 zbB cNb ?_|refine CK.d0 zbB cNc ?_|refine CK.d0 zbn cL ?_|with_reducible refine zac ?_|omega
       ·rw [if_neg hx] at hv
        subst hv
        have hx':(line==zaO ⟨k,(zaW b).1,0,(zaW c).1⟩)=false:=by simpa using hx
        repeat' first|refine Va (zBC zh7 hlt' hne w2 w3 hx' @stA.eq_1 @st0.eq_1 l1 l2 l3 l4 eb ec) ?_|(with_reducible first|refine SB.c ?_ ?_<;>intro _|exact zad)|refine CK.d0 zaB cW ?_|refine CK.d0 zaH cS ?_|refine CK.d0 zbB cNb ?_|refine CK.d0 zbB cNc ?_|refine CK.d0 zbn cL ?_|with_reducible refine zac ?_|omega
   ·rw [hsh] at cS
    replace cS:AC Tryz.prog gl 29 [.pv (.int .i64 k)] [] (.tup [.pv (.bool false),.pv (.bool true),.pv (.bool false)]) []:=cS
    have hnf:nfF k=1:=by simp [nfF,hsh]
    match l,hs,hnl,hnum with
    |[],hs,_,_=>
     have hv:=zmd hs hk1 hlt' (.inr rfl)
     rw [hG] at hv
     have cL:=zbZ ⟨k,0,0,0⟩ (zfw ⟨hk1,hlt'⟩ (by omega) (by omega) (by omega))
     unfold stA at cL
     by_cases hx:line=zaO ⟨k,0,0,0⟩
     ·rw [if_pos hx] at hv
      subst hv
      have hx':(line==zaO ⟨k,0,0,0⟩)=true:=by simpa using hx
      repeat' first|refine Va (fA7 zh7 hlt' hne w2 w3 hx' @stA.eq_1) ?_|(with_reducible first|refine SB.c ?_ ?_<;>intro _|exact zad)|refine CK.d0 zaB cW ?_|refine CK.d0 zaH cS ?_|refine CK.d0 zbn cL ?_|with_reducible refine zac ?_|omega
     ·rw [if_neg hx] at hv
      subst hv
      have hx':(line==zaO ⟨k,0,0,0⟩)=false:=by simpa using hx
      repeat' first|refine Va (fA8 zh7 hlt' hne w2 w3 hx' @stA.eq_1 @st0.eq_1) ?_|(with_reducible first|refine SB.c ?_ ?_<;>intro _|exact zad)|refine CK.d0 zaB cW ?_|refine CK.d0 zaH cS ?_|refine CK.d0 zbn cL ?_|with_reducible refine zac ?_|omega
    |b::r,hs,hnl,hnum=>
     have hv:=zzA hs hk1 hlt' hsh
     rw [hG] at hv
     simp only [List.length_cons] at hnum
     have l1:(1:Int)<((r.length+1+1:Nat):Int):=by omega
     have l2:1<r.length+1+1:=by omega
     have cNb:=zfN b (by have:=hnl b (by simp);omega)
     have eb:ze0 b=[.str b]:=rfl
     cases hbb:(zaW b).2
     ·rw [hbb,if_neg (by simp)] at hv
      rw [hbb] at cNb
      subst hv
      repeat' first|refine Va (zj4 zh7 hlt' hne w2 w3 l1 l2 eb @stA.eq_1 @st0.eq_1) ?_|(with_reducible first|refine SB.c ?_ ?_<;>intro _|exact zad)|refine CK.d0 zaB cW ?_|refine CK.d0 zaH cS ?_|refine CK.d0 zbB cNb ?_|with_reducible refine zac ?_|omega
     ·rw [hbb,if_pos rfl] at hv
      rw [hbb] at cNb
      have nb:=zc0 b hbb
      have cL:=zbZ ⟨k,(zaW b).1,0,0⟩ (zfw ⟨hk1,hlt'⟩ ⟨nb.2.1,nb.2.2⟩ (by omega) (by omega))
      unfold stA at cL
      by_cases hx:line=zaO ⟨k,(zaW b).1,0,0⟩
      ·rw [if_pos hx] at hv
       subst hv
       have hx':(line==zaO ⟨k,(zaW b).1,0,0⟩)=true:=by simpa using hx
       repeat' first|refine Va (zj4 zh7 hlt' hne w2 w3 hx' @stA.eq_1 l1 l2 eb) ?_|(with_reducible first|refine SB.c ?_ ?_<;>intro _|exact zad)|refine CK.d0 zaB cW ?_|refine CK.d0 zaH cS ?_|refine CK.d0 zbB cNb ?_|refine CK.d0 zbn cL ?_|with_reducible refine zac ?_|omega
      ·rw [if_neg hx] at hv
       subst hv
       have hx':(line==zaO ⟨k,(zaW b).1,0,0⟩)=false:=by simpa using hx
       repeat' first|refine Va (zfA zh7 hlt' hne w2 w3 hx' @stA.eq_1 @st0.eq_1 l1 l2 eb) ?_|(with_reducible first|refine SB.c ?_ ?_<;>intro _|exact zad)|refine CK.d0 zaB cW ?_|refine CK.d0 zaH cS ?_|refine CK.d0 zbB cNb ?_|refine CK.d0 zbn cL ?_|with_reducible refine zac ?_|omega
   ·rw [hsh] at cS
    replace cS:AC Tryz.prog gl 29 [.pv (.int .i64 k)] [] (.tup [.pv (.bool false),.pv (.bool false),.pv (.bool false)]) []:=cS
    have hnf:nfF k=0:=by simp [nfF,hsh]
    have hv:=zmd hs hk1 hlt' (.inl hnf)
    rw [hG] at hv
    have cL:=zbZ ⟨k,0,0,0⟩ (zfw ⟨hk1,hlt'⟩ (by omega) (by omega) (by omega))
    unfold stA at cL
    by_cases hx:line=zaO ⟨k,0,0,0⟩
    ·rw [if_pos hx] at hv
     subst hv
     have hx':(line==zaO ⟨k,0,0,0⟩)=true:=by simpa using hx
     repeat' first|refine Va (fA7 zh7 hlt' hne w2 w3 hx' @stA.eq_1) ?_|(with_reducible first|refine SB.c ?_ ?_<;>intro _|exact zad)|refine CK.d0 zaB cW ?_|refine CK.d0 zaH cS ?_|refine CK.d0 zbn cL ?_|with_reducible refine zac ?_|omega
    ·rw [if_neg hx] at hv
     subst hv
     have hx':(line==zaO ⟨k,0,0,0⟩)=false:=by simpa using hx
     repeat' first|refine Va (fA8 zh7 hlt' hne w2 w3 hx' @stA.eq_1 @st0.eq_1) ?_|(with_reducible first|refine SB.c ?_ ?_<;>intro _|exact zad)|refine CK.d0 zaB cW ?_|refine CK.d0 zaH cS ?_|refine CK.d0 zbn cL ?_|with_reducible refine zac ?_|omega
  ·have hne:(wdF (k:Int)==a)=false:=by simpa using he
   repeat' first|refine Va (fA4 zh7 hlt' hne hw) ?_|(with_reducible first|refine SB.c ?_ ?_<;>intro _|exact zad)|refine CK.d0 zaB cW ?_|with_reducible refine zac ?_|omega
   exact ⟨⟨k+1,by omega,by omega,fun j h3 h4=>by
    by_cases hj:j=k
    ·subst hj;exact he
    ·exact hno j h3 (by omega)⟩,WFn,by show 15 - (k+1)<15 - k;omega⟩
 ·have hlt':¬ (k:Int)≤14:=by omega
  have hk15:k=15:=by omega
  subst hk15
  have:=zkR hs (fun j h3 h4=>hno j h3 h4)
  rw [hG] at this
  subst this
  repeat' first|refine Va (fA4 zh7 hlt' @stA.eq_1 @st0.eq_1) ?_|(with_reducible first|refine SB.c ?_ ?_<;>intro _|exact zad)|with_reducible refine zac ?_|omega
structure HdI (b:List UInt8) where
 k:Nat
 h1:1≤k
 h2:k≤9
 no:∀ j:Nat,1≤j→j<k→prF j≠b
theorem zzD (line:List UInt8) (hl:line.length≤100000):AC Tryz.prog gl 51 [.pv (.str line)] [] (.tup [.pv (.int .i64 (zd8 line).1),.pv (.int .i64 (zd8 line).2.1),.pv (.bool (zd8 line).2.2)]) []:=by
 have cP:=zpL line (by omega)
 have hpc:=zg7 32 line
 by_cases h3:(zaj 32 line).length=3
 ·match hs:zaj 32 line,h3 with
  |[a,b,c],_=>
   have hv:=zCL hs
   generalize zd8 line=G at *
   rw [hs] at cP hpc
   have hc:=hpc c (by simp)
   have cN:=zfN c (by omega)
   have ea:ze0 a=[.str a]:=rfl
   have eb:ze0 b=[.str b]:=rfl
   have ec:ze0 c=[.str c]:=rfl
   simp only [List.map_cons,List.map_nil,ea,eb,ec] at cP
   by_cases ha:a=[112,114,111,116,111,99,111,108]
   ·subst ha
    refine zap (fun _=>0) 0 zFe ?_
    repeat' first|refine Va (fA2 zzV @bne_self_eq_false.{0}) ?_|(with_reducible first|refine SB.c ?_ ?_<;>intro _|exact zad)|refine CK.d0 zii cP ?_|refine CK.d0 zbB cN ?_|with_reducible refine zac ?_|omega
    refine zaI (ι:=HdI b) (fun i=>⟨(jl 5 (.pv (.slice [[.str [112,114,111,116,111,99,111,108]],[.str b],[.str c]])::.pv (.int .i64 (zaW c).1)::.pv (.bool (zaW c).2)::.pv (.int .i64 i.k)::jl 31 [])),[]⟩) (fun i=>9 - i.k) ⟨1,by omega,by omega,fun j h1 h2=>by omega⟩ WFn ?_
    rintro ⟨k,h1,h2,hno⟩
    have cR:=zjD k
    by_cases hlt:k<9
    ·have hlt':(k:Int)≤8:=by omega
     have hw:=zaQ k (by omega)
     by_cases he:prF k=b
     ·subst he
      rw [if_pos ⟨rfl,ztv k h1 (by omega)⟩,(zpO k h1 (by omega)).2] at hv
      subst hv
      repeat' first|refine Va (fA2 zzV hlt') ?_|(with_reducible first|refine SB.c ?_ ?_<;>intro _|exact zad)|refine CK.d0 zeD cR ?_|with_reducible refine zac ?_|omega
     ·have he':(prF (k:Int)==b)=false:=by simpa using he
      repeat' first|refine Va (fA4 zzV hlt' he' hw) ?_|(with_reducible first|refine SB.c ?_ ?_<;>intro _|exact zad)|refine CK.d0 zeD cR ?_|with_reducible refine zac ?_|omega
      exact ⟨⟨k+1,by omega,by omega,fun j h3 h4=>by
       by_cases hj:j=k
       ·subst hj;exact he
       ·exact hno j h3 (by omega)⟩,WFn,by show 9 - (k+1)<9 - k;omega⟩
    ·have hlt':¬ (k:Int)≤8:=by omega
     have hk9:k=9:=by omega
     subst hk9
     rw [if_neg] at hv
     ·subst hv
      repeat' first|refine Va (fA2 zzV hlt') ?_|(with_reducible first|refine SB.c ?_ ?_<;>intro _|exact zad)|with_reducible refine zac ?_|omega
     ·rintro ⟨_,hm⟩
      obtain ⟨j,j1,j2,rfl⟩:=zns b hm
      exact hno j j1 (by omega) rfl
   ·rw [if_neg (fun h=>ha h.1)] at hv
    subst hv
    have ha':(a==[112,114,111,116,111,99,111,108])=false:=by simpa using ha
    refine zap (fun _=>0) 0 zFe ?_
    repeat' first|refine Va (fA2 zzV ha') ?_|(with_reducible first|refine SB.c ?_ ?_<;>intro _|exact zad)|refine CK.d0 zii cP ?_|with_reducible refine zac ?_|omega
 ·have h32:(((zaj 32 line).length:Int) != 3)=true:=by simpa using fun e=>h3 (by omega)
  rw [zzC line h3]
  refine zap (fun _=>0) 0 zFe ?_
  repeat' first|refine Va (fA2 zzV h32) ?_|(with_reducible first|refine SB.c ?_ ?_<;>intro _|exact zad)|refine CK.d0 zii cP ?_|with_reducible refine zac ?_|omega
end Go.Proofs.YtfinhhblcdkpgaaGreatDoor
