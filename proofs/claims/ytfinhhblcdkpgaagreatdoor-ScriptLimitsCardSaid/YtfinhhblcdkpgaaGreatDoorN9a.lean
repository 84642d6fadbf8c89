/- The line of a step. No condition. -/
import Derived.Test.YtfinhhblcdkpgaaGreatDoorK8
import Derived.Test.YtfinhhblcdkpgaaGreatDoorLib3
import Derived.Test.YtfinhhblcdkpgaaGreatDoorN12
set_option maxRecDepth 100000
set_option maxHeartbeats 64000000
set_option linter.unusedSimpArgs false
set_option linter.unusedVariables false
set_option linter.defProp false
namespace Go.Proofs.YtfinhhblcdkpgaaGreatDoor
open Go Go.Abs
structure KdI (a:List UInt8) where
 k:Nat
 h1:1≤k
 h2:k≤15
 no:∀ j:Nat,1≤j→j<k→wdF j≠a
theorem zws (line:List UInt8) (hl:line.length≤100000):AC Tryz.prog gl 63 [.pv (.str line)] [] (.tup [stA (zcG line).1,.pv (.bool (zcG line).2)]) []:=by
 have cP:=zlQ line 32 (by omega)
 have hpc:=zg7 32 line
 have hnum:=zg8 32 line
 obtain ⟨a,l,hs⟩:∃ a l,zaj 32 line=a::l:=by
  match h:zaj 32 line,zbG 32 line with
  |a::l,_=>exact ⟨a,l,rfl⟩
 have hnl:∀ w ∈ l,w.length≤100000:=fun w hw=>by
  have:=hpc w (by rw [hs];simp [hw])
  omega
 rw [hs,List.length_cons] at hnum
 clear hpc
 rw [hs] at cP
 have w0:IntKind.i64.wrap 0=0:=by decide
 have w1:IntKind.i64.wrap 1=1:=by decide
 have w2:IntKind.i64.wrap 2=2:=by decide
 generalize hG:zcG line=G
 refine zap (fun d=>if d=2 then 0 else 1) 3 zId ?_
 repeat' first|refine Va zhp ?_|(with_reducible first|refine SB.c ?_ ?_<;>intro _|exact zad)|refine CK.d0 zfC cP ?_|with_reducible refine zac ?_|omega
 refine zaI (ι:=KdI a) (fun i=>⟨(.junk::.junk::.ref 0 0::.pv (.bool false)::.pv (.slice ([.str a]::l.map fun x=>[.str x]))::.pv (.int .i64 i.k)::jl 54 []),[some (.cells [.pv (.int .i64 0),.pv (.int .i64 0),.pv (.int .i64 0),.pv (.int .i64 0)]),none,none]⟩) (fun i=>15 - i.k) ⟨1,by omega,by omega,fun j h1 h2=>by omega⟩ WFn ?_
 rintro ⟨k,h1,h2,hno⟩
 by_cases hlt:k<15
 ·have hlt':(k:Int)≤14:=by omega
  have hk1:1≤(k:Int):=by omega
  have hcell:=zzq k hlt
  simp only [zug,List.map_cons,List.map_nil] at hcell
  have hw:=zaQ k (by omega)
  by_cases he:wdF k=a
  ·subst he
   have hne:(wdF (k:Int)==wdF (k:Int))=true:=by simp
   rcases zch k with ⟨_,hsh⟩|⟨_,hsh⟩|⟨_,hsh⟩|⟨_,_,_,_,_,_,_,_,_,_,_,hsh⟩
   ·have cF:=zkM ⟨k,0,0,0⟩ hsh
    have hnf:nfF k=1:=by simp [nfF,hsh]
    match l,hs,hnl,hnum with
    |[],hs,_,_=>
     have:=zdx hs hk1 hlt' (by rw [hnf];simp)
     rw [hG] at this
     subst this
     repeat' first|refine Va (zkA @kz zhp hlt hlt' hcell hne @Nat.mul_one w0 w1 w2 @stA.eq_1 @st0.eq_1) ?_|(with_reducible first|refine SB.c ?_ ?_<;>intro _|exact zad)|refine CK.dx [1] [2] zaV cF ?_|with_reducible refine zac ?_|omega
    |[b],hs,hnl,_=>
     have:=zzn hs hk1 hlt' hsh
     rw [hG] at this
     have cN:=zjw b (hnl b (by simp))
     cases hb:(zaW b).2
     ·rw [hb,if_neg (by simp)] at this
      subst this
      rw [zpR hb] at cN
      repeat' first|refine Va (zkA @kz zhp hlt hlt' hcell hne @Nat.mul_one w0 w1 w2 @stA.eq_1 @st0.eq_1) ?_|(with_reducible first|refine SB.c ?_ ?_<;>intro _|exact zad)|refine CK.dx [1] [2] zaV cF ?_|with_reducible refine zac ?_|omega
      refine LW.rounds (zcl _ _) mixed 2 ?_
      repeat' first|refine Va (fA6 zhp @zbR w1 w2 @stA.eq_1 @st0.eq_1) ?_|(with_reducible first|refine SB.c ?_ ?_<;>intro _|exact zad)|refine CK.d0 zdn cN ?_|with_reducible refine zac ?_|omega
     ·rw [hb,if_pos rfl] at this
      subst this
      rw [zpQ hb] at cN
      repeat' first|refine Va (zfA @kz zhp hlt hlt' hcell hne @Nat.mul_one w0 w1 w2 @stA.eq_1) ?_|(with_reducible first|refine SB.c ?_ ?_<;>intro _|exact zad)|refine CK.dx [1] [2] zaV cF ?_|with_reducible refine zac ?_|omega
      refine LW.rounds (zcl _ _) mixed 2 ?_
      repeat' first|refine Va (fA5 zhp @zbR w1 w2 @stA.eq_1) ?_|(with_reducible first|refine SB.c ?_ ?_<;>intro _|exact zad)|refine CK.d0 zdn cN ?_|with_reducible refine zac ?_|omega
    |b::c::r,hs,_,hnum=>
     simp only [List.length_cons] at hnum
     have hwl:IntKind.i64.wrap (((r.length+1+1+1:Nat):Int) - 1)=(r.length:Int)+2:=by rw [zaS _ (by omega) (by omega)];omega
     have hwn:((1:Int) != (r.length:Int)+2)=true:=by simp;omega
     have:=zdx hs hk1 hlt' (by rw [hnf];simp)
     rw [hG] at this
     subst this
     repeat' first|refine Va (zfA @kz zhp hlt hlt' hcell hne @Nat.mul_one hwl hwn @stA.eq_1 @st0.eq_1) ?_|(with_reducible first|refine SB.c ?_ ?_<;>intro _|exact zad)|refine CK.dx [1] [2] zaV cF ?_|with_reducible refine zac ?_|omega
   ·have cF:=zkN ⟨k,0,0,0⟩ hsh
    have hnf:nfF k=2:=by simp [nfF,hsh]
    match l,hs,hnl,hnum with
    |[],hs,_,_=>
     have:=zdx hs hk1 hlt' (by rw [hnf];simp)
     rw [hG] at this
     subst this
     repeat' first|refine Va (zkA @kz zhp hlt hlt' hcell hne @Nat.mul_one w0 w1 w2 @stA.eq_1 @st0.eq_1) ?_|(with_reducible first|refine SB.c ?_ ?_<;>intro _|exact zad)|refine CK.dx [1] [2] zaV cF ?_|with_reducible refine zac ?_|omega
    |[b],hs,_,_=>
     have:=zdx hs hk1 hlt' (by rw [hnf];simp)
     rw [hG] at this
     subst this
     repeat' first|refine Va (zkA @kz zhp hlt hlt' hcell hne @Nat.mul_one w0 w1 w2 @stA.eq_1 @st0.eq_1) ?_|(with_reducible first|refine SB.c ?_ ?_<;>intro _|exact zad)|refine CK.dx [1] [2] zaV cF ?_|with_reducible refine zac ?_|omega
    |[b,c],hs,hnl,_=>
     have:=zzp hs hk1 hlt' hsh
     rw [hG] at this
     have cN:=zjw b (hnl b (by simp))
     have cM:=zjw c (hnl c (by simp))
     cases hb:(zaW b).2
     ·rw [hb,if_neg (by simp)] at this
      subst this
      rw [zpR hb] at cN
      repeat' first|refine Va (zkA @kz zhp hlt hlt' hcell hne @Nat.mul_one w0 w1 w2 @stA.eq_1 @st0.eq_1) ?_|(with_reducible first|refine SB.c ?_ ?_<;>intro _|exact zad)|refine CK.dx [1] [2] zaV cF ?_|with_reducible refine zac ?_|omega
      refine LW.rounds (zcl _ _) mixed 3 ?_
      repeat' first|refine Va (fA6 zhp @zbR w1 w2 @stA.eq_1 @st0.eq_1) ?_|(with_reducible first|refine SB.c ?_ ?_<;>intro _|exact zad)|refine CK.d0 zdn cN ?_|with_reducible refine zac ?_|omega
     ·rw [hb,if_pos rfl] at this
      rw [zpQ hb] at cN
      cases hc:(zaW c).2
      ·rw [hc,if_neg (by simp)] at this
       subst this
       rw [zpR hc] at cM
       repeat' first|refine Va (zkA @kz zhp hlt hlt' hcell hne @Nat.mul_one w0 w1 w2 @stA.eq_1 @st0.eq_1) ?_|(with_reducible first|refine SB.c ?_ ?_<;>intro _|exact zad)|refine CK.dx [1] [2] zaV cF ?_|with_reducible refine zac ?_|omega
       refine LW.rounds (zcl _ _) mixed 3 ?_
       repeat' first|refine Va (fA6 zhp @zbR w1 w2 @stA.eq_1 @st0.eq_1) ?_|(with_reducible first|refine SB.c ?_ ?_<;>intro _|exact zad)|refine CK.d0 zdn cN ?_|refine CK.d0 zdn cM ?_|with_reducible refine zac ?_|omega
      ·rw [hc,if_pos rfl] at this
       subst this
       rw [zpQ hc] at cM
       repeat' first|refine Va (zfA @kz zhp hlt hlt' hcell hne @Nat.mul_one w0 w1 w2 @stA.eq_1) ?_|(with_reducible first|refine SB.c ?_ ?_<;>intro _|exact zad)|refine CK.dx [1] [2] zaV cF ?_|with_reducible refine zac ?_|omega
       refine LW.rounds (zcl _ _) mixed 3 ?_
       repeat' first|refine Va (fA5 zhp @zbR w1 w2 @stA.eq_1) ?_|(with_reducible first|refine SB.c ?_ ?_<;>intro _|exact zad)|refine CK.d0 zdn cN ?_|refine CK.d0 zdn cM ?_|with_reducible refine zac ?_|omega
    |b::c::d::r,hs,_,hnum=>
     simp only [List.length_cons] at hnum
     have hwl:IntKind.i64.wrap (((r.length+1+1+1+1:Nat):Int) - 1)=(r.length:Int)+3:=by rw [zaS _ (by omega) (by omega)];omega
     have hwn:((2:Int) != (r.length:Int)+3)=true:=by simp;omega
     have:=zdx hs hk1 hlt' (by rw [hnf];simp)
     rw [hG] at this
     subst this
     repeat' first|refine Va (zfA @kz zhp hlt hlt' hcell hne @Nat.mul_one hwl hwn @stA.eq_1 @st0.eq_1) ?_|(with_reducible first|refine SB.c ?_ ?_<;>intro _|exact zad)|refine CK.dx [1] [2] zaV cF ?_|with_reducible refine zac ?_|omega
   ·have cF:=zkO ⟨k,0,0,0⟩ hsh
    have hnf:nfF k=1:=by simp [nfF,hsh]
    match l,hs,hnl,hnum with
    |[],hs,_,_=>
     have:=zdx hs hk1 hlt' (by rw [hnf];simp)
     rw [hG] at this
     subst this
     repeat' first|refine Va (zkA @kz zhp hlt hlt' hcell hne @Nat.mul_one w0 w1 w2 @stA.eq_1 @st0.eq_1) ?_|(with_reducible first|refine SB.c ?_ ?_<;>intro _|exact zad)|refine CK.dx [1] [2] zaV cF ?_|with_reducible refine zac ?_|omega
    |[b],hs,hnl,_=>
     have:=zzo hs hk1 hlt' hsh
     rw [hG] at this
     have cN:=zjw b (hnl b (by simp))
     cases hb:(zaW b).2
     ·rw [hb,if_neg (by simp)] at this
      subst this
      rw [zpR hb] at cN
      repeat' first|refine Va (zkA @kz zhp hlt hlt' hcell hne @Nat.mul_one w0 w1 w2 @stA.eq_1 @st0.eq_1) ?_|(with_reducible first|refine SB.c ?_ ?_<;>intro _|exact zad)|refine CK.dx [1] [2] zaV cF ?_|with_reducible refine zac ?_|omega
      refine LW.rounds (zcl _ _) mixed 2 ?_
      repeat' first|refine Va (fA6 zhp @zbR w1 w2 @stA.eq_1 @st0.eq_1) ?_|(with_reducible first|refine SB.c ?_ ?_<;>intro _|exact zad)|refine CK.d0 zdn cN ?_|with_reducible refine zac ?_|omega
     ·rw [hb,if_pos rfl] at this
      subst this
      rw [zpQ hb] at cN
      repeat' first|refine Va (zfA @kz zhp hlt hlt' hcell hne @Nat.mul_one w0 w1 w2 @stA.eq_1) ?_|(with_reducible first|refine SB.c ?_ ?_<;>intro _|exact zad)|refine CK.dx [1] [2] zaV cF ?_|with_reducible refine zac ?_|omega
      refine LW.rounds (zcl _ _) mixed 2 ?_
      repeat' first|refine Va (fA5 zhp @zbR w1 w2 @stA.eq_1) ?_|(with_reducible first|refine SB.c ?_ ?_<;>intro _|exact zad)|refine CK.d0 zdn cN ?_|with_reducible refine zac ?_|omega
    |b::c::r,hs,_,hnum=>
     simp only [List.length_cons] at hnum
     have hwl:IntKind.i64.wrap (((r.length+1+1+1:Nat):Int) - 1)=(r.length:Int)+2:=by rw [zaS _ (by omega) (by omega)];omega
     have hwn:((1:Int) != (r.length:Int)+2)=true:=by simp;omega
     have:=zdx hs hk1 hlt' (by rw [hnf];simp)
     rw [hG] at this
     subst this
     repeat' first|refine Va (zfA @kz zhp hlt hlt' hcell hne @Nat.mul_one hwl hwn @stA.eq_1 @st0.eq_1) ?_|(with_reducible first|refine SB.c ?_ ?_<;>intro _|exact zad)|refine CK.dx [1] [2] zaV cF ?_|with_reducible refine zac ?_|omega
   ·have cF:=zkP ⟨k,0,0,0⟩ hsh
    have hnf:nfF k=0:=by simp [nfF,hsh]
    match l,hs,hnl,hnum with
    |[],hs,_,_=>
     have:=zzm hs hk1 hlt' hsh
     rw [hG] at this
     subst this
     repeat' first|refine Va (zfA @kz zhp hlt hlt' hcell hne @Nat.mul_one w0 w1 w2 @stA.eq_1) ?_|(with_reducible first|refine SB.c ?_ ?_<;>intro _|exact zad)|refine CK.dx [1] [] zaV cF ?_|with_reducible refine zac ?_|omega
     refine LW.rounds (zcl _ _) mixed 1 ?_
     repeat' first|refine Va (fA3 zhp @zbR @stA.eq_1) ?_|(with_reducible first|refine SB.c ?_ ?_<;>intro _|exact zad)|with_reducible refine zac ?_|omega
    |b::r,hs,_,hnum=>
     simp only [List.length_cons] at hnum
     have hwl:IntKind.i64.wrap (((r.length+1+1:Nat):Int) - 1)=(r.length:Int)+1:=by rw [zaS _ (by omega) (by omega)];omega
     have hwn:((0:Int) != (r.length:Int)+1)=true:=by simp;omega
     have:=zdx hs hk1 hlt' (by rw [hnf];simp)
     rw [hG] at this
     subst this
     repeat' first|refine Va (zfA @kz zhp hlt hlt' hcell hne @Nat.mul_one hwl hwn @stA.eq_1 @st0.eq_1) ?_|(with_reducible first|refine SB.c ?_ ?_<;>intro _|exact zad)|refine CK.dx [1] [] zaV cF ?_|with_reducible refine zac ?_|omega
  ·have hne:(wdF (k:Int)==a)=false:=by simpa using he
   repeat' first|refine Va (fA7 zhp hlt hlt' hcell hne @Nat.mul_one hw) ?_|(with_reducible first|refine SB.c ?_ ?_<;>intro _|exact zad)|with_reducible refine zac ?_|omega
   exact ⟨⟨k+1,by omega,by omega,fun j h3 h4=>by
    by_cases hj:j=k
    ·subst hj;exact he
    ·exact hno j h3 (by omega)⟩,WFn,by show 15 - (k+1)<15 - k;omega⟩
 ·have hlt':¬ (k:Int)≤14:=by omega
  have hk15:k=15:=by omega
  subst hk15
  have:=zkR hs (fun j h3 h4=>hno j h3 h4)
  rw [hG] at this
  subst this
  repeat' first|refine Va (fA4 zhp hlt' @stA.eq_1 @st0.eq_1) ?_|(with_reducible first|refine SB.c ?_ ?_<;>intro _|exact zad)|with_reducible refine zac ?_|omega
open Go Go.Abs Go.RowKit
theorem zxh:([32,118,97,114,32,97,114,114,97,121,32,111,110,32,115,116,97,114,116,32,109,101,115,115,97,103,101,32,116,105,99,107,32,105,110,112,117,116,32,105,102,32,101]:List UInt8).append [108,115,101,32,119,104,105,108,101,32,115,101,110,100,32,111,117,116,112,117,116,32,115,101,108,102,32,112,114,111,99,115,32,102,114,111,109,32,118,97,108,117,101,32]=zcu:=rfl
structure RbI (s:List UInt8) where
 k:Nat
 hk:k≤s.length
 hb:∀ c ∈ s.take k,c≠32
structure RwI (s:List UInt8) where
 k:Nat
 hk:k≤88
 hm:∀ i,i<k→i+(s.length+2)≤87→zy6 s i=false
theorem zIy {c:UInt8} (h:c≠32):(((c.toNat:Nat):Int)==32)=false:=by
 have:¬ c.toNat=32:=fun e=>h (UInt8.toNat_inj.1 e)
 apply zFV;omega
theorem zIz {c:UInt8} (h:c=32):(((c.toNat:Nat):Int)==32)=true:=by subst h;rfl
theorem zhV (s:List UInt8) (hs:s.length≤281474976710656):AC Tryz.prog gl 98 [.pv (.str s)] [] (.pv (.bool (!(s.contains 32)&&zsR s))) []:=by
 refine zap (fun _=>0) 0 zIu ?_
 by_cases h0:s=[]
 ·subst h0
  repeat' first|refine Va zw6 ?_|(with_reducible first|refine SB.c ?_ ?_<;>intro _|exact zad)|with_reducible refine zac ?_|omega
  rfl
 have hl0:0<s.length:=List.length_pos_iff.2 h0
 have h0':((s.length:Int)==0)=false:=zFV (by omega)
 repeat' first|refine Va (fA2 zw6 h0') ?_|(with_reducible first|refine SB.c ?_ ?_<;>intro _|exact zad)|with_reducible refine zac ?_|omega
 refine zaI (ι:=RbI s) (fun i=>⟨(.pv (.str s)::.junk::.pv (.bool false)::.pv (.int .i64 i.k)::jl 33 []),[]⟩) (fun i=>s.length - i.k) ⟨0,by omega,by simp⟩ WFn ?_
 rintro ⟨k,hk,hb⟩
 by_cases hlt:k<s.length
 ·have hlt':(k:Int)<s.length:=by omega
  have hge:s.getD k 0=s[k]:=by simp [List.getD,hlt]
  have hw:IntKind.i64.wrap ((k:Int)+1)=((k+1:Nat):Int):=by rw [zaS _ (by omega) (by omega)];rfl
  have hmem:s[k] ∈ s:=List.getElem_mem hlt
  have htk:=List.take_succ_eq_append_getElem hlt
  by_cases hc32:s[k]=32
  ·have hcon:s.contains 32=true:=by simpa using (hc32 ▸ hmem)
   have heq:=zIz hc32
   rw [hcon]
   repeat' first|refine Va (fA6 zw6 hlt' hlt hge heq @Bool.false_and) ?_|(with_reducible first|refine SB.c ?_ ?_<;>intro _|exact zad)|with_reducible refine zac ?_|omega
  ·have hne:=zIy hc32
   repeat' first|refine Va (fA6 zw6 hlt' hlt hge hne hw) ?_|(with_reducible first|refine SB.c ?_ ?_<;>intro _|exact zad)|with_reducible refine zac ?_|omega
   exact ⟨⟨k+1,by omega,by rw [htk];intro c hc;rcases List.mem_append.1 hc with hc|hc;exact hb c hc;rw [List.mem_singleton.1 hc];exact hc32⟩,WFn,by simp;omega⟩
 have hlt':¬ (k:Int)<s.length:=by omega
 rw [List.take_of_length_le (by omega)] at hb
 have hcon:s.contains 32=false:=by
  cases h:s.contains 32 with
  |false=>rfl
  |true=>exact absurd rfl (hb 32 (by simpa using h))
 rw [hcon,Bool.not_false,Bool.true_and]
 have ha2:s.length≤4611686018427387902:=by omega
 repeat' first|refine Va (fA2 zw6 hlt') ?_|(with_reducible first|refine SB.c ?_ ?_<;>intro _|exact zad)|with_reducible refine zac ?_|omega
 have hwl:(32::(s++[32])).length=s.length+2:=by simp
 refine zaI (ι:=RwI s) (fun i=>⟨(.junk::.junk::.pv (.bool false)::.junk::.pv (.str (32::(s++[32])))::.pv (.int .i64 i.k)::jl 31 []),[]⟩) (fun i=>88 - i.k) ⟨0,by omega,by intro i hi;omega⟩ WFn ?_
 rintro ⟨k,hk,hm⟩
 generalize hW:(32::(s++[32]):List UInt8)=W at *
 have hw1:IntKind.i64.wrap ((k:Int)+(W.length:Int))=((k+(s.length+2):Nat):Int):=by rw [hwl,zaS _ (by omega) (by omega)];omega
 by_cases hle:k+(s.length+2)≤87
 ·have hle':((k+(s.length+2):Nat):Int)≤87:=by omega
  have hkk:(k:Int)≤((k+(s.length+2):Nat):Int):=by omega
  have hw:IntKind.i64.wrap ((k:Int)+1)=((k+1:Nat):Int):=by rw [zaS _ (by omega) (by omega)];rfl
  have hcast:((87:Nat):Int)=87:=rfl
  have hhit:((zcu.take (k+(s.length+2))).drop k==W)=zy6 s k:=by rw [←hW];rfl
  cases hh:zy6 s k
  ·rw [hh] at hhit
   repeat' first|refine Va (fA9 zw6 hw1 hle' hkk @zxh @zfI hcast hhit hw) ?_|(with_reducible first|refine SB.c ?_ ?_<;>intro _|exact zad)|with_reducible refine zac ?_|omega
   exact ⟨⟨k+1,by omega,fun i hi hi2=>by
    by_cases hik:i<k
    ·exact hm i hik hi2
    ·have:i=k:=by omega
     subst this;exact hh⟩,WFn,by simp;omega⟩
  ·rw [hh] at hhit
   have hr:=zv6 h0 hb hle hh
   rw [hr]
   repeat' first|refine Va (fA8 zw6 hw1 hle' hkk @zxh @zfI hcast hhit) ?_|(with_reducible first|refine SB.c ?_ ?_<;>intro _|exact zad)|with_reducible refine zac ?_|omega
 ·have hle':¬ ((k+(s.length+2):Nat):Int)≤87:=by omega
  have hr:=zs2 (s:=s) (fun i hi=>hm i (by omega) hi)
  rw [hr]
  repeat' first|refine Va (fA3 zw6 hw1 hle') ?_|(with_reducible first|refine SB.c ?_ ?_<;>intro _|exact zad)|with_reducible refine zac ?_|omega
end Go.Proofs.YtfinhhblcdkpgaaGreatDoor
