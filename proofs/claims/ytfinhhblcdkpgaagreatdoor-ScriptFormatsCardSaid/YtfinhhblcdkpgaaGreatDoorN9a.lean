/- The next line ahead of the lists, and the first line of a script. No condition. -/
import Derived.Test.YtfinhhblcdkpgaaGreatDoorK7
import Derived.Test.YtfinhhblcdkpgaaGreatDoorLib3
import Derived.Test.YtfinhhblcdkpgaaGreatDoorN12
set_option maxRecDepth 100000
set_option maxHeartbeats 64000000
set_option linter.unusedSimpArgs false
set_option linter.unusedVariables false
set_option linter.defProp false
namespace Go.Proofs.YtfinhhblcdkpgaaGreatDoor
open Go Go.Abs Go.RowKit
abbrev rdN (ls:List (List UInt8)) (torn:Bool) (k:Nat) (p f:Int):List (Option AObj):=
 [some (.cells [.pv (.slice (ls.map zu1)),.pv (.bool torn),.pv (.int .i64 k),.snil,.pv (.int .i64 p),.pv (.int .i64 f),.snil])]
theorem zpd (ls:List (List UInt8)) (torn:Bool) (p f:Int) (hl:ls.length≤1000000000) :
  AC Tryz.prog gl 60 [.ref 0 0] (rdN ls torn 0 p f) (.tup [.pv (.str (ls.getD 0 [])),.pv (.bool (decide (0<ls.length)))]) (rdN ls torn 1 p f):=by
 by_cases h:0<ls.length
 ·have h1:¬ ((1:Int) > ls.length):=by omega
  have h3:IntKind.i64.wrap 1=1:=by decide
  have h4:IntKind.i64.wrap 0=0:=by decide
  have hget:=zaN zu1 ls 0 h
  have hg2:ls.getD 0 []=ls[0]:=by rw [List.getD_eq_getElem?_getD,List.getElem?_eq_getElem h];rfl
  rw [decide_eq_true h,hg2]
  generalize ls[0]=x at *
  replace hget:(ls.map zu1).getD 0 []=[.str x]:=hget
  refine zay (fun _=>3) 4 zAI ?_
  (repeat' (first|refine Va (fA6 zuQ h1 h3 h4 h hget) ?_|(with_reducible first|refine SB.c ?_ ?_<;>intro _|exact zac)|with_reducible refine zab ?_|omega))
  (refine zaJ.mk [0] ?_ ?_<;>simp [kwr,zuQ])
 ·have h1:((1:Int) > ls.length):=by omega
  have h3:IntKind.i64.wrap 1=1:=by decide
  have hg2:ls.getD 0 []=[]:=by rw [List.getD_eq_getElem?_getD,List.getElem?_eq_none (by omega)];rfl
  rw [decide_eq_false h,hg2]
  refine zay (fun _=>3) 4 zAI ?_
  (repeat' (first|refine Va (fA3 zuQ h1 h3) ?_|(with_reducible first|refine SB.c ?_ ?_<;>intro _|exact zac)|with_reducible refine zab ?_|omega))
  (refine zaJ.mk [0] ?_ ?_<;>simp [kwr,zuQ])
theorem zrB (ls:List (List UInt8)) (torn:Bool) (k:Nat) (f:Int) (line:List UInt8) (hl:line.length≤100000) :
  AC Tryz.prog gl 61 [.ref 0 0,.pv (.str line)] (rdN ls torn k 0 f) (.pv (.bool (zcT line f).2.2)) (rdN ls torn k (zcT line f).1 (zcT line f).2.1):=by
 have cP:=zkx line 32 (by omega)
 have hpc:=zoa 32 line
 by_cases h3:(zan 32 line).length=3
 ·match hs:zan 32 line,h3 with
  |[a,b,c],_=>
   rw [zn8 line f a b c hs]
   rw [hs] at cP hpc
   have hc:=hpc c (by simp)
   have cN:=zih c (by omega)
   by_cases ha:a=[112,114,111,116,111,99,111,108]
   ·rw [if_pos ha]
    subst ha
    refine zay (fun _=>1) 2 zCy ?_
    (repeat' (first|refine Va (fA2 ztx @bne_self_eq_false.{0}) ?_|(with_reducible first|refine SB.c ?_ ?_<;>intro _|exact zac)|refine CK.d0 zeQ cP ?_|with_reducible refine zab ?_|omega))
    refine za6 (ι:={k:Nat // 1≤k∧k≤9}) (fun i=>⟨(.ref 0 0::jl 4 (.pv (.slice [[.str [112,114,111,116,111,99,111,108]],[.str b],[.str c]])::.pv (.int .i64 i.1)::jl 50 [])),(rdN ls torn k (zlK b i.1) f)++[none]⟩) (fun i=>9 - i.1) ⟨1,by omega,by omega⟩ (WFe (by simp [kwf,zn7]) (by simp [kwf,zn7])) ?_
    rintro ⟨j,hj1,hj⟩
    by_cases hlt:j<9
    ·have hlt':(j:Int)≤8:=by omega
     have hcell:=zrA j hlt
     simp only [zlF,List.map_cons,List.map_nil] at hcell
     have hw:=zbc j (by omega)
     by_cases he:prF j=b
     ·have he':(prF (j:Int)==b)=true:=by simpa using he
      (repeat' (first|refine Va (fA7 ztx hlt hlt' hcell he' @Nat.mul_one hw) ?_|(with_reducible first|refine SB.c ?_ ?_<;>intro _|exact zac)|with_reducible refine zab ?_|omega))
      exact ⟨⟨j+1,by omega,by omega⟩,(WFe (by simp [kwf,zu2 b j hj1 he]) (by simp [kwf,zu2 b j hj1 he])),by show 9 - (j+1)<9 - j;omega⟩
     ·have he':(prF (j:Int)==b)=false:=by simpa using he
      (repeat' (first|refine Va (fA7 ztx hlt hlt' hcell he' @Nat.mul_one hw) ?_|(with_reducible first|refine SB.c ?_ ?_<;>intro _|exact zac)|with_reducible refine zab ?_|omega))
      exact ⟨⟨j+1,by omega,by omega⟩,(WFe (by simp [kwf,zu3 b j he]) (by simp [kwf,zu3 b j he])),by show 9 - (j+1)<9 - j;omega⟩
    ·have hlt':¬ (j:Int)≤8:=by omega
     have hj9:j=9:=by omega
     subst hj9
     (repeat' (first|refine Va (fA2 ztx hlt') ?_|(with_reducible first|refine SB.c ?_ ?_<;>intro _|exact zac)|refine CK.d0 zcL cN ?_|with_reducible refine zab ?_|omega))
     (refine zaJ.mk [0] ?_ ?_<;>simp [kwr,ztx])
   ·rw [if_neg ha]
    have ha':(a==[112,114,111,116,111,99,111,108])=false:=by simpa using ha
    have ha2:(a != [112,114,111,116,111,99,111,108])=true:=by simpa using ha
    refine zay (fun _=>1) 2 zCy ?_
    (repeat' (first|refine Va (fA3 ztx ha' ha2) ?_|(with_reducible first|refine SB.c ?_ ?_<;>intro _|exact zac)|refine CK.d0 zeQ cP ?_|with_reducible refine zab ?_|omega))
    (refine zaJ.mk [0] ?_ ?_<;>simp [kwr,ztx])
 ·have h3':(((zan 32 line).length:Int)==3)=false:=by simpa using fun e=>h3 (by omega)
  have h32:(((zan 32 line).length:Int) != 3)=true:=by simpa using fun e=>h3 (by omega)
  rw [zlL line f h3]
  refine zay (fun _=>1) 2 zCy ?_
  (repeat' (first|refine Va (fA3 ztx h3' h32) ?_|(with_reducible first|refine SB.c ?_ ?_<;>intro _|exact zac)|refine CK.d0 zeQ cP ?_|with_reducible refine zab ?_|omega))
  (refine zaJ.mk [0] ?_ ?_<;>simp [kwr,ztx])
theorem zu4:([32,118,97,114,32,97,114,114,97,121,32,111,110,32,115,116,97,114,116,32,109,101,115,115,97,103,101,32,116,105,99,107,32,105,110,112,117,116,32,105,102,32,101]:List UInt8).append [108,115,101,32,119,104,105,108,101,32,115,101,110,100,32,111,117,116,112,117,116,32,115,101,108,102,32,112,114,111,99,115,32,102,114,111,109,32,118,97,108,117,101,32]=zb2:=rfl
structure RbI (s:List UInt8) where
 k:Nat
 hk:k≤s.length
 hb:∀ c ∈ s.take k,c≠32
structure RwI (s:List UInt8) where
 k:Nat
 hk:k≤88
 hm:∀ i,i<k→i+(s.length+2)≤87→zwI s i=false
theorem zFz {c:UInt8} (h:c≠32):(((c.toNat:Nat):Int)==32)=false:=by
 have:¬ c.toNat=32:=fun e=>h (UInt8.toNat_inj.1 e)
 apply zi2;omega
theorem zFA {c:UInt8} (h:c=32):(((c.toNat:Nat):Int)==32)=true:=by subst h;rfl
theorem zgQ (s:List UInt8) (hs:s.length≤281474976710656):AC Tryz.prog gl 98 [.pv (.str s)] [] (.pv (.bool (!(s.contains 32)&&zq3 s))) []:=by
 refine zam (fun _=>0) 0 zFx ?_
 by_cases h0:s=[]
 ·subst h0
  (repeat' (first|refine Va zuS ?_|(with_reducible first|refine SB.c ?_ ?_<;>intro _|exact zac)|with_reducible refine zab ?_|omega))
  rfl
 have hl0:0<s.length:=List.length_pos_iff.2 h0
 have h0':((s.length:Int)==0)=false:=zi2 (by omega)
 (repeat' (first|refine Va (fA2 zuS h0') ?_|(with_reducible first|refine SB.c ?_ ?_<;>intro _|exact zac)|with_reducible refine zab ?_|omega))
 refine za6 (ι:=RbI s) (fun i=>⟨(.pv (.str s)::.junk::.pv (.bool false)::.pv (.int .i64 i.k)::jl 33 []),[]⟩) (fun i=>s.length - i.k) ⟨0,by omega,by simp⟩ WFn ?_
 rintro ⟨k,hk,hb⟩
 by_cases hlt:k<s.length
 ·have hlt':(k:Int)<s.length:=by omega
  have hge:s.getD k 0=s[k]:=by simp [List.getD,hlt]
  have hw:IntKind.i64.wrap ((k:Int)+1)=((k+1:Nat):Int):=by rw [zat _ (by omega) (by omega)];rfl
  have hmem:s[k] ∈ s:=List.getElem_mem hlt
  have htk:=List.take_succ_eq_append_getElem hlt
  by_cases hc32:s[k]=32
  ·have hcon:s.contains 32=true:=by simpa using (hc32 ▸ hmem)
   have heq:=zFA hc32
   rw [hcon]
   (repeat' (first|refine Va (fA6 zuS hlt' hlt hge heq @Bool.false_and) ?_|(with_reducible first|refine SB.c ?_ ?_<;>intro _|exact zac)|with_reducible refine zab ?_|omega))
  ·have hne:=zFz hc32
   (repeat' (first|refine Va (fA6 zuS hlt' hlt hge hne hw) ?_|(with_reducible first|refine SB.c ?_ ?_<;>intro _|exact zac)|with_reducible refine zab ?_|omega))
   exact ⟨⟨k+1,by omega,by rw [htk];intro c hc;rcases List.mem_append.1 hc with hc|hc;exact hb c hc;rw [List.mem_singleton.1 hc];exact hc32⟩,WFn,by simp;omega⟩
 have hlt':¬ (k:Int)<s.length:=by omega
 rw [List.take_of_length_le (by omega)] at hb
 have hcon:s.contains 32=false:=by
  cases h:s.contains 32 with
  |false=>rfl
  |true=>exact absurd rfl (hb 32 (by simpa using h))
 rw [hcon,Bool.not_false,Bool.true_and]
 have ha2:s.length≤4611686018427387902:=by omega
 (repeat' (first|refine Va (fA2 zuS hlt') ?_|(with_reducible first|refine SB.c ?_ ?_<;>intro _|exact zac)|with_reducible refine zab ?_|omega))
 have hwl:(32::(s++[32])).length=s.length+2:=by simp
 refine za6 (ι:=RwI s) (fun i=>⟨(.junk::.junk::.pv (.bool false)::.junk::.pv (.str (32::(s++[32])))::.pv (.int .i64 i.k)::jl 31 []),[]⟩) (fun i=>88 - i.k) ⟨0,by omega,by intro i hi;omega⟩ WFn ?_
 rintro ⟨k,hk,hm⟩
 generalize hW:(32::(s++[32]):List UInt8)=W at *
 have hw1:IntKind.i64.wrap ((k:Int)+(W.length:Int))=((k+(s.length+2):Nat):Int):=by rw [hwl,zat _ (by omega) (by omega)];omega
 by_cases hle:k+(s.length+2)≤87
 ·have hle':((k+(s.length+2):Nat):Int)≤87:=by omega
  have hkk:(k:Int)≤((k+(s.length+2):Nat):Int):=by omega
  have hw:IntKind.i64.wrap ((k:Int)+1)=((k+1:Nat):Int):=by rw [zat _ (by omega) (by omega)];rfl
  have hcast:((87:Nat):Int)=87:=rfl
  have hhit:((zb2.take (k+(s.length+2))).drop k==W)=zwI s k:=by rw [←hW];rfl
  cases hh:zwI s k
  ·rw [hh] at hhit
   (repeat' (first|refine Va (fA9 zuS hw1 hle' hkk @zu4 @zeX hcast hhit hw) ?_|(with_reducible first|refine SB.c ?_ ?_<;>intro _|exact zac)|with_reducible refine zab ?_|omega))
   exact ⟨⟨k+1,by omega,fun i hi hi2=>by
    by_cases hik:i<k
    ·exact hm i hik hi2
    ·have:i=k:=by omega
     subst this;exact hh⟩,WFn,by simp;omega⟩
  ·rw [hh] at hhit
   have hr:=zt3 h0 hb hle hh
   rw [hr]
   (repeat' (first|refine Va (fA8 zuS hw1 hle' hkk @zu4 @zeX hcast hhit) ?_|(with_reducible first|refine SB.c ?_ ?_<;>intro _|exact zac)|with_reducible refine zab ?_|omega))
 ·have hle':¬ ((k+(s.length+2):Nat):Int)≤87:=by omega
  have hr:=zrh (s:=s) (fun i hi=>hm i (by omega) hi)
  rw [hr]
  (repeat' (first|refine Va (fA3 zuS hw1 hle') ?_|(with_reducible first|refine SB.c ?_ ?_<;>intro _|exact zac)|with_reducible refine zab ?_|omega))
end Go.Proofs.YtfinhhblcdkpgaaGreatDoor
