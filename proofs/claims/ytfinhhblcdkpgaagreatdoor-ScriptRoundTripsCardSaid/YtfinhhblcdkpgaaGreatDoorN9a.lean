/- The next line ahead of the lists, and the first line of a script. No condition. -/
import Derived.Test.YtfinhhblcdkpgaaGreatDoorK7
import Derived.Test.YtfinhhblcdkpgaaGreatDoorLib3
import Derived.Test.YtfinhhblcdkpgaaGreatDoorN10
set_option maxRecDepth 100000
set_option maxHeartbeats 64000000
set_option linter.unusedSimpArgs false
set_option linter.unusedVariables false
set_option linter.defProp false
namespace Go.Proofs.YtfinhhblcdkpgaaGreatDoor
open Go Go.Abs Go.RowKit
abbrev rdN (ls:List (List UInt8)) (torn:Bool) (k:Nat) (p f:Int):List (Option AObj):=
 [some (.cells [.pv (.slice (ls.map zwg)),.pv (.bool torn),.pv (.int .i64 k),.snil,.pv (.int .i64 p),.pv (.int .i64 f),.snil])]
theorem zp3 (ls:List (List UInt8)) (torn:Bool) (p f:Int) (hl:ls.length≤1000000000) :
  AC Tryz.prog gl 60 [.ref 0 0] (rdN ls torn 0 p f) (.tup [.pv (.str (ls.getD 0 [])),.pv (.bool (decide (0<ls.length)))]) (rdN ls torn 1 p f):=by
 by_cases h:0<ls.length
 ·have h1:¬ ((1:Int) > ls.length):=by omega
  have h3:IntKind.i64.wrap 1=1:=by decide
  have h4:IntKind.i64.wrap 0=0:=by decide
  have hget:=zaV zwg ls 0 h
  have hg2:ls.getD 0 []=ls[0]:=by rw [List.getD_eq_getElem?_getD,List.getElem?_eq_getElem h];rfl
  rw [decide_eq_true h,hg2]
  generalize ls[0]=x at *
  replace hget:(ls.map zwg).getD 0 []=[.str x]:=hget
  refine zax (fun _=>3) 4 zCs ?_
  (repeat' (first|refine Va (fA6 zv8 h1 h3 h4 h hget) ?_|(with_reducible first|refine SB.c ?_ ?_<;>intro _|exact zad)|with_reducible refine zac ?_|omega))
  (refine zaI.mk [0] ?_ ?_<;>simp [kwr,zv8])
 ·have h1:((1:Int) > ls.length):=by omega
  have h3:IntKind.i64.wrap 1=1:=by decide
  have hg2:ls.getD 0 []=[]:=by rw [List.getD_eq_getElem?_getD,List.getElem?_eq_none (by omega)];rfl
  rw [decide_eq_false h,hg2]
  refine zax (fun _=>3) 4 zCs ?_
  (repeat' (first|refine Va (fA3 zv8 h1 h3) ?_|(with_reducible first|refine SB.c ?_ ?_<;>intro _|exact zad)|with_reducible refine zac ?_|omega))
  (refine zaI.mk [0] ?_ ?_<;>simp [kwr,zv8])
theorem zsy (ls:List (List UInt8)) (torn:Bool) (k:Nat) (f:Int) (line:List UInt8) (hl:line.length≤100000) :
  AC Tryz.prog gl 61 [.ref 0 0,.pv (.str line)] (rdN ls torn k 0 f) (.pv (.bool (zc1 line f).2.2)) (rdN ls torn k (zc1 line f).1 (zc1 line f).2.1):=by
 have cP:=zkV line 32 (by omega)
 have hpc:=zoT 32 line
 by_cases h3:(zaf 32 line).length=3
 ·match hs:zaf 32 line,h3 with
  |[a,b,c],_=>
   rw [zoQ line f a b c hs]
   rw [hs] at cP hpc
   have hc:=hpc c (by simp)
   have cN:=zin c (by omega)
   by_cases ha:a=[112,114,111,116,111,99,111,108]
   ·rw [if_pos ha]
    subst ha
    refine zax (fun _=>1) 2 zEe ?_
    (repeat' (first|refine Va (fA2 zuL @bne_self_eq_false.{0}) ?_|(with_reducible first|refine SB.c ?_ ?_<;>intro _|exact zad)|refine CK.d0 ze3 cP ?_|with_reducible refine zac ?_|omega))
    refine zbx (ι:={k:Nat // 1≤k∧k≤9}) (fun i=>⟨(.ref 0 0::jl 4 (.pv (.slice [[.str [112,114,111,116,111,99,111,108]],[.str b],[.str c]])::.pv (.int .i64 i.1)::jl 50 [])),(rdN ls torn k (zmd b i.1) f)++[none]⟩) (fun i=>9 - i.1) ⟨1,by omega,by omega⟩ (WFe (by simp [kwf,zoP]) (by simp [kwf,zoP])) ?_
    rintro ⟨j,hj1,hj⟩
    by_cases hlt:j<9
    ·have hlt':(j:Int)≤8:=by omega
     have hcell:=zsx j hlt
     simp only [zli,List.map_cons,List.map_nil] at hcell
     have hw:=zbu j (by omega)
     by_cases he:prF j=b
     ·have he':(prF (j:Int)==b)=true:=by simpa using he
      (repeat' (first|refine Va (fA7 zuL hlt hlt' hcell he' @Nat.mul_one hw) ?_|(with_reducible first|refine SB.c ?_ ?_<;>intro _|exact zad)|with_reducible refine zac ?_|omega))
      exact ⟨⟨j+1,by omega,by omega⟩,(WFe (by simp [kwf,zwh b j hj1 he]) (by simp [kwf,zwh b j hj1 he])),by show 9 - (j+1)<9 - j;omega⟩
     ·have he':(prF (j:Int)==b)=false:=by simpa using he
      (repeat' (first|refine Va (fA7 zuL hlt hlt' hcell he' @Nat.mul_one hw) ?_|(with_reducible first|refine SB.c ?_ ?_<;>intro _|exact zad)|with_reducible refine zac ?_|omega))
      exact ⟨⟨j+1,by omega,by omega⟩,(WFe (by simp [kwf,zwi b j he]) (by simp [kwf,zwi b j he])),by show 9 - (j+1)<9 - j;omega⟩
    ·have hlt':¬ (j:Int)≤8:=by omega
     have hj9:j=9:=by omega
     subst hj9
     (repeat' (first|refine Va (fA2 zuL hlt') ?_|(with_reducible first|refine SB.c ?_ ?_<;>intro _|exact zad)|refine CK.d0 zcT cN ?_|with_reducible refine zac ?_|omega))
     (refine zaI.mk [0] ?_ ?_<;>simp [kwr,zuL])
   ·rw [if_neg ha]
    have ha':(a==[112,114,111,116,111,99,111,108])=false:=by simpa using ha
    have ha2:(a != [112,114,111,116,111,99,111,108])=true:=by simpa using ha
    refine zax (fun _=>1) 2 zEe ?_
    (repeat' (first|refine Va (fA3 zuL ha' ha2) ?_|(with_reducible first|refine SB.c ?_ ?_<;>intro _|exact zad)|refine CK.d0 ze3 cP ?_|with_reducible refine zac ?_|omega))
    (refine zaI.mk [0] ?_ ?_<;>simp [kwr,zuL])
 ·have h3':(((zaf 32 line).length:Int)==3)=false:=by simpa using fun e=>h3 (by omega)
  have h32:(((zaf 32 line).length:Int) != 3)=true:=by simpa using fun e=>h3 (by omega)
  rw [zme line f h3]
  refine zax (fun _=>1) 2 zEe ?_
  (repeat' (first|refine Va (fA3 zuL h3' h32) ?_|(with_reducible first|refine SB.c ?_ ?_<;>intro _|exact zad)|refine CK.d0 ze3 cP ?_|with_reducible refine zac ?_|omega))
  (refine zaI.mk [0] ?_ ?_<;>simp [kwr,zuL])
end Go.Proofs.YtfinhhblcdkpgaaGreatDoor
