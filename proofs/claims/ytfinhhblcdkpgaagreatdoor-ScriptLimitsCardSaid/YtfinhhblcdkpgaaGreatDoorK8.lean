/- The reader's next line; equality of steps. No condition. -/
import Derived.Test.YtfinhhblcdkpgaaGreatDoorK6
import Derived.Test.YtfinhhblcdkpgaaGreatDoorLib3
set_option maxRecDepth 100000
set_option maxHeartbeats 64000000
set_option linter.unusedSimpArgs false
set_option linter.unusedVariables false
set_option linter.defProp false
namespace Go.Proofs.YtfinhhblcdkpgaaGreatDoor
open Go Go.Abs Go.RowKit
def zgr (c:CdD):List PVal:=[.slice (c.init.map zhO),.slice (c.start.map zai),.slice (c.message.map zai),.slice (c.tick.map zai),.slice (c.input.map zai)]
abbrev rdO (ls:List (List UInt8)) (torn:Bool) (k:Nat) (cs:List CdD) (p f:Int) (xs:List StD):List (Option AObj):=
 [some (.cells [.pv (.slice (ls.map ze0)),.pv (.bool torn),.pv (.int .i64 k),.row 1 cs.length,.pv (.int .i64 p),.pv (.int .i64 f),.row 2 xs.length]),some (.row 5 (cs.map zgr)),some (.row 4 (xs.map zcw))]
theorem zjE (ls:List (List UInt8)) (torn:Bool) (k:Nat) (cs:List CdD) (p f:Int) (xs:List StD) (hk:k≤1000000000) (hl:ls.length≤1000000000) :
  AC Tryz.prog gl 60 [.ref 0 0] (rdO ls torn k cs p f xs) (.tup [.pv (.str (ls.getD k [])),.pv (.bool (decide (k<ls.length)))]) (rdO ls torn (k+1) cs p f xs):=by
 have hw:=zaQ k (by omega)
 by_cases h:k<ls.length
 ·have h1:¬ (((k+1:Nat):Int) > ls.length):=by omega
  have h2:(((k+1:Nat):Int)) - 1=k:=by omega
  have h3:IntKind.i64.wrap (((k+1:Nat):Int) - 1)=k:=by rw [zaS _ (by omega) (by omega)];omega
  have hget:=zaA ze0 ls k h
  have hg2:ls.getD k []=ls[k]:=by rw [List.getD_eq_getElem?_getD,List.getElem?_eq_getElem h];rfl
  rw [decide_eq_true h,hg2]
  generalize ls[k]=x at *
  replace hget:(ls.map ze0).getD k []=[.str x]:=hget
  refine zax (fun _=>3) 4 zDl ?_
  repeat' first|refine Va (fA6 zw3 hw h1 h3 h hget) ?_|(with_reducible first|refine SB.c ?_ ?_<;>intro _|exact zad)|with_reducible refine zac ?_|omega
  (refine zay.mk [0,1,2] ?_ ?_<;>simp [kwr,zw3])
 ·have h1:(((k+1:Nat):Int) > ls.length):=by omega
  have hg2:ls.getD k []=[]:=by rw [List.getD_eq_getElem?_getD,List.getElem?_eq_none (by omega)];rfl
  rw [decide_eq_false h,hg2]
  refine zax (fun _=>3) 4 zDl ?_
  repeat' first|refine Va (fA3 zw3 hw h1) ?_|(with_reducible first|refine SB.c ?_ ?_<;>intro _|exact zad)|with_reducible refine zac ?_|omega
  (refine zay.mk [0,1,2] ?_ ?_<;>simp [kwr,zw3])
abbrev rdN (ls:List (List UInt8)) (torn:Bool) (k:Nat) (p f:Int):List (Option AObj):=
 [some (.cells [.pv (.slice (ls.map ze0)),.pv (.bool torn),.pv (.int .i64 k),.snil,.pv (.int .i64 p),.pv (.int .i64 f),.snil])]
theorem zq0 (ls:List (List UInt8)) (torn:Bool) (p f:Int) (hl:ls.length≤1000000000) :
  AC Tryz.prog gl 60 [.ref 0 0] (rdN ls torn 0 p f) (.tup [.pv (.str (ls.getD 0 [])),.pv (.bool (decide (0<ls.length)))]) (rdN ls torn 1 p f):=by
 by_cases h:0<ls.length
 ·have h1:¬ ((1:Int) > ls.length):=by omega
  have h3:IntKind.i64.wrap 1=1:=by decide
  have h4:IntKind.i64.wrap 0=0:=by decide
  have hget:=zaA ze0 ls 0 h
  have hg2:ls.getD 0 []=ls[0]:=by rw [List.getD_eq_getElem?_getD,List.getElem?_eq_getElem h];rfl
  rw [decide_eq_true h,hg2]
  generalize ls[0]=x at *
  replace hget:(ls.map ze0).getD 0 []=[.str x]:=hget
  refine zax (fun _=>3) 4 zDl ?_
  repeat' first|refine Va (fA6 zw3 h1 h3 h4 h hget) ?_|(with_reducible first|refine SB.c ?_ ?_<;>intro _|exact zad)|with_reducible refine zac ?_|omega
  (refine zay.mk [0] ?_ ?_<;>simp [kwr,zw3])
 ·have h1:((1:Int) > ls.length):=by omega
  have h3:IntKind.i64.wrap 1=1:=by decide
  have hg2:ls.getD 0 []=[]:=by rw [List.getD_eq_getElem?_getD,List.getElem?_eq_none (by omega)];rfl
  rw [decide_eq_false h,hg2]
  refine zax (fun _=>3) 4 zDl ?_
  repeat' first|refine Va (fA3 zw3 h1 h3) ?_|(with_reducible first|refine SB.c ?_ ?_<;>intro _|exact zad)|with_reducible refine zac ?_|omega
  (refine zay.mk [0] ?_ ?_<;>simp [kwr,zw3])
theorem ztx (ls:List (List UInt8)) (torn:Bool) (k:Nat) (f:Int) (line:List UInt8) (hl:line.length≤100000) :
  AC Tryz.prog gl 61 [.ref 0 0,.pv (.str line)] (rdN ls torn k 0 f) (.pv (.bool (zcx line f).2.2)) (rdN ls torn k (zcx line f).1 (zcx line f).2.1):=by
 have cP:=zlQ line 32 (by omega)
 have hpc:=zg7 32 line
 by_cases h3:(zaj 32 line).length=3
 ·match hs:zaj 32 line,h3 with
  |[a,b,c],_=>
   rw [zpN line f a b c hs]
   rw [hs] at cP hpc
   have hc:=hpc c (by simp)
   have cN:=zjw c (by omega)
   by_cases ha:a=[112,114,111,116,111,99,111,108]
   ·rw [if_pos ha]
    subst ha
    refine zax (fun _=>1) 2 zFg ?_
    repeat' first|refine Va (fA2 zvy @bne_self_eq_false.{0}) ?_|(with_reducible first|refine SB.c ?_ ?_<;>intro _|exact zad)|refine CK.d0 zfC cP ?_|with_reducible refine zac ?_|omega
    refine zaI (ι:={k:Nat // 1≤k∧k≤9}) (fun i=>⟨(.ref 0 0::jl 4 (.pv (.slice [[.str [112,114,111,116,111,99,111,108]],[.str b],[.str c]])::.pv (.int .i64 i.1)::jl 50 [])),(rdN ls torn k (znq b i.1) f)++[none]⟩) (fun i=>9 - i.1) ⟨1,by omega,by omega⟩ (WFe (by simp [kwf,zpM]) (by simp [kwf,zpM])) ?_
    rintro ⟨j,hj1,hj⟩
    by_cases hlt:j<9
    ·have hlt':(j:Int)≤8:=by omega
     have hcell:=ztw j hlt
     simp only [zlR,List.map_cons,List.map_nil] at hcell
     have hw:=zaQ j (by omega)
     by_cases he:prF j=b
     ·have he':(prF (j:Int)==b)=true:=by simpa using he
      repeat' first|refine Va (fA7 zvy hlt hlt' hcell he' @Nat.mul_one hw) ?_|(with_reducible first|refine SB.c ?_ ?_<;>intro _|exact zad)|with_reducible refine zac ?_|omega
      exact ⟨⟨j+1,by omega,by omega⟩,(WFe (by simp [kwf,zxe b j hj1 he]) (by simp [kwf,zxe b j hj1 he])),by show 9 - (j+1)<9 - j;omega⟩
     ·have he':(prF (j:Int)==b)=false:=by simpa using he
      repeat' first|refine Va (fA7 zvy hlt hlt' hcell he' @Nat.mul_one hw) ?_|(with_reducible first|refine SB.c ?_ ?_<;>intro _|exact zad)|with_reducible refine zac ?_|omega
      exact ⟨⟨j+1,by omega,by omega⟩,(WFe (by simp [kwf,zxf b j he]) (by simp [kwf,zxf b j he])),by show 9 - (j+1)<9 - j;omega⟩
    ·have hlt':¬ (j:Int)≤8:=by omega
     have hj9:j=9:=by omega
     subst hj9
     repeat' first|refine Va (fA2 zvy hlt') ?_|(with_reducible first|refine SB.c ?_ ?_<;>intro _|exact zad)|refine CK.d0 zdn cN ?_|with_reducible refine zac ?_|omega
     (refine zay.mk [0] ?_ ?_<;>simp [kwr,zvy])
   ·rw [if_neg ha]
    have ha':(a==[112,114,111,116,111,99,111,108])=false:=by simpa using ha
    have ha2:(a != [112,114,111,116,111,99,111,108])=true:=by simpa using ha
    refine zax (fun _=>1) 2 zFg ?_
    repeat' first|refine Va (fA3 zvy ha' ha2) ?_|(with_reducible first|refine SB.c ?_ ?_<;>intro _|exact zad)|refine CK.d0 zfC cP ?_|with_reducible refine zac ?_|omega
    (refine zay.mk [0] ?_ ?_<;>simp [kwr,zvy])
 ·have h3':(((zaj 32 line).length:Int)==3)=false:=by simpa using fun e=>h3 (by omega)
  have h32:(((zaj 32 line).length:Int) != 3)=true:=by simpa using fun e=>h3 (by omega)
  rw [znr line f h3]
  refine zax (fun _=>1) 2 zFg ?_
  repeat' first|refine Va (fA3 zvy h3' h32) ?_|(with_reducible first|refine SB.c ?_ ?_<;>intro _|exact zad)|refine CK.d0 zfC cP ?_|with_reducible refine zac ?_|omega
  (refine zay.mk [0] ?_ ?_<;>simp [kwr,zvy])
end Go.Proofs.YtfinhhblcdkpgaaGreatDoor
