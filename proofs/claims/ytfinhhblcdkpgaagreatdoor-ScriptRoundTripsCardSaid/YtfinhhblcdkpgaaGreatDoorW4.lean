/- A part of the walk (Tryz_W4): its theorems have no condition beyond what they state. -/
import Derived.Test.YtfinhhblcdkpgaaGreatDoorW3
import Derived.Test.YtfinhhblcdkpgaaGreatDoorS5
set_option maxRecDepth 100000
set_option maxHeartbeats 64000000
set_option linter.unusedSimpArgs false
set_option linter.unusedVariables false
set_option linter.defProp false
namespace Go.Proofs.YtfinhhblcdkpgaaGreatDoor
open Go Go.Abs Go.RowKit
theorem zhu (nm:List UInt8) (hnm:nm.length≤10) (l:List Sm) (hl:zbh l≤1000000) (hg:zan l=true) (hr:zim l=true) (t:List UInt8) (hb:t.length+(hdT nm l).length≤100000000000000) :
  AC Tryz.prog gl 84 [.ref 0 0,.pv (.str nm),.pv (.slice (l.map zam))] (wrO t) (.tup []) (wrQ (t++hdT nm l)):=by
 by_cases h0:l.length=0
 ·have h0':((l.length:Nat):Int)=0:=by omega
  have e:hdT nm l=[]:=by simp [hdT,h0]
  rw [e,List.append_nil]
  refine zgD (fun _=>2) 5 zFs ?_
  (repeat' (first|refine Va (fA2 zCq h0') ?_|(with_reducible first|refine SB.c ?_ ?_<;>intro _|exact zad)|with_reducible refine zac ?_|omega))
  refine ⟨⟨(.ref 0 0::jl 18 []),[some (.cells [.row 2 t.length]),some .dead,some (.row 1 (t.map zmJ)),none,none]⟩,(WMe [0,1,1,3,4] (by simp [kwt]) (by simp [kwt])),?_⟩
  (refine zaI.mk [0,1,2] ?_ ?_<;>simp [kwr,zCq])
 ·have h0':¬ ((l.length:Nat):Int)=0:=by omega
  have e:hdT nm l=[111,110,32]++(nm++[32,123,10])++lsT 1 l++[125,10]:=by
   unfold hdT
   rw [if_neg h0]
   simp only [List.append_assoc]
  rw [e] at hb ⊢
  simp only [List.length_append,List.length_cons,List.length_nil] at hb
  have c1:=zEU [111,110,32] nm [32,123,10] t (by simp only [List.length_append,List.length_cons,List.length_nil];omega)
  have c2:=zvm l hl hg hr (t++([111,110,32]++(nm++[32,123,10]))) (by simp only [List.length_append,List.length_cons,List.length_nil];omega)
  have c3:=zfR [125,10] (t++([111,110,32]++(nm++[32,123,10]))++lsT 1 l) (by simp only [List.length_append,List.length_cons,List.length_nil];omega)
  have ef:t++([111,110,32]++(nm++[32,123,10]))++lsT 1 l++[125,10]=t++([111,110,32]++(nm++[32,123,10])++lsT 1 l++[125,10]):=by simp only [List.append_assoc]
  rw [ef] at c3
  refine zax (fun _=>2) 5 zFs ?_
  (repeat' (first|refine Va (fA3 @kz zCq h0') ?_|(with_reducible first|refine SB.c ?_ ?_<;>intro _|exact zad)|refine CK.dx [0,1] [2] zaq c1 ?_|refine CK.dx [0,2] [3] zeI c2 ?_|refine CK.dx [0,3] [4] zaq c3 ?_|with_reducible refine zac ?_|omega))
  (refine zaI.mk [0,1,4] ?_ ?_<;>simp [kwr,zCq])
end Go.Proofs.YtfinhhblcdkpgaaGreatDoor
