/- The next line ahead of the lists, and the first line of a script. No condition. -/
import Derived.Test.YtfinhhblcdkpgaaGreatDoorK7
import Derived.Test.YtfinhhblcdkpgaaGreatDoorLib3
import Derived.Test.YtfinhhblcdkpgaaGreatDoorN12
set_option maxRecDepth 100000
set_option maxHeartbeats 64000000
namespace Go.Proofs.YtfinhhblcdkpgaaGreatDoor
open Go Go.Abs Go.RowKit
abbrev rdN (ls:List (List UInt8)) (torn:Bool) (k:Nat) (p f:Int):List (Option AObj):=
 [some (.cells [.pv (.slice (ls.map zwc)),.pv (.bool torn),.pv (.int .i64 k),.snil,.pv (.int .i64 p),.pv (.int .i64 f),.snil])]
theorem zpX (ls:List (List UInt8)) (torn:Bool) (p f:Int) (hl:ls.length≤1000000000) :
  AC Tryz.prog gl 60 [.ref 0 0] (rdN ls torn 0 p f) (.tup [.pv (.str (ls.getD 0 [])),.pv (.bool (decide (0<ls.length)))]) (rdN ls torn 1 p f):=by
 by_cases h:0<ls.length
 ·have h1:¬ ((1:Int) > ls.length):=by omega
  have h3:IntKind.i64.wrap 1=1:=by decide
  have h4:IntKind.i64.wrap 0=0:=by decide
  have hget:=zaV zwc ls 0 h
  have hg2:ls.getD 0 []=ls[0]:=by rw [List.getD_eq_getElem?_getD,List.getElem?_eq_getElem h];rfl
  rw [decide_eq_true h,hg2]
  generalize ls[0]=x at *
  replace hget:(ls.map zwc).getD 0 []=[.str x]:=hget
  refine zax (fun _=>3) 4 zCf ?_
  (repeat' (first|refine V0 (And.intro zv4 <|And.intro @h1 <|And.intro @h3 <|And.intro @h4 <|And.intro @h @hget) ?_|(with_reducible first|refine SB.c (fun _=>?_) fun _=>?_|exact zad)|with_reducible refine zac ?_|omega))
  (refine zaH.mk [0] ?_ ?_<;>simp [kwr,zv4])
 ·have h1:((1:Int) > ls.length):=by omega
  have h3:IntKind.i64.wrap 1=1:=by decide
  have hg2:ls.getD 0 []=[]:=by rw [List.getD_eq_getElem?_getD,List.getElem?_eq_none (by omega)];rfl
  rw [decide_eq_false h,hg2]
  refine zax (fun _=>3) 4 zCf ?_
  (repeat' (first|refine V0 (And.intro zv4 <|And.intro @h1 @h3) ?_|(with_reducible first|refine SB.c (fun _=>?_) fun _=>?_|exact zad)|with_reducible refine zac ?_|omega))
  (refine zaH.mk [0] ?_ ?_<;>simp [kwr,zv4])
theorem zsv (ls:List (List UInt8)) (torn:Bool) (k:Nat) (f:Int) (line:List UInt8) (hl:line.length≤100000) :
  AC Tryz.prog gl 61 [.ref 0 0,.pv (.str line)] (rdN ls torn k 0 f) (.pv (.bool (zc0 line f).2.2)) (rdN ls torn k (zc0 line f).1 (zc0 line f).2.1):=by
 have cP:=zkS line 32 (by omega)
 have hpc:=zoL 32 line
 by_cases h3:(zaf 32 line).length=3
 ·match hs:zaf 32 line,h3 with
  |[a,b,c],_=>
   rw [zoI line f a b c hs]
   rw [hs] at cP hpc
   have hc:=hpc c (by simp)
   have cN:=zin c (by omega)
   by_cases ha:a=[112,114,111,116,111,99,111,108]
   ·rw [if_pos ha]
    subst ha
    refine zax (fun _=>1) 2 zD0 ?_
    (repeat' (first|refine V0 (And.intro zuH @bne_self_eq_false.{0}) ?_|(with_reducible first|refine SB.c (fun _=>?_) fun _=>?_|exact zad)|refine CK.d0 ze0 cP ?_|with_reducible refine zac ?_|omega))
    refine zbw (ι:={k:Nat // 1≤k∧k≤9}) (fun i=>⟨(.ref 0 0::jl 4 (.pv (.slice [[.str [112,114,111,116,111,99,111,108]],[.str b],[.str c]])::.pv (.int .i64 i.1)::jl 50 [])),(rdN ls torn k (zma b i.1) f)++[none]⟩) (fun i=>9 - i.1) ⟨1,by omega,by omega⟩ (WFe (by simp [kwf,zoH]) (by simp [kwf,zoH])) ?_
    rintro ⟨j,hj1,hj⟩
    by_cases hlt:j<9
    ·have hlt':(j:Int)≤8:=by omega
     have hcell:=zsu j hlt
     simp only [zlf,List.map_cons,List.map_nil] at hcell
     have hw:=zbu j (by omega)
     by_cases he:prF j=b
     ·have he':(prF (j:Int)==b)=true:=by simpa using he
      (repeat' (first|refine V0 (And.intro zuH <|And.intro @hlt <|And.intro @hlt' <|And.intro @hcell <|And.intro @he' <|And.intro @Nat.mul_one @hw) ?_|(with_reducible first|refine SB.c (fun _=>?_) fun _=>?_|exact zad)|with_reducible refine zac ?_|omega))
      exact ⟨⟨j+1,by omega,by omega⟩,(WFe (by simp [kwf,zwd b j hj1 he]) (by simp [kwf,zwd b j hj1 he])),by show 9 - (j+1)<9 - j;omega⟩
     ·have he':(prF (j:Int)==b)=false:=by simpa using he
      (repeat' (first|refine V0 (And.intro zuH <|And.intro @hlt <|And.intro @hlt' <|And.intro @hcell <|And.intro @he' <|And.intro @Nat.mul_one @hw) ?_|(with_reducible first|refine SB.c (fun _=>?_) fun _=>?_|exact zad)|with_reducible refine zac ?_|omega))
      exact ⟨⟨j+1,by omega,by omega⟩,(WFe (by simp [kwf,zwe b j he]) (by simp [kwf,zwe b j he])),by show 9 - (j+1)<9 - j;omega⟩
    ·have hlt':¬ (j:Int)≤8:=by omega
     have hj9:j=9:=by omega
     subst hj9
     (repeat' (first|refine V0 (And.intro zuH @hlt') ?_|(with_reducible first|refine SB.c (fun _=>?_) fun _=>?_|exact zad)|refine CK.d0 zcS cN ?_|with_reducible refine zac ?_|omega))
     (refine zaH.mk [0] ?_ ?_<;>simp [kwr,zuH])
   ·rw [if_neg ha]
    have ha':(a==[112,114,111,116,111,99,111,108])=false:=by simpa using ha
    have ha2:(a != [112,114,111,116,111,99,111,108])=true:=by simpa using ha
    refine zax (fun _=>1) 2 zD0 ?_
    (repeat' (first|refine V0 (And.intro zuH <|And.intro @ha' @ha2) ?_|(with_reducible first|refine SB.c (fun _=>?_) fun _=>?_|exact zad)|refine CK.d0 ze0 cP ?_|with_reducible refine zac ?_|omega))
    (refine zaH.mk [0] ?_ ?_<;>simp [kwr,zuH])
 ·have h3':(((zaf 32 line).length:Int)==3)=false:=by simpa using fun e=>h3 (by omega)
  have h32:(((zaf 32 line).length:Int) != 3)=true:=by simpa using fun e=>h3 (by omega)
  rw [zmb line f h3]
  refine zax (fun _=>1) 2 zD0 ?_
  (repeat' (first|refine V0 (And.intro zuH <|And.intro @h3' @h32) ?_|(with_reducible first|refine SB.c (fun _=>?_) fun _=>?_|exact zad)|refine CK.d0 ze0 cP ?_|with_reducible refine zac ?_|omega))
  (refine zaH.mk [0] ?_ ?_<;>simp [kwr,zuH])
theorem znn (s:List UInt8):AC Tryz.prog gl 128 [.pv (.str s)] [] (.pv (.bool (zFf s))) []:=by
 refine zaK (fun _=>0) 0 zEa ?_
 (repeat' (first|refine V0 zDP ?_|(with_reducible first|refine SB.c (fun _=>?_) fun _=>?_|exact zad)|with_reducible refine zac ?_|omega))
 all_goals grind [zFf]
theorem zhs (s:List UInt8):AC Tryz.prog gl 92 [.pv (.str s)] [] (.pv (.bool (zbb s))) []:=by
 refine zaK (fun _=>0) 0 zGX ?_
 by_cases h0:s=[]
 ·subst h0
  (repeat' (first|refine V0 zDM ?_|(with_reducible first|refine SB.c (fun _=>?_) fun _=>?_|exact zad)|with_reducible refine zac ?_|omega))
  simp [zbb]
 have h0':(s==[])=false:=by simpa using h0
 have hlen:0<s.length:=List.length_pos_iff.2 h0
 by_cases h16:(s.length:Int) > 16
 ·rw [zh4 s (by omega)]
  (repeat' (first|refine V0 (And.intro zDM <|And.intro @h0' @h16) ?_|(with_reducible first|refine SB.c (fun _=>?_) fun _=>?_|exact zad)|with_reducible refine zac ?_|omega))
 ·have cW:=znk s 0 (by omega) (by omega)
  have cR:=znn s
  have hlen':(0:Int)<s.length:=by omega
  have hv:zbb s=(zeJ (s.getD 0 0).toNat&&((((zcc isW s 0:Nat):Int)==(s.length:Int))&&!resF s)):=by
   unfold zbb
   rw [h0',decide_eq_false h16]
   simp [zrS]
  rw [hv]
  (repeat' (first|refine V0 (And.intro zDM <|And.intro @h0' <|And.intro @h16 <|And.intro @hlen @hlen') ?_|(with_reducible first|refine SB.c (fun _=>?_) fun _=>?_|exact zad)|refine CK.d0 zdp (zdx _) ?_|refine CK.d0 zeF cW ?_|refine CK.d0 zrG cR ?_|with_reducible refine zac ?_|omega))
  all_goals grind
end Go.Proofs.YtfinhhblcdkpgaaGreatDoor
