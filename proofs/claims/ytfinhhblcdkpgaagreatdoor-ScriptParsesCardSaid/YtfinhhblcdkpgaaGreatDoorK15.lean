/- The reader's next line; equality of steps. No condition. -/
import Derived.Test.YtfinhhblcdkpgaaGreatDoorLib2
import Derived.Test.YtfinhhblcdkpgaaGreatDoorK6
import Derived.Test.YtfinhhblcdkpgaaGreatDoorLib3
set_option maxRecDepth 100000
set_option maxHeartbeats 64000000
set_option linter.unusedSimpArgs false
set_option linter.unusedVariables false
namespace Go.Proofs.YtfinhhblcdkpgaaGreatDoor
open Go Go.Abs Go.RowKit
def zgT (c:CdD):List PVal:=[.slice (c.init.map ziv),.slice (c.start.map zah),.slice (c.message.map zah),.slice (c.tick.map zah),.slice (c.input.map zah)]
abbrev rdO (ls:List (List UInt8)) (torn:Bool) (k:Nat) (cs:List CdD) (p f:Int) (xs:List StD):List (Option AObj):=
 [some (.cells [.pv (.slice (ls.map zff)),.pv (.bool torn),.pv (.int .i64 k),.row 1 cs.length,.pv (.int .i64 p),.pv (.int .i64 f),.row 2 xs.length]),some (.row 5 (cs.map zgT)),some (.row 4 (xs.map zcw))]
theorem zkg (ls:List (List UInt8)) (torn:Bool) (k:Nat) (cs:List CdD) (p f:Int) (xs:List StD) (hk:k≤1000000000) (hl:ls.length≤1000000000) :
  AC Tryz.prog gl 60 [.ref 0 0] (rdO ls torn k cs p f xs) (.tup [.pv (.str (ls.getD k [])),.pv (.bool (decide (k<ls.length)))]) (rdO ls torn (k+1) cs p f xs):=by
 have hw:=zaP k (by omega)
 by_cases h:k<ls.length
 ·have h1:¬ (((k+1:Nat):Int) > ls.length):=by omega
  have h2:(((k+1:Nat):Int)) - 1=k:=by omega
  have h3:IntKind.i64.wrap (((k+1:Nat):Int) - 1)=k:=by rw [zay _ (by omega) (by omega)];omega
  have hget:=zaE zff ls k h
  have hg2:ls.getD k []=ls[k]:=by rw [List.getD_eq_getElem?_getD,List.getElem?_eq_getElem h];rfl
  rw [decide_eq_true h,hg2]
  generalize ls[k]=x at *
  replace hget:(ls.map zff).getD k []=[.str x]:=hget
  refine zat (fun _=>3) 4 zEU ?_
  refine Wk1 (fA6 zyi hw h1 h3 h hget) ?_
  (refine zax.mk [0,1,2] ?_ ?_<;>simp [kwr,zyi])
 ·have h1:(((k+1:Nat):Int) > ls.length):=by omega
  have hg2:ls.getD k []=[]:=by rw [List.getD_eq_getElem?_getD,List.getElem?_eq_none (by omega)];rfl
  rw [decide_eq_false h,hg2]
  refine zat (fun _=>3) 4 zEU ?_
  refine Wk1 (fA3 zyi hw h1) ?_
  (refine zax.mk [0,1,2] ?_ ?_<;>simp [kwr,zyi])
abbrev rdN (ls:List (List UInt8)) (torn:Bool) (k:Nat) (p f:Int):List (Option AObj):=
 [some (.cells [.pv (.slice (ls.map zff)),.pv (.bool torn),.pv (.int .i64 k),.snil,.pv (.int .i64 p),.pv (.int .i64 f),.snil])]
theorem zr3 (ls:List (List UInt8)) (torn:Bool) (p f:Int) (hl:ls.length≤1000000000) :
  AC Tryz.prog gl 60 [.ref 0 0] (rdN ls torn 0 p f) (.tup [.pv (.str (ls.getD 0 [])),.pv (.bool (decide (0<ls.length)))]) (rdN ls torn 1 p f):=by
 by_cases h:0<ls.length
 ·have h1:¬ ((1:Int) > ls.length):=by omega
  have h3:IntKind.i64.wrap 1=1:=by decide
  have h4:IntKind.i64.wrap 0=0:=by decide
  have hget:=zaE zff ls 0 h
  have hg2:ls.getD 0 []=ls[0]:=by rw [List.getD_eq_getElem?_getD,List.getElem?_eq_getElem h];rfl
  rw [decide_eq_true h,hg2]
  generalize ls[0]=x at *
  replace hget:(ls.map zff).getD 0 []=[.str x]:=hget
  refine zat (fun _=>3) 4 zEU ?_
  refine Wk1 (fA6 zyi h1 h3 h4 h hget) ?_
  (refine zax.mk [0] ?_ ?_<;>simp [kwr,zyi])
 ·have h1:((1:Int) > ls.length):=by omega
  have h3:IntKind.i64.wrap 1=1:=by decide
  have hg2:ls.getD 0 []=[]:=by rw [List.getD_eq_getElem?_getD,List.getElem?_eq_none (by omega)];rfl
  rw [decide_eq_false h,hg2]
  refine zat (fun _=>3) 4 zEU ?_
  refine Wk1 (fA3 zyi h1 h3) ?_
  (refine zax.mk [0] ?_ ?_<;>simp [kwr,zyi])
theorem zuK (ls:List (List UInt8)) (torn:Bool) (k:Nat) (f:Int) (line:List UInt8) (hl:line.length≤100000) :
  AC Tryz.prog gl 61 [.ref 0 0,.pv (.str line)] (rdN ls torn k 0 f) (.pv (.bool (zc1 line f).2.2)) (rdN ls torn k (zc1 line f).1 (zc1 line f).2.1):=by
 have cP:=zmi line 32 (by omega)
 have hpc:=zhF 32 line
 by_cases h3:(zal 32 line).length=3
 ·match hs:zal 32 line,h3 with
  |[a,b,c],_=>
   rw [zqC line f a b c hs]
   rw [hs] at cP hpc
   have hc:=hpc c (by simp)
   have cN:=zj8 c (by omega)
   by_cases ha:a=[112,114,111,116,111,99,111,108]
   ·rw [if_pos ha]
    subst ha
    refine zat (fun _=>1) 2 zGS ?_
    repeat' first|refine Va (fA2 zwI @bne_self_eq_false.{0}) ?_|(with_reducible first|refine SB.c ?_ ?_<;>intro _|exact zak)|refine CK.d0 zfU cP ?_|with_reducible refine zaj ?_|omega
    refine zaK (ι:={k:Nat // 1≤k∧k≤9}) (fun i=>⟨(.ref 0 0::jl 4 (.pv (.slice [[.str [112,114,111,116,111,99,111,108]],[.str b],[.str c]])::.pv (.int .i64 i.1)::jl 50 [])),(rdN ls torn k (znO b i.1) f)++[none]⟩) (fun i=>9 - i.1) ⟨1,by omega,by omega⟩ (WFe (by simp [kwf,zqB]) (by simp [kwf,zqB])) ?_
    rintro ⟨j,hj1,hj⟩
    by_cases hlt:j<9
    ·have hlt':(j:Int)≤8:=by omega
     have hcell:=zAL j hlt
     simp only [zmQ,List.map_cons,List.map_nil] at hcell
     have hw:=zaP j (by omega)
     by_cases he:prF j=b
     ·have he':(prF (j:Int)==b)=true:=by simpa using he
      refine Wk1 (fA7 zwI hlt hlt' hcell he' @Nat.mul_one hw) ?_
      exact ⟨⟨j+1,by omega,by omega⟩,(WFe (by simp [kwf,zyt b j hj1 he]) (by simp [kwf,zyt b j hj1 he])),by show 9 - (j+1)<9 - j;omega⟩
     ·have he':(prF (j:Int)==b)=false:=by simpa using he
      refine Wk1 (fA7 zwI hlt hlt' hcell he' @Nat.mul_one hw) ?_
      exact ⟨⟨j+1,by omega,by omega⟩,(WFe (by simp [kwf,zyu b j he]) (by simp [kwf,zyu b j he])),by show 9 - (j+1)<9 - j;omega⟩
    ·have hlt':¬ (j:Int)≤8:=by omega
     have hj9:j=9:=by omega
     subst hj9
     refine Wk1 (fA3 zwI hlt' (CE.mk zdA cN)) ?_
     (refine zax.mk [0] ?_ ?_<;>simp [kwr,zwI])
   ·rw [if_neg ha]
    have ha':(a==[112,114,111,116,111,99,111,108])=false:=by simpa using ha
    have ha2:(a != [112,114,111,116,111,99,111,108])=true:=by simpa using ha
    refine zat (fun _=>1) 2 zGS ?_
    refine Wk1 (fA4 zwI ha' ha2 (CE.mk zfU cP)) ?_
    (refine zax.mk [0] ?_ ?_<;>simp [kwr,zwI])
 ·have h3':(((zal 32 line).length:Int)==3)=false:=by simpa using fun e=>h3 (by omega)
  have h32:(((zal 32 line).length:Int) != 3)=true:=by simpa using fun e=>h3 (by omega)
  rw [znP line f h3]
  refine zat (fun _=>1) 2 zGS ?_
  refine Wk1 (fA4 zwI h3' h32 (CE.mk zfU cP)) ?_
  (refine zax.mk [0] ?_ ?_<;>simp [kwr,zwI])
open Go Go.Abs
structure KdI (a:List UInt8) where
 k:Nat
 h1:1≤k
 h2:k≤15
 no:∀ j:Nat,1≤j→j<k→wdF j≠a
theorem zxC (line:List UInt8) (hl:line.length≤100000):AC Tryz.prog gl 63 [.pv (.str line)] [] (.tup [stA (zcW line).1,.pv (.bool (zcW line).2)]) []:=by
 have cP:=zmi line 32 (by omega)
 have hpc:=zhF 32 line
 have hnum:=zhG 32 line
 obtain ⟨a,l,hs⟩:∃ a l,zal 32 line=a::l:=by
  match h:zal 32 line,zbM 32 line with
  |a::l,_=>exact ⟨a,l,rfl⟩
 have hnl:∀ w ∈ l,w.length≤100000:=fun w hw=>by
  have:=hpc w (by rw [hs];simp [hw])
  omega
 rw [hs,List.length_cons] at hnum
 clear hpc
 rw [hs] at cP
 have w0:IntKind.i64.wrap 0=0:=by decide
 have w1:IntKind.i64.wrap 1=1:=by decide
 have w2:IntKind.i64.wrap 2=2:=by decide
 generalize hG:zcW line=G
 refine zas (fun d=>if d=2 then 0 else 1) 3 zJP ?_
 refine Wk1 (fA2 zh1 (CE.mk zfU cP)) ?_
 refine zaK (ι:=KdI a) (fun i=>⟨(.junk::.junk::.ref 0 0::.pv (.bool false)::.pv (.slice ([.str a]::l.map fun x=>[.str x]))::.pv (.int .i64 i.k)::jl 54 []),[some (.cells [.pv (.int .i64 0),.pv (.int .i64 0),.pv (.int .i64 0),.pv (.int .i64 0)]),none,none]⟩) (fun i=>15 - i.k) ⟨1,by omega,by omega,fun j h1 h2=>by omega⟩ WFn ?_
 rintro ⟨k,h1,h2,hno⟩
 by_cases hlt:k<15
 ·have hlt':(k:Int)≤14:=by omega
  have hk1:1≤(k:Int):=by omega
  have hcell:=zAK k hlt
  simp only [zxn,List.map_cons,List.map_nil] at hcell
  have hw:=zaP k (by omega)
  by_cases he:wdF k=a
  ·subst he
   have hne:(wdF (k:Int)==wdF (k:Int))=true:=by simp
   rcases zcs k with ⟨_,hsh⟩|⟨_,hsh⟩|⟨_,hsh⟩|⟨_,_,_,_,_,_,_,_,_,_,_,hsh⟩
   ·have cF:=zrZ ⟨k,0,0,0⟩ hsh
    have hnf:nfF k=1:=by simp [nfF,hsh]
    match l,hs,hnl,hnum with
    |[],hs,_,_=>
     have:=zdK hs hk1 hlt' (by rw [hnf];simp)
     rw [hG] at this
     subst this
     refine Wk0 (zhQ @kz zh1 hlt hlt' hcell hne @Nat.mul_one w0 w1 w2 @stA.eq_1 @st0.eq_1 (cX [1] [2] zbZ cF))
    |[b],hs,hnl,_=>
     have:=zAH hs hk1 hlt' hsh
     rw [hG] at this
     have cN:=zj8 b (hnl b (by simp))
     cases hb:(zaX b).2
     ·rw [hb,if_neg (by simp)] at this
      subst this
      rw [zqG hb] at cN
      refine Wk1 (zhQ @kz zh1 hlt hlt' hcell hne @Nat.mul_one w0 w1 w2 @stA.eq_1 @st0.eq_1 (cX [1] [2] zbZ cF)) ?_
      refine LW.rounds (zfc _ _) mixed 2 ?_
      repeat' first|refine Va (fA6 zh1 @zfJ w1 w2 @stA.eq_1 @st0.eq_1) ?_|(with_reducible first|refine SB.c ?_ ?_<;>intro _|exact zak)|refine CK.d0 zdA cN ?_|with_reducible refine zaj ?_|omega
     ·rw [hb,if_pos rfl] at this
      subst this
      rw [zqF hb] at cN
      refine Wk1 (zg8 @kz zh1 hlt hlt' hcell hne @Nat.mul_one w0 w1 w2 @stA.eq_1 (cX [1] [2] zbZ cF)) ?_
      refine LW.rounds (zfc _ _) mixed 2 ?_
      repeat' first|refine Va (fA5 zh1 @zfJ w1 w2 @stA.eq_1) ?_|(with_reducible first|refine SB.c ?_ ?_<;>intro _|exact zak)|refine CK.d0 zdA cN ?_|with_reducible refine zaj ?_|omega
    |b::c::r,hs,_,hnum=>
     simp only [List.length_cons] at hnum
     have hwl:IntKind.i64.wrap (((r.length+1+1+1:Nat):Int) - 1)=(r.length:Int)+2:=by rw [zay _ (by omega) (by omega)];omega
     have hwn:((1:Int) != (r.length:Int)+2)=true:=by simp;omega
     have:=zdK hs hk1 hlt' (by rw [hnf];simp)
     rw [hG] at this
     subst this
     refine Wk0 (zg8 @kz zh1 hlt hlt' hcell hne @Nat.mul_one hwl hwn @stA.eq_1 @st0.eq_1 (cX [1] [2] zbZ cF))
   ·have cF:=zr0 ⟨k,0,0,0⟩ hsh
    have hnf:nfF k=2:=by simp [nfF,hsh]
    match l,hs,hnl,hnum with
    |[],hs,_,_=>
     have:=zdK hs hk1 hlt' (by rw [hnf];simp)
     rw [hG] at this
     subst this
     refine Wk0 (zhQ @kz zh1 hlt hlt' hcell hne @Nat.mul_one w0 w1 w2 @stA.eq_1 @st0.eq_1 (cX [1] [2] zbZ cF))
    |[b],hs,_,_=>
     have:=zdK hs hk1 hlt' (by rw [hnf];simp)
     rw [hG] at this
     subst this
     refine Wk0 (zhQ @kz zh1 hlt hlt' hcell hne @Nat.mul_one w0 w1 w2 @stA.eq_1 @st0.eq_1 (cX [1] [2] zbZ cF))
    |[b,c],hs,hnl,_=>
     have:=zAJ hs hk1 hlt' hsh
     rw [hG] at this
     have cN:=zj8 b (hnl b (by simp))
     have cM:=zj8 c (hnl c (by simp))
     cases hb:(zaX b).2
     ·rw [hb,if_neg (by simp)] at this
      subst this
      rw [zqG hb] at cN
      refine Wk1 (zhQ @kz zh1 hlt hlt' hcell hne @Nat.mul_one w0 w1 w2 @stA.eq_1 @st0.eq_1 (cX [1] [2] zbZ cF)) ?_
      refine LW.rounds (zfc _ _) mixed 3 ?_
      repeat' first|refine Va (fA6 zh1 @zfJ w1 w2 @stA.eq_1 @st0.eq_1) ?_|(with_reducible first|refine SB.c ?_ ?_<;>intro _|exact zak)|refine CK.d0 zdA cN ?_|with_reducible refine zaj ?_|omega
     ·rw [hb,if_pos rfl] at this
      rw [zqF hb] at cN
      cases hc:(zaX c).2
      ·rw [hc,if_neg (by simp)] at this
       subst this
       rw [zqG hc] at cM
       refine Wk1 (zhQ @kz zh1 hlt hlt' hcell hne @Nat.mul_one w0 w1 w2 @stA.eq_1 @st0.eq_1 (cX [1] [2] zbZ cF)) ?_
       refine LW.rounds (zfc _ _) mixed 3 ?_
       repeat' first|refine Va (fA6 zh1 @zfJ w1 w2 @stA.eq_1 @st0.eq_1) ?_|(with_reducible first|refine SB.c ?_ ?_<;>intro _|exact zak)|refine CK.d0 zdA cN ?_|refine CK.d0 zdA cM ?_|with_reducible refine zaj ?_|omega
      ·rw [hc,if_pos rfl] at this
       subst this
       rw [zqF hc] at cM
       refine Wk1 (zg8 @kz zh1 hlt hlt' hcell hne @Nat.mul_one w0 w1 w2 @stA.eq_1 (cX [1] [2] zbZ cF)) ?_
       refine LW.rounds (zfc _ _) mixed 3 ?_
       repeat' first|refine Va (fA5 zh1 @zfJ w1 w2 @stA.eq_1) ?_|(with_reducible first|refine SB.c ?_ ?_<;>intro _|exact zak)|refine CK.d0 zdA cN ?_|refine CK.d0 zdA cM ?_|with_reducible refine zaj ?_|omega
    |b::c::d::r,hs,_,hnum=>
     simp only [List.length_cons] at hnum
     have hwl:IntKind.i64.wrap (((r.length+1+1+1+1:Nat):Int) - 1)=(r.length:Int)+3:=by rw [zay _ (by omega) (by omega)];omega
     have hwn:((2:Int) != (r.length:Int)+3)=true:=by simp;omega
     have:=zdK hs hk1 hlt' (by rw [hnf];simp)
     rw [hG] at this
     subst this
     refine Wk0 (zg8 @kz zh1 hlt hlt' hcell hne @Nat.mul_one hwl hwn @stA.eq_1 @st0.eq_1 (cX [1] [2] zbZ cF))
   ·have cF:=zr1 ⟨k,0,0,0⟩ hsh
    have hnf:nfF k=1:=by simp [nfF,hsh]
    match l,hs,hnl,hnum with
    |[],hs,_,_=>
     have:=zdK hs hk1 hlt' (by rw [hnf];simp)
     rw [hG] at this
     subst this
     refine Wk0 (zhQ @kz zh1 hlt hlt' hcell hne @Nat.mul_one w0 w1 w2 @stA.eq_1 @st0.eq_1 (cX [1] [2] zbZ cF))
    |[b],hs,hnl,_=>
     have:=zAI hs hk1 hlt' hsh
     rw [hG] at this
     have cN:=zj8 b (hnl b (by simp))
     cases hb:(zaX b).2
     ·rw [hb,if_neg (by simp)] at this
      subst this
      rw [zqG hb] at cN
      refine Wk1 (zhQ @kz zh1 hlt hlt' hcell hne @Nat.mul_one w0 w1 w2 @stA.eq_1 @st0.eq_1 (cX [1] [2] zbZ cF)) ?_
      refine LW.rounds (zfc _ _) mixed 2 ?_
      repeat' first|refine Va (fA6 zh1 @zfJ w1 w2 @stA.eq_1 @st0.eq_1) ?_|(with_reducible first|refine SB.c ?_ ?_<;>intro _|exact zak)|refine CK.d0 zdA cN ?_|with_reducible refine zaj ?_|omega
     ·rw [hb,if_pos rfl] at this
      subst this
      rw [zqF hb] at cN
      refine Wk1 (zg8 @kz zh1 hlt hlt' hcell hne @Nat.mul_one w0 w1 w2 @stA.eq_1 (cX [1] [2] zbZ cF)) ?_
      refine LW.rounds (zfc _ _) mixed 2 ?_
      repeat' first|refine Va (fA5 zh1 @zfJ w1 w2 @stA.eq_1) ?_|(with_reducible first|refine SB.c ?_ ?_<;>intro _|exact zak)|refine CK.d0 zdA cN ?_|with_reducible refine zaj ?_|omega
    |b::c::r,hs,_,hnum=>
     simp only [List.length_cons] at hnum
     have hwl:IntKind.i64.wrap (((r.length+1+1+1:Nat):Int) - 1)=(r.length:Int)+2:=by rw [zay _ (by omega) (by omega)];omega
     have hwn:((1:Int) != (r.length:Int)+2)=true:=by simp;omega
     have:=zdK hs hk1 hlt' (by rw [hnf];simp)
     rw [hG] at this
     subst this
     refine Wk0 (zg8 @kz zh1 hlt hlt' hcell hne @Nat.mul_one hwl hwn @stA.eq_1 @st0.eq_1 (cX [1] [2] zbZ cF))
   ·have cF:=zr2 ⟨k,0,0,0⟩ hsh
    have hnf:nfF k=0:=by simp [nfF,hsh]
    match l,hs,hnl,hnum with
    |[],hs,_,_=>
     have:=zAG hs hk1 hlt' hsh
     rw [hG] at this
     subst this
     refine Wk1 (zg8 @kz zh1 hlt hlt' hcell hne @Nat.mul_one w0 w1 w2 @stA.eq_1 (cX [1] [] zbZ cF)) ?_
     refine LW.rounds (zfc _ _) mixed 1 ?_
     refine Wk0 (fA3 zh1 @zfJ @stA.eq_1)
    |b::r,hs,_,hnum=>
     simp only [List.length_cons] at hnum
     have hwl:IntKind.i64.wrap (((r.length+1+1:Nat):Int) - 1)=(r.length:Int)+1:=by rw [zay _ (by omega) (by omega)];omega
     have hwn:((0:Int) != (r.length:Int)+1)=true:=by simp;omega
     have:=zdK hs hk1 hlt' (by rw [hnf];simp)
     rw [hG] at this
     subst this
     refine Wk0 (zg8 @kz zh1 hlt hlt' hcell hne @Nat.mul_one hwl hwn @stA.eq_1 @st0.eq_1 (cX [1] [] zbZ cF))
  ·have hne:(wdF (k:Int)==a)=false:=by simpa using he
   repeat' first|refine Va (fA7 zh1 hlt hlt' hcell hne @Nat.mul_one hw) ?_|(with_reducible first|refine SB.c ?_ ?_<;>intro _|exact zak)|with_reducible refine zaj ?_|omega
   exact ⟨⟨k+1,by omega,by omega,fun j h3 h4=>by
    by_cases hj:j=k
    ·subst hj;exact he
    ·exact hno j h3 (by omega)⟩,WFn,by show 15 - (k+1)<15 - k;omega⟩
 ·have hlt':¬ (k:Int)≤14:=by omega
  have hk15:k=15:=by omega
  subst hk15
  have:=zlm hs (fun j h3 h4=>hno j h3 h4)
  rw [hG] at this
  subst this
  refine Wk0 (fA4 zh1 hlt' @stA.eq_1 @st0.eq_1)
end Go.Proofs.YtfinhhblcdkpgaaGreatDoor
