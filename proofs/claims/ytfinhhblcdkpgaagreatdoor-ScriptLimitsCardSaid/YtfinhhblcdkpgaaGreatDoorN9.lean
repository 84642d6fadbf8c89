/- A part of the walk (Tryz_N9): its theorems have no condition beyond what they state. -/
import Derived.Test.YtfinhhblcdkpgaaGreatDoorN12
import Derived.Test.YtfinhhblcdkpgaaGreatDoorN9a
set_option maxRecDepth 100000
set_option maxHeartbeats 64000000
set_option linter.unusedSimpArgs false
set_option linter.unusedVariables false
set_option linter.defProp false
namespace Go.Proofs.YtfinhhblcdkpgaaGreatDoor
open Go Go.Abs Go.RowKit
theorem zoD (s:List UInt8):AC Tryz.prog gl 128 [.pv (.str s)] [] (.pv (.bool (zsR s))) []:=by
 refine zap (fun _=>0) 0 zFw ?_
 repeat' first|refine Va zEY ?_|(with_reducible first|refine SB.c ?_ ?_<;>intro _|exact zad)|with_reducible refine zac ?_|omega
 all_goals grind [zsR]
theorem ziz (s:List UInt8):AC Tryz.prog gl 92 [.pv (.str s)] [] (.pv (.bool (zd0 s))) []:=by
 refine zap (fun _=>0) 0 zIq ?_
 by_cases h0:s=[]
 ·subst h0
  repeat' first|refine Va zES ?_|(with_reducible first|refine SB.c ?_ ?_<;>intro _|exact zad)|with_reducible refine zac ?_|omega
  simp [zd0]
 have h0':(s==[])=false:=by simpa using h0
 have hlen:0<s.length:=List.length_pos_iff.2 h0
 by_cases h16:(s.length:Int) > 16
 ·rw [zjn s (by omega)]
  repeat' first|refine Va (fA3 zES h0' h16) ?_|(with_reducible first|refine SB.c ?_ ?_<;>intro _|exact zad)|with_reducible refine zac ?_|omega
 ·have cW:=zos s 0 (by omega) (by omega)
  have cR:=zoD s
  have hlen':(0:Int)<s.length:=by omega
  have hv:zd0 s=(zdf (s.getD 0 0).toNat&&((((zbM isW s 0:Nat):Int)==(s.length:Int))&&!zsR s)):=by
   unfold zd0
   rw [h0',decide_eq_false h16]
   simp [zsS]
  rw [hv]
  repeat' first|refine Va (fA5 zES h0' h16 hlen hlen') ?_|(with_reducible first|refine SB.c ?_ ?_<;>intro _|exact zad)|refine CK.d0 zdY (zd4 _) ?_|refine CK.d0 zfj cW ?_|refine CK.d0 zsH cR ?_|with_reducible refine zac ?_|omega
  all_goals grind
theorem zfu (s:List UInt8):AC Tryz.prog gl 71 [.pv (.str s)] [] (.pv (.bool (zd0 s))) []:=by
 have hall:=zs3 s
 refine zap (fun _=>0) 0 zIi ?_
 by_cases h0:s=[]
 ·subst h0
  repeat' first|refine Va zyO ?_|(with_reducible first|refine SB.c ?_ ?_<;>intro _|exact zad)|with_reducible refine zac ?_|omega
  rfl
 have hl0:0<s.length:=List.length_pos_iff.2 h0
 have h0':((s.length:Int)==0)=false:=zFV (by omega)
 by_cases h1:(s.length:Int) > 16
 ·rw [zjn s (by omega)]
  repeat' first|refine Va (fA3 zyO h0' h1) ?_|(with_reducible first|refine SB.c ?_ ?_<;>intro _|exact zad)|with_reducible refine zac ?_|omega
 have hs0:(s==[])=false:=by simpa using h0
 have hv:zd0 s=(zdf (s.getD 0 0).toNat&&(s.all isW&&!zsR s)):=by simp [zd0,hs0,h1,hall]
 cases h2:zdf (s.getD 0 0).toNat
 ·rw [hv,h2,Bool.false_and]
  repeat' first|refine Va (fA5 zyO h0' h1 hl0 h2) ?_|(with_reducible first|refine SB.c ?_ ?_<;>intro _|exact zad)|refine CK.d0 zcT (zbQ _) ?_|with_reducible refine zac ?_|omega
 rw [hv,h2,Bool.true_and]
 cases h3:(!(s.contains 32)&&zsR s)
 rotate_left
 ·have h4:zsR s=true:=by simp at h3;exact h3.2
  rw [h4,Bool.not_true,Bool.and_false]
  repeat' first|refine Va (fA6 zyO h0' h1 hl0 h2 h3) ?_|(with_reducible first|refine SB.c ?_ ?_<;>intro _|exact zad)|refine CK.d0 zcT (zbQ _) ?_|refine CK.d0 zps (zhV s (by omega)) ?_|with_reducible refine zac ?_|omega
 have hfin:(s.all isW&&!zsR s)=s.all isW:=by
  cases h5:s.all isW with
  |false=>rfl
  |true=>
   have h6:s.contains 32=false:=by
    cases h7:s.contains 32 with
    |false=>rfl
    |true=>
     have:=List.all_eq_true.1 h5 32 (by simpa using h7)
     exact absurd this (by decide)
   rw [h6] at h3
   simpa using h3
 rw [hfin]
 repeat' first|refine Va (fA6 zyO h0' h1 hl0 h2 h3) ?_|(with_reducible first|refine SB.c ?_ ?_<;>intro _|exact zad)|refine CK.d0 zcT (zbQ _) ?_|refine CK.d0 zps (zhV s (by omega)) ?_|with_reducible refine zac ?_|omega
 refine zaI (ι:={k:Nat // k≤s.length∧s.all isW=(s.drop k).all isW}) (fun i=>⟨(.pv (.str s)::.junk::.pv (.bool false)::.pv (.int .i64 i.1)::jl 36 []),[]⟩) (fun i=>s.length - i.1) ⟨0,by omega,by simp⟩ WFn ?_
 rintro ⟨k,hk,hka⟩
 by_cases hlt:k<s.length
 ·have hlt':(k:Int)<s.length:=by omega
  have hge:s.getD k 0=s[k]:=by simp [List.getD,hlt]
  have hw:IntKind.i64.wrap ((k:Int)+1)=((k+1:Nat):Int):=by rw [zaS _ (by omega) (by omega)];rfl
  rw [List.drop_eq_getElem_cons hlt,List.all_cons] at hka
  have hisW:isW s[k]=(zdf s[k].toNat || zcU s[k].toNat):=rfl
  rw [hisW] at hka
  generalize s[k]=c at *
  cases h5:zdf c.toNat<;>cases h6:zcU c.toNat
  all_goals (repeat' (first|refine Va (fA7 zyO hlt' hlt hge h5 h6 hw) ?_|(with_reducible first|refine SB.c ?_ ?_<;>intro _|exact zad)|refine CK.d0 zcT (zbQ _) ?_|refine CK.d0 zec (zdw _) ?_|with_reducible refine zac ?_|omega))
  ·rw [h5,h6,Bool.or_self,Bool.false_and] at hka
   rw [hka]
  all_goals exact ⟨⟨k+1,by omega,by rw [hka,h5,h6];simp⟩,WFn,by simp;omega⟩
 ·have hlt':¬ (k:Int)<s.length:=by omega
  rw [List.drop_eq_nil_of_le (by omega),List.all_nil] at hka
  repeat' first|refine Va (fA3 zyO hlt' hka) ?_|(with_reducible first|refine SB.c ?_ ?_<;>intro _|exact zad)|with_reducible refine zac ?_|omega
end Go.Proofs.YtfinhhblcdkpgaaGreatDoor
