/- A part of the walk (Tryz_N9): its theorems have no condition beyond what they state. -/
import Derived.Test.YtfinhhblcdkpgaaGreatDoorN12
import Derived.Test.YtfinhhblcdkpgaaGreatDoorN9a
import Derived.Test.YtfinhhblcdkpgaaGreatDoorLib3
set_option maxRecDepth 100000
set_option maxHeartbeats 64000000
set_option linter.unusedSimpArgs false
set_option linter.unusedVariables false
set_option linter.defProp false
namespace Go.Proofs.YtfinhhblcdkpgaaGreatDoor
open Go Go.Abs Go.RowKit
theorem zmO (s:List UInt8):AC Tryz.prog gl 128 [.pv (.str s)] [] (.pv (.bool (zq3 s))) []:=by
 refine zam (fun _=>0) 0 zCK ?_
 (repeat' (first|refine Va zCl ?_|(with_reducible first|refine SB.c ?_ ?_<;>intro _|exact zac)|with_reducible refine zab ?_|omega))
 all_goals grind [zq3]
theorem zhl (s:List UInt8):AC Tryz.prog gl 92 [.pv (.str s)] [] (.pv (.bool (zdj s))) []:=by
 refine zam (fun _=>0) 0 zFt ?_
 by_cases h0:s=[]
 ·subst h0
  (repeat' (first|refine Va zCg ?_|(with_reducible first|refine SB.c ?_ ?_<;>intro _|exact zac)|with_reducible refine zab ?_|omega))
  simp [zdj]
 have h0':(s==[])=false:=by simpa using h0
 have hlen:0<s.length:=List.length_pos_iff.2 h0
 by_cases h16:(s.length:Int) > 16
 ·rw [zfs s (by omega)]
  (repeat' (first|refine Va (fA3 zCg h0' h16) ?_|(with_reducible first|refine SB.c ?_ ?_<;>intro _|exact zac)|with_reducible refine zab ?_|omega))
 ·have cW:=zmJ s 0 (by omega) (by omega)
  have cR:=zmO s
  have hlen':(0:Int)<s.length:=by omega
  have hv:zdj s=(zcX (s.getD 0 0).toNat&&((((zcr isW s 0:Nat):Int)==(s.length:Int))&&!zq3 s)):=by
   unfold zdj
   rw [h0',decide_eq_false h16]
   simp [zq4]
  rw [hv]
  (repeat' (first|refine Va (fA5 zCg h0' h16 hlen hlen') ?_|(with_reducible first|refine SB.c ?_ ?_<;>intro _|exact zac)|refine CK.d0 zdi (zdo _) ?_|refine CK.d0 zew cW ?_|refine CK.d0 zqS cR ?_|with_reducible refine zab ?_|omega))
  all_goals grind
theorem zir (s:List UInt8):AC Tryz.prog gl 71 [.pv (.str s)] [] (.pv (.bool (zdj s))) []:=by
 have hall:=zri s
 refine zam (fun _=>0) 0 zFo ?_
 by_cases h0:s=[]
 ·subst h0
  (repeat' (first|refine Va zwx ?_|(with_reducible first|refine SB.c ?_ ?_<;>intro _|exact zac)|with_reducible refine zab ?_|omega))
  rfl
 have hl0:0<s.length:=List.length_pos_iff.2 h0
 have h0':((s.length:Int)==0)=false:=zi2 (by omega)
 by_cases h1:(s.length:Int) > 16
 ·rw [zfs s (by omega)]
  (repeat' (first|refine Va (fA3 zwx h0' h1) ?_|(with_reducible first|refine SB.c ?_ ?_<;>intro _|exact zac)|with_reducible refine zab ?_|omega))
 have hs0:(s==[])=false:=by simpa using h0
 have hv:zdj s=(zcX (s.getD 0 0).toNat&&(s.all isW&&!zq3 s)):=by simp [zdj,hs0,h1,hall]
 cases h2:zcX (s.getD 0 0).toNat
 ·rw [hv,h2,Bool.false_and]
  (repeat' (first|refine Va (fA5 zwx h0' h1 hl0 h2) ?_|(with_reducible first|refine SB.c ?_ ?_<;>intro _|exact zac)|refine CK.d0 zhe (zeZ _) ?_|with_reducible refine zab ?_|omega))
 rw [hv,h2,Bool.true_and]
 cases h3:(!(s.contains 32)&&zq3 s)
 rotate_left
 ·have h4:zq3 s=true:=by simp at h3;exact h3.2
  rw [h4,Bool.not_true,Bool.and_false]
  (repeat' (first|refine Va (fA6 zwx h0' h1 hl0 h2 h3) ?_|(with_reducible first|refine SB.c ?_ ?_<;>intro _|exact zac)|refine CK.d0 zhe (zeZ _) ?_|refine CK.d0 znL (zgQ s (by omega)) ?_|with_reducible refine zab ?_|omega))
 have hfin:(s.all isW&&!zq3 s)=s.all isW:=by
  cases h5:s.all isW with
  |false=>rfl
  |true=>
   have h6:s.contains 32=false:=by
    cases h7:s.contains 32 with
    |false=>rfl
    |true=>
     have:=List.all_eq_true.1 h5 32 (by simpa using h7)
     exact absurd this (by decide)
   rw [h6] at h3
   simpa using h3
 rw [hfin]
 (repeat' (first|refine Va (fA6 zwx h0' h1 hl0 h2 h3) ?_|(with_reducible first|refine SB.c ?_ ?_<;>intro _|exact zac)|refine CK.d0 zhe (zeZ _) ?_|refine CK.d0 znL (zgQ s (by omega)) ?_|with_reducible refine zab ?_|omega))
 refine za6 (ι:={k:Nat // k≤s.length∧s.all isW=(s.drop k).all isW}) (fun i=>⟨(.pv (.str s)::.junk::.pv (.bool false)::.pv (.int .i64 i.1)::jl 36 []),[]⟩) (fun i=>s.length - i.1) ⟨0,by omega,by simp⟩ WFn ?_
 rintro ⟨k,hk,hka⟩
 by_cases hlt:k<s.length
 ·have hlt':(k:Int)<s.length:=by omega
  have hge:s.getD k 0=s[k]:=by simp [List.getD,hlt]
  have hw:IntKind.i64.wrap ((k:Int)+1)=((k+1:Nat):Int):=by rw [zat _ (by omega) (by omega)];rfl
  rw [List.drop_eq_getElem_cons hlt,List.all_cons] at hka
  have hisW:isW s[k]=(zcX s[k].toNat || zd9 s[k].toNat):=rfl
  rw [hisW] at hka
  generalize s[k]=c at *
  cases h5:zcX c.toNat<;>cases h6:zd9 c.toNat
  all_goals (repeat' (first|refine Va (fA7 zwx hlt' hlt hge h5 h6 hw) ?_|(with_reducible first|refine SB.c ?_ ?_<;>intro _|exact zac)|refine CK.d0 zhe (zeZ _) ?_|refine CK.d0 ztN (zrr _) ?_|with_reducible refine zab ?_|omega))
  ·rw [h5,h6,Bool.or_self,Bool.false_and] at hka
   rw [hka]
  all_goals exact ⟨⟨k+1,by omega,by rw [hka,h5,h6];simp⟩,WFn,by simp;omega⟩
 ·have hlt':¬ (k:Int)<s.length:=by omega
  rw [List.drop_eq_nil_of_le (by omega),List.all_nil] at hka
  (repeat' (first|refine Va (fA3 zwx hlt' hka) ?_|(with_reducible first|refine SB.c ?_ ?_<;>intro _|exact zac)|with_reducible refine zab ?_|omega))
abbrev psC (l:List TkD) (n k:Nat):AObj:=.cells [.pv (.slice (l.map zki)),.pv (.int .i64 k),.pv (.int .i64 n)]
abbrev psO (l:List TkD) (n k:Nat):List (Option AObj):=[some (psC l n k)]
def fv (l:List TkD) (n k:Nat):Value:=.iface 213 (.agg #[.int .i64 (zgO l n k)])
theorem ze9 (l:List TkD) (k:Nat) (h:k<l.length):(l.map zki).getD k []=[.int .i64 (l.getD k tk0).kind,.str (l.getD k tk0).text,.int .i64 (l.getD k tk0).value,.int .i64 (l.getD k tk0).pos]:=by
 simp [List.getD,h,zki]
theorem zmP (l:List TkD) (n k:Nat):AC Tryz.prog gl 196 [.ref 0 0] (psO l n k) (.pv (.str (zds l k))) (psO l n k):=by
 refine zay (fun _=>0) 1 zC2 ?_
 by_cases h:k<l.length
 ·have h':(k:Int)<l.length:=by omega
  have hg:=ze9 l k h
  have hp:zds l k=(l.getD k tk0).text:=by unfold zds;rw [if_pos h]
  rw [hp]
  (repeat' (first|refine Va (fA4 ztF h h' hg) ?_|(with_reducible first|refine SB.c ?_ ?_<;>intro _|exact zac)|with_reducible refine zab ?_|omega))
  (refine zaJ.mk [0] ?_ ?_<;>simp [kwr,ztF])
 ·have h':¬ (k:Int)<l.length:=by omega
  have hp:zds l k=[]:=by unfold zds;rw [if_neg h]
  rw [hp]
  (repeat' (first|refine Va (fA3 ztF h h') ?_|(with_reducible first|refine SB.c ?_ ?_<;>intro _|exact zac)|with_reducible refine zab ?_|omega))
  (refine zaJ.mk [0] ?_ ?_<;>simp [kwr,ztF])
theorem zaQ (l:List TkD) (n k:Nat) (s:List UInt8) (h:isT l k s=true) (hk:k≤1000000):AC Tryz.prog gl 182 [.ref 0 0,.pv (.str s)] (psO l n k) (.pv (.bool true)) (psO l n (k+1)):=by
 have cP:=zmP l n k
 have e:(zds l k==s)=true:=h
 have hw:=zbc k (by omega)
 refine zay (fun _=>0) 1 zzE ?_
 (repeat' (first|refine Va (fA4 @kz ztD e hw) ?_|(with_reducible first|refine SB.c ?_ ?_<;>intro _|exact zac)|refine dC1 zf2 cP ?_|with_reducible refine zab ?_|omega))
 (refine zaJ.mk [0] ?_ ?_<;>simp [kwr,ztD])
theorem zaj (l:List TkD) (n k:Nat) (s:List UInt8) (h:isT l k s=false):AC Tryz.prog gl 182 [.ref 0 0,.pv (.str s)] (psO l n k) (.pv (.bool false)) (psO l n k):=by
 have cP:=zmP l n k
 have e:(zds l k==s)=false:=h
 refine zay (fun _=>0) 1 zzE ?_
 (repeat' (first|refine Va (fA3 @kz ztD e) ?_|(with_reducible first|refine SB.c ?_ ?_<;>intro _|exact zac)|refine dC1 zf2 cP ?_|with_reducible refine zab ?_|omega))
 (refine zaJ.mk [0] ?_ ?_<;>simp [kwr,ztD])
theorem zkE (l:List TkD) (n k:Nat):AP Tryz.prog gl 187 [.ref 0 0] (psO l n k) (fv l n k) (psO l n k):=by
 unfold fv zgO
 refine zbr (fun _=>0) 1 zC0 ?_
 by_cases h:k<l.length
 ·have h':(k:Int)<l.length:=by omega
  have hg:=ze9 l k h
  rw [if_pos h]
  (repeat' (first|refine Va (fA4 zzA h h' hg) ?_|(with_reducible first|refine SB.c ?_ ?_<;>intro _|exact zac|refine fun (_:List AVal)=>?_)|with_reducible refine zab ?_|omega))
  (refine zbT.mk [0] ?_<;>simp [kwt])
 ·have h':¬ (k:Int)<l.length:=by omega
  rw [if_neg h]
  (repeat' (first|refine Va (fA3 zzA h h') ?_|(with_reducible first|refine SB.c ?_ ?_<;>intro _|exact zac|refine fun (_:List AVal)=>?_)|with_reducible refine zab ?_|omega))
  (refine zbT.mk [0] ?_<;>simp [kwt])
theorem zaZ (l:List TkD) (n k k':Nat) (s:List UInt8) (h:zbe l s k=.ok () k') (hk:k≤1000000):AC Tryz.prog gl 185 [.ref 0 0,.pv (.str s)] (psO l n k) (.tup []) (psO l n k'):=by
 unfold zbe at h
 split at h
 ·rename_i e
  cases h
  have cA:=zaQ l n k s e hk
  refine zay (fun _=>0) 1 zzH ?_
  (repeat' (first|refine Va (fA2 @kz zwB) ?_|(with_reducible first|refine SB.c ?_ ?_<;>intro _|exact zac)|refine dC1 zaa cA ?_|with_reducible refine zab ?_|omega))
  (refine zaJ.mk [0] ?_ ?_<;>simp [kwr,zwB])
 ·cases h
theorem zaP (l:List TkD) (n k k':Nat) (s:List UInt8) (h:zbe l s k=.bad k'):AP Tryz.prog gl 185 [.ref 0 0,.pv (.str s)] (psO l n k) (fv l n k') (psO l n k'):=by
 unfold zbe at h
 split at h
 ·cases h
 ·rename_i e
  cases h
  have cA:=zaj l n k s (by simpa using e)
  have cF:=zkE l n k
  refine zbr (fun _=>0) 1 zzH ?_
  (repeat' (first|refine Va (fA2 @kz zwB) ?_|(with_reducible first|refine SB.c ?_ ?_<;>intro _|exact zac|refine fun (_:List AVal)=>?_)|refine dC1 zaa cA ?_|refine CK.dp [0] [] zcN cF ?_|with_reducible refine zab ?_|omega))
  (refine zbT.mk [0] ?_<;>simp [kwt])
end Go.Proofs.YtfinhhblcdkpgaaGreatDoor
