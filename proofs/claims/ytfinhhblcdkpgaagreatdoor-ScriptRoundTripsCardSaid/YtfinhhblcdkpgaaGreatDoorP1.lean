/- A part of the walk (Tryz_N9): its theorems have no condition beyond what they state. -/
import Derived.Test.YtfinhhblcdkpgaaGreatDoorN10
import Derived.Test.YtfinhhblcdkpgaaGreatDoorN9a
import Derived.Test.YtfinhhblcdkpgaaGreatDoorLib3
set_option maxRecDepth 100000
set_option maxHeartbeats 64000000
set_option linter.unusedSimpArgs false
set_option linter.unusedVariables false
set_option linter.defProp false
namespace Go.Proofs.YtfinhhblcdkpgaaGreatDoor
open Go Go.Abs Go.RowKit
theorem zns (s:List UInt8):AC Tryz.prog gl 128 [.pv (.str s)] [] (.pv (.bool (zFt s))) []:=by
 refine zaK (fun _=>0) 0 zEo ?_
 (repeat' (first|refine Va zD3 ?_|(with_reducible first|refine SB.c ?_ ?_<;>intro _|exact zad)|with_reducible refine zac ?_|omega))
 all_goals grind [zFt]
theorem zhs (s:List UInt8):AC Tryz.prog gl 92 [.pv (.str s)] [] (.pv (.bool (zbb s))) []:=by
 refine zaK (fun _=>0) 0 zHb ?_
 by_cases h0:s=[]
 ·subst h0
  (repeat' (first|refine Va zD0 ?_|(with_reducible first|refine SB.c ?_ ?_<;>intro _|exact zad)|with_reducible refine zac ?_|omega))
  simp [zbb]
 have h0':(s==[])=false:=by simpa using h0
 have hlen:0<s.length:=List.length_pos_iff.2 h0
 by_cases h16:(s.length:Int) > 16
 ·rw [zh5 s (by omega)]
  (repeat' (first|refine Va (fA3 zD0 h0' h16) ?_|(with_reducible first|refine SB.c ?_ ?_<;>intro _|exact zad)|with_reducible refine zac ?_|omega))
 ·have cW:=znp s 0 (by omega) (by omega)
  have cR:=zns s
  have hlen':(0:Int)<s.length:=by omega
  have hv:zbb s=(zeO (s.getD 0 0).toNat&&((((zcd isW s 0:Nat):Int)==(s.length:Int))&&!zFt s)):=by
   unfold zbb
   rw [h0',decide_eq_false h16]
   simp [zrW]
  rw [hv]
  (repeat' (first|refine Va (fA5 zD0 h0' h16 hlen hlen') ?_|(with_reducible first|refine SB.c ?_ ?_<;>intro _|exact zad)|refine CK.d0 zdq (zdy _) ?_|refine CK.d0 zeK cW ?_|refine CK.d0 zrK cR ?_|with_reducible refine zac ?_|omega))
  all_goals grind
abbrev psC (l:List TkD) (n k:Nat):AObj:=.cells [.pv (.slice (l.map zkG)),.pv (.int .i64 k),.pv (.int .i64 n)]
abbrev psO (l:List TkD) (n k:Nat):List (Option AObj):=[some (psC l n k)]
def fv (l:List TkD) (n k:Nat):Value:=.iface 213 (.agg #[.int .i64 (zgW l n k)])
theorem zfn (l:List TkD) (k:Nat) (h:k<l.length):(l.map zkG).getD k []=[.int .i64 (l.getD k tk0).kind,.str (l.getD k tk0).text,.int .i64 (l.getD k tk0).value,.int .i64 (l.getD k tk0).pos]:=by
 simp [List.getD,h,zkG]
theorem znt (l:List TkD) (n k:Nat):AC Tryz.prog gl 196 [.ref 0 0] (psO l n k) (.pv (.str (zce l k))) (psO l n k):=by
 refine zax (fun _=>0) 1 zED ?_
 by_cases h:k<l.length
 ·have h':(k:Int)<l.length:=by omega
  have hg:=zfn l k h
  have hp:zce l k=(l.getD k tk0).text:=by unfold zce;rw [if_pos h]
  rw [hp]
  (repeat' (first|refine Va (fA4 zuR h h' hg) ?_|(with_reducible first|refine SB.c ?_ ?_<;>intro _|exact zad)|with_reducible refine zac ?_|omega))
  (refine zaI.mk [0] ?_ ?_<;>simp [kwr,zuR])
 ·have h':¬ (k:Int)<l.length:=by omega
  have hp:zce l k=[]:=by unfold zce;rw [if_neg h]
  rw [hp]
  (repeat' (first|refine Va (fA3 zuR h h') ?_|(with_reducible first|refine SB.c ?_ ?_<;>intro _|exact zad)|with_reducible refine zac ?_|omega))
  (refine zaI.mk [0] ?_ ?_<;>simp [kwr,zuR])
theorem zaN (l:List TkD) (n k:Nat) (s:List UInt8) (h:isT l k s=true) (hk:k≤1000000):AC Tryz.prog gl 182 [.ref 0 0,.pv (.str s)] (psO l n k) (.pv (.bool true)) (psO l n (k+1)):=by
 have cP:=znt l n k
 have e:(zce l k==s)=true:=h
 have hw:=zbu k (by omega)
 refine zax (fun _=>0) 1 zBd ?_
 (repeat' (first|refine Va (fA4 @kz zuP e hw) ?_|(with_reducible first|refine SB.c ?_ ?_<;>intro _|exact zad)|refine dC1 zf9 cP ?_|with_reducible refine zac ?_|omega))
 (refine zaI.mk [0] ?_ ?_<;>simp [kwr,zuP])
theorem zai (l:List TkD) (n k:Nat) (s:List UInt8) (h:isT l k s=false):AC Tryz.prog gl 182 [.ref 0 0,.pv (.str s)] (psO l n k) (.pv (.bool false)) (psO l n k):=by
 have cP:=znt l n k
 have e:(zce l k==s)=false:=h
 refine zax (fun _=>0) 1 zBd ?_
 (repeat' (first|refine Va (fA3 @kz zuP e) ?_|(with_reducible first|refine SB.c ?_ ?_<;>intro _|exact zad)|refine dC1 zf9 cP ?_|with_reducible refine zac ?_|omega))
 (refine zaI.mk [0] ?_ ?_<;>simp [kwr,zuP])
theorem zk2 (l:List TkD) (n k:Nat):AP Tryz.prog gl 187 [.ref 0 0] (psO l n k) (fv l n k) (psO l n k):=by
 unfold fv zgW
 refine zbv (fun _=>0) 1 zEB ?_
 by_cases h:k<l.length
 ·have h':(k:Int)<l.length:=by omega
  have hg:=zfn l k h
  rw [if_pos h]
  (repeat' (first|refine Va (fA4 zBb h h' hg) ?_|(with_reducible first|refine SB.c ?_ ?_<;>intro _|exact zad|refine fun (_:List AVal)=>?_)|with_reducible refine zac ?_|omega))
  (refine zb5.mk [0] ?_<;>simp [kwt])
 ·have h':¬ (k:Int)<l.length:=by omega
  rw [if_neg h]
  (repeat' (first|refine Va (fA3 zBb h h') ?_|(with_reducible first|refine SB.c ?_ ?_<;>intro _|exact zad|refine fun (_:List AVal)=>?_)|with_reducible refine zac ?_|omega))
  (refine zb5.mk [0] ?_<;>simp [kwt])
theorem za1 (l:List TkD) (n k k':Nat) (s:List UInt8) (h:za4 l s k=.ok () k') (hk:k≤1000000):AC Tryz.prog gl 185 [.ref 0 0,.pv (.str s)] (psO l n k) (.tup []) (psO l n k'):=by
 unfold za4 at h
 split at h
 ·rename_i e
  cases h
  have cA:=zaN l n k s e hk
  refine zax (fun _=>0) 1 zBg ?_
  (repeat' (first|refine Va (fA2 @kz zxW) ?_|(with_reducible first|refine SB.c ?_ ?_<;>intro _|exact zad)|refine dC1 zaa cA ?_|with_reducible refine zac ?_|omega))
  (refine zaI.mk [0] ?_ ?_<;>simp [kwr,zxW])
 ·cases h
theorem zaM (l:List TkD) (n k k':Nat) (s:List UInt8) (h:za4 l s k=.bad k'):AP Tryz.prog gl 185 [.ref 0 0,.pv (.str s)] (psO l n k) (fv l n k') (psO l n k'):=by
 unfold za4 at h
 split at h
 ·cases h
 ·rename_i e
  cases h
  have cA:=zai l n k s (by simpa using e)
  have cF:=zk2 l n k
  refine zbv (fun _=>0) 1 zBg ?_
  (repeat' (first|refine Va (fA2 @kz zxW) ?_|(with_reducible first|refine SB.c ?_ ?_<;>intro _|exact zad|refine fun (_:List AVal)=>?_)|refine dC1 zaa cA ?_|refine CK.dp [0] [] zcX cF ?_|with_reducible refine zac ?_|omega))
  (refine zb5.mk [0] ?_<;>simp [kwt])
end Go.Proofs.YtfinhhblcdkpgaaGreatDoor
