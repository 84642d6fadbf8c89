/- A part of the walk (Tryz_P1): its theorems have no condition beyond what they state. -/
import Derived.Test.YtfinhhblcdkpgaaGreatDoorN9
import Derived.Test.YtfinhhblcdkpgaaGreatDoorLib3
set_option maxRecDepth 100000
set_option maxHeartbeats 64000000
namespace Go.Proofs.YtfinhhblcdkpgaaGreatDoor
open Go Go.Abs Go.RowKit
abbrev psC (l:List TkD) (n k:Nat):AObj:=.cells [.pv (.slice (l.map zh8)),.pv (.int .i64 k),.pv (.int .i64 n)]
abbrev psO (l:List TkD) (n k:Nat):List (Option AObj):=[some (psC l n k)]
def fv (l:List TkD) (n k:Nat):Value:=.iface 213 (.agg #[.int .i64 (zga l n k)])
theorem zfk (l:List TkD) (k:Nat) (h:k<l.length):(l.map zh8).getD k []=[.int .i64 (l.getD k tk0).kind,.str (l.getD k tk0).text,.int .i64 (l.getD k tk0).value,.int .i64 (l.getD k tk0).pos]:=by
 simp [List.getD,h,zh8]
theorem zno (l:List TkD) (n k:Nat):AC Tryz.prog gl 196 [.ref 0 0] (psO l n k) (.pv (.str (zcd l k))) (psO l n k):=by
 refine zax (fun _=>0) 1 zEp ?_
 by_cases h:k<l.length
 ·have h':(k:Int)<l.length:=by omega
  have hg:=zfk l k h
  have hp:zcd l k=(l.getD k tk0).text:=by unfold zcd;rw [if_pos h]
  rw [hp]
  (repeat' (first|refine V0 (And.intro zuN <|And.intro @h <|And.intro @h' @hg) ?_|(with_reducible first|refine SB.c (fun _=>?_) fun _=>?_|exact zad)|with_reducible refine zac ?_|omega))
  (refine zaH.mk [0] ?_ ?_<;>simp [kwr,zuN])
 ·have h':¬ (k:Int)<l.length:=by omega
  have hp:zcd l k=[]:=by unfold zcd;rw [if_neg h]
  rw [hp]
  (repeat' (first|refine V0 (And.intro zuN <|And.intro @h @h') ?_|(with_reducible first|refine SB.c (fun _=>?_) fun _=>?_|exact zad)|with_reducible refine zac ?_|omega))
  (refine zaH.mk [0] ?_ ?_<;>simp [kwr,zuN])
theorem zaN (l:List TkD) (n k:Nat) (s:List UInt8) (h:isT l k s=true) (hk:k≤1000000):AC Tryz.prog gl 182 [.ref 0 0,.pv (.str s)] (psO l n k) (.pv (.bool true)) (psO l n (k+1)):=by
 have cP:=zno l n k
 have e:(zcd l k==s)=true:=h
 have hw:=zbu k (by omega)
 refine zax (fun _=>0) 1 zA1 ?_
 (repeat' (first|refine V1 (And.intro zuL <|And.intro @e @hw) ?_|(with_reducible first|refine SB.c (fun _=>?_) fun _=>?_|exact zad)|refine CK.dx [0] [] zf5 cP ?_|with_reducible refine zac ?_|omega))
 (refine zaH.mk [0] ?_ ?_<;>simp [kwr,zuL])
theorem zai (l:List TkD) (n k:Nat) (s:List UInt8) (h:isT l k s=false):AC Tryz.prog gl 182 [.ref 0 0,.pv (.str s)] (psO l n k) (.pv (.bool false)) (psO l n k):=by
 have cP:=zno l n k
 have e:(zcd l k==s)=false:=h
 refine zax (fun _=>0) 1 zA1 ?_
 (repeat' (first|refine V1 (And.intro zuL @e) ?_|(with_reducible first|refine SB.c (fun _=>?_) fun _=>?_|exact zad)|refine CK.dx [0] [] zf5 cP ?_|with_reducible refine zac ?_|omega))
 (refine zaH.mk [0] ?_ ?_<;>simp [kwr,zuL])
theorem zkZ (l:List TkD) (n k:Nat):AP Tryz.prog gl 187 [.ref 0 0] (psO l n k) (fv l n k) (psO l n k):=by
 unfold fv zga
 refine zbv (fun _=>0) 1 zEn ?_
 by_cases h:k<l.length
 ·have h':(k:Int)<l.length:=by omega
  have hg:=zfk l k h
  rw [if_pos h]
  (repeat' (first|refine V0 (And.intro zAZ <|And.intro @h <|And.intro @h' @hg) ?_|(with_reducible first|refine SB.c (fun _=>?_) fun _=>?_|exact zad|refine fun (_:List AVal)=>?_)|with_reducible refine zac ?_|omega))
  (refine zb5.mk [0] ?_<;>simp [kwt])
 ·have h':¬ (k:Int)<l.length:=by omega
  rw [if_neg h]
  (repeat' (first|refine V0 (And.intro zAZ <|And.intro @h @h') ?_|(with_reducible first|refine SB.c (fun _=>?_) fun _=>?_|exact zad|refine fun (_:List AVal)=>?_)|with_reducible refine zac ?_|omega))
  (refine zb5.mk [0] ?_<;>simp [kwt])
theorem za1 (l:List TkD) (n k k':Nat) (s:List UInt8) (h:za4 l s k=.ok () k') (hk:k≤1000000):AC Tryz.prog gl 185 [.ref 0 0,.pv (.str s)] (psO l n k) (.tup []) (psO l n k'):=by
 unfold za4 at h
 split at h
 ·rename_i e
  cases h
  have cA:=zaN l n k s e hk
  refine zax (fun _=>0) 1 zA4 ?_
  (repeat' (first|refine V1 zxS ?_|(with_reducible first|refine SB.c (fun _=>?_) fun _=>?_|exact zad)|refine CK.dx [0] [] zaa cA ?_|with_reducible refine zac ?_|omega))
  (refine zaH.mk [0] ?_ ?_<;>simp [kwr,zxS])
 ·cases h
theorem zaL (l:List TkD) (n k k':Nat) (s:List UInt8) (h:za4 l s k=.bad k'):AP Tryz.prog gl 185 [.ref 0 0,.pv (.str s)] (psO l n k) (fv l n k') (psO l n k'):=by
 unfold za4 at h
 split at h
 ·cases h
 ·rename_i e
  cases h
  have cA:=zai l n k s (by simpa using e)
  have cF:=zkZ l n k
  refine zbv (fun _=>0) 1 zA4 ?_
  (repeat' (first|refine V1 zxS ?_|(with_reducible first|refine SB.c (fun _=>?_) fun _=>?_|exact zad|refine fun (_:List AVal)=>?_)|refine CK.dx [0] [] zaa cA ?_|refine CK.dp [0] [] zcW cF ?_|with_reducible refine zac ?_|omega))
  (refine zb5.mk [0] ?_<;>simp [kwt])
end Go.Proofs.YtfinhhblcdkpgaaGreatDoor
