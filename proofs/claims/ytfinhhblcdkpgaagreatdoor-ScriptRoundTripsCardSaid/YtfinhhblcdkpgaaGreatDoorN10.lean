/- A part of the walk (Tryz_N4): its theorems have no condition beyond what they state. -/
import Derived.Test.YtfinhhblcdkpgaaGreatDoorN3
import Derived.Test.YtfinhhblcdkpgaaGreatDoorLib3
set_option maxRecDepth 100000
set_option maxHeartbeats 64000000
set_option linter.unusedSimpArgs false
set_option linter.unusedVariables false
set_option linter.defProp false
namespace Go.Proofs.YtfinhhblcdkpgaaGreatDoor
open Go Go.Abs Go.RowKit
abbrev rS (r:List TkD × Int × Int):AVal:=.tup [.pv (.slice (r.1.map zkG)),.pv (.int .i64 r.2.1),.pv (.int .i64 r.2.2)]
theorem zyg (s:List UInt8):AC Tryz.prog gl 123 [.pv (.str s)] [] (rS (scan s)) []:=by
 refine zaK (fun d=>if d=7 then 0 else 2) 3 zEk ?_
 by_cases hbig:s.length > 4096
 ·have hbig':(s.length:Int) > 4096:=by omega
  have hsc:scan s=([],0,5):=by unfold scan;rw [if_pos hbig]
  rw [hsc]
  (repeat' (first|refine Va (fA2 znb hbig') ?_|(with_reducible first|refine SB.c ?_ ?_<;>intro _|exact zad)|with_reducible refine zac ?_|omega))
 have hbig':¬ (s.length:Int) > 4096:=by omega
 have hsc:scan s=scanF s (s.length+1) 0 []:=by unfold scan;rw [if_neg hbig]
 rw [hsc]
 (repeat' (first|refine Va (fA2 znb hbig') ?_|(with_reducible first|refine SB.c ?_ ?_<;>intro _|exact zad)|with_reducible refine zac ?_|omega))
 (refine LW.weak (zbU.nilRow 5 1 4 rfl rfl (by decide)) ?_;simp only [List.set_cons_zero,List.set_cons_succ])
 refine zbx (ι:=SI s) (fun i=>⟨(.pv (.str s)::jl 4 (.row 1 i.acc.length::.pv (.int .i64 i.k)::jl 42 [])),[none,some (.row 4 (i.acc.map zkG)),none]⟩) (fun i=>s.length - i.k) (SI.start s) (WFe (by simp [kwf,SI.start_k,SI.start_acc]) (by simp [kwf,SI.start_k,SI.start_acc])) ?_
 rintro ⟨k,acc,f,hk,hf,ha,heq⟩
 by_cases hlt:k<s.length
 ·have hlt':(k:Int)<s.length:=by omega
  have hw:=zbu k (by omega)
  by_cases hb:isB (s.getD k 0)=true
  ·rcases zwb hb with hc|hc|hc|hc
   all_goals
    (repeat' (first|simp -implicitDefEqProofs +contextual (maxSteps:=9000000) only [kx,↓ky,znb,simprocAttr,hlt,hlt',hc,UInt8.reduceToNat,hw]|(with_reducible first|refine SB.c ?_ ?_<;>intro _|exact zad)|with_reducible refine zac ?_|omega))
    exact ⟨SI.blank (SI.mk k acc f hk hf ha heq) hlt hb,(WFe (by simp [kwf,SI.blank_k,SI.blank_acc]) (by simp [kwf,SI.blank_k,SI.blank_acc])),by simp only [SI.blank_k];omega⟩
  ·obtain ⟨n1,n2,n3,n4⟩:=zx0 hb
   have m1:=u8f n1
   have m2:=u8f n2
   have m3:=u8f n3
   have m4:=u8f n4
   simp only [UInt8.reduceToNat,Int.cast_ofNat_Int] at m1 m2 m3 m4
   by_cases hh:s.getD k 0=35
   ·have cC:=zpY s k (by omega) (by omega)
    have hg:k<zcd zb2 s k∧zcd zb2 s k≤s.length:=zkK (SI.mk k acc f hk hf ha heq) hlt hh
    (repeat' (first|simp -implicitDefEqProofs +contextual (maxSteps:=9000000) only [kx,↓ky,znb,simprocAttr,hlt,hlt',hh,UInt8.reduceToNat]|(with_reducible first|refine SB.c ?_ ?_<;>intro _|exact zad)|refine CK.d0 zrN cC ?_|with_reducible refine zac ?_|omega))
    exact ⟨SI.hsh (SI.mk k acc f hk hf ha heq) hlt hh,(WFe (by simp [kwf,SI.hsh_k,SI.hsh_acc]) (by simp [kwf,SI.hsh_k,SI.hsh_acc])),by simp only [SI.hsh_k];omega⟩
   ·have m5:=u8f hh
    simp only [UInt8.reduceToNat,Int.cast_ofNat_Int] at m5
    have cO:=zBw s k (by omega) hlt
    by_cases h0:(zcO s k).2.2=0
    ·have hg:k<(zcO s k).2.1.toNat∧(zcO s k).2.1.toNat≤s.length∧(zcO s k).2.1=(((zcO s k).2.1.toNat:Nat):Int):=zop (SI.mk k acc f hk hf ha heq) hlt h0
     have hrm:=zfj (acc.length+1) 40 (by have:=ha;omega)
     have h0':((zcO s k).2.2 != 0)=false:=by simpa using h0
     (repeat' (first|refine Va (zCh znb hlt hlt' m1 m2 m3 m4 m5 h0' hrm) ?_|(with_reducible first|refine SB.c ?_ ?_<;>intro _|exact zad)|refine CK.d0 zlP cO ?_|with_reducible refine zac ?_|omega))
     exact ⟨SI.tok (SI.mk k acc f hk hf ha heq) hlt hb hh h0,(WTe [0,2,1] (by simp [kwt,SI.tok_k,SI.tok_acc,zkG,←hg.2.2]) (by simp [kwt,SI.tok_k,SI.tok_acc,zkG,←hg.2.2])),by simp only [SI.tok_k];omega⟩
    ·have h0':((zcO s k).2.2 != 0)=true:=by simpa using h0
     have hbad:scanF s (s.length+1) 0 []=([],(k:Int),(zcO s k).2.2):=SI.bad (SI.mk k acc f hk hf ha heq) hlt hb hh h0
     rw [hbad]
     (repeat' (first|refine Va (fA9 znb hlt hlt' m1 m2 m3 m4 m5 h0') ?_|(with_reducible first|refine SB.c ?_ ?_<;>intro _|exact zad)|refine CK.d0 zlP cO ?_|with_reducible refine zac ?_|omega))
 ·have hlt':¬ (k:Int)<s.length:=by omega
  have hfin:scanF s (s.length+1) 0 []=(acc,0,0):=SI.fin (SI.mk k acc f hk hf ha heq) hlt
  rw [hfin]
  (repeat' (first|refine Va (fA2 znb hlt') ?_|(with_reducible first|refine SB.c ?_ ?_<;>intro _|exact zad)|with_reducible refine zac ?_|omega))
  all_goals simp
end Go.Proofs.YtfinhhblcdkpgaaGreatDoor
