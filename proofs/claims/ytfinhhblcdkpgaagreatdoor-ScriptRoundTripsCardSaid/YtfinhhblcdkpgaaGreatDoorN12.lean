/- A part of the walk (Tryz_N4): its theorems have no condition beyond what they state. -/
import Derived.Test.YtfinhhblcdkpgaaGreatDoorN3
import Derived.Test.YtfinhhblcdkpgaaGreatDoorLib3
import Derived.Lib.AppendIntMem
set_option maxRecDepth 100000
set_option maxHeartbeats 64000000
namespace Go.Proofs.YtfinhhblcdkpgaaGreatDoor
open Go Go.Abs Go.RowKit
abbrev rS (r:List TkD × Int × Int):AVal:=.tup [.pv (.slice (r.1.map zh8)),.pv (.int .i64 r.2.1),.pv (.int .i64 r.2.2)]
theorem zyc (s:List UInt8):AC Tryz.prog gl 123 [.pv (.str s)] [] (rS (scan s)) []:=by
 refine zaK (fun d=>if d=7 then 0 else 2) 3 zD6 ?_
 by_cases hbig:s.length > 4096
 ·have hbig':(s.length:Int) > 4096:=by omega
  have hsc:scan s=([],0,5):=by unfold scan;rw [if_pos hbig]
  rw [hsc]
  (repeat' (first|refine V0 (And.intro zm6 @hbig') ?_|(with_reducible first|refine SB.c (fun _=>?_) fun _=>?_|exact zad)|with_reducible refine zac ?_|omega))
 have hbig':¬ (s.length:Int) > 4096:=by omega
 have hsc:scan s=scanF s (s.length+1) 0 []:=by unfold scan;rw [if_neg hbig]
 rw [hsc]
 (repeat' (first|refine V0 (And.intro zm6 @hbig') ?_|(with_reducible first|refine SB.c (fun _=>?_) fun _=>?_|exact zad)|with_reducible refine zac ?_|omega))
 (refine LW.weak (zbT.nilRow 5 1 4 rfl rfl (by decide)) ?_;simp only [List.set_cons_zero,List.set_cons_succ])
 refine zbw (ι:=SI s) (fun i=>⟨(.pv (.str s)::jl 4 (.row 1 i.acc.length::.pv (.int .i64 i.k)::jl 42 [])),[none,some (.row 4 (i.acc.map zh8)),none]⟩) (fun i=>s.length - i.k) (SI.start s) (WFe (by simp [kwf,SI.start_k,SI.start_acc]) (by simp [kwf,SI.start_k,SI.start_acc])) ?_
 rintro ⟨k,acc,f,hk,hf,ha,heq⟩
 by_cases hlt:k<s.length
 ·have hlt':(k:Int)<s.length:=by omega
  have hw:=zbu k (by omega)
  by_cases hb:isB (s.getD k 0)=true
  ·rcases zv7 hb with hc|hc|hc|hc
   all_goals
    (repeat' (first|simp -implicitDefEqProofs +contextual (maxSteps:=9000000) only [kx,↓ky,zm6,simprocAttr,hlt,hlt',hc,UInt8.reduceToNat,hw]|(with_reducible first|refine SB.c (fun _=>?_) fun _=>?_|exact REG.j)|with_reducible refine zac ?_|omega))
    exact ⟨SI.blank (SI.mk k acc f hk hf ha heq) hlt hb,(WFe (by simp [kwf,SI.blank_k,SI.blank_acc]) (by simp [kwf,SI.blank_k,SI.blank_acc])),by simp only [SI.blank_k];omega⟩
  ·obtain ⟨n1,n2,n3,n4⟩:=zxW hb
   have m1:=u8f n1
   have m2:=u8f n2
   have m3:=u8f n3
   have m4:=u8f n4
   simp only [UInt8.reduceToNat,Int.cast_ofNat_Int] at m1 m2 m3 m4
   by_cases hh:s.getD k 0=35
   ·have cC:=zpS s k (by omega) (by omega)
    have hg:k<zcc zb2 s k∧zcc zb2 s k≤s.length:=zkH (SI.mk k acc f hk hf ha heq) hlt hh
    (repeat' (first|simp -implicitDefEqProofs +contextual (maxSteps:=9000000) only [kx,↓ky,zm6,simprocAttr,hlt,hlt',hh,UInt8.reduceToNat]|(with_reducible first|refine SB.c (fun _=>?_) fun _=>?_|exact REG.j)|refine CK.d0 zrJ cC ?_|with_reducible refine zac ?_|omega))
    exact ⟨SI.hsh (SI.mk k acc f hk hf ha heq) hlt hh,(WFe (by simp [kwf,SI.hsh_k,SI.hsh_acc]) (by simp [kwf,SI.hsh_k,SI.hsh_acc])),by simp only [SI.hsh_k];omega⟩
   ·have m5:=u8f hh
    simp only [UInt8.reduceToNat,Int.cast_ofNat_Int] at m5
    have cO:=zBk s k (by omega) hlt
    by_cases h0:(zcN s k).2.2=0
    ·have hg:k<(zcN s k).2.1.toNat∧(zcN s k).2.1.toNat≤s.length∧(zcN s k).2.1=(((zcN s k).2.1.toNat:Nat):Int):=zoh (SI.mk k acc f hk hf ha heq) hlt h0
     have hrm:=zfg (acc.length+1) 40 (by have:=ha;omega)
     have h0':((zcN s k).2.2 != 0)=false:=by simpa using h0
     (repeat' (first|refine V0 (And.intro zm6 <|And.intro @hlt <|And.intro @hlt' <|And.intro @m1 <|And.intro @m2 <|And.intro @m3 <|And.intro @m4 <|And.intro @m5 <|And.intro @h0' @hrm) ?_|(with_reducible first|refine SB.c (fun _=>?_) fun _=>?_|exact zad)|refine CK.d0 zlM cO ?_|with_reducible refine zac ?_|omega))
     exact ⟨SI.tok (SI.mk k acc f hk hf ha heq) hlt hb hh h0,(WTe [0,2,1] (by simp [kwt,SI.tok_k,SI.tok_acc,zh8,←hg.2.2]) (by simp [kwt,SI.tok_k,SI.tok_acc,zh8,←hg.2.2])),by simp only [SI.tok_k];omega⟩
    ·have h0':((zcN s k).2.2 != 0)=true:=by simpa using h0
     have hbad:scanF s (s.length+1) 0 []=([],(k:Int),(zcN s k).2.2):=SI.bad (SI.mk k acc f hk hf ha heq) hlt hb hh h0
     rw [hbad]
     (repeat' (first|refine V0 (And.intro zm6 <|And.intro @hlt <|And.intro @hlt' <|And.intro @m1 <|And.intro @m2 <|And.intro @m3 <|And.intro @m4 <|And.intro @m5 @h0') ?_|(with_reducible first|refine SB.c (fun _=>?_) fun _=>?_|exact zad)|refine CK.d0 zlM cO ?_|with_reducible refine zac ?_|omega))
 ·have hlt':¬ (k:Int)<s.length:=by omega
  have hfin:scanF s (s.length+1) 0 []=(acc,0,0):=SI.fin (SI.mk k acc f hk hf ha heq) hlt
  rw [hfin]
  (repeat' (first|refine V0 (And.intro zm6 @hlt') ?_|(with_reducible first|refine SB.c (fun _=>?_) fun _=>?_|exact zad)|with_reducible refine zac ?_|omega))
  all_goals simp
theorem zwa (w:World) (M:Mem) (hs:∀ b i u,M b i=some u→w.cell? ⟨b,i,none⟩=some u) (hg:GOK ⟨fun _=>none,gl,fun _=>0,0⟩ M)
  (hx : ∀ b cs, gl b = some cs → cs ≠ [] → ∃ vals T l, w.heap[b]? = some (.cells vals T l) ∧ vals.size = cs.length) : Lib.TabIs Tryz.prog w "internal/strconv.uint64pow10" .u64 Lib.pow10Tab := by
 obtain ⟨cs,hcs,hce⟩:∃ cs,gl 4=some cs∧cs=Lib.pow10Tab.map fun z=>PVal.int .u64 z:=⟨_,rfl,by kernel_rfl⟩
 have hlen:cs.length=Lib.pow10Tab.length:=by rw [hce];simp
 obtain ⟨vals,T,l,hh,hsz⟩:=hx 4 cs hcs (by rw [hce];decide +kernel)
 have hgn : Tryz.prog.globalNamed "internal/strconv.uint64pow10" = some 4 := by kernel_rfl
 unfold Lib.TabIs World.var?
 rw [hgn]
 simp only [Option.bind_some,hh,Option.some.injEq]
 apply Array.ext
 ·rw [hsz,hlen];simp
 ·intro i h1 h2
  have hi:i<cs.length:=by omega
  obtain ⟨u,hu,hr⟩:=hg 4 cs hcs i hi
  have hc:=hs _ _ _ hu
  have h3:vals[i]?=some u:=by simpa [World.cell?,hh] using hc
  rw [Array.getElem?_eq_getElem h1] at h3
  have h4:vals[i]=u:=by simpa using h3
  have hi2:i<Lib.pow10Tab.length:=by omega
  have h5:cs.getD i .nilptr=.int .u64 Lib.pow10Tab[i]:=by
   rw [hce];simp [List.getD,hi2]
  rw [h5] at hr
  have h6:=hr.int_inv
  rw [h4,h6]
  simp
theorem zkT (n:Int) (h0:-9223372036854775808≤n) (h1:n≤9223372036854775807):AC Tryz.prog gl 35 [.pv (.int .i64 n)] [] (.pv (.str (Lib.itoa n))) []:=by
 refine AC.ofCalls (ps:=[.int .i64 n]) fun w M vs hl hr hs hg hx=>?_
 match vs,hl with
 |[v0],_=>
  have e0:v0=_:=(hr 0 (by simp)).int_inv
  subst e0
  refine (Tryz.strconv_Itoa n h0 h1 w (zwa w M hs hg hx)).mono ?_
  rintro e w' ⟨rfl,k,os,rfl⟩
  refine ⟨_,rfl,fun g D M'=>zxz _ _ _ _,?_⟩
  exact Lib.below_grow _ w (Nat.le_refl _) k os
end Go.Proofs.YtfinhhblcdkpgaaGreatDoor
