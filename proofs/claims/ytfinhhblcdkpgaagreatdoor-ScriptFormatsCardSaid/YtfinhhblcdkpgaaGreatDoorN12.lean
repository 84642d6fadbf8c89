/- A part of the walk (Tryz_N4): its theorems have no condition beyond what they state. -/
import Derived.Test.YtfinhhblcdkpgaaGreatDoorN3
import Derived.Test.YtfinhhblcdkpgaaGreatDoorLib3
import Derived.Lib.AppendIntMem
set_option maxRecDepth 100000
set_option maxHeartbeats 64000000
set_option linter.unusedSimpArgs false
set_option linter.unusedVariables false
set_option linter.defProp false
namespace Go.Proofs.YtfinhhblcdkpgaaGreatDoor
open Go Go.Abs Go.RowKit
abbrev rS (r:List TkD × Int × Int):AVal:=.tup [.pv (.slice (r.1.map zki)),.pv (.int .i64 r.2.1),.pv (.int .i64 r.2.2)]
theorem zwT (s:List UInt8):AC Tryz.prog gl 123 [.pv (.str s)] [] (rS (zi3 s)) []:=by
 refine zam (fun d=>if d=7 then 0 else 2) 3 zCG ?_
 by_cases hbig:s.length > 4096
 ·have hbig':(s.length:Int) > 4096:=by omega
  have hsc:zi3 s=([],0,5):=by unfold zi3;rw [if_pos hbig]
  rw [hsc]
  (repeat' (first|refine Va (fA2 zmu hbig') ?_|(with_reducible first|refine SB.c ?_ ?_<;>intro _|exact zac)|with_reducible refine zab ?_|omega))
 have hbig':¬ (s.length:Int) > 4096:=by omega
 have hsc:zi3 s=zcG s (s.length+1) 0 []:=by unfold zi3;rw [if_neg hbig]
 rw [hsc]
 (repeat' (first|refine Va (fA2 zmu hbig') ?_|(with_reducible first|refine SB.c ?_ ?_<;>intro _|exact zac)|with_reducible refine zab ?_|omega))
 (refine LW.weak (zbK.nilRow 5 1 4 rfl rfl (by decide)) ?_;simp only [List.set_cons_zero,List.set_cons_succ])
 refine za6 (ι:=SI s) (fun i=>⟨(.pv (.str s)::jl 4 (.row 1 i.acc.length::.pv (.int .i64 i.k)::jl 42 [])),[none,some (.row 4 (i.acc.map zki)),none]⟩) (fun i=>s.length - i.k) (SI.start s) (WFe (by simp [kwf,SI.start_k,SI.start_acc]) (by simp [kwf,SI.start_k,SI.start_acc])) ?_
 rintro ⟨k,acc,f,hk,hf,ha,heq⟩
 by_cases hlt:k<s.length
 ·have hlt':(k:Int)<s.length:=by omega
  have hw:=zbc k (by omega)
  by_cases hb:isB (s.getD k 0)=true
  ·rcases zzN hb with hc|hc|hc|hc
   all_goals
    (repeat' (first|simp -implicitDefEqProofs +contextual (maxSteps:=9000000) only [kx,↓ky,zmu,simprocAttr,hlt,hlt',hc,UInt8.reduceToNat,hw]|(with_reducible first|refine SB.c ?_ ?_<;>intro _|exact zac)|with_reducible refine zab ?_|omega))
    exact ⟨SI.blank (SI.mk k acc f hk hf ha heq) hlt hb,(WFe (by simp [kwf,SI.blank_k,SI.blank_acc]) (by simp [kwf,SI.blank_k,SI.blank_acc])),by simp only [SI.blank_k];omega⟩
  ·obtain ⟨n1,n2,n3,n4⟩:=zwE hb
   have m1:=u8f n1
   have m2:=u8f n2
   have m3:=u8f n3
   have m4:=u8f n4
   simp only [UInt8.reduceToNat,Int.cast_ofNat_Int] at m1 m2 m3 m4
   by_cases hh:s.getD k 0=35
   ·have cC:=zo9 s k (by omega) (by omega)
    have hg:k<zcr zbQ s k∧zcr zbQ s k≤s.length:=zkm (SI.mk k acc f hk hf ha heq) hlt hh
    (repeat' (first|simp -implicitDefEqProofs +contextual (maxSteps:=9000000) only [kx,↓ky,zmu,simprocAttr,hlt,hlt',hh,UInt8.reduceToNat]|(with_reducible first|refine SB.c ?_ ?_<;>intro _|exact zac)|refine CK.d0 zqW cC ?_|with_reducible refine zab ?_|omega))
    exact ⟨SI.hsh (SI.mk k acc f hk hf ha heq) hlt hh,(WFe (by simp [kwf,SI.hsh_k,SI.hsh_acc]) (by simp [kwf,SI.hsh_k,SI.hsh_acc])),by simp only [SI.hsh_k];omega⟩
   ·have m5:=u8f hh
    simp only [UInt8.reduceToNat,Int.cast_ofNat_Int] at m5
    have cO:=zzU s k (by omega) hlt
    by_cases h0:(zcQ s k).2.2=0
    ·have hg:k<(zcQ s k).2.1.toNat∧(zcQ s k).2.1.toNat≤s.length∧(zcQ s k).2.1=(((zcQ s k).2.1.toNat:Nat):Int):=znQ (SI.mk k acc f hk hf ha heq) hlt h0
     have hrm:=zej (acc.length+1) 40 (by have:=ha;omega)
     have h0':((zcQ s k).2.2 != 0)=false:=by simpa using h0
     (repeat' (first|refine Va (zpB zmu hlt hlt' m1 m2 m3 m4 m5 h0' hrm) ?_|(with_reducible first|refine SB.c ?_ ?_<;>intro _|exact zac)|refine CK.d0 zlo cO ?_|with_reducible refine zab ?_|omega))
     exact ⟨SI.tok (SI.mk k acc f hk hf ha heq) hlt hb hh h0,(WTe [0,2,1] (by simp [kwt,SI.tok_k,SI.tok_acc,zki,←hg.2.2]) (by simp [kwt,SI.tok_k,SI.tok_acc,zki,←hg.2.2])),by simp only [SI.tok_k];omega⟩
    ·have h0':((zcQ s k).2.2 != 0)=true:=by simpa using h0
     have hbad:zcG s (s.length+1) 0 []=([],(k:Int),(zcQ s k).2.2):=SI.bad (SI.mk k acc f hk hf ha heq) hlt hb hh h0
     rw [hbad]
     (repeat' (first|refine Va (fA9 zmu hlt hlt' m1 m2 m3 m4 m5 h0') ?_|(with_reducible first|refine SB.c ?_ ?_<;>intro _|exact zac)|refine CK.d0 zlo cO ?_|with_reducible refine zab ?_|omega))
 ·have hlt':¬ (k:Int)<s.length:=by omega
  have hfin:zcG s (s.length+1) 0 []=(acc,0,0):=SI.fin (SI.mk k acc f hk hf ha heq) hlt
  rw [hfin]
  (repeat' (first|refine Va (fA2 zmu hlt') ?_|(with_reducible first|refine SB.c ?_ ?_<;>intro _|exact zac)|with_reducible refine zab ?_|omega))
  all_goals simp
theorem zeZ (n:Int):AC Tryz.prog gl 97 [.pv (.int .u8 n)] [] (.pv (.bool (zcX n))) []:=by
 refine zam (fun _=>0) 0 zFw ?_
 simp -implicitDefEqProofs +contextual (maxSteps:=9000000) only [kx,↓ky,zFa,simprocAttr]
 grind [zcX]
theorem zrr (n:Int):AC Tryz.prog gl 99 [.pv (.int .u8 n)] [] (.pv (.bool (zd9 n))) []:=by
 refine zam (fun _=>0) 0 zFy ?_
 simp -implicitDefEqProofs +contextual (maxSteps:=9000000) only [kx,↓ky,zFb,simprocAttr]
 grind [zd9]
structure DcI (n:Nat) where
 m:Nat
 f:Nat
 acc:List UInt8
 hm:m<10 ^ f
 hf:f≤20
 hl:acc.length+f≤20
 hb:m≤9223372036854775807
 eq:dg f m++acc=dg 20 n
theorem zdO (n:Int) (h1:n≤9223372036854775807):AC Tryz.prog gl 47 [.pv (.int .i64 n)] [] (.pv (.str (zdm n))) []:=by
 refine zam (fun _=>0) 0 zFh ?_
 by_cases h0:n≤0
 ·have hd:zdm n=[48]:=by unfold zdm;rw [if_pos h0]
  rw [hd]
  (repeat' (first|refine Va (fA2 zAy h0) ?_|(with_reducible first|refine SB.c ?_ ?_<;>intro _|exact zac)|with_reducible refine zab ?_|omega))
 have hd:zdm n=dg 20 n.toNat:=by unfold zdm;rw [if_neg h0]
 rw [hd]
 (repeat' (first|refine Va (fA2 zAy h0) ?_|(with_reducible first|refine SB.c ?_ ?_<;>intro _|exact zac)|with_reducible refine zab ?_|omega))
 refine za6 (ι:=DcI n.toNat) (fun i=>⟨(.pv (.int .i64 i.m)::.junk::.junk::.pv (.str i.acc)::jl 15 []),[]⟩) (fun i=>i.m) ⟨n.toNat,20,[],by omega,by omega,by simp,by omega,by simp⟩ (WFe (by simp [kwf,show ((n.toNat:Nat):Int)=n by omega]) (by simp [kwf,show ((n.toNat:Nat):Int)=n by omega])) ?_
 rintro ⟨m,f,acc,hm,hf,hl,hb,heq⟩
 by_cases hz:m=0
 ·subst hz
  rw [zcY,List.nil_append] at heq
  (repeat' (first|refine Va zAy ?_|(with_reducible first|refine SB.c ?_ ?_<;>intro _|exact zac)|with_reducible refine zab ?_|omega))
  all_goals exact heq
 ·have hp:(m:Int) > 0:=by omega
  have e1:(m:Int).tmod 10=((m % 10:Nat):Int):=by rw [Int.tmod_eq_emod_of_nonneg (by omega)];omega
  have e2:(m:Int).tdiv 10=((m / 10:Nat):Int):=by rw [Int.tdiv_eq_ediv_of_nonneg (by omega)];omega
  have hr:m % 10<10:=Nat.mod_lt _ (by omega)
  have e3:IntKind.i64.wrap (48+((m % 10:Nat):Int))=((48+m % 10:Nat):Int):=by rw [zat _ (by omega) (by omega)];omega
  have e4:IntKind.u8.wrap ((48+m % 10:Nat):Int)=((48+m % 10:Nat):Int):=IntWalk.u8_in _ ⟨by omega,by omega⟩
  have e5:IntKind.i64.wrap ((m / 10:Nat):Int)=((m / 10:Nat):Int):=zat _ (by omega) (by omega)
  have e6:zfH [((48+m % 10:Nat):Int)]=[UInt8.ofNat (48+m % 10)]:=rfl
  obtain ⟨f',rfl⟩:∃ f',f=f'+1:=by
   cases f with
   |zero=>exact absurd (by simpa using hm) hz
   |succ f'=>exact ⟨f',rfl⟩
  rw [zdB _ _ hz,List.append_assoc] at heq
  (repeat' (first|refine Va (fA8 zAy hp e1 e2 e3 e4 e5 e6) ?_|(with_reducible first|refine SB.c ?_ ?_<;>intro _|exact zac)|with_reducible refine zab ?_|omega))
  exact ⟨⟨m / 10,f',UInt8.ofNat (48+m % 10)::acc,by rw [Nat.pow_succ] at hm;omega,by omega,by simp;omega,by omega,heq⟩,WFn,by simp;omega⟩
theorem zuY (w:World) (M:Mem) (hs:∀ b i u,M b i=some u→w.cell? ⟨b,i,none⟩=some u) (hg:GOK ⟨fun _=>none,gl,fun _=>0,0⟩ M)
  (hx : ∀ b cs, gl b = some cs → cs ≠ [] → ∃ vals T l, w.heap[b]? = some (.cells vals T l) ∧ vals.size = cs.length) : Lib.TabIs Tryz.prog w "internal/strconv.uint64pow10" .u64 Lib.pow10Tab := by
 obtain ⟨cs,hcs,hce⟩:∃ cs,gl 4=some cs∧cs=Lib.pow10Tab.map fun z=>PVal.int .u64 z:=⟨_,rfl,by kernel_rfl⟩
 have hlen:cs.length=Lib.pow10Tab.length:=by rw [hce];simp
 obtain ⟨vals,T,l,hh,hsz⟩:=hx 4 cs hcs (by rw [hce];decide +kernel)
 have hgn : Tryz.prog.globalNamed "internal/strconv.uint64pow10" = some 4 := by kernel_rfl
 unfold Lib.TabIs World.var?
 rw [hgn]
 simp only [Option.bind_some,hh,Option.some.injEq]
 apply Array.ext
 ·rw [hsz,hlen];simp
 ·intro i h1 h2
  have hi:i<cs.length:=by omega
  obtain ⟨u,hu,hr⟩:=hg 4 cs hcs i hi
  have hc:=hs _ _ _ hu
  have h3:vals[i]?=some u:=by simpa [World.cell?,hh] using hc
  rw [Array.getElem?_eq_getElem h1] at h3
  have h4:vals[i]=u:=by simpa using h3
  have hi2:i<Lib.pow10Tab.length:=by omega
  have h5:cs.getD i .nilptr=.int .u64 Lib.pow10Tab[i]:=by
   rw [hce];simp [List.getD,hi2]
  rw [h5] at hr
  have h6:=hr.int_inv
  rw [h4,h6]
  simp
theorem zky (n:Int) (h0:-9223372036854775808≤n) (h1:n≤9223372036854775807):AC Tryz.prog gl 35 [.pv (.int .i64 n)] [] (.pv (.str (Lib.itoa n))) []:=by
 refine AC.ofCalls (ps:=[.int .i64 n]) fun w M vs hl hr hs hg hx=>?_
 match vs,hl with
 |[v0],_=>
  have e0:v0=_:=(hr 0 (by simp)).int_inv
  subst e0
  refine (Tryz.strconv_Itoa n h0 h1 w (zuY w M hs hg hx)).mono ?_
  rintro e w' ⟨rfl,k,os,rfl⟩
  refine ⟨_,rfl,fun g D M'=>zwh _ _ _ _,?_⟩
  exact Lib.below_grow _ w (Nat.le_refl _) k os
end Go.Proofs.YtfinhhblcdkpgaaGreatDoor
