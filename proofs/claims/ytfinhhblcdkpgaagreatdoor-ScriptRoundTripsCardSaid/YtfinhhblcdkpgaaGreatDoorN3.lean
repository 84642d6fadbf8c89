/- A part of the walk (Tryz_N3): its theorems have no condition beyond what they state. -/
import Derived.Test.YtfinhhblcdkpgaaGreatDoorN2
set_option maxRecDepth 100000
set_option maxHeartbeats 64000000
set_option linter.unusedSimpArgs false
set_option linter.unusedVariables false
set_option linter.defProp false
namespace Go.Proofs.YtfinhhblcdkpgaaGreatDoor
open Go Go.Abs Go.RowKit
abbrev rT (r:TkD × Int × Int):AVal:=.tup [.agg [.pv (.int .i64 r.1.kind),.pv (.str r.1.text),.pv (.int .i64 r.1.value),.pv (.int .i64 r.1.pos)],.pv (.int .i64 r.2.1),.pv (.int .i64 r.2.2)]
theorem zsn (s:List UInt8) (a:Nat) (hs:s.length≤4096) (ha:a<s.length) (hd:isD (s.getD a 0)=true):AC Tryz.prog gl 180 [.pv (.str s),.pv (.int .i64 a)] [] (rT (zts s a)) []:=by
 have hw:=zbu a (by omega)
 have ha':(a:Int)<s.length:=by omega
 have h48:((((s.getD a 0).toNat:Nat):Int) != 48)=true ↔ s.getD a 0≠48:=zEJ (s.getD a 0) 48 (by omega)
 refine zaK (fun _=>0) 1 zEz ?_
 (repeat' (first|refine Va (fA2 zxV hw) ?_|(with_reducible first|refine SB.c ?_ ?_<;>intro _|exact zad)|with_reducible refine zac ?_|omega))
 refine zbx (ι:={k:Nat // a<k∧k≤s.length∧(s.getD a 0≠48→zcd isD s k=zcd isD s (a+1))∧(s.getD a 0=48→k=a+1)∧∀ c ∈ cut s a k,isD c=true}) (fun i=>⟨(.pv (.str s)::.pv (.int .i64 a)::.junk::.junk::.ref 0 0::.junk::.junk::.pv (.int .i64 i.1)::jl 43 []),[some (.cells [.pv (.int .i64 0),.pv (.str []),.pv (.int .i64 0),.pv (.int .i64 0)])]⟩) (fun i=>s.length - i.1) ⟨a+1,by omega,by omega,fun _=>rfl,fun _=>rfl,by rw [zho s a a ha (Nat.le_refl _),zoo];simpa using hd⟩ WFn ?_
 rintro ⟨k,hk1,hk2,hr1,hr2,hdig⟩
 have hwk:=zbu k (by omega)
 have cW:=znp s k (by omega) hk2
 have hst:=zdr isD s k
 have hen:=zkH isD s k
 have hcl:=zkJ s a k hk2
 have hcut:((s.take k).drop a)=cut s a k:=rfl
 by_cases hv:zds (cut s a k)<9223372036854775808
 ·have cP:=zno (cut s a k) (zr0 s a k hk1 hk2) hdig (by omega) hv
  (repeat' (first|refine Va (fA5 zxV ha ha' hwk hcut) ?_|(with_reducible first|refine SB.c ?_ ?_<;>intro _|exact zad)|refine CK.d0 zdY (zfa _) ?_|refine CK.d0 zeK cW ?_|refine CK.d0 zeJ cP ?_|with_reducible refine zac ?_|omega))
  ·rename_i hc
   simp only [Bool.and_eq_true,decide_eq_true_eq] at hc
   obtain ⟨⟨c1,c2⟩,c3⟩:=hc
   have hlt:k<s.length:=by omega
   have c3':isD (s.getD k 0)=true:=c3
   exact ⟨⟨k+1,by omega,by omega,fun h=>by rw [←hr1 h,hst hlt,if_pos c3'],fun h=>absurd h (h48.1 c1),fun c hcm=>by
    rw [zho s a k hlt (by omega),List.mem_append,List.mem_singleton] at hcm
    rcases hcm with hcm|rfl
    ·exact hdig c hcm
    ·exact c3'⟩,WFn,by simp;omega⟩
  ·rename_i hc hg
   have hke:=zeg s a k hr1 hr2 hc h48
   have hg':zcd isW s k > k:=by omega
   simp [zts,hke,hg',tk0]
  ·rename_i hc hg
   have hke:=zeg s a k hr1 hr2 hc h48
   have hg':¬ zcd isW s k > k:=by omega
   simp [zts,hke,hg',hv,tk0]
 ·have cP:=zjd (cut s a k) (zr0 s a k hk1 hk2) hdig (by omega) hv
  (repeat' (first|refine Va (fA5 zxV ha ha' hwk hcut) ?_|(with_reducible first|refine SB.c ?_ ?_<;>intro _|exact zad)|refine CK.d0 zdY (zfa _) ?_|refine CK.d0 zeK cW ?_|refine CK.d0 zeJ cP ?_|with_reducible refine zac ?_|omega))
  ·rename_i hc
   simp only [Bool.and_eq_true,decide_eq_true_eq] at hc
   obtain ⟨⟨c1,c2⟩,c3⟩:=hc
   have hlt:k<s.length:=by omega
   have c3':isD (s.getD k 0)=true:=c3
   exact ⟨⟨k+1,by omega,by omega,fun h=>by rw [←hr1 h,hst hlt,if_pos c3'],fun h=>absurd h (h48.1 c1),fun c hcm=>by
    rw [zho s a k hlt (by omega),List.mem_append,List.mem_singleton] at hcm
    rcases hcm with hcm|rfl
    ·exact hdig c hcm
    ·exact c3'⟩,WFn,by simp;omega⟩
  ·rename_i hc hg
   have hke:=zeg s a k hr1 hr2 hc h48
   have hg':zcd isW s k > k:=by omega
   simp [zts,hke,hg',tk0]
  ·rename_i hc hg
   have hke:=zeg s a k hr1 hr2 hc h48
   have hg':¬ zcd isW s k > k:=by omega
   simp [zts,hke,hg',hv,tk0]
theorem zBw (s:List UInt8) (a:Nat) (hs:s.length≤4096) (ha:a<s.length):AC Tryz.prog gl 160 [.pv (.str s),.pv (.int .i64 a)] [] (rT (zcO s a)) []:=by
 have ha':(a:Int)<s.length:=by omega
 have cW:=znp s a (by omega) (by omega)
 have h1:=zfF isW s a
 have h2:=zgE isW s a (by omega)
 have hsub:IntKind.i64.wrap ((zcd isW s a:Int) - a)=zcd isW s a - a:=zaB _ (by omega) (by omega)
 have cS:=zyf s a hs ha
 have hs2:=zkI (s.getD a 0).toNat (zdD s a)
 have hone:=zgd s a ha
 have hwa:IntKind.i64.wrap ((a:Int)+zbg (s.getD a 0).toNat (zdD s a))=a+zbg (s.getD a 0).toNat (zdD s a):=zaB _ (by omega) (by omega)
 have e1:zeO ((s.getD a 0).toNat:Int)=isL (s.getD a 0):=rfl
 have e2:zgc ((s.getD a 0).toNat:Int)=isD (s.getD a 0):=rfl
 refine zaK (fun _=>0) 1 zEu ?_
 have hcutw:((s.take (zcd isW s a)).drop a)=cut s a (zcd isW s a):=rfl
 by_cases hl:isL (s.getD a 0)=true
 ·by_cases h16:zcd isW s a - a > 16
  ·have h16':(zcd isW s a:Int) - a > 16:=by omega
   have ho:zcO s a=(tk0,0,5):=by unfold zcO;rw [if_pos hl,if_pos h16]
   rw [ho]
   (repeat' (first|refine Va (fA7 zrC ha ha' hsub e1 hl h16') ?_|(with_reducible first|refine SB.c ?_ ?_<;>intro _|exact zad)|refine CK.d0 zdq (zdy _) ?_|refine CK.d0 zeK cW ?_|with_reducible refine zac ?_|omega))
   simp [tk0]
  ·have h16':¬ (zcd isW s a:Int) - a > 16:=by omega
   have ho:zcO s a=((⟨1,cut s a (zcd isW s a),0,(a:Int)⟩:TkD),((zcd isW s a:Nat):Int),(0:Int)):=by unfold zcO;rw [if_pos hl,if_neg h16]
   rw [ho]
   (repeat' (first|refine Va (fA8 zrC ha ha' hsub e1 hl h16' hcutw) ?_|(with_reducible first|refine SB.c ?_ ?_<;>intro _|exact zad)|refine CK.d0 zdq (zdy _) ?_|refine CK.d0 zeK cW ?_|with_reducible refine zac ?_|omega))
 ·have hl':isL (s.getD a 0)=false:=by simpa using hl
  by_cases hd:isD (s.getD a 0)=true
  ·have ho:zcO s a=zts s a:=by unfold zcO;rw [if_neg hl,if_pos hd]
   have cN:=zsn s a hs ha hd
   rw [ho]
   (repeat' (first|refine Va (fA7 zrC ha ha' e1 hl' e2 hd) ?_|(with_reducible first|refine SB.c ?_ ?_<;>intro _|exact zad)|refine CK.d0 zdq (zdy _) ?_|refine CK.d0 zdY (zfa _) ?_|refine CK.d0 zrS cN ?_|with_reducible refine zac ?_|omega))
  ·have hd':isD (s.getD a 0)=false:=by simpa using hd
   generalize hsg:zbg (s.getD a 0).toNat (zdD s a)=g at *
   by_cases h0:g=0
   ·have ho:zcO s a=(tk0,0,1):=by unfold zcO;rw [if_neg hl,if_neg hd,hsg,if_pos h0]
    have h0':(g==0)=true:=by simpa using h0
    rw [ho]
    (repeat' (first|refine Va (fA8 zrC ha ha' e1 hl' e2 hd' h0') ?_|(with_reducible first|refine SB.c ?_ ?_<;>intro _|exact zad)|refine CK.d0 zdq (zdy _) ?_|refine CK.d0 zdY (zfa _) ?_|refine CK.d0 zlS cS ?_|with_reducible refine zac ?_|omega))
    simp [tk0]
   ·have ho:zcO s a=((⟨3,cut s a (a+g.toNat),0,(a:Int)⟩:TkD),(a:Int)+g,(0:Int)):=by unfold zcO;rw [if_neg hl,if_neg hd,hsg,if_neg h0]
    have h0':(g==0)=false:=by simpa using h0
    obtain ⟨e,he1,he2,he3⟩:=hone (by rw [ho])
    rw [ho] at he1
    have hle:(a:Int)+g≤s.length:=by simp only at he1;omega
    have hge:(a:Int)≤a+g:=by omega
    have hge0:(0:Int)≤a+g:=by omega
    have htn:((a:Int)+g).toNat=a+g.toNat:=by omega
    have hcutg:((s.take (a+g.toNat)).drop a)=cut s a (a+g.toNat):=rfl
    rw [ho]
    (repeat' (first|refine Va (zAK zrC ha ha' e1 hl' e2 hd' h0' hwa hle hge hge0 htn hcutg) ?_|(with_reducible first|refine SB.c ?_ ?_<;>intro _|exact zad)|refine CK.d0 zdq (zdy _) ?_|refine CK.d0 zdY (zfa _) ?_|refine CK.d0 zlS cS ?_|with_reducible refine zac ?_|omega))
end Go.Proofs.YtfinhhblcdkpgaaGreatDoor
