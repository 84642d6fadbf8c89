/- A part of the walk (Tryz_N3): its theorems have no condition beyond what they state. -/
import Derived.Test.YtfinhhblcdkpgaaGreatDoorN2
set_option maxRecDepth 100000
set_option maxHeartbeats 64000000
set_option linter.unusedSimpArgs false
set_option linter.unusedVariables false
set_option linter.defProp false
namespace Go.Proofs.YtfinhhblcdkpgaaGreatDoor
open Go Go.Abs Go.RowKit
abbrev rT (r:TkD × Int × Int):AVal:=.tup [.agg [.pv (.int .i64 r.1.kind),.pv (.str r.1.text),.pv (.int .i64 r.1.value),.pv (.int .i64 r.1.pos)],.pv (.int .i64 r.2.1),.pv (.int .i64 r.2.2)]
theorem zrq (s:List UInt8) (a:Nat) (hs:s.length≤4096) (ha:a<s.length) (hd:isD (s.getD a 0)=true):AC Tryz.prog gl 180 [.pv (.str s),.pv (.int .i64 a)] [] (rT (ztQ s a)) []:=by
 have hw:=zbc a (by omega)
 have ha':(a:Int)<s.length:=by omega
 have h48:((((s.getD a 0).toNat:Nat):Int) != 48)=true ↔ s.getD a 0≠48:=zC8 (s.getD a 0) 48 (by omega)
 refine zam (fun _=>0) 1 zCY ?_
 (repeat' (first|refine Va (fA2 zwA hw) ?_|(with_reducible first|refine SB.c ?_ ?_<;>intro _|exact zac)|with_reducible refine zab ?_|omega))
 refine za6 (ι:={k:Nat // a<k∧k≤s.length∧(s.getD a 0≠48→zcr isD s k=zcr isD s (a+1))∧(s.getD a 0=48→k=a+1)∧∀ c ∈ cut s a k,isD c=true}) (fun i=>⟨(.pv (.str s)::.pv (.int .i64 a)::.junk::.junk::.ref 0 0::.junk::.junk::.pv (.int .i64 i.1)::jl 43 []),[some (.cells [.pv (.int .i64 0),.pv (.str []),.pv (.int .i64 0),.pv (.int .i64 0)])]⟩) (fun i=>s.length - i.1) ⟨a+1,by omega,by omega,fun _=>rfl,fun _=>rfl,by rw [zhh s a a ha (Nat.le_refl _),znP];simpa using hd⟩ WFn ?_
 rintro ⟨k,hk1,hk2,hr1,hr2,hdig⟩
 have hwk:=zbc k (by omega)
 have cW:=zmJ s k (by omega) hk2
 have hst:=zdk isD s k
 have hen:=zkj isD s k
 have hcl:=zkl s a k hk2
 have hcut:((s.take k).drop a)=cut s a k:=rfl
 by_cases hv:zdr (cut s a k)<9223372036854775808
 ·have cP:=zmI (cut s a k) (zq8 s a k hk1 hk2) hdig (by omega) hv
  (repeat' (first|refine Va (fA5 zwA ha ha' hwk hcut) ?_|(with_reducible first|refine SB.c ?_ ?_<;>intro _|exact zac)|refine CK.d0 zdH (zeY _) ?_|refine CK.d0 zew cW ?_|refine CK.d0 zev cP ?_|with_reducible refine zab ?_|omega))
  ·rename_i hc
   simp only [Bool.and_eq_true,decide_eq_true_eq] at hc
   obtain ⟨⟨c1,c2⟩,c3⟩:=hc
   have hlt:k<s.length:=by omega
   have c3':isD (s.getD k 0)=true:=c3
   exact ⟨⟨k+1,by omega,by omega,fun h=>by rw [←hr1 h,hst hlt,if_pos c3'],fun h=>absurd h (h48.1 c1),fun c hcm=>by
    rw [zhh s a k hlt (by omega),List.mem_append,List.mem_singleton] at hcm
    rcases hcm with hcm|rfl
    ·exact hdig c hcm
    ·exact c3'⟩,WFn,by simp;omega⟩
  ·rename_i hc hg
   have hke:=zdY s a k hr1 hr2 hc h48
   have hg':zcr isW s k > k:=by omega
   simp [ztQ,hke,hg',tk0]
  ·rename_i hc hg
   have hke:=zdY s a k hr1 hr2 hc h48
   have hg':¬ zcr isW s k > k:=by omega
   simp [ztQ,hke,hg',hv,tk0]
 ·have cP:=zi4 (cut s a k) (zq8 s a k hk1 hk2) hdig (by omega) hv
  (repeat' (first|refine Va (fA5 zwA ha ha' hwk hcut) ?_|(with_reducible first|refine SB.c ?_ ?_<;>intro _|exact zac)|refine CK.d0 zdH (zeY _) ?_|refine CK.d0 zew cW ?_|refine CK.d0 zev cP ?_|with_reducible refine zab ?_|omega))
  ·rename_i hc
   simp only [Bool.and_eq_true,decide_eq_true_eq] at hc
   obtain ⟨⟨c1,c2⟩,c3⟩:=hc
   have hlt:k<s.length:=by omega
   have c3':isD (s.getD k 0)=true:=c3
   exact ⟨⟨k+1,by omega,by omega,fun h=>by rw [←hr1 h,hst hlt,if_pos c3'],fun h=>absurd h (h48.1 c1),fun c hcm=>by
    rw [zhh s a k hlt (by omega),List.mem_append,List.mem_singleton] at hcm
    rcases hcm with hcm|rfl
    ·exact hdig c hcm
    ·exact c3'⟩,WFn,by simp;omega⟩
  ·rename_i hc hg
   have hke:=zdY s a k hr1 hr2 hc h48
   have hg':zcr isW s k > k:=by omega
   simp [ztQ,hke,hg',tk0]
  ·rename_i hc hg
   have hke:=zdY s a k hr1 hr2 hc h48
   have hg':¬ zcr isW s k > k:=by omega
   simp [ztQ,hke,hg',hv,tk0]
theorem zzU (s:List UInt8) (a:Nat) (hs:s.length≤4096) (ha:a<s.length):AC Tryz.prog gl 160 [.pv (.str s),.pv (.int .i64 a)] [] (rT (zcQ s a)) []:=by
 have ha':(a:Int)<s.length:=by omega
 have cW:=zmJ s a (by omega) (by omega)
 have h1:=zft isW s a
 have h2:=zgx isW s a (by omega)
 have hsub:IntKind.i64.wrap ((zcr isW s a:Int) - a)=zcr isW s a - a:=zat _ (by omega) (by omega)
 have cS:=zwS s a hs ha
 have hs2:=zkk (s.getD a 0).toNat (zdA s a)
 have hone:=zhg s a ha
 have hwa:IntKind.i64.wrap ((a:Int)+zcF (s.getD a 0).toNat (zdA s a))=a+zcF (s.getD a 0).toNat (zdA s a):=zat _ (by omega) (by omega)
 have e1:zcX ((s.getD a 0).toNat:Int)=isL (s.getD a 0):=rfl
 have e2:zd9 ((s.getD a 0).toNat:Int)=isD (s.getD a 0):=rfl
 refine zam (fun _=>0) 1 zCT ?_
 have hcutw:((s.take (zcr isW s a)).drop a)=cut s a (zcr isW s a):=rfl
 by_cases hl:isL (s.getD a 0)=true
 ·by_cases h16:zcr isW s a - a > 16
  ·have h16':(zcr isW s a:Int) - a > 16:=by omega
   have ho:zcQ s a=(tk0,0,5):=by unfold zcQ;rw [if_pos hl,if_pos h16]
   rw [ho]
   (repeat' (first|refine Va (fA7 zqL ha ha' hsub e1 hl h16') ?_|(with_reducible first|refine SB.c ?_ ?_<;>intro _|exact zac)|refine CK.d0 zdi (zdo _) ?_|refine CK.d0 zew cW ?_|with_reducible refine zab ?_|omega))
   simp [tk0]
  ·have h16':¬ (zcr isW s a:Int) - a > 16:=by omega
   have ho:zcQ s a=((⟨1,cut s a (zcr isW s a),0,(a:Int)⟩:TkD),((zcr isW s a:Nat):Int),(0:Int)):=by unfold zcQ;rw [if_pos hl,if_neg h16]
   rw [ho]
   (repeat' (first|refine Va (fA8 zqL ha ha' hsub e1 hl h16' hcutw) ?_|(with_reducible first|refine SB.c ?_ ?_<;>intro _|exact zac)|refine CK.d0 zdi (zdo _) ?_|refine CK.d0 zew cW ?_|with_reducible refine zab ?_|omega))
 ·have hl':isL (s.getD a 0)=false:=by simpa using hl
  by_cases hd:isD (s.getD a 0)=true
  ·have ho:zcQ s a=ztQ s a:=by unfold zcQ;rw [if_neg hl,if_pos hd]
   have cN:=zrq s a hs ha hd
   rw [ho]
   (repeat' (first|refine Va (fA7 zqL ha ha' e1 hl' e2 hd) ?_|(with_reducible first|refine SB.c ?_ ?_<;>intro _|exact zac)|refine CK.d0 zdi (zdo _) ?_|refine CK.d0 zdH (zeY _) ?_|refine CK.d0 zq1 cN ?_|with_reducible refine zab ?_|omega))
  ·have hd':isD (s.getD a 0)=false:=by simpa using hd
   generalize hsg:zcF (s.getD a 0).toNat (zdA s a)=g at *
   by_cases h0:g=0
   ·have ho:zcQ s a=(tk0,0,1):=by unfold zcQ;rw [if_neg hl,if_neg hd,hsg,if_pos h0]
    have h0':(g==0)=true:=by simpa using h0
    rw [ho]
    (repeat' (first|refine Va (fA8 zqL ha ha' e1 hl' e2 hd' h0') ?_|(with_reducible first|refine SB.c ?_ ?_<;>intro _|exact zac)|refine CK.d0 zdi (zdo _) ?_|refine CK.d0 zdH (zeY _) ?_|refine CK.d0 zlr cS ?_|with_reducible refine zab ?_|omega))
    simp [tk0]
   ·have ho:zcQ s a=((⟨3,cut s a (a+g.toNat),0,(a:Int)⟩:TkD),(a:Int)+g,(0:Int)):=by unfold zcQ;rw [if_neg hl,if_neg hd,hsg,if_neg h0]
    have h0':(g==0)=false:=by simpa using h0
    obtain ⟨e,he1,he2,he3⟩:=hone (by rw [ho])
    rw [ho] at he1
    have hle:(a:Int)+g≤s.length:=by simp only at he1;omega
    have hge:(a:Int)≤a+g:=by omega
    have hge0:(0:Int)≤a+g:=by omega
    have htn:((a:Int)+g).toNat=a+g.toNat:=by omega
    have hcutg:((s.take (a+g.toNat)).drop a)=cut s a (a+g.toNat):=rfl
    rw [ho]
    (repeat' (first|refine Va (zy9 zqL ha ha' e1 hl' e2 hd' h0' hwa hle hge hge0 htn hcutg) ?_|(with_reducible first|refine SB.c ?_ ?_<;>intro _|exact zac)|refine CK.d0 zdi (zdo _) ?_|refine CK.d0 zdH (zeY _) ?_|refine CK.d0 zlr cS ?_|with_reducible refine zab ?_|omega))
end Go.Proofs.YtfinhhblcdkpgaaGreatDoor
