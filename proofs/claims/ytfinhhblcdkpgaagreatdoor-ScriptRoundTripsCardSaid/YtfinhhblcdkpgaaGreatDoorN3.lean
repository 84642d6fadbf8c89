/- A part of the walk (Tryz_N3): its theorems have no condition beyond what they state. -/
import Derived.Test.YtfinhhblcdkpgaaGreatDoorN2
set_option maxRecDepth 100000
set_option maxHeartbeats 64000000
namespace Go.Proofs.YtfinhhblcdkpgaaGreatDoor
open Go Go.Abs Go.RowKit
abbrev rT (r:TkD × Int × Int):AVal:=.tup [.agg [.pv (.int .i64 r.1.kind),.pv (.str r.1.text),.pv (.int .i64 r.1.value),.pv (.int .i64 r.1.pos)],.pv (.int .i64 r.2.1),.pv (.int .i64 r.2.2)]
theorem zsj (s:List UInt8) (a:Nat) (hs:s.length≤4096) (ha:a<s.length) (hd:isD (s.getD a 0)=true):AC Tryz.prog gl 180 [.pv (.str s),.pv (.int .i64 a)] [] (rT (ztn s a)) []:=by
 have hw:=zbu a (by omega)
 have ha':(a:Int)<s.length:=by omega
 have h48:((((s.getD a 0).toNat:Nat):Int) != 48)=true ↔ s.getD a 0≠48:=zEv (s.getD a 0) 48 (by omega)
 refine zaK (fun _=>0) 1 zEl ?_
 (repeat' (first|refine V0 (And.intro zxR @hw) ?_|(with_reducible first|refine SB.c (fun _=>?_) fun _=>?_|exact zad)|with_reducible refine zac ?_|omega))
 refine zbw (ι:={k:Nat // a<k∧k≤s.length∧(s.getD a 0≠48→zcc isD s k=zcc isD s (a+1))∧(s.getD a 0=48→k=a+1)∧∀ c ∈ cut s a k,isD c=true}) (fun i=>⟨(.pv (.str s)::.pv (.int .i64 a)::.junk::.junk::.ref 0 0::.junk::.junk::.pv (.int .i64 i.1)::jl 43 []),[some (.cells [.pv (.int .i64 0),.pv (.str []),.pv (.int .i64 0),.pv (.int .i64 0)])]⟩) (fun i=>s.length - i.1) ⟨a+1,by omega,by omega,fun _=>rfl,fun _=>rfl,by rw [zho s a a ha (Nat.le_refl _),zog];simpa using hd⟩ WFn ?_
 rintro ⟨k,hk1,hk2,hr1,hr2,hdig⟩
 have hwk:=zbu k (by omega)
 have cW:=znk s k (by omega) hk2
 have hst:=zdq isD s k
 have hen:=zkE isD s k
 have hcl:=zkG s a k hk2
 have hcut:((s.take k).drop a)=cut s a k:=rfl
 by_cases hv:zdr (cut s a k)<9223372036854775808
 ·have cP:=znj (cut s a k) (zrW s a k hk1 hk2) hdig (by omega) hv
  (repeat' (first|refine V0 (And.intro zxR <|And.intro @ha <|And.intro @ha' <|And.intro @hwk @hcut) ?_|(with_reducible first|refine SB.c (fun _=>?_) fun _=>?_|exact zad)|refine CK.d0 zdX (ze7 _) ?_|refine CK.d0 zeF cW ?_|refine CK.d0 zeE cP ?_|with_reducible refine zac ?_|omega))
  ·rename_i hc
   simp only [Bool.and_eq_true,decide_eq_true_eq] at hc
   obtain ⟨⟨c1,c2⟩,c3⟩:=hc
   have hlt:k<s.length:=by omega
   have c3':isD (s.getD k 0)=true:=c3
   exact ⟨⟨k+1,by omega,by omega,fun h=>by rw [←hr1 h,hst hlt,if_pos c3'],fun h=>absurd h (h48.1 c1),fun c hcm=>by
    rw [zho s a k hlt (by omega),List.mem_append,List.mem_singleton] at hcm
    rcases hcm with hcm|rfl
    ·exact hdig c hcm
    ·exact c3'⟩,WFn,by simp;omega⟩
  ·rename_i hc hg
   have hke:=zef s a k hr1 hr2 hc h48
   have hg':zcc isW s k > k:=by omega
   simp [ztn,hke,hg',tk0]
  ·rename_i hc hg
   have hke:=zef s a k hr1 hr2 hc h48
   have hg':¬ zcc isW s k > k:=by omega
   simp [ztn,hke,hg',hv,tk0]
 ·have cP:=zjd (cut s a k) (zrW s a k hk1 hk2) hdig (by omega) hv
  (repeat' (first|refine V0 (And.intro zxR <|And.intro @ha <|And.intro @ha' <|And.intro @hwk @hcut) ?_|(with_reducible first|refine SB.c (fun _=>?_) fun _=>?_|exact zad)|refine CK.d0 zdX (ze7 _) ?_|refine CK.d0 zeF cW ?_|refine CK.d0 zeE cP ?_|with_reducible refine zac ?_|omega))
  ·rename_i hc
   simp only [Bool.and_eq_true,decide_eq_true_eq] at hc
   obtain ⟨⟨c1,c2⟩,c3⟩:=hc
   have hlt:k<s.length:=by omega
   have c3':isD (s.getD k 0)=true:=c3
   exact ⟨⟨k+1,by omega,by omega,fun h=>by rw [←hr1 h,hst hlt,if_pos c3'],fun h=>absurd h (h48.1 c1),fun c hcm=>by
    rw [zho s a k hlt (by omega),List.mem_append,List.mem_singleton] at hcm
    rcases hcm with hcm|rfl
    ·exact hdig c hcm
    ·exact c3'⟩,WFn,by simp;omega⟩
  ·rename_i hc hg
   have hke:=zef s a k hr1 hr2 hc h48
   have hg':zcc isW s k > k:=by omega
   simp [ztn,hke,hg',tk0]
  ·rename_i hc hg
   have hke:=zef s a k hr1 hr2 hc h48
   have hg':¬ zcc isW s k > k:=by omega
   simp [ztn,hke,hg',hv,tk0]
theorem zBk (s:List UInt8) (a:Nat) (hs:s.length≤4096) (ha:a<s.length):AC Tryz.prog gl 160 [.pv (.str s),.pv (.int .i64 a)] [] (rT (zcN s a)) []:=by
 have ha':(a:Int)<s.length:=by omega
 have cW:=znk s a (by omega) (by omega)
 have h1:=zfC isW s a
 have h2:=zgB isW s a (by omega)
 have hsub:IntKind.i64.wrap ((zcc isW s a:Int) - a)=zcc isW s a - a:=zaB _ (by omega) (by omega)
 have cS:=zyb s a hs ha
 have hs2:=zkF (s.getD a 0).toNat (zdC s a)
 have hone:=zf9 s a ha
 have hwa:IntKind.i64.wrap ((a:Int)+zbg (s.getD a 0).toNat (zdC s a))=a+zbg (s.getD a 0).toNat (zdC s a):=zaB _ (by omega) (by omega)
 have e1:zeJ ((s.getD a 0).toNat:Int)=isL (s.getD a 0):=rfl
 have e2:zf8 ((s.getD a 0).toNat:Int)=isD (s.getD a 0):=rfl
 refine zaK (fun _=>0) 1 zEg ?_
 have hcutw:((s.take (zcc isW s a)).drop a)=cut s a (zcc isW s a):=rfl
 by_cases hl:isL (s.getD a 0)=true
 ·by_cases h16:zcc isW s a - a > 16
  ·have h16':(zcc isW s a:Int) - a > 16:=by omega
   have ho:zcN s a=(tk0,0,5):=by unfold zcN;rw [if_pos hl,if_pos h16]
   rw [ho]
   (repeat' (first|refine V0 (And.intro zry <|And.intro @ha <|And.intro @ha' <|And.intro @hsub <|And.intro @e1 <|And.intro @hl @h16') ?_|(with_reducible first|refine SB.c (fun _=>?_) fun _=>?_|exact zad)|refine CK.d0 zdp (zdx _) ?_|refine CK.d0 zeF cW ?_|with_reducible refine zac ?_|omega))
   simp [tk0]
  ·have h16':¬ (zcc isW s a:Int) - a > 16:=by omega
   have ho:zcN s a=((⟨1,cut s a (zcc isW s a),0,(a:Int)⟩:TkD),((zcc isW s a:Nat):Int),(0:Int)):=by unfold zcN;rw [if_pos hl,if_neg h16]
   rw [ho]
   (repeat' (first|refine V0 (And.intro zry <|And.intro @ha <|And.intro @ha' <|And.intro @hsub <|And.intro @e1 <|And.intro @hl <|And.intro @h16' @hcutw) ?_|(with_reducible first|refine SB.c (fun _=>?_) fun _=>?_|exact zad)|refine CK.d0 zdp (zdx _) ?_|refine CK.d0 zeF cW ?_|with_reducible refine zac ?_|omega))
 ·have hl':isL (s.getD a 0)=false:=by simpa using hl
  by_cases hd:isD (s.getD a 0)=true
  ·have ho:zcN s a=ztn s a:=by unfold zcN;rw [if_neg hl,if_pos hd]
   have cN:=zsj s a hs ha hd
   rw [ho]
   (repeat' (first|refine V0 (And.intro zry <|And.intro @ha <|And.intro @ha' <|And.intro @e1 <|And.intro @hl' <|And.intro @e2 @hd) ?_|(with_reducible first|refine SB.c (fun _=>?_) fun _=>?_|exact zad)|refine CK.d0 zdp (zdx _) ?_|refine CK.d0 zdX (ze7 _) ?_|refine CK.d0 zrO cN ?_|with_reducible refine zac ?_|omega))
  ·have hd':isD (s.getD a 0)=false:=by simpa using hd
   generalize hsg:zbg (s.getD a 0).toNat (zdC s a)=g at *
   by_cases h0:g=0
   ·have ho:zcN s a=(tk0,0,1):=by unfold zcN;rw [if_neg hl,if_neg hd,hsg,if_pos h0]
    have h0':(g==0)=true:=by simpa using h0
    rw [ho]
    (repeat' (first|refine V0 (And.intro zry <|And.intro @ha <|And.intro @ha' <|And.intro @e1 <|And.intro @hl' <|And.intro @e2 <|And.intro @hd' @h0') ?_|(with_reducible first|refine SB.c (fun _=>?_) fun _=>?_|exact zad)|refine CK.d0 zdp (zdx _) ?_|refine CK.d0 zdX (ze7 _) ?_|refine CK.d0 zlP cS ?_|with_reducible refine zac ?_|omega))
    simp [tk0]
   ·have ho:zcN s a=((⟨3,cut s a (a+g.toNat),0,(a:Int)⟩:TkD),(a:Int)+g,(0:Int)):=by unfold zcN;rw [if_neg hl,if_neg hd,hsg,if_neg h0]
    have h0':(g==0)=false:=by simpa using h0
    obtain ⟨e,he1,he2,he3⟩:=hone (by rw [ho])
    rw [ho] at he1
    have hle:(a:Int)+g≤s.length:=by simp only at he1;omega
    have hge:(a:Int)≤a+g:=by omega
    have hge0:(0:Int)≤a+g:=by omega
    have htn:((a:Int)+g).toNat=a+g.toNat:=by omega
    have hcutg:((s.take (a+g.toNat)).drop a)=cut s a (a+g.toNat):=rfl
    rw [ho]
    (repeat' (first|refine V0 (And.intro zry <|And.intro @ha <|And.intro @ha' <|And.intro @e1 <|And.intro @hl' <|And.intro @e2 <|And.intro @hd' <|And.intro @h0' <|And.intro @hwa <|And.intro @hle <|And.intro @hge <|And.intro @hge0 <|And.intro @htn @hcutg) ?_|(with_reducible first|refine SB.c (fun _=>?_) fun _=>?_|exact zad)|refine CK.d0 zdp (zdx _) ?_|refine CK.d0 zdX (ze7 _) ?_|refine CK.d0 zlP cS ?_|with_reducible refine zac ?_|omega))
end Go.Proofs.YtfinhhblcdkpgaaGreatDoor
