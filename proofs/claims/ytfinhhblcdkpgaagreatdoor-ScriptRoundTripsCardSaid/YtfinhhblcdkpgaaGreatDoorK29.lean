/- Equality of steps, codes and configs; what is read is read alike. No condition. -/
import Derived.Test.YtfinhhblcdkpgaaGreatDoorK21
import Derived.Test.YtfinhhblcdkpgaaGreatDoorK23
import Derived.Test.YtfinhhblcdkpgaaGreatDoorLib3
import Derived.Test.YtfinhhblcdkpgaaGreatDoorK19
import Derived.Test.YtfinhhblcdkpgaaGreatDoorK18
import Derived.Test.YtfinhhblcdkpgaaGreatDoorLib4
set_option maxRecDepth 100000
set_option maxHeartbeats 64000000
namespace Go.Proofs.YtfinhhblcdkpgaaGreatDoor
open Go Go.Abs Go.RowKit
theorem znE (l:List Int) (hl:l.length≤1000000000):AC Tryz.prog gl 44 [.pv (.slice (l.map zlY)),.pv (.slice (l.map zlY))] [] (.pv (.bool true)) []:=by
 refine zaK (fun _=>0) 0 zGN ?_
 (repeat' (first|refine V0 (And.intro zDH @bne_self_eq_false.{0}) ?_|(with_reducible first|refine SB.c (fun _=>?_) fun _=>?_|exact zad)|with_reducible refine zac ?_|omega))
 refine zbw (ι:={k:Nat // k≤l.length}) (fun i=>⟨(.pv (.slice (l.map zlY))::.pv (.slice (l.map zlY))::jl 3 (.pv (.int .i64 i.1)::jl 20 [])),[]⟩) (fun i=>l.length - i.1) ⟨0,by simp⟩ WFn ?_
 rintro ⟨k,hk⟩
 by_cases hlt:k<l.length
 ·have hlt':(k:Int)<l.length:=by omega
  have hget:=zaV zlY l k hlt
  generalize l[k]=x at *
  have hxe:zlY x=[.int .i64 x]:=rfl
  have hw:=zbu k (by omega)
  (repeat' (first|refine V0 (And.intro zDH <|And.intro @bne_self_eq_false.{0} <|And.intro @hlt' <|And.intro @hlt <|And.intro @hget <|And.intro @hxe @hw) ?_|(with_reducible first|refine SB.c (fun _=>?_) fun _=>?_|exact zad)|with_reducible refine zac ?_|omega))
  exact ⟨⟨k+1,by omega⟩,WFn,by show l.length - (k+1)<l.length - k;omega⟩
 ·have hlt':¬ (k:Int)<l.length:=by omega
  (repeat' (first|refine V0 (And.intro zDH @hlt') ?_|(with_reducible first|refine SB.c (fun _=>?_) fun _=>?_|exact zad)|with_reducible refine zac ?_|omega))
theorem zmt (l:List StD) (hl:l.length≤1000000000):AC Tryz.prog gl 21 [.pv (.slice (l.map zcD)),.pv (.slice (l.map zcD))] [] (.pv (.bool true)) []:=by
 refine zaK (fun _=>0) 0 zGG ?_
 (repeat' (first|refine V0 (And.intro zDF @bne_self_eq_false.{0}) ?_|(with_reducible first|refine SB.c (fun _=>?_) fun _=>?_|exact zad)|with_reducible refine zac ?_|omega))
 refine zbw (ι:={k:Nat // k≤l.length}) (fun i=>⟨(.pv (.slice (l.map zcD))::.pv (.slice (l.map zcD))::jl 3 (.pv (.int .i64 i.1)::jl 20 [])),[]⟩) (fun i=>l.length - i.1) ⟨0,by simp⟩ WFn ?_
 rintro ⟨k,hk⟩
 by_cases hlt:k<l.length
 ·have hlt':(k:Int)<l.length:=by omega
  have hget:=zaV zcD l k hlt
  generalize l[k]=x at *
  have hxe:zcD x=[.int .i64 x.kind,.int .i64 x.proc,.int .i64 x.place,.int .i64 x.value]:=rfl
  have hw:=zbu k (by omega)
  (repeat' (first|refine V0 (And.intro zDF <|And.intro @bne_self_eq_false.{0} <|And.intro @hlt' <|And.intro @hlt <|And.intro @hget <|And.intro @hxe @hw) ?_|(with_reducible first|refine SB.c (fun _=>?_) fun _=>?_|exact zad)|with_reducible refine zac ?_|omega))
  exact ⟨⟨k+1,by omega⟩,WFn,by show l.length - (k+1)<l.length - k;omega⟩
 ·have hlt':¬ (k:Int)<l.length:=by omega
  (repeat' (first|refine V0 (And.intro zDF @hlt') ?_|(with_reducible first|refine SB.c (fun _=>?_) fun _=>?_|exact zad)|with_reducible refine zac ?_|omega))
theorem znF (c:CdD) (h:zy1 c):AC Tryz.prog gl 23 [cdA c,cdA c] [] (.pv (.bool true)) []:=by
 have c0:=znE c.init (by have:=h.1;omega)
 have c1:=zhy c.start h.2
 have c2:=zhy c.message h.3
 have c3:=zhy c.tick h.4
 have c4:=zhy c.input h.5
 unfold cdA
 refine zaK (fun d=>if d=2 then 0 else 1) 2 zGI ?_
 (repeat' (first|refine V0 zGC ?_|(with_reducible first|refine SB.c (fun _=>?_) fun _=>?_|exact zad)|refine CK.d0 zuU c0 ?_|refine CK.d0 ze2 c1 ?_|refine CK.d0 ze2 c2 ?_|refine CK.d0 ze2 c3 ?_|refine CK.d0 ze2 c4 ?_|with_reducible refine zac ?_|omega))
theorem zfM (codes:List UInt8):AC Tryz.prog gl 7 [.pv (.slice (codes.map zmJ))] [] (.pv (.bool true)) []:=by
 have cD:=zyC codes
 have ok:=zvA (codes.take 300)
 generalize codes.take 300=xs at *
 rcases hD:zhf xs with ⟨ps,protocol,faults,l,at_⟩
 rw [hD] at cD ok
 have key:=zmE hD ok
 have hp3:=ok.h3
 have h14:=ok.h14
 have cF:=zp6 ps protocol faults l ok.hp ok.f (fun x hx=>(ok.hl x hx).1)
 have hlen:=znG ps protocol faults l
 have hsz:=ok.hp
 clear ok
 dsimp only at *
 generalize zbA ps protocol faults l=R at *
 rcases key with h5|⟨h0,hr,hres⟩
 ·rw [h5] at cF
  refine zaK (fun d=>if d=10 then 1 else if d=15 then 2 else 0) 3 fi7 ?_
  (repeat' (first|refine V1 tq7 ?_|(with_reducible first|refine SB.c (fun _=>?_) fun _=>?_|exact zad)|refine CK.d0 zrD zo2 ?_|refine CK.dx [] [0] zrE cD ?_|refine CK.d0 zn4 cF ?_|with_reducible refine zac ?_|omega))
 ·rw [h0] at cF
  have cP:=zmn R.1 (by omega)
  rw [hr] at cP
  have hcd:=(zvD R.1).1
  rw [hr] at hcd
  unfold scA at cP
  dsimp only at cP hcd
  rw [List.map_map] at cP
  have cS:=zmt l (by omega)
  refine zaK (fun d=>if d=10 then 1 else if d=15 then 2 else 0) 3 fi7 ?_
  (repeat' (first|refine V1 (And.intro tq7 @bne_self_eq_false.{0}) ?_|(with_reducible first|refine SB.c (fun _=>?_) fun _=>?_|exact zad)|refine CK.d0 zrD zo2 ?_|refine CK.dx [] [0] zrE cD ?_|refine CK.d0 zn4 cF ?_|refine CK.d0 zn5 cP ?_|refine CK.d0 zuQ cS ?_|with_reducible refine zac ?_|omega))
  refine zbw (ι:={k:Nat // k≤ps.length}) (fun i=>⟨(jl 3 (.pv (.slice (ps.map zgL))::jl 6 (.ref 1 0::jl 3 (.pv (.int .i64 i.1)::jl 89 [])))),(cdO xs at_)++[some (.cells [.pv (.slice (ps.map ((fun c=>[.slice (c.init.map zlY),.slice (c.start.map zam),.slice (c.message.map zam),.slice (c.tick.map zam),.slice (c.input.map zam)]) ∘ fun p=>(zaR p).1))),.pv (.int .i64 protocol),.pv (.int .i64 faults)]),none]⟩) (fun i=>ps.length - i.1) ⟨0,by simp⟩ WFn ?_
  rintro ⟨k,hk⟩
  by_cases hlt:k<ps.length
  ·have hlt':(k:Int)<ps.length:=by omega
   have hg1:=zaV zgL ps k hlt
   have hg2:=zaV ((fun c:CdD=>[PVal.slice (c.init.map zlY),.slice (c.start.map zam),.slice (c.message.map zam),.slice (c.tick.map zam),.slice (c.input.map zam)]) ∘ fun p=>(zaR p).1) ps k hlt
   have hm:ps[k] ∈ ps:=List.getElem_mem hlt
   have cR:=zjQ ps[k] (by have:=(hsz _ hm).1;omega)
   have h0':=hres _ hm
   have hok:=hcd _ (List.mem_map_of_mem hm)
   rw [h0'] at cR
   generalize ps[k]=p at *
   have cC:=znF _ hok
   have hw:=zbu k (by omega)
   unfold pgA at cR
   unfold cdA at cC cR
   simp only [Function.comp] at hg2
   generalize (zaR p).1=c at *
   (repeat' (first|refine V0 (And.intro tq7 <|And.intro @hlt' <|And.intro @hlt <|And.intro @hg1 <|And.intro @hg2 <|And.intro @hw @zgL.eq_1) ?_|(with_reducible first|refine SB.c (fun _=>?_) fun _=>?_|exact zad)|refine CK.d0 zky cR ?_|refine CK.d0 zuR cC ?_|with_reducible refine zac ?_|omega))
   exact ⟨⟨k+1,by omega⟩,WFn,by show ps.length - (k+1)<ps.length - k;omega⟩
  ·have hlt':¬ (k:Int)<ps.length:=by omega
   (repeat' (first|refine V0 (And.intro tq7 @hlt') ?_|(with_reducible first|refine SB.c (fun _=>?_) fun _=>?_|exact zad)|with_reducible refine zac ?_|omega))
end Go.Proofs.YtfinhhblcdkpgaaGreatDoor
