/- What was written is read again. No condition. -/
import Derived.Test.YtfinhhblcdkpgaaGreatDoorK19
import Derived.Test.YtfinhhblcdkpgaaGreatDoorK21
import Derived.Test.YtfinhhblcdkpgaaGreatDoorK25
import Derived.Test.YtfinhhblcdkpgaaGreatDoorK27
import Derived.Test.YtfinhhblcdkpgaaGreatDoorLib4
set_option maxRecDepth 100000
set_option maxHeartbeats 64000000
set_option linter.unusedSimpArgs false
set_option linter.unusedVariables false
set_option linter.defProp false
namespace Go.Proofs.YtfinhhblcdkpgaaGreatDoor
open Go Go.Abs Go.RowKit
theorem zfP (codes:List UInt8):AC Tryz.prog gl 7 [.pv (.slice (codes.map zmM))] [] (.pv (.bool true)) []:=by
 have cD:=zyG codes
 have ok:=zvE (codes.take 300)
 generalize codes.take 300=xs at *
 rcases hD:zhf xs with ⟨ps,protocol,faults,l,at_⟩
 rw [hD] at cD ok
 have key:=zmH hD ok
 have hp3:=ok.h3
 have h14:=ok.h14
 have cF:=zqc ps protocol faults l ok.hp ok.f (fun x hx=>(ok.hl x hx).1)
 have hlen:=znL ps protocol faults l
 have hsz:=ok.hp
 clear ok
 dsimp only at *
 generalize zbB ps protocol faults l=R at *
 rcases key with h5|⟨h0,hr,hres⟩
 ·rw [h5] at cF
  refine zaK (fun d=>if d=10 then 1 else if d=15 then 2 else 0) 3 fi7 ?_
  (repeat' (first|refine Va (fA2 @kz tq7) ?_|(with_reducible first|refine SB.c ?_ ?_<;>intro _|exact zad)|refine CK.d0 zrH zpa ?_|refine CK.dx [] [0] zrI cD ?_|refine CK.d0 zoc cF ?_|with_reducible refine zac ?_|omega))
 ·rw [h0] at cF
  have cP:=zmq R.1 (by omega)
  rw [hr] at cP
  have hcd:=(zvH R.1).1
  rw [hr] at hcd
  unfold scA at cP
  dsimp only at cP hcd
  rw [List.map_map] at cP
  have cS:=zmw l (by omega)
  refine zaK (fun d=>if d=10 then 1 else if d=15 then 2 else 0) 3 fi7 ?_
  (repeat' (first|refine Va (fA3 @kz tq7 @bne_self_eq_false.{0}) ?_|(with_reducible first|refine SB.c ?_ ?_<;>intro _|exact zad)|refine CK.d0 zrH zpa ?_|refine CK.dx [] [0] zrI cD ?_|refine CK.d0 zoc cF ?_|refine CK.d0 zod cP ?_|refine CK.d0 zuU cS ?_|with_reducible refine zac ?_|omega))
  refine zbx (ι:={k:Nat // k≤ps.length}) (fun i=>⟨(jl 3 (.pv (.slice (ps.map zgO))::jl 6 (.ref 1 0::jl 3 (.pv (.int .i64 i.1)::jl 89 [])))),(cdO xs at_)++[some (.cells [.pv (.slice (ps.map ((fun c=>[.slice (c.init.map zl1),.slice (c.start.map zam),.slice (c.message.map zam),.slice (c.tick.map zam),.slice (c.input.map zam)]) ∘ fun p=>(zaR p).1))),.pv (.int .i64 protocol),.pv (.int .i64 faults)]),none]⟩) (fun i=>ps.length - i.1) ⟨0,by simp⟩ WFn ?_
  rintro ⟨k,hk⟩
  by_cases hlt:k<ps.length
  ·have hlt':(k:Int)<ps.length:=by omega
   have hg1:=zaV zgO ps k hlt
   have hg2:=zaV ((fun c:CdD=>[PVal.slice (c.init.map zl1),.slice (c.start.map zam),.slice (c.message.map zam),.slice (c.tick.map zam),.slice (c.input.map zam)]) ∘ fun p=>(zaR p).1) ps k hlt
   have hm:ps[k] ∈ ps:=List.getElem_mem hlt
   have cR:=zjR ps[k] (by have:=(hsz _ hm).1;omega)
   have h0':=hres _ hm
   have hok:=hcd _ (List.mem_map_of_mem hm)
   rw [h0'] at cR
   generalize ps[k]=p at *
   have cC:=znK _ hok
   have hw:=zbu k (by omega)
   unfold pgA at cR
   unfold cdA at cC cR
   simp only [Function.comp] at hg2
   generalize (zaR p).1=c at *
   (repeat' (first|refine Va (fA7 tq7 hlt' hlt hg1 hg2 hw @zgO.eq_1) ?_|(with_reducible first|refine SB.c ?_ ?_<;>intro _|exact zad)|refine CK.d0 zkA cR ?_|refine CK.d0 zuV cC ?_|with_reducible refine zac ?_|omega))
   exact ⟨⟨k+1,by omega⟩,WFn,by show ps.length - (k+1)<ps.length - k;omega⟩
  ·have hlt':¬ (k:Int)<ps.length:=by omega
   (repeat' (first|refine Va (fA2 tq7 hlt') ?_|(with_reducible first|refine SB.c ?_ ?_<;>intro _|exact zad)|with_reducible refine zac ?_|omega))
end Go.Proofs.YtfinhhblcdkpgaaGreatDoor
