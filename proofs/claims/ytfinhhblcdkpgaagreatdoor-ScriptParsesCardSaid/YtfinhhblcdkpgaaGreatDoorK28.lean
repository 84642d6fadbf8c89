/- Equality of steps, codes and configs; what is read is read alike. No condition. -/
import Derived.Test.YtfinhhblcdkpgaaGreatDoorLib2
import Derived.Test.YtfinhhblcdkpgaaGreatDoorW5
import Derived.Test.YtfinhhblcdkpgaaGreatDoorS2
import Derived.Test.YtfinhhblcdkpgaaGreatDoorLib4
import Derived.Test.YtfinhhblcdkpgaaGreatDoorK23
import Derived.Test.YtfinhhblcdkpgaaGreatDoorK24
import Derived.Test.YtfinhhblcdkpgaaGreatDoorK26
set_option maxRecDepth 100000
set_option maxHeartbeats 64000000
set_option linter.unusedSimpArgs false
set_option linter.unusedVariables false
namespace Go.Proofs.YtfinhhblcdkpgaaGreatDoor
open Go Go.Abs Go.RowKit
theorem zpB (l:List Int) (hl:l.length≤1000000000):AC Tryz.prog gl 44 [.pv (.slice (l.map ziv)),.pv (.slice (l.map ziv))] [] (.pv (.bool true)) []:=by
 refine zas (fun _=>0) 0 zJK ?_
 refine Wk1 (fA2 zGp @bne_self_eq_false.{0}) ?_
 refine zaK (ι:={k:Nat // k≤l.length}) (fun i=>⟨(.pv (.slice (l.map ziv))::.pv (.slice (l.map ziv))::jl 3 (.pv (.int .i64 i.1)::jl 20 [])),[]⟩) (fun i=>l.length - i.1) ⟨0,by simp⟩ WFn ?_
 rintro ⟨k,hk⟩
 by_cases hlt:k<l.length
 ·have hlt':(k:Int)<l.length:=by omega
  have hget:=zaE ziv l k hlt
  generalize l[k]=x at *
  have hxe:ziv x=[.int .i64 x]:=rfl
  have hw:=zaP k (by omega)
  refine Wk1 (fA7 zGp @bne_self_eq_false.{0} hlt' hlt hget hxe hw) ?_
  exact ⟨⟨k+1,by omega⟩,WFn,by show l.length - (k+1)<l.length - k;omega⟩
 ·have hlt':¬ (k:Int)<l.length:=by omega
  refine Wk0 (fA2 zGp hlt')
theorem zof (l:List StD) (hl:l.length≤1000000000):AC Tryz.prog gl 21 [.pv (.slice (l.map zcw)),.pv (.slice (l.map zcw))] [] (.pv (.bool true)) []:=by
 refine zas (fun _=>0) 0 zJC ?_
 refine Wk1 (fA2 zGn @bne_self_eq_false.{0}) ?_
 refine zaK (ι:={k:Nat // k≤l.length}) (fun i=>⟨(.pv (.slice (l.map zcw))::.pv (.slice (l.map zcw))::jl 3 (.pv (.int .i64 i.1)::jl 20 [])),[]⟩) (fun i=>l.length - i.1) ⟨0,by simp⟩ WFn ?_
 rintro ⟨k,hk⟩
 by_cases hlt:k<l.length
 ·have hlt':(k:Int)<l.length:=by omega
  have hget:=zaE zcw l k hlt
  generalize l[k]=x at *
  have hxe:zcw x=[.int .i64 x.kind,.int .i64 x.proc,.int .i64 x.place,.int .i64 x.value]:=rfl
  have hw:=zaP k (by omega)
  refine Wk1 (fA7 zGn @bne_self_eq_false.{0} hlt' hlt hget hxe hw) ?_
  exact ⟨⟨k+1,by omega⟩,WFn,by show l.length - (k+1)<l.length - k;omega⟩
 ·have hlt':¬ (k:Int)<l.length:=by omega
  refine Wk0 (fA2 zGn hlt')
theorem zpC (c:CdD) (h:zBa c):AC Tryz.prog gl 23 [cdA c,cdA c] [] (.pv (.bool true)) []:=by
 have c0:=zpB c.init (by have:=h.1;omega)
 have c1:=zjc c.start h.2
 have c2:=zjc c.message h.3
 have c3:=zjc c.tick h.4
 have c4:=zjc c.input h.5
 unfold cdA
 refine zas (fun d=>if d=2 then 0 else 1) 2 zJE ?_
 refine Wk0 (fA6 zJt (CE.mk zw1 c0) (CE.mk zfV c1) (CE.mk zfV c2) (CE.mk zfV c3) (CE.mk zfV c4))
theorem zmO (cs:List CdD) (p f:Int) (h:∀ c ∈ cs,zBa c) (hl:cs.length≤5):AC Tryz.prog gl 32 [.agg [.pv (.slice (cs.map zgT)),.pv (.int .i64 p),.pv (.int .i64 f)],.agg [.pv (.slice (cs.map zgT)),.pv (.int .i64 p),.pv (.int .i64 f)]] [] (.pv (.bool true)) []:=by
 refine zas (fun d=>if d=2 then 0 else 1) 2 zJH ?_
 refine Wk1 (fA2 zGo @bne_self_eq_false.{0}) ?_
 refine zaK (ι:={k:Nat // k≤cs.length}) (fun i=>⟨(.junk::.junk::.ref 0 0::.ref 1 0::.junk::.pv (.int .i64 i.1)::jl 40 []),[some (.cells [.pv (.slice (cs.map zgT)),.pv (.int .i64 p),.pv (.int .i64 f)]),some (.cells [.pv (.slice (cs.map zgT)),.pv (.int .i64 p),.pv (.int .i64 f)])]⟩) (fun i=>cs.length - i.1) ⟨0,by simp⟩ WFn ?_
 rintro ⟨k,hk⟩
 by_cases hlt:k<cs.length
 ·have hlt':(k:Int)<cs.length:=by omega
  have hget:=zaE zgT cs k hlt
  have cC:=zpC cs[k] (h _ (List.getElem_mem hlt))
  generalize cs[k]=x at *
  have hxe:zgT x=[.slice (x.init.map ziv),.slice (x.start.map zah),.slice (x.message.map zah),.slice (x.tick.map zah),.slice (x.input.map zah)]:=rfl
  have hw:=zaP k (by omega)
  unfold cdA at cC
  refine Wk1 (fA7 zGo hlt' hlt hget hxe hw (CE.mk zwV cC)) ?_
  exact ⟨⟨k+1,by omega⟩,WFn,by show cs.length - (k+1)<cs.length - k;omega⟩
 ·have hlt':¬ (k:Int)<cs.length:=by omega
  refine Wk0 (fA2 zGo hlt')
theorem zfO (s:List UInt8) (hs:s.length≤4000000000):AC Tryz.prog gl 12 [.pv (.str s)] [] (.pv (.bool true)) []:=by
 have c1:=zn3 s hs
 have c2:=zsw s hs
 obtain ⟨h1,h2,h3⟩:=zx1 s
 generalize zmn s=q at *
 have c3:=zmO q.1.codes q.1.protocol q.1.faults h1 h2
 have c4:=zof q.1.steps (by omega)
 have e:scA q=.tup [.agg [.pv (.slice (q.1.codes.map zgT)),.pv (.int .i64 q.1.protocol),.pv (.int .i64 q.1.faults)],.pv (.slice (q.1.steps.map zcw)),.pv (.int .i64 q.2.1),.pv (.int .i64 q.2.2)]:=rfl
 rw [e] at c1 c2
 refine zas (fun d=>if d=3 then 0 else 1) 2 zJB ?_
 refine Wk0 (fA5 zJs (CE.mk zp3 c1) (CE.mk zwY c2) (CE.mk zwZ c3) (CE.mk zwU c4))
theorem zkz (text codes:List UInt8) (ht:text.length≤140737488351232):AC Tryz.prog gl 3 [.pv (.str text),.pv (.slice (codes.map zol))] [] (.pv (.bool true)) []:=by
 by_cases hl:(text.length:Int) > 2000
 ·refine zas (fun _=>0) 1 fi3 ?_
  refine Wk0 (fA3 tq3 hl (CE.mk ztN zqT))
 have cD:=zAY codes
 have hxs:(codes.take 300).length≤1000:=by simp;omega
 have ok:=zxT (codes.take 300)
 generalize codes.take 300=xs at *
 generalize zmG xs=D at *
 have cF:=zso D.ps D.protocol D.faults D.l ok.hp ok.f (fun x hx=>(ok.hl x hx).1)
 have hs:=zpD D.ps D.protocol D.faults D.l
 generalize zcC D.ps D.protocol D.faults D.l=R at *
 obtain ⟨t,a1,h1,h2,cS⟩:=zq2 xs hxs D.at_ ok.ha R.1 (by omega)
 obtain ⟨u,a2,h3,h4,cT⟩:=zq2 xs hxs a1 h1 t (by omega)
 have p1:=zfO text (by omega)
 have p2:=zfO R.1 (by omega)
 have p3:=zfO t (by omega)
 have p4:=zfO u (by omega)
 have p5:=zfO (R.1++text) (by rw [List.length_append];omega)
 refine zas (fun _=>0) 1 fi3 ?_
 repeat' first|refine Va (fA3 @kz tq3 hl) ?_|(with_reducible first|refine SB.c ?_ ?_<;>intro _|exact zak)|refine CK.d0 ztN zqT ?_|refine CK.dx [] [0] zAd cD ?_|refine CK.d0 zwT cF ?_|refine dC1 zp2 cS ?_|refine dC1 zp2 cT ?_|refine CK.d0 zhd p1 ?_|refine CK.d0 zhd p2 ?_|refine CK.d0 zhd p3 ?_|refine CK.d0 zhd p4 ?_|refine CK.d0 zhd p5 ?_|with_reducible refine zaj ?_|omega
end Go.Proofs.YtfinhhblcdkpgaaGreatDoor
