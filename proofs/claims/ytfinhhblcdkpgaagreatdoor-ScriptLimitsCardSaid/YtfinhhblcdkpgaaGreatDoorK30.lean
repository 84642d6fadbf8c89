/- Equality of steps, codes and configs; what is read is read alike. No condition. -/
import Derived.Test.YtfinhhblcdkpgaaGreatDoorK21
import Derived.Test.YtfinhhblcdkpgaaGreatDoorK12
import Derived.Test.YtfinhhblcdkpgaaGreatDoorLib4
import Derived.Test.YtfinhhblcdkpgaaGreatDoorK23
import Derived.Test.YtfinhhblcdkpgaaGreatDoorK35
import Derived.Test.YtfinhhblcdkpgaaGreatDoorK36
set_option maxRecDepth 100000
set_option maxHeartbeats 64000000
set_option linter.unusedSimpArgs false
set_option linter.unusedVariables false
set_option linter.defProp false
namespace Go.Proofs.YtfinhhblcdkpgaaGreatDoor
open Go Go.Abs Go.RowKit
theorem zoT (l:List Int) (hl:l.length≤1000000000):AC Tryz.prog gl 44 [.pv (.slice (l.map zhO)),.pv (.slice (l.map zhO))] [] (.pv (.bool true)) []:=by
 refine zap (fun _=>0) 0 zH6 ?_
 repeat' first|refine Va (fA2 zEL @bne_self_eq_false.{0}) ?_|(with_reducible first|refine SB.c ?_ ?_<;>intro _|exact zad)|with_reducible refine zac ?_|omega
 refine zaI (ι:={k:Nat // k≤l.length}) (fun i=>⟨(.pv (.slice (l.map zhO))::.pv (.slice (l.map zhO))::jl 3 (.pv (.int .i64 i.1)::jl 20 [])),[]⟩) (fun i=>l.length - i.1) ⟨0,by simp⟩ WFn ?_
 rintro ⟨k,hk⟩
 by_cases hlt:k<l.length
 ·have hlt':(k:Int)<l.length:=by omega
  have hget:=zaA zhO l k hlt
  generalize l[k]=x at *
  have hxe:zhO x=[.int .i64 x]:=rfl
  have hw:=zaQ k (by omega)
  repeat' first|refine Va (fA7 zEL @bne_self_eq_false.{0} hlt' hlt hget hxe hw) ?_|(with_reducible first|refine SB.c ?_ ?_<;>intro _|exact zad)|with_reducible refine zac ?_|omega
  exact ⟨⟨k+1,by omega⟩,WFn,by show l.length - (k+1)<l.length - k;omega⟩
 ·have hlt':¬ (k:Int)<l.length:=by omega
  repeat' first|refine Va (fA2 zEL hlt') ?_|(with_reducible first|refine SB.c ?_ ?_<;>intro _|exact zad)|with_reducible refine zac ?_|omega
theorem znF (l:List StD) (hl:l.length≤1000000000):AC Tryz.prog gl 21 [.pv (.slice (l.map zcw)),.pv (.slice (l.map zcw))] [] (.pv (.bool true)) []:=by
 refine zap (fun _=>0) 0 zHZ ?_
 repeat' first|refine Va (fA2 zEJ @bne_self_eq_false.{0}) ?_|(with_reducible first|refine SB.c ?_ ?_<;>intro _|exact zad)|with_reducible refine zac ?_|omega
 refine zaI (ι:={k:Nat // k≤l.length}) (fun i=>⟨(.pv (.slice (l.map zcw))::.pv (.slice (l.map zcw))::jl 3 (.pv (.int .i64 i.1)::jl 20 [])),[]⟩) (fun i=>l.length - i.1) ⟨0,by simp⟩ WFn ?_
 rintro ⟨k,hk⟩
 by_cases hlt:k<l.length
 ·have hlt':(k:Int)<l.length:=by omega
  have hget:=zaA zcw l k hlt
  generalize l[k]=x at *
  have hxe:zcw x=[.int .i64 x.kind,.int .i64 x.proc,.int .i64 x.place,.int .i64 x.value]:=rfl
  have hw:=zaQ k (by omega)
  repeat' first|refine Va (fA7 zEJ @bne_self_eq_false.{0} hlt' hlt hget hxe hw) ?_|(with_reducible first|refine SB.c ?_ ?_<;>intro _|exact zad)|with_reducible refine zac ?_|omega
  exact ⟨⟨k+1,by omega⟩,WFn,by show l.length - (k+1)<l.length - k;omega⟩
 ·have hlt':¬ (k:Int)<l.length:=by omega
  repeat' first|refine Va (fA2 zEJ hlt') ?_|(with_reducible first|refine SB.c ?_ ?_<;>intro _|exact zad)|with_reducible refine zac ?_|omega
theorem zoU (c:CdD) (h:zzJ c):AC Tryz.prog gl 23 [cdA c,cdA c] [] (.pv (.bool true)) []:=by
 have c0:=zoT c.init (by have:=h.1;omega)
 have c1:=ziD c.start h.2
 have c2:=ziD c.message h.3
 have c3:=ziD c.tick h.4
 have c4:=ziD c.input h.5
 unfold cdA
 refine zap (fun d=>if d=2 then 0 else 1) 2 zH1 ?_
 repeat' first|refine Va zHN ?_|(with_reducible first|refine SB.c ?_ ?_<;>intro _|exact zad)|refine CK.d0 zvP c0 ?_|refine CK.d0 zfD c1 ?_|refine CK.d0 zfD c2 ?_|refine CK.d0 zfD c3 ?_|refine CK.d0 zfD c4 ?_|with_reducible refine zac ?_|omega
theorem zmj (cs:List CdD) (p f:Int) (h:∀ c ∈ cs,zzJ c) (hl:cs.length≤5):AC Tryz.prog gl 32 [.agg [.pv (.slice (cs.map zgr)),.pv (.int .i64 p),.pv (.int .i64 f)],.agg [.pv (.slice (cs.map zgr)),.pv (.int .i64 p),.pv (.int .i64 f)]] [] (.pv (.bool true)) []:=by
 refine zap (fun d=>if d=2 then 0 else 1) 2 zH3 ?_
 repeat' first|refine Va (fA2 zEK @bne_self_eq_false.{0}) ?_|(with_reducible first|refine SB.c ?_ ?_<;>intro _|exact zad)|with_reducible refine zac ?_|omega
 refine zaI (ι:={k:Nat // k≤cs.length}) (fun i=>⟨(.junk::.junk::.ref 0 0::.ref 1 0::.junk::.pv (.int .i64 i.1)::jl 40 []),[some (.cells [.pv (.slice (cs.map zgr)),.pv (.int .i64 p),.pv (.int .i64 f)]),some (.cells [.pv (.slice (cs.map zgr)),.pv (.int .i64 p),.pv (.int .i64 f)])]⟩) (fun i=>cs.length - i.1) ⟨0,by simp⟩ WFn ?_
 rintro ⟨k,hk⟩
 by_cases hlt:k<cs.length
 ·have hlt':(k:Int)<cs.length:=by omega
  have hget:=zaA zgr cs k hlt
  have cC:=zoU cs[k] (h _ (List.getElem_mem hlt))
  generalize cs[k]=x at *
  have hxe:zgr x=[.slice (x.init.map zhO),.slice (x.start.map zai),.slice (x.message.map zai),.slice (x.tick.map zai),.slice (x.input.map zai)]:=rfl
  have hw:=zaQ k (by omega)
  unfold cdA at cC
  repeat' first|refine Va (fA6 zEK hlt' hlt hget hxe hw) ?_|(with_reducible first|refine SB.c ?_ ?_<;>intro _|exact zad)|refine CK.d0 zvM cC ?_|with_reducible refine zac ?_|omega
  exact ⟨⟨k+1,by omega⟩,WFn,by show cs.length - (k+1)<cs.length - k;omega⟩
 ·have hlt':¬ (k:Int)<cs.length:=by omega
  repeat' first|refine Va (fA2 zEK hlt') ?_|(with_reducible first|refine SB.c ?_ ?_<;>intro _|exact zad)|with_reducible refine zac ?_|omega
theorem zt4 (s:List UInt8) (hs:s.length≤4000000000):AC Tryz.prog gl 12 [.pv (.str s)] [] (.pv (.bool true)) []:=by
 have c1:=zjT s hs
 have c2:=zrs s hs
 obtain ⟨h1,h2,h3⟩:=zwP s
 generalize zhB s=q at *
 have c3:=zmj q.1.codes q.1.protocol q.1.faults h1 h2
 have c4:=znF q.1.steps (by omega)
 have e:scA q=.tup [.agg [.pv (.slice (q.1.codes.map zgr)),.pv (.int .i64 q.1.protocol),.pv (.int .i64 q.1.faults)],.pv (.slice (q.1.steps.map zcw)),.pv (.int .i64 q.2.1),.pv (.int .i64 q.2.2)]:=rfl
 rw [e] at c1 c2
 refine zap (fun d=>if d=3 then 0 else 1) 2 zHX ?_
 repeat' first|refine Va zHM ?_|(with_reducible first|refine SB.c ?_ ?_<;>intro _|exact zad)|refine CK.d0 zlz c1 ?_|refine CK.d0 zvN c2 ?_|refine CK.d0 zvO c3 ?_|refine CK.d0 zvL c4 ?_|with_reducible refine zac ?_|omega
def zhX (d:Nat):Nat:=if d=31 then 0 else if d=43 then 1 else if d=50 then 2 else if d=71 then 3 else if d=80 then 4 else if d=81 then 5 else if d=19 then 6 else 6
theorem zeo:zhX 31=0∧zhX 43=1∧zhX 50=2∧zhX 71=3∧zhX 80=4∧zhX 81=5∧zhX 19=6:=by decide
theorem zzL {α:Type} (i m:Nat) (h:i<m) (a b:α):(List.replicate i a++List.replicate (m - i) b).set i a=List.replicate (i+1) a++List.replicate (m - (i+1)) b:=by
 obtain ⟨d,rfl⟩:∃ d,m=i+1+d:=⟨m - i - 1,by omega⟩
 rw [List.set_append_right _ _ (by simp),show i+1+d - i=d+1 by omega,show i+1+d - (i+1)=d by omega,List.length_replicate,Nat.sub_self,List.replicate_succ,List.set_cons_zero,List.replicate_succ',List.append_assoc]
 rfl
theorem zzM {α:Type} (i m:Nat) (h:i<m) (a b d:α):(List.replicate i a++List.replicate (m - i) b).getD i d=b:=by
 rw [List.getD_eq_getElem?_getD,List.getElem?_append_right (by simp)]
 simp [show 0<m - i by omega]
theorem zoV (i:Nat):(zfS i).length=26+i:=by simp [zfS,zGf];omega
theorem zwQ (i:Nat):(zfS i).map zz0++[[PVal.int .u8 10]]=(zfS (i+1)).map zz0:=by
 unfold zfS
 rw [List.replicate_succ',←List.append_assoc,List.map_append (l₂:=[10])];rfl
theorem zCT {f:FuncId} {code:Code} (k:Nat) (site:Nat→Nat) (nobj:Nat) {n:Nat} {rs:List ResultVar} (hF:FI Tryz.prog f code n rs) {args:List AVal} {res:AVal}
  (h:VCs Tryz.prog (zbs site nobj) 0 (spl k code).1 (spl k code).2 ⟨args++List.replicate (n - args.length) .junk,List.replicate nobj none⟩ (zay (zbs site nobj) 0 rs res [])) (hargs:args.length≤n:=by simp) :
  AC Tryz.prog gl f args [] res []:=by
 obtain ⟨fn,hf,hb,rfl,hrs⟩:=hF
 obtain rfl:fn.results.toList=rs:=by rw [hrs]
 exact AC.of_body (env:=zbs site nobj) (zcl _ _) hf hb hargs (Nat.zero_le _) (by simpa [zbs] using zGA (zcl site nobj) mixed k code h)
theorem zj1 (n many size:Int):AC Tryz.prog gl 6 [.pv (.int .i64 n),.pv (.int .i64 many),.pv (.int .i64 size)] [] (.pv (.bool true)) []:=by
 have c1:=ztS n 8 (by omega) (by omega)
 have c2:=ztS many 3 (by omega) (by omega)
 have c3:=ztS size 3 (by omega) (by omega)
 have l1:=ziC n 8 (by omega)
 have l2:=ziC many 3 (by omega)
 have l3:=ziC size 3 (by omega)
 obtain ⟨k,hk⟩:∃ k:Nat,zjU n 8=k:=⟨(zjU n 8).toNat,by omega⟩
 obtain ⟨m0,hm0⟩:∃ k:Nat,zjU many 3=k:=⟨(zjU many 3).toNat,by omega⟩
 obtain ⟨s,hs⟩:∃ k:Nat,zjU size 3=k:=⟨(zjU size 3).toNat,by omega⟩
 rw [hk] at c1 l1
 rw [hm0] at c2 l2
 rw [hs] at c3 l3
 obtain ⟨m,hm⟩:∃ m:Nat,399+m0=m:=⟨_,rfl⟩
 have hwm:IntKind.i64.wrap (399+(m0:Int))=(m:Int):=by rw [zaS _ (by omega) (by omega)];omega
 obtain ⟨q,hq⟩:∃ q:Nat,65535+s=q:=⟨_,rfl⟩
 have hws:IntKind.i64.wrap (65535+(s:Int))=(q:Int):=by rw [zaS _ (by omega) (by omega)];omega
 have hsz:∀ p ∈ List.replicate k zq2,p=zq2:=fun p hp=>List.eq_of_mem_replicate hp
 have hst:∀ x ∈ List.replicate m (⟨13,0,0,0⟩:StD),znl x=true:=fun x hx=>by rw [List.eq_of_mem_replicate hx];decide
 have hz:zjI zq2=[.slice [],.slice [],.slice [],.slice [],.slice []]:=rfl
 have cF:=AC.frz0 (sz:=5) (ps:=[.int .i64 8,.int .i64 1,.slice ((List.replicate m (⟨13,0,0,0⟩:StD)).map zcw)]) (zq6 (List.replicate k zq2) 8 1 (List.replicate m ⟨13,0,0,0⟩) hsz (by omega) hst)
 have cG:=AC.frz0 (sz:=5) (ps:=[.int .i64 8,.int .i64 1,.slice ((List.replicate m (⟨13,0,0,0⟩:StD)).map zcw)]) (zrl (List.replicate k zq2) 8 1 (List.replicate m ⟨13,0,0,0⟩) hsz (by omega) hst)
 generalize zcg (List.replicate k zq2) 8 1 (List.replicate m ⟨13,0,0,0⟩)=R at *
 simp only [List.map_replicate,List.length_replicate,List.map_cons,List.map_nil,hz] at cF cG
 have cP:=zt4 (zt9 k m) (by rw [zqb];omega)
 have e9:(0:Int)≤k:=by omega
 have hq1:26+0≤q:=by omega
 have hmm:m - m=0:=by omega
 refine zCT 11 (zhX) 7 fi6 ?_
 dsimp only [spl,VCs]
 repeat' first|refine Va (fA3 tq6 hwm zeo) ?_|(with_reducible first|refine SB.c ?_ ?_<;>intro _|exact zad)|refine CK.d0 zyY zwH ?_|refine CK.d0 zh9 c1 ?_|refine CK.d0 zh9 c2 ?_|with_reducible refine zac ?_|omega
 refine loopS (ι:={i:Nat // i≤m}) (fun i=>⟨(.junk::.junk::.pv (.int .i64 size)::jl 4 (.pv (.int .i64 k)::.pv (.int .i64 m)::.row 0 m::.pv (.int .i64 i.1)::jl 99 [])),[some (.row 4 (List.replicate i.1 [PVal.int .i64 13,.int .i64 0,.int .i64 0,.int .i64 0]++List.replicate (m - i.1) [PVal.int .i64 0,.int .i64 0,.int .i64 0,.int .i64 0])),none,none,none,none,none,none]⟩) (fun i=>m - i.1) ⟨0,by omega⟩ WFn ?_
 rintro ⟨i,hi⟩
 by_cases hlt:i<m
 ·have hlt':(i:Int)<m:=by omega
  have hw:=zaQ i (by omega)
  have hr:zf4 (List.replicate i [PVal.int .i64 13,.int .i64 0,.int .i64 0,.int .i64 0]++List.replicate (m - i) [.int .i64 0,.int .i64 0,.int .i64 0,.int .i64 0]) i 0 [.int .i64 13]=List.replicate (i+1) [.int .i64 13,.int .i64 0,.int .i64 0,.int .i64 0]++List.replicate (m - (i+1)) [.int .i64 0,.int .i64 0,.int .i64 0,.int .i64 0]:=by
   unfold zf4
   rw [zzM i m hlt]
   exact zzL i m hlt _ _
  have hln:(List.replicate i [PVal.int .i64 13,.int .i64 0,.int .i64 0,.int .i64 0]++List.replicate (m - i) [PVal.int .i64 0,.int .i64 0,.int .i64 0,.int .i64 0]).length=m:=by simp;omega
  refine toV ?_
  repeat' first|refine Va (fA7 tq6 hlt' hlt hw hr hln zeo) ?_|(with_reducible first|refine SB.c ?_ ?_<;>intro _|exact zad)|with_reducible refine zac ?_|omega
  exact ⟨⟨i+1,by omega⟩,(WFe (by simp [kwf,List.replicate_succ,List.cons_append]) (by simp [kwf,List.replicate_succ,List.cons_append])),by show m - (i+1)<m - i;omega⟩
 ·have hlt':¬ (i:Int)<m:=by omega
  obtain rfl:i=m:=by omega
  refine SW.weak (za0.freeze 0 rfl) ?_
  simp only [zD6,List.replicate,List.cons_append,List.nil_append]
  simp only [St.frz,zf6,frz,zf7,List.map_cons,List.map_nil,List.set_cons_zero,List.set_cons_succ,hmm,List.replicate_zero,List.append_nil,List.length_replicate,if_true]
  refine toV ?_
  repeat' first|refine Va (fA4 @kz tq6 hlt' zeo) ?_|(with_reducible first|refine SB.c ?_ ?_<;>intro _|exact zad)|refine CK.dx [1] [] zvK cF ?_|refine CK.dx [2] [] zvI cG ?_|with_reducible refine zac ?_|omega
  refine zaI (ι:={j:Nat // j≤k}) (fun j=>⟨(.junk::.junk::.pv (.int .i64 size)::jl 4 (.pv (.int .i64 k)::.pv (.int .i64 i)::.junk::.junk::.pv (.str R.1)::.pv (.int .i64 R.2)::.pv (.str R.1)::.pv (.int .i64 R.2)::.pv (.str (zt8 j.1))::.pv (.int .i64 j.1)::jl 93 [])),[none,none,none,none,none,none,none]⟩) (fun j=>k - j.1) ⟨0,by omega⟩ (WFe (by simp [kwf,zxm]) (by simp [kwf,zxm])) ?_
  rintro ⟨j,hj⟩
  have hbl:=zqa j
  by_cases hjt:j<k
  ·have hjt':(j:Int)<k:=by omega
   have hw:=zaQ j (by omega)
   have hsn:=zCQ j
   have hrm:(zt8 j).length+12≤4611686018427387904:=by omega
   repeat' first|refine Va (fA6 tq6 hjt' hw hrm hsn zeo) ?_|(with_reducible first|refine SB.c ?_ ?_<;>intro _|exact zad)|with_reducible refine zac ?_|omega
   exact ⟨⟨j+1,by omega⟩,WFn,by show k - (j+1)<k - j;omega⟩
  have hjt':¬ (j:Int)<k:=by omega
  obtain rfl:j=k:=by omega
  have hs0:=zCR j
  have hrm:(zt8 j).length+6≤4611686018427387904:=by omega
  repeat' first|refine Va (fA5 tq6 hjt' hrm hs0 zeo) ?_|(with_reducible first|refine SB.c ?_ ?_<;>intro _|exact zad)|with_reducible refine zac ?_|omega
  refine zaI (ι:={x:Nat // x≤i}) (fun x=>⟨(.junk::.junk::.pv (.int .i64 size)::jl 5 (.pv (.int .i64 i)::.junk::.junk::.pv (.str R.1)::.pv (.int .i64 R.2)::.pv (.str R.1)::.pv (.int .i64 R.2)::.pv (.str (zt9 j x.1))::.junk::.pv (.int .i64 x.1)::jl 92 [])),[none,none,none,none,none,none,none]⟩) (fun x=>i - x.1) ⟨0,by omega⟩ WFn ?_
  rintro ⟨x,hx⟩
  have hcl:=zqb j x
  by_cases hxt:x<i
  ·have hxt':(x:Int)<i:=by omega
   have hw:=zaQ x (by omega)
   have hsn:=zCS j x
   have hrm:(zt9 j x).length+7≤4611686018427387904:=by omega
   repeat' first|refine Va (fA6 tq6 hxt' hw hrm hsn zeo) ?_|(with_reducible first|refine SB.c ?_ ?_<;>intro _|exact zad)|with_reducible refine zac ?_|omega
   exact ⟨⟨x+1,by omega⟩,WFn,by show i - (x+1)<i - x;omega⟩
  have hxt':¬ (x:Int)<i:=by omega
  obtain rfl:x=i:=by omega
  have hp0:(zfS 0).map zz0=[[.int .u8 112],[.int .u8 114],[.int .u8 111],[.int .u8 116],[.int .u8 111],[.int .u8 99],[.int .u8 111],[.int .u8 108],[.int .u8 32],[.int .u8 99],[.int .u8 97],[.int .u8 117],[.int .u8 115],[.int .u8 97],[.int .u8 108],[.int .u8 32],[.int .u8 49],[.int .u8 10],[.int .u8 112],[.int .u8 114],[.int .u8 111],[.int .u8 99],[.int .u8 101],[.int .u8 115],[.int .u8 115],[.int .u8 10]]:=rfl
  have hp1:(zfS 0).length=26:=rfl
  repeat' first|refine Va (fA3 tq6 hxt' zeo) ?_|(with_reducible first|refine SB.c ?_ ?_<;>intro _|exact zad)|with_reducible refine zac ?_|omega
  change SW _ _ _ _ _ _
  refine SW.seq (SW.bytesLit (zcl _ _) (k:=3) (ty:=zC3) (xs:=(zfS 0).map zz0) (ns:=(zfS 0).map fun b=>(b.toNat:Int)) rfl rfl rfl rfl rfl rfl rfl rfl rfl (by decide) rfl rfl rfl rfl (by decide) rfl (by decide) rfl (by decide) rfl rfl rfl (by simp) (by simp) (by decide) ?_)
  refine toV ?_
  repeat' first|refine Va (fA3 tq6 hp0 zeo) ?_|(with_reducible first|refine SB.c ?_ ?_<;>intro _|exact zad)|with_reducible refine zac ?_|omega
  refine zaI (ι:={y:Nat // 26+y≤q}) (fun y=>⟨(.junk::.junk::.pv (.int .i64 size)::jl 8 (.pv (.str R.1)::.pv (.int .i64 R.2)::.pv (.str R.1)::.pv (.int .i64 R.2)::.pv (.str (zt9 j x))::.junk::.junk::.row 3 (zfS y.1).length::jl 91 [])),[none,none,none,some (.row 1 ((zfS y.1).map zz0)),none,none,none]⟩) (fun y=>q - y.1) ⟨0,by omega⟩ (WFe (by simp [kwf,hp0,hp1]) (by simp [kwf,hp0,hp1])) ?_
  rintro ⟨y,hy⟩
  have hpl:=zoV y
  by_cases hyt:26+y<q
  ·have hyt':((zfS y).length:Int)<q:=by omega
   have hpn:=zwQ y
   have hpm:(zfS (y+1)).length=(zfS y).length+1:=by rw [zoV,zoV];omega
   have hrm:=zc8 ((zfS y).length+1) 1 (by omega)
   repeat' first|refine Va (fA5 tq6 hws hyt' hrm zeo) ?_|(with_reducible first|refine SB.c ?_ ?_<;>intro _|exact zad)|refine CK.d0 zh9 c3 ?_|with_reducible refine zac ?_|omega
   exact ⟨⟨y+1,by omega⟩,(WTe [0,1,2,5,4,3,6] (by simp [kwt,hpn,hpm]) (by simp [kwt,hpn,hpm])),by show q - (y+1)<q - y;omega⟩
  have hyt':¬ ((zfS y).length:Int)<q:=by omega
  have cS:=zjT (zfS y) (by omega)
  unfold scA at cS
  have he:((zhB (zfS y)).2.2==5)=decide (((zfS y).length:Int) > 65536):=by
   have:=zzK y
   by_cases h:65536<(zfS y).length
   ·rw [this.2 h];simp;omega
   ·have h2:(zhB (zfS y)).2.2≠5:=fun e=>h (this.1 e)
    simp only [beq_eq_false_iff_ne.2 h2]
    exact (decide_eq_false (by omega)).symm
  generalize zhB (zfS y)=F at *
  have hnb:zdP ((zfS y).map zz0)=some ((zfS y).map fun c=>(c.toNat:Int)):=zmG (zfS y)
  repeat' first|refine Va (fA6 tq6 hws hyt' he hnb zeo) ?_|(with_reducible first|refine SB.c ?_ ?_<;>intro _|exact zad)|refine CK.d0 zh9 c3 ?_|refine CK.d0 zlz cS ?_|refine CK.d0 zvJ cP ?_|with_reducible refine zac ?_|omega
  (refine zay.mk [] ?_ ?_<;>simp [kwr,tq6])
end Go.Proofs.YtfinhhblcdkpgaaGreatDoor
