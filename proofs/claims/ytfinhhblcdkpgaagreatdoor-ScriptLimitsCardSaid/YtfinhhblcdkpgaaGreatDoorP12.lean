/- A part of the walk (Tryz_P11): its theorems have no condition beyond what they state. -/
import Derived.Test.YtfinhhblcdkpgaaGreatDoorP10
import Derived.Test.YtfinhhblcdkpgaaGreatDoorLib3
set_option maxRecDepth 100000
set_option maxHeartbeats 64000000
set_option linter.unusedSimpArgs false
set_option linter.unusedVariables false
set_option linter.defProp false
namespace Go.Proofs.YtfinhhblcdkpgaaGreatDoor
open Go Go.Abs Go.RowKit
abbrev pgC (p:PgD):AObj:=.cells [.pv (.slice (p.vars.map zat)),.pv (.slice (p.start.map zai)),.pv (.slice (p.message.map zai)),.pv (.slice (p.tick.map zai)),.pv (.slice (p.input.map zai))]
abbrev seC (z:Seen):AObj:=.cells [.pv (.bool z.s),.pv (.bool z.m),.pv (.bool z.t),.pv (.bool z.i)]
abbrev haO (l:List TkD) (n k:Nat) (p:PgD) (z:Seen):List (Option AObj):=[some (psC l n k),some (pgC p),some (seC z)]
def zGz (l:List TkD) (n k:Nat) (p:PgD) (z:Seen):PR (PgD × Seen)→Prop
 |.ok q k'=>AC Tryz.prog gl 163 [.ref 0 0,.ref 1 0,.ref 2 0] (haO l n k p z) (.tup []) (haO l n k' q.1 q.2)
 |.bad k'=>AP Tryz.prog gl 163 [.ref 0 0,.ref 1 0,.ref 2 0] (haO l n k p z) (fv l n k') [some (psC l n k'),some (pgC p),some .dead]
 |.out=>True
def zIC (site:Nat→Nat) (nobj:Nat) (rs:List ResultVar) (l:List TkD) (n:Nat) (p:PgD):PR (PgD × Seen)→Exit→St→Prop
 |.ok q k'=>zay (zbs site nobj) 3 rs (.tup []) (haO l n k' q.1 q.2)
 |.bad k'=>zci 3 (fv l n k') [some (psC l n k'),some (pgC p),some .dead]
 |.out=>fun _ _=>True
theorem zF9 {code:Code} (site:Nat→Nat) (nobj:Nat) {nt:Nat} {rs:List ResultVar} (hF:FI Tryz.prog (163:Nat) code nt rs) {l:List TkD} {n k:Nat} {p:PgD} {z:Seen} {r:PR (PgD × Seen)}
  (h:VC Tryz.prog (zbs site nobj) 3 code ⟨[.ref 0 0,.ref 1 0,.ref 2 0]++List.replicate (nt - ([.ref 0 0,.ref 1 0,.ref 2 0]:List AVal).length) .junk,haO l n k p z++List.replicate (nobj - (haO l n k p z).length) none⟩ (zIC site nobj rs l n p r)) (hargs:([.ref 0 0,.ref 1 0,.ref 2 0]:List AVal).length≤nt:=by simp) (hobjs:(haO l n k p z).length≤nobj:=by simp) (hr:r.isOut=false:=by assumption):zGz l n k p z r:=by
 cases r with
 |ok e k'=>exact zax site nobj hF h hargs hobjs
 |bad k'=>exact zbO site nobj hF h hargs hobjs
 |out=>cases hr
theorem zDo {l:List TkD} {n k k':Nat} {b:List Sm} (hl:l.length≤100000) (hk:k≤l.length) (h:zbr l k=.ok b k'):AC Tryz.prog gl 186 [.ref 0 0] (psO l n k) (lsA b) (psO l n k'):=by
 have:=zny l n k hl hk
 rw [h] at this
 exact this
theorem zwD {l:List TkD} {n k k':Nat} (hl:l.length≤100000) (hk:k≤l.length) (h:zbr l k=.bad k'):AP Tryz.prog gl 186 [.ref 0 0] (psO l n k) (fv l n k') (psO l n k'):=by
 have:=zny l n k hl hk
 rw [h] at this
 exact this
theorem zhW {l:List TkD} {k:Nat} (hk:k≤l.length):zbr l k≠.out:=fun h=>by
 have:=zey hk
 rw [h] at this
 cases this
def noW (l:List TkD) (z:Seen) (k i:Nat):Prop:=(0<i→(!z.s&&isT l k [115,116,97,114,116])=false)∧(1<i→(!z.m&&isT l k [109,101,115,115,97,103,101])=false)∧(2<i→(!z.t&&isT l k [116,105,99,107])=false)∧(3<i→(!z.i&&isT l k [105,110,112,117,116])=false)
theorem zoK (l:List TkD) (n k:Nat) (p:PgD) (z:Seen) (hl:l.length≤100000) (hk:k≤l.length):zGz l n k p z (zov l p z k):=by
 have ho:=zpI l p z k hk
 unfold zov at ho ⊢
 cases r0:zaU l [111,110] k with
 |out=>exact absurd r0 zby
 |bad k'=>
  have q:=za2 l n _ _ _ r0
  show AP _ _ _ _ _ _ _
  refine zbO (fun _=>3) 4 zCa ?_
  repeat' first|refine Va (fA2 @kz zdW) ?_|(with_reducible first|refine SB.c ?_ ?_<;>intro _|exact zad|refine fun (_:List AVal)=>?_)|refine CK.dp [0] [] zam q ?_|with_reducible refine zac ?_|omega
  (refine zci.mk [0,1,2] ?_<;>simp [kwt])
 |ok u k1=>
  have le0:=zen hk (by simp) r0
  have c0:=zbe l n _ _ _ r0 (by omega)
  rw [r0] at ho
  simp only [PR.bind] at ho ⊢
  have hB:znL l p z k1=znL l p z k1:=rfl
  generalize hR:znL l p z k1=R at ho ⊢
  refine zF9 (fun _=>3) 4 zCa ?_
  repeat' first|refine Va (fA2 @kz zdW) ?_|(with_reducible first|refine SB.c ?_ ?_<;>intro _|exact zad|refine fun (_:List AVal)=>?_)|refine dC1 zam c0 ?_|with_reducible refine zac ?_|omega
  refine zaI (ι:={i:Nat // i≤4∧noW l z k1 i}) (fun i=>⟨(.ref 0 0::.ref 1 0::.ref 2 0::jl 3 (.ref 3 0::jl 17 (.agg [.pv (.str [115,116,97,114,116]),.pv (.str [109,101,115,115,97,103,101]),.pv (.str [116,105,99,107]),.pv (.str [105,110,112,117,116])]::.pv (.int .i64 i.1)::jl 27 []))),[some (psC l n k1),some (pgC p),some (seC z),some (.cells [.ref 1 1,.ref 1 2,.ref 1 3,.ref 1 4])]⟩) (fun i=>4 - i.1) ⟨0,by omega,⟨by omega,by omega,by omega,by omega⟩⟩ WFn ?_
  rintro ⟨i,hi,w0,w1,w2,w3⟩
  have hcs:i=0∨i=1∨i=2∨i=3∨i=4:=by omega
  rcases hcs with rfl|rfl|rfl|rfl|rfl
  ·-- start
   have hw:IntKind.i64.wrap 1=1:=by decide
   by_cases hz:z.s=true
   ·repeat' first|refine Va (fA2 zdW hz) ?_|(with_reducible first|refine SB.c ?_ ?_<;>intro _|exact zad|refine fun (_:List AVal)=>?_)|with_reducible refine zac ?_|omega
    exact ⟨⟨1,by omega,⟨fun _=>by rw [hz];rfl,fun h=>by omega,fun h=>by omega,fun h=>by omega⟩⟩,(WFe (by simp [kwf,hz,hw]) (by simp [kwf,hz,hw])),by show 4 - 1<4 - 0;decide⟩
   ·replace hz:z.s=false:=by simpa using hz
    by_cases e0:isT l k1 [115,116,97,114,116]=true
    ·have t:=za3 l n k1 _ e0 (by omega)
     have hlt:=zau e0 (by simp)
     have hc:(!z.s&&isT l k1 [115,116,97,114,116])=true:=by rw [hz,e0];rfl
     unfold znL at hR
     simp only [hc,if_true,if_false,Bool.false_eq_true,↓reduceIte] at hR
     cases r1:zbr l (k1+1) with
     |out=>exact absurd r1 (zhW (by omega))
     |bad k2=>
      have q:=zwD (n:=n) hl (by omega) r1
      rw [r1] at hR
      replace hR:PR.bad k2=R:=hR
      subst hR
      repeat' first|refine Va (fA3 @kz zdW hz) ?_|(with_reducible first|refine SB.c ?_ ?_<;>intro _|exact zad|refine fun (_:List AVal)=>?_)|refine dC1 zaa t ?_|refine CK.dp [0] [] zbg q ?_|with_reducible refine zac ?_|omega
      (refine zci.mk [0,1,2] ?_<;>simp [kwt])
     |ok b k2=>
      have q:=zDo (n:=n) hl (by omega) r1
      rw [r1] at hR
      replace hR:PR.ok ({ p with start:=b },{ z with s:=true }) k2=R:=hR
      subst hR
      repeat' first|refine Va (fA4 @kz zdW hz @lsA.eq_1) ?_|(with_reducible first|refine SB.c ?_ ?_<;>intro _|exact zad|refine fun (_:List AVal)=>?_)|refine dC1 zaa t ?_|refine dC1 zbg q ?_|with_reducible refine zac ?_|omega
      (refine zay.mk [0,1,2] ?_ ?_<;>simp [kwr,zdW])
    ·have t:=zao l n k1 _ (by simpa using e0)
     replace e0:isT l k1 [115,116,97,114,116]=false:=by simpa using e0
     repeat' first|refine Va (fA3 @kz zdW hz) ?_|(with_reducible first|refine SB.c ?_ ?_<;>intro _|exact zad|refine fun (_:List AVal)=>?_)|refine dC1 zaa t ?_|with_reducible refine zac ?_|omega
     exact ⟨⟨1,by omega,⟨fun _=>by rw [e0,Bool.and_false],fun h=>by omega,fun h=>by omega,fun h=>by omega⟩⟩,(WFe (by simp [kwf,hz,hw]) (by simp [kwf,hz,hw])),by show 4 - 1<4 - 0;decide⟩
  ·-- message
   replace w0:=w0 (by omega)
   have hw:IntKind.i64.wrap 2=2:=by decide
   by_cases hz:z.m=true
   ·repeat' first|refine Va (fA2 zdW hz) ?_|(with_reducible first|refine SB.c ?_ ?_<;>intro _|exact zad|refine fun (_:List AVal)=>?_)|with_reducible refine zac ?_|omega
    exact ⟨⟨2,by omega,⟨fun _=>w0,fun _=>by rw [hz];rfl,fun h=>by omega,fun h=>by omega⟩⟩,(WFe (by simp [kwf,hz,hw]) (by simp [kwf,hz,hw])),by show 4 - 2<4 - 1;decide⟩
   ·replace hz:z.m=false:=by simpa using hz
    by_cases e0:isT l k1 [109,101,115,115,97,103,101]=true
    ·have t:=za3 l n k1 _ e0 (by omega)
     have hlt:=zau e0 (by simp)
     have hc:(!z.m&&isT l k1 [109,101,115,115,97,103,101])=true:=by rw [hz,e0];rfl
     unfold znL at hR
     simp only [w0,hc,if_true,if_false,Bool.false_eq_true,↓reduceIte] at hR
     cases r1:zbr l (k1+1) with
     |out=>exact absurd r1 (zhW (by omega))
     |bad k2=>
      have q:=zwD (n:=n) hl (by omega) r1
      rw [r1] at hR
      replace hR:PR.bad k2=R:=hR
      subst hR
      repeat' first|refine Va (fA3 @kz zdW hz) ?_|(with_reducible first|refine SB.c ?_ ?_<;>intro _|exact zad|refine fun (_:List AVal)=>?_)|refine dC1 zaa t ?_|refine CK.dp [0] [] zbg q ?_|with_reducible refine zac ?_|omega
      (refine zci.mk [0,1,2] ?_<;>simp [kwt])
     |ok b k2=>
      have q:=zDo (n:=n) hl (by omega) r1
      rw [r1] at hR
      replace hR:PR.ok ({ p with message:=b },{ z with m:=true }) k2=R:=hR
      subst hR
      repeat' first|refine Va (fA4 @kz zdW hz @lsA.eq_1) ?_|(with_reducible first|refine SB.c ?_ ?_<;>intro _|exact zad|refine fun (_:List AVal)=>?_)|refine dC1 zaa t ?_|refine dC1 zbg q ?_|with_reducible refine zac ?_|omega
      (refine zay.mk [0,1,2] ?_ ?_<;>simp [kwr,zdW])
    ·have t:=zao l n k1 _ (by simpa using e0)
     replace e0:isT l k1 [109,101,115,115,97,103,101]=false:=by simpa using e0
     repeat' first|refine Va (fA3 @kz zdW hz) ?_|(with_reducible first|refine SB.c ?_ ?_<;>intro _|exact zad|refine fun (_:List AVal)=>?_)|refine dC1 zaa t ?_|with_reducible refine zac ?_|omega
     exact ⟨⟨2,by omega,⟨fun _=>w0,fun _=>by rw [e0,Bool.and_false],fun h=>by omega,fun h=>by omega⟩⟩,(WFe (by simp [kwf,hz,hw]) (by simp [kwf,hz,hw])),by show 4 - 2<4 - 1;decide⟩
  ·-- tick
   replace w0:=w0 (by omega)
   replace w1:=w1 (by omega)
   have hw:IntKind.i64.wrap 3=3:=by decide
   by_cases hz:z.t=true
   ·repeat' first|refine Va (fA2 zdW hz) ?_|(with_reducible first|refine SB.c ?_ ?_<;>intro _|exact zad|refine fun (_:List AVal)=>?_)|with_reducible refine zac ?_|omega
    exact ⟨⟨3,by omega,⟨fun _=>w0,fun _=>w1,fun _=>by rw [hz];rfl,fun h=>by omega⟩⟩,(WFe (by simp [kwf,hz,hw]) (by simp [kwf,hz,hw])),by show 4 - 3<4 - 2;decide⟩
   ·replace hz:z.t=false:=by simpa using hz
    by_cases e0:isT l k1 [116,105,99,107]=true
    ·have t:=za3 l n k1 _ e0 (by omega)
     have hlt:=zau e0 (by simp)
     have hc:(!z.t&&isT l k1 [116,105,99,107])=true:=by rw [hz,e0];rfl
     unfold znL at hR
     simp only [w0,w1,hc,if_true,if_false,Bool.false_eq_true,↓reduceIte] at hR
     cases r1:zbr l (k1+1) with
     |out=>exact absurd r1 (zhW (by omega))
     |bad k2=>
      have q:=zwD (n:=n) hl (by omega) r1
      rw [r1] at hR
      replace hR:PR.bad k2=R:=hR
      subst hR
      repeat' first|refine Va (fA3 @kz zdW hz) ?_|(with_reducible first|refine SB.c ?_ ?_<;>intro _|exact zad|refine fun (_:List AVal)=>?_)|refine dC1 zaa t ?_|refine CK.dp [0] [] zbg q ?_|with_reducible refine zac ?_|omega
      (refine zci.mk [0,1,2] ?_<;>simp [kwt])
     |ok b k2=>
      have q:=zDo (n:=n) hl (by omega) r1
      rw [r1] at hR
      replace hR:PR.ok ({ p with tick:=b },{ z with t:=true }) k2=R:=hR
      subst hR
      repeat' first|refine Va (fA4 @kz zdW hz @lsA.eq_1) ?_|(with_reducible first|refine SB.c ?_ ?_<;>intro _|exact zad|refine fun (_:List AVal)=>?_)|refine dC1 zaa t ?_|refine dC1 zbg q ?_|with_reducible refine zac ?_|omega
      (refine zay.mk [0,1,2] ?_ ?_<;>simp [kwr,zdW])
    ·have t:=zao l n k1 _ (by simpa using e0)
     replace e0:isT l k1 [116,105,99,107]=false:=by simpa using e0
     repeat' first|refine Va (fA3 @kz zdW hz) ?_|(with_reducible first|refine SB.c ?_ ?_<;>intro _|exact zad|refine fun (_:List AVal)=>?_)|refine dC1 zaa t ?_|with_reducible refine zac ?_|omega
     exact ⟨⟨3,by omega,⟨fun _=>w0,fun _=>w1,fun _=>by rw [e0,Bool.and_false],fun h=>by omega⟩⟩,(WFe (by simp [kwf,hz,hw]) (by simp [kwf,hz,hw])),by show 4 - 3<4 - 2;decide⟩
  ·-- input
   replace w0:=w0 (by omega)
   replace w1:=w1 (by omega)
   replace w2:=w2 (by omega)
   have hw:IntKind.i64.wrap 4=4:=by decide
   by_cases hz:z.i=true
   ·repeat' first|refine Va (fA2 zdW hz) ?_|(with_reducible first|refine SB.c ?_ ?_<;>intro _|exact zad|refine fun (_:List AVal)=>?_)|with_reducible refine zac ?_|omega
    exact ⟨⟨4,by omega,⟨fun _=>w0,fun _=>w1,fun _=>w2,fun _=>by rw [hz];rfl⟩⟩,(WFe (by simp [kwf,hz,hw]) (by simp [kwf,hz,hw])),by show 4 - 4<4 - 3;decide⟩
   ·replace hz:z.i=false:=by simpa using hz
    by_cases e0:isT l k1 [105,110,112,117,116]=true
    ·have t:=za3 l n k1 _ e0 (by omega)
     have hlt:=zau e0 (by simp)
     have hc:(!z.i&&isT l k1 [105,110,112,117,116])=true:=by rw [hz,e0];rfl
     unfold znL at hR
     simp only [w0,w1,w2,hc,if_true,if_false,Bool.false_eq_true,↓reduceIte] at hR
     cases r1:zbr l (k1+1) with
     |out=>exact absurd r1 (zhW (by omega))
     |bad k2=>
      have q:=zwD (n:=n) hl (by omega) r1
      rw [r1] at hR
      replace hR:PR.bad k2=R:=hR
      subst hR
      repeat' first|refine Va (fA3 @kz zdW hz) ?_|(with_reducible first|refine SB.c ?_ ?_<;>intro _|exact zad|refine fun (_:List AVal)=>?_)|refine dC1 zaa t ?_|refine CK.dp [0] [] zbg q ?_|with_reducible refine zac ?_|omega
      (refine zci.mk [0,1,2] ?_<;>simp [kwt])
     |ok b k2=>
      have q:=zDo (n:=n) hl (by omega) r1
      rw [r1] at hR
      replace hR:PR.ok ({ p with input:=b },{ z with i:=true }) k2=R:=hR
      subst hR
      repeat' first|refine Va (fA4 @kz zdW hz @lsA.eq_1) ?_|(with_reducible first|refine SB.c ?_ ?_<;>intro _|exact zad|refine fun (_:List AVal)=>?_)|refine dC1 zaa t ?_|refine dC1 zbg q ?_|with_reducible refine zac ?_|omega
      (refine zay.mk [0,1,2] ?_ ?_<;>simp [kwr,zdW])
    ·have t:=zao l n k1 _ (by simpa using e0)
     replace e0:isT l k1 [105,110,112,117,116]=false:=by simpa using e0
     repeat' first|refine Va (fA3 @kz zdW hz) ?_|(with_reducible first|refine SB.c ?_ ?_<;>intro _|exact zad|refine fun (_:List AVal)=>?_)|refine dC1 zaa t ?_|with_reducible refine zac ?_|omega
     exact ⟨⟨4,by omega,⟨fun _=>w0,fun _=>w1,fun _=>w2,fun _=>by rw [e0,Bool.and_false]⟩⟩,(WFe (by simp [kwf,hz,hw]) (by simp [kwf,hz,hw])),by show 4 - 4<4 - 3;decide⟩
  ·-- no more words
   replace w0:=w0 (by omega)
   replace w1:=w1 (by omega)
   replace w2:=w2 (by omega)
   replace w3:=w3 (by omega)
   unfold znL at hR
   simp only [w0,w1,w2,w3,if_false,Bool.false_eq_true,↓reduceIte] at hR
   subst hR
   have q:=zl9 l n k1
   repeat' first|refine Va (fA2 @kz zdW) ?_|(with_reducible first|refine SB.c ?_ ?_<;>intro _|exact zad|refine fun (_:List AVal)=>?_)|refine CK.dp [0] [] zdq q ?_|with_reducible refine zac ?_|omega
   (refine zci.mk [0,1,2] ?_<;>simp [kwt])
theorem zzw {f:FuncId} {fn:Func} {id0 t t':Nat} {ty1 ty2:TypeId} {p1 p2:String} {a1 a2:Array Edge} {tys:Array TypeId} {rest:Code} (site:Nat→Nat) (nobj:Nat) (hf:Tryz.prog.funcs[f]?=some fn)
  (hb:fn.body=some (.seq (.region id0 #[⟨some t,.call ⟨.builtin .recover,#[],tys⟩,ty1,p1,a1,none⟩,⟨some t',.assign (.tmp t),ty2,p2,a2,none⟩] false) rest)) {nt:Nat} (hn:fn.ntmps=nt) (hres:fn.results=#[]) {args:List AVal} {objs objs':List (Option AObj)} {u u':FrameMode} {rv:AVal}
  (hrec:Rec' u rv u') (hargs:args.length≤nt) (hobjs:objs.length≤nobj) (ht:t<nt)
  (h:VC Tryz.prog (zbs site nobj) objs.length rest ((⟨args++List.replicate (nt - args.length) .junk,objs++List.replicate (nobj - objs.length) none⟩:St).app (some t) ⟨rv,[]⟩ |>.app (some t') ⟨rv,[]⟩) (zay (zbs site nobj) objs.length [] (.tup []) objs')) :
  AD Tryz.prog gl f args objs u u' objs':=by
 subst hn
 exact AD.of_body (env:=zbs site nobj) (zcl _ _) mixed hf hb hres hrec hargs hobjs ht h
theorem zCJ {f fc:FuncId} {fn:Func} {r0 rest:Code} {i1 t9 pin:Nat} {ty1 ty2:TypeId} {p1 p2:String} {a1 a2:Array Edge} {tys:Array TypeId} {caps:Array Operand} (site:Nat→Nat) (nobj:Nat) (hf:Tryz.prog.funcs[f]?=some fn)
  (hb:fn.body=some (.seq r0 (.seq (.region i1 #[⟨some t9,.makeFunc (.func fc) #[] caps,ty1,p1,a1,none⟩,⟨none,.defer ⟨.value (.tmp t9),#[],tys⟩,ty2,p2,a2,none⟩] false) rest))) {nt:Nat} (hn:fn.ntmps=nt) {rs:List ResultVar} (hrs:fn.results.toList=rs) {args:List AVal} {res:AVal}
  (hargs:args.length≤nt) {cs:List AVal} {σ1:St} (hent:∀ vargs w,(callFunc fc vargs).run Tryz.prog w=.ok (.enter fc vargs) w)
  (h0:VC Tryz.prog (zbs site nobj) pin r0 ⟨args++List.replicate (nt - args.length) .junk,List.replicate nobj none⟩ (fun e σ=>e=.normal∧σ=σ1))
  (hcap:caps.toList.map (zah (zbs site nobj) σ1)=cs) (hcs:∀ c,c ∈ cs→∃ id off,c=.ref id off∧id<pin) (ht9:t9<σ1.slots.length)
  (h1:VC Tryz.prog (zbs site nobj) pin rest (σ1.app (some t9) ⟨.clo fc cs,[]⟩) (zGg Tryz.prog (zbs site nobj) fc cs rs res)):AC Tryz.prog gl f args [] res []:=by
 subst hn hrs
 exact AC.of_defer (env:=zbs site nobj) (zcl _ _) mixed hf hb hargs hent h0 hcap hcs ht9 h1
abbrev dfO (p:PgD) (b:Bool) (a:Int):List (Option AObj):=[some (pgC p),some (.cells [.pv (.bool b)]),some (.cells [.pv (.int .i64 a)])]
theorem zrg (p:PgD) (b:Bool) (a:Int):AD Tryz.prog gl 161 [.ref 0 0,.ref 1 0,.ref 2 0] (dfO p b a) .returning .returning (dfO p b a):=by
 refine zzw (fun _=>3) 4 Tryz.func161 rfl Tryz.ntmps161 Tryz.results161 (.idle) (by simp) (by simp) (by decide) ?_
 repeat' first|refine Va zqK ?_|(with_reducible first|refine SB.c ?_ ?_<;>intro _|exact zad)|with_reducible refine zac ?_|omega
 (refine zay.mk [0,1,2] ?_ ?_<;>simp [kwr,zqK])
theorem ztQ (l:List TkD) (n k:Nat) (p:PgD) (b:Bool) (a:Int):AD Tryz.prog gl 161 [.ref 0 0,.ref 1 0,.ref 2 0] (dfO p b a) (.panicking (zke (fv l n k))) (.panicking [{ v:=fv l n k,recovered:=true }])
  [some (.cells [.snil,.snil,.snil,.snil,.snil]),some (.cells [.pv (.bool false)]),some (.cells [.pv (.int .i64 (zar l n k))])]:=by
 refine zzw (fun _=>3) 4 Tryz.func161 rfl Tryz.ntmps161 Tryz.results161 (.found (fv l n k) (.pv (.ifc 213 true [.int .i64 (zar l n k)])) rfl) (by simp) (by simp) (by decide) ?_
 repeat' first|refine Va zqK ?_|(with_reducible first|refine SB.c ?_ ?_<;>intro _|exact zad)|with_reducible refine zac ?_|omega
 (refine zay.mk [0,1,2] ?_ ?_<;>simp [kwr,zqK])
end Go.Proofs.YtfinhhblcdkpgaaGreatDoor
