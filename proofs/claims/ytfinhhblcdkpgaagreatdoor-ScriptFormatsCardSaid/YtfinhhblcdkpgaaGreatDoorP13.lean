/- A part of the walk (Tryz_P12): its theorems have no condition beyond what they state. -/
import Derived.Test.YtfinhhblcdkpgaaGreatDoorP11
import Derived.Test.YtfinhhblcdkpgaaGreatDoorLib2
set_option maxRecDepth 100000
set_option maxHeartbeats 64000000
set_option linter.unusedSimpArgs false
set_option linter.unusedVariables false
set_option linter.defProp false
namespace Go.Proofs.YtfinhhblcdkpgaaGreatDoor
open Go Go.Abs Go.RowKit
theorem zxg {f:FuncId} {fn:Func} {id0 t t':Nat} {ty1 ty2:TypeId} {p1 p2:String} {a1 a2:Array Edge} {tys:Array TypeId} {rest:Code} (site:Nat→Nat) (nobj:Nat) (hf:Tryz.prog.funcs[f]?=some fn)
  (hb:fn.body=some (.seq (.region id0 #[⟨some t,.call ⟨.builtin .recover,#[],tys⟩,ty1,p1,a1,none⟩,⟨some t',.assign (.tmp t),ty2,p2,a2,none⟩] false) rest)) {nt:Nat} (hn:fn.ntmps=nt) (hres:fn.results=#[]) {args:List AVal} {objs objs':List (Option AObj)} {u u':FrameMode} {rv:AVal}
  (hrec:Rec' u rv u') (hargs:args.length≤nt) (hobjs:objs.length≤nobj) (ht:t<nt)
  (h:VC Tryz.prog (zbB site nobj) objs.length rest ((⟨args++List.replicate (nt - args.length) .junk,objs++List.replicate (nobj - objs.length) none⟩:St).app (some t) ⟨rv,[]⟩ |>.app (some t') ⟨rv,[]⟩) (zaJ (zbB site nobj) objs.length [] (.tup []) objs')) :
  AD Tryz.prog gl f args objs u u' objs':=by
 subst hn
 exact AD.of_body (env:=zbB site nobj) (zck _ _) mixed hf hb hres hrec hargs hobjs ht h
theorem zz4 {f fc:FuncId} {fn:Func} {r0 rest:Code} {i1 t9 pin:Nat} {ty1 ty2:TypeId} {p1 p2:String} {a1 a2:Array Edge} {tys:Array TypeId} {caps:Array Operand} (site:Nat→Nat) (nobj:Nat) (hf:Tryz.prog.funcs[f]?=some fn)
  (hb:fn.body=some (.seq r0 (.seq (.region i1 #[⟨some t9,.makeFunc (.func fc) #[] caps,ty1,p1,a1,none⟩,⟨none,.defer ⟨.value (.tmp t9),#[],tys⟩,ty2,p2,a2,none⟩] false) rest))) {nt:Nat} (hn:fn.ntmps=nt) {rs:List ResultVar} (hrs:fn.results.toList=rs) {args:List AVal} {res:AVal}
  (hargs:args.length≤nt) {cs:List AVal} {σ1:St} (hent:∀ vargs w,(callFunc fc vargs).run Tryz.prog w=.ok (.enter fc vargs) w)
  (h0:VC Tryz.prog (zbB site nobj) pin r0 ⟨args++List.replicate (nt - args.length) .junk,List.replicate nobj none⟩ (fun e σ=>e=.normal∧σ=σ1))
  (hcap:caps.toList.map (zaf (zbB site nobj) σ1)=cs) (hcs:∀ c,c ∈ cs→∃ id off,c=.ref id off∧id<pin) (ht9:t9<σ1.slots.length)
  (h1:VC Tryz.prog (zbB site nobj) pin rest (σ1.app (some t9) ⟨.clo fc cs,[]⟩) (zDu Tryz.prog (zbB site nobj) fc cs rs res)):AC Tryz.prog gl f args [] res []:=by
 subst hn hrs
 exact AC.of_defer (env:=zbB site nobj) (zck _ _) mixed hf hb hargs hent h0 hcap hcs ht9 h1
abbrev dfO (p:PgD) (b:Bool) (a:Int):List (Option AObj):=[some (pgC p),some (.cells [.pv (.bool b)]),some (.cells [.pv (.int .i64 a)])]
theorem zpq (p:PgD) (b:Bool) (a:Int):AD Tryz.prog gl 161 [.ref 0 0,.ref 1 0,.ref 2 0] (dfO p b a) .returning .returning (dfO p b a):=by
 refine zxg (fun _=>3) 4 Tryz.func161 rfl Tryz.ntmps161 Tryz.results161 (.idle) (by simp) (by simp) (by decide) ?_
 (repeat' (first|refine Va zo2 ?_|(with_reducible first|refine SB.c ?_ ?_<;>intro _|exact zac)|with_reducible refine zab ?_|omega))
 (refine zaJ.mk [0,1,2] ?_ ?_<;>simp [kwr,zo2])
theorem zrV (l:List TkD) (n k:Nat) (p:PgD) (b:Bool) (a:Int):AD Tryz.prog gl 161 [.ref 0 0,.ref 1 0,.ref 2 0] (dfO p b a) (.panicking (ziW (fv l n k))) (.panicking [{ v:=fv l n k,recovered:=true }])
  [some (.cells [.snil,.snil,.snil,.snil,.snil]),some (.cells [.pv (.bool false)]),some (.cells [.pv (.int .i64 (zgO l n k))])]:=by
 refine zxg (fun _=>3) 4 Tryz.func161 rfl Tryz.ntmps161 Tryz.results161 (.found (fv l n k) (.pv (.ifc 213 true [.int .i64 (zgO l n k)])) rfl) (by simp) (by simp) (by decide) ?_
 (repeat' (first|refine Va zo2 ?_|(with_reducible first|refine SB.c ?_ ?_<;>intro _|exact zac)|with_reducible refine zab ?_|omega))
 (refine zaJ.mk [0,1,2] ?_ ?_<;>simp [kwr,zo2])
theorem zpr (l:List TkD) (n k:Nat) (b:Bool) (a:Int):AD Tryz.prog gl 161 [.ref 0 0,.ref 1 0,.ref 2 0] [some (.cells [.snil,.snil,.snil,.snil,.snil]),some (.cells [.pv (.bool b)]),some (.cells [.pv (.int .i64 a)])] (.panicking (ziW (fv l n k))) (.panicking [{ v:=fv l n k,recovered:=true }])
  [some (.cells [.snil,.snil,.snil,.snil,.snil]),some (.cells [.pv (.bool false)]),some (.cells [.pv (.int .i64 (zgO l n k))])]:=by
 refine zxg (fun _=>3) 4 Tryz.func161 rfl Tryz.ntmps161 Tryz.results161 (.found (fv l n k) (.pv (.ifc 213 true [.int .i64 (zgO l n k)])) rfl) (by simp) (by simp) (by decide) ?_
 (repeat' (first|refine Va zo2 ?_|(with_reducible first|refine SB.c ?_ ?_<;>intro _|exact zac)|with_reducible refine zab ?_|omega))
 (refine zaJ.mk [0,1,2] ?_ ?_<;>simp [kwr,zo2])
def pg0:PgD:=⟨[],[],[],[],[]⟩
def zxh (l:List TkD) (n:Nat):PR PgD→AVal
 |.ok p _=>.tup [pgA p,.pv (.int .i64 0),.pv (.bool true)]
 |.bad k=>.tup [pgA pg0,.pv (.int .i64 (zgO l n k)),.pv (.bool false)]
 |.out=>.junk
structure HL (l:List TkD) (R:PR PgD) where
 j:Nat
 p:PgD
 z:Seen
 k:Nat
 hk:k≤l.length
 h:zkR l j p z k=R
theorem zut (l:List TkD) (n:Nat) (hl:l.length≤100000) (hv:∀ k,(l.getD k tk0).value≤9223372036854775807):AC Tryz.prog gl 124 [.pv (.slice (l.map zki)),.pv (.int .i64 n)] [] (zxh l n (zly l)) []:=by
 have ho:=zlG (l:=l)
 unfold zly at ho ⊢
 have cD:=zrU l n (l.length+1) 0 hl (by omega) hv (zhk _ _ 0 (by omega) (by omega))
 have hon:=zik (l:=l) (l.length+1) [] 0 (by omega)
 refine zz4 (pin:=3) (σ1:=⟨(.pv (.slice (l.map zki))::.pv (.int .i64 n)::.junk::.junk::.ref 0 0::.ref 1 0::.ref 2 0::jl 23 []),[some (.cells [.snil,.snil,.snil,.snil,.snil]),some (.cells [.pv (.int .i64 0)]),some (.cells [.pv (.bool false)]),none,none]⟩) (cs:=[.ref 0 0,.ref 2 0,.ref 1 0]) (fun d=>if d=4 then 0 else if d=5 then 1 else if d=6 then 2 else if d=13 then 3 else 4) 5 Tryz.func124 rfl Tryz.ntmps124 (by rw [Tryz.results124]) (by simp) zqX ?_ rfl (by simp) (by simp) ?_
 ·(repeat' (first|refine Va zj9 ?_|(with_reducible first|refine SB.c ?_ ?_<;>intro _|exact zac|refine fun (_:List AVal)=>?_)|with_reducible refine zab ?_|omega))
 cases r0:zkQ l (l.length+1) [] 0 with
 |out=>rw [r0] at ho;cases ho
 |bad k'=>
  rw [r0] at cD
  have q:AP _ _ _ _ _ _ _:=cD
  (repeat' (first|refine Va (fA2 @kz zj9) ?_|(with_reducible first|refine SB.c ?_ ?_<;>intro _|exact zac|refine fun (_:List AVal)=>?_)|refine CK.dp [3] [] zlp q ?_|with_reducible refine zab ?_|omega))
  refine ⟨.panicking (ziW (fv l n k')),_,[.ref 0 0,.ref 1 0,.ref 2 0],_,[0,2,1],_,.inr ⟨_,rfl,rfl⟩,rfl,zpr l n k' false 0,rfl,rfl,rfl,(by simp [zbA,zaw,zap]),(by decide),(by simp [zbB]),(by simp),?_⟩
  simp -implicitDefEqProofs +contextual (maxSteps:=9000000) only [kx,↓ky,zj9,simprocAttr,kz,zxh,PR.bind,pgA,pg0]
 |ok vs k1=>
  rw [r0] at cD ho hon
  have q:AC _ _ _ _ _ _ _:=cD
  have hk1:0≤k1∧k1≤l.length:=hon
  simp only [PR.bind] at ho ⊢
  generalize hR:zkR l (l.length+1) ⟨vs,[],[],[],[]⟩ ⟨false,false,false,false⟩ k1=R at *
  (repeat' (first|refine Va (fA3 @kz zj9 @vsA.eq_1) ?_|(with_reducible first|refine SB.c ?_ ?_<;>intro _|exact zac|refine fun (_:List AVal)=>?_)|refine CK.dx [3] [] zlp q ?_|with_reducible refine zab ?_|omega))
  refine za6 (ι:={i:HL l R // i.j≤l.length+1}) (fun i=>⟨(jl 4 (.ref 0 0::.ref 1 0::.ref 2 0::.ref 3 0::.ref 4 0::jl 21 [])),[some (pgC i.1.p),some (.cells [.pv (.int .i64 0)]),some (.cells [.pv (.bool false)]),some (psC l n i.1.k),some (seC i.1.z)]⟩) (fun i=>i.1.j) ⟨⟨l.length+1,⟨vs,[],[],[],[]⟩,⟨false,false,false,false⟩,k1,hk1.2,hR⟩,Nat.le_refl _⟩ (zbK.nz.trans (WFe (by simp [kwf,St.nz,nzL,ziY,nzO,nz]) (by simp [kwf,St.nz,nzL,ziY,nzO,nz]))) ?_
  rintro ⟨⟨j,p,z,k,hk,hi⟩,hj⟩
  replace hj:j≤l.length+1:=hj
  cases j with
  |zero=>
   exfalso
   rw [←hi] at ho
   cases ho
  |succ j=>
   rw [zlH] at hi
   by_cases hlt:k<l.length
   ·have hlt':(k:Int)<l.length:=by omega
    rw [if_pos hlt] at hi
    have c:=zmZ l n k p z hl hk
    have hpa:=zlI l p z k hk
    have hou:=zn2 l p z k hk
    cases r1:zse l p z k with
    |out=>rw [r1] at hou;cases hou
    |bad k'=>
     rw [r1] at c hi
     have c1:AP _ _ _ _ _ _ _:=c
     replace hi:PR.bad k'=R:=hi
     subst hi
     (repeat' (first|refine Va (fA3 @kz zj9 hlt') ?_|(with_reducible first|refine SB.c ?_ ?_<;>intro _|exact zac|refine fun (_:List AVal)=>?_)|refine CK.dp [3,0,4] [] zlq c1 ?_|with_reducible refine zab ?_|omega))
     refine ⟨.panicking (ziW (fv l n k')),_,[.ref 0 0,.ref 1 0,.ref 2 0],_,[0,2,1],_,.inr ⟨_,rfl,rfl⟩,rfl,zrV l n k' p false 0,rfl,rfl,rfl,(by simp [zbA,zaw,zap]),(by decide),(by simp [zbB]),(by simp),?_⟩
     simp -implicitDefEqProofs +contextual (maxSteps:=9000000) only [kx,↓ky,zj9,simprocAttr,kz,zxh,pgA,pg0]
    |ok w k2=>
     rw [r1] at c hi hpa
     have c1:AC _ _ _ _ _ _ _:=c
     have hp2:k<k2∧k2≤l.length:=hpa
     replace hi:zkR l j w.1 w.2 k2=R:=hi
     (repeat' (first|refine Va (fA3 @kz zj9 hlt') ?_|(with_reducible first|refine SB.c ?_ ?_<;>intro _|exact zac|refine fun (_:List AVal)=>?_)|refine CK.dx [3,0,4] [] zlq c1 ?_|with_reducible refine zab ?_|omega))
     exact ⟨⟨⟨j,w.1,w.2,k2,hp2.2,hi⟩,by show j≤l.length+1;omega⟩,WFn,by show j<j+1;omega⟩
   ·have hlt':¬ (k:Int)<l.length:=by omega
    rw [if_neg hlt] at hi
    subst hi
    (repeat' (first|refine Va (fA2 zj9 hlt') ?_|(with_reducible first|refine SB.c ?_ ?_<;>intro _|exact zac|refine fun (_:List AVal)=>?_)|with_reducible refine zab ?_|omega))
    refine ⟨.returning,.returning,[.ref 0 0,.ref 1 0,.ref 2 0],_,[0,2,1],_,.inl ⟨.inl rfl,rfl⟩,rfl,zpq p true 0,rfl,rfl,rfl,(by simp [zbA,zaw,zap]),(by decide),(by simp [zbB]),(by simp),?_⟩
    simp -implicitDefEqProofs +contextual (maxSteps:=9000000) only [kx,↓ky,zj9,simprocAttr,kz,zxh,pgA]
end Go.Proofs.YtfinhhblcdkpgaaGreatDoor
