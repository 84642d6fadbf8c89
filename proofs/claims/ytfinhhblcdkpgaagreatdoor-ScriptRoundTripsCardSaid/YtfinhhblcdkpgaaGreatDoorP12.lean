/- A part of the walk (Tryz_P12): its theorems have no condition beyond what they state. -/
import Derived.Test.YtfinhhblcdkpgaaGreatDoorP11
import Derived.Test.YtfinhhblcdkpgaaGreatDoorLib2
set_option maxRecDepth 100000
set_option maxHeartbeats 64000000
set_option linter.unusedSimpArgs false
set_option linter.unusedVariables false
set_option linter.defProp false
namespace Go.Proofs.YtfinhhblcdkpgaaGreatDoor
open Go Go.Abs Go.RowKit
theorem zyA {f:FuncId} {fn:Func} {id0 t t':Nat} {ty1 ty2:TypeId} {p1 p2:String} {a1 a2:Array Edge} {tys:Array TypeId} {rest:Code} (site:Nat→Nat) (nobj:Nat) (hf:Tryz.prog.funcs[f]?=some fn)
  (hb:fn.body=some (.seq (.region id0 #[⟨some t,.call ⟨.builtin .recover,#[],tys⟩,ty1,p1,a1,none⟩,⟨some t',.assign (.tmp t),ty2,p2,a2,none⟩] false) rest)) {nt:Nat} (hn:fn.ntmps=nt) (hres:fn.results=#[]) {args:List AVal} {objs objs':List (Option AObj)} {u u':FrameMode} {rv:AVal}
  (hrec:Rec' u rv u') (hargs:args.length≤nt) (hobjs:objs.length≤nobj) (ht:t<nt)
  (h:VC Tryz.prog (zbJ site nobj) objs.length rest ((⟨args++List.replicate (nt - args.length) .junk,objs++List.replicate (nobj - objs.length) none⟩:St).app (some t) ⟨rv,[]⟩ |>.app (some t') ⟨rv,[]⟩) (zaI (zbJ site nobj) objs.length [] (.tup []) objs')) :
  AD Tryz.prog gl f args objs u u' objs':=by
 subst hn
 exact AD.of_body (env:=zbJ site nobj) (zcv _ _) mixed hf hb hres hrec hargs hobjs ht h
theorem zBH {f fc:FuncId} {fn:Func} {r0 rest:Code} {i1 t9 pin:Nat} {ty1 ty2:TypeId} {p1 p2:String} {a1 a2:Array Edge} {tys:Array TypeId} {caps:Array Operand} (site:Nat→Nat) (nobj:Nat) (hf:Tryz.prog.funcs[f]?=some fn)
  (hb:fn.body=some (.seq r0 (.seq (.region i1 #[⟨some t9,.makeFunc (.func fc) #[] caps,ty1,p1,a1,none⟩,⟨none,.defer ⟨.value (.tmp t9),#[],tys⟩,ty2,p2,a2,none⟩] false) rest))) {nt:Nat} (hn:fn.ntmps=nt) {rs:List ResultVar} (hrs:fn.results.toList=rs) {args:List AVal} {res:AVal}
  (hargs:args.length≤nt) {cs:List AVal} {σ1:St} (hent:∀ vargs w,(callFunc fc vargs).run Tryz.prog w=.ok (.enter fc vargs) w)
  (h0:VC Tryz.prog (zbJ site nobj) pin r0 ⟨args++List.replicate (nt - args.length) .junk,List.replicate nobj none⟩ (fun e σ=>e=.normal∧σ=σ1))
  (hcap:caps.toList.map (zae (zbJ site nobj) σ1)=cs) (hcs:∀ c,c ∈ cs→∃ id off,c=.ref id off∧id<pin) (ht9:t9<σ1.slots.length)
  (h1:VC Tryz.prog (zbJ site nobj) pin rest (σ1.app (some t9) ⟨.clo fc cs,[]⟩) (zFc Tryz.prog (zbJ site nobj) fc cs rs res)):AC Tryz.prog gl f args [] res []:=by
 subst hn hrs
 exact AC.of_defer (env:=zbJ site nobj) (zcv _ _) mixed hf hb hargs hent h0 hcap hcs ht9 h1
abbrev dfO (p:PgD) (b:Bool) (a:Int):List (Option AObj):=[some (pgC p),some (.cells [.pv (.bool b)]),some (.cells [.pv (.int .i64 a)])]
theorem zqi (p:PgD) (b:Bool) (a:Int):AD Tryz.prog gl 161 [.ref 0 0,.ref 1 0,.ref 2 0] (dfO p b a) .returning .returning (dfO p b a):=by
 refine zyA (fun _=>3) 4 Tryz.func161 rfl Tryz.ntmps161 Tryz.results161 (.idle) (by simp) (by simp) (by decide) ?_
 (repeat' (first|refine Va zpQ ?_|(with_reducible first|refine SB.c ?_ ?_<;>intro _|exact zad)|with_reducible refine zac ?_|omega))
 (refine zaI.mk [0,1,2] ?_ ?_<;>simp [kwr,zpQ])
theorem zsQ (l:List TkD) (n k:Nat) (p:PgD) (b:Bool) (a:Int):AD Tryz.prog gl 161 [.ref 0 0,.ref 1 0,.ref 2 0] (dfO p b a) (.panicking (zi2 (fv l n k))) (.panicking [{ v:=fv l n k,recovered:=true }])
  [some (.cells [.snil,.snil,.snil,.snil,.snil]),some (.cells [.pv (.bool false)]),some (.cells [.pv (.int .i64 (zgW l n k))])]:=by
 refine zyA (fun _=>3) 4 Tryz.func161 rfl Tryz.ntmps161 Tryz.results161 (.found (fv l n k) (.pv (.ifc 213 true [.int .i64 (zgW l n k)])) rfl) (by simp) (by simp) (by decide) ?_
 (repeat' (first|refine Va zpQ ?_|(with_reducible first|refine SB.c ?_ ?_<;>intro _|exact zad)|with_reducible refine zac ?_|omega))
 (refine zaI.mk [0,1,2] ?_ ?_<;>simp [kwr,zpQ])
end Go.Proofs.YtfinhhblcdkpgaaGreatDoor
