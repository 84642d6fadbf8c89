/- A sound walk of the program by abstract states, part 3: its theorems have no condition beyond what they state. -/
import Derived.Test.YtfinhhblcdkpgaaGreatDoorLib2
import Derived.Defers
import Derived.Recover
import Derived.KernelRfl
import Derived.Below
import Derived.Shelf.Strings.Builder1
import Derived.Shelf.Strings.Split
import Derived.Lib.ParseIntB
import Derived.Lib.Bytealg
import Derived.Lib.Join
import Derived.Lib.ItoaNum
set_option maxRecDepth 100000
set_option maxHeartbeats 64000000
set_option linter.unusedSimpArgs false
set_option linter.unusedVariables false
set_option linter.defProp false
namespace Go.Abs
open Go
variable {P:Program} {env:Env} {pin:Nat} {σ:St} {Q:Exit→St→Prop}
def AD (P:Program) (gl:Nat→Option (List PVal)) (f:FuncId) (args:List AVal) (objs:List (Option AObj)) (u u':FrameMode) (objs':List (Option AObj)):Prop:=
 ∀ (w:World) (M:Mem) (g:Gh) (vargs:List Value),Rel ⟨w,M,zaP g objs,[]⟩ ⟨args,objs⟩ g M ⟨vargs.toArray,[]⟩ w→zj6 ⟨fun _=>none,gl,fun _=>0,0⟩ ⟨w,M,zaP g objs,[]⟩ M →
  CallsD P f vargs.toArray u w fun e u2 w'=>∃ v g' M',e=.returned v∧u2=u'∧Rel ⟨w,M,zaP g objs,[]⟩ ⟨[.junk],objs'⟩ g' M' ⟨#[v],[]⟩ w'∧∀ id,zaq objs id=true→g.agree g' id
inductive Rec':FrameMode→AVal→FrameMode→Prop
 |idle:Rec' .returning (.pv (.err true)) .returning
 |found (x:Value) (rv:AVal) (h:zue rv=some x):Rec' (.panicking (zke x)) rv (.panicking [{ v:=x,recovered:=true }])
theorem zpd {p:PVal} {v:Value} {M:Mem} (h:zqr p=some v):Rd M p v:=by
 unfold zqr at h
 split at h<;>cases h<;>constructor
theorem zmH {M:Mem}:∀ {cs:List PVal} {vs:List Value},zkz cs=some vs→vs.length=cs.length∧∀ i,i<cs.length→Rd M (cs.getD i .nilptr) (vs.getD i undef)
 |[],vs,h=>by cases h;exact ⟨rfl,fun i hi=>by simp at hi⟩
 |c::r,vs,h=>by
  unfold zkz at h
  split at h
  ·rename_i v ws h1 h2
   cases h
   obtain ⟨h3,h4⟩:=zmH (M:=M) h2
   refine ⟨by simp [h3],fun i hi=>?_⟩
   cases i with
   |zero=>exact zpd h1
   |succ i=>exact h4 i (by simpa using hi)
  ·cases h
theorem zBB {rv:AVal} {x:Value} (h:zue rv=some x) (g:Gh) (D:Nat→Prop) (M:Mem):V g D M rv x:=by
 unfold zue at h
 split at h
 ·split at h
  ·rename_i t cs vs hs
   cases h
   obtain ⟨h1,h2⟩:=zmH (M:=M) hs
   exact .pv (.ifca _ _ vs h1 h2)
  ·cases h
 ·split at h
  ·rename_i t c v hs
   cases h
   exact .pv (.ifco _ _ _ (zpd hs))
  ·cases h
 ·cases h
theorem Rel.enter {E:Ent} {args:List AVal} {objs:List (Option AObj)} {g:Gh} {M:Mem} {vargs:List Value} {w:World} (hR:Rel E ⟨args,objs⟩ g M ⟨vargs.toArray,[]⟩ w) (m nobj:Nat) :
  Rel E ⟨args++List.replicate m .junk,objs++List.replicate (nobj - objs.length) none⟩ g M ⟨vargs.toArray++Array.replicate m undef,[]⟩ w:=by
 have hla:vargs.length=args.length:=by simpa using hR.size
 have hobj:∀ id,St.obj ⟨args++List.replicate m .junk,objs++List.replicate (nobj - objs.length) none⟩ id=St.obj ⟨args,objs⟩ id:=fun id=>by
  simp only [St.obj,List.getD]
  by_cases hid:id<objs.length
  ·rw [List.getElem?_append_left hid]
  ·rw [List.getElem?_append_right (by omega),List.getElem?_eq_none (by omega:objs.length≤id)]
   rw [List.getElem?_replicate]
   split<;>rfl
 have hdom:St.dom ⟨args++List.replicate m .junk,objs++List.replicate (nobj - objs.length) none⟩=St.dom ⟨args,objs⟩:=by
  funext id;simp only [St.dom,hobj]
 refine ⟨by simp [hla],hR.defers,?_,?_,?_,?_,hR.sat,hR.M0,hR.Mnew,hR.size0,hR.same,?_,hR.os,hR.tape,hR.output⟩
 ·intro i hi
  rw [hdom]
  by_cases hia:i<args.length
  ·have e1:St.slot ⟨args++List.replicate m .junk,objs++List.replicate (nobj - objs.length) none⟩ i=St.slot ⟨args,objs⟩ i:=by
    simp [St.slot,List.getElem?_append_left hia]
   have e2:(vargs.toArray++Array.replicate m undef).getD i undef=vargs.toArray.getD i undef:=by
    simp only [Array.getD_eq_getD_getElem?]
    rw [Array.getElem?_append_left (by simp;omega)]
   show V g _ M _ ((vargs.toArray++Array.replicate m undef).getD i undef)
   rw [e1,e2];exact hR.slots i hia
  ·have e1:St.slot ⟨args++List.replicate m .junk,objs++List.replicate (nobj - objs.length) none⟩ i=.junk:=by
    simp only [St.slot,List.getD]
    rw [List.getElem?_append_right (by omega),List.getElem?_replicate]
    split<;>rfl
   rw [e1];exact .junk _
 ·intro id o ho;rw [hobj] at ho;rw [hdom];exact hR.objs id o ho
 ·intro id id' o o' b ho ho';rw [hobj] at ho ho';exact hR.apart id id' o o' b ho ho'
 ·intro id o b ho;rw [hobj] at ho;exact hR.offM id o b ho
 ·intro id o b ho;rw [hobj] at ho;exact hR.own0 id o b ho
theorem AD.of_body (hE:zaY P env) (hm:P.follows .mixedOrders=true) {f:FuncId} {fn:Func} {id0 t t':Nat} {ty1 ty2:TypeId} {p1 p2:String} {a1 a2:Array Edge} {tys:Array TypeId} {rest:Code} (hf:P.funcs[f]?=some fn)
  (hb:fn.body=some (.seq (.region id0 #[⟨some t,.call ⟨.builtin .recover,#[],tys⟩,ty1,p1,a1,none⟩,⟨some t',.assign (.tmp t),ty2,p2,a2,none⟩] false) rest)) {args:List AVal} {objs objs':List (Option AObj)} {u u':FrameMode} {rv:AVal}
  (hres:fn.results=#[]) (hrec:Rec' u rv u') (hargs:args.length≤fn.ntmps) (hobjs:objs.length≤env.nobj) (ht:t<fn.ntmps)
  (h:VC P env objs.length rest ((⟨args++List.replicate (fn.ntmps - args.length) .junk,objs++List.replicate (env.nobj - objs.length) none⟩:St).app (some t) ⟨rv,[]⟩ |>.app (some t') ⟨rv,[]⟩) (zay env objs.length [] (.tup []) objs')) :
  AD P env.gl f args objs u u' objs':=by
 intro w M g vargs hR hG
 have hla:vargs.length=args.length:=by simpa using hR.size
 refine callsD_of_wpS hf hb fun c₀ cs hu=>?_
 have esz:fn.ntmps - vargs.toArray.size=fn.ntmps - args.length:=by simp [hla]
 rw [esz]
 have hR0:=hR.enter (fn.ntmps - args.length) env.nobj
 obtain ⟨x,hx,hrv,hV⟩:∃ x:Value,(recoverD (c₀::cs)=some (x,{ c₀ with mode:=u' }::cs)∨(recoverD (c₀::cs)=none∧x=.nilIface∧u'=u))∧True∧∀ (g:Gh) (D:Nat→Prop) (M:Mem),V g D M rv x:=by
  cases hrec with
  |idle=>exact ⟨.nilIface,.inr ⟨by simp [recoverD,hu],rfl,rfl⟩,trivial,fun _ _ _=>.pv .errn⟩
  |found x _ hp=>exact ⟨x,.inl (by simp [recoverD,hu,zke]),trivial,fun g D M=>zBB hp g D M⟩
 apply wpS_seq
 apply wpS_region
 have hsz:((#[⟨some t,.call ⟨.builtin .recover,#[],tys⟩,ty1,p1,a1,none⟩,⟨some t',.assign (.tmp t),ty2,p2,a2,none⟩]:Array Oper)).size=2:=rfl
 rw [hsz]
 show wpOpsS P _ _ [0,1] _ _ _
 have hmain:∀ cs',((∃ v,v=x∧cs'={ c₀ with mode:=u' }::cs))→wpOpsS P #[⟨some t,.call ⟨.builtin .recover,#[],tys⟩,ty1,p1,a1,none⟩,⟨some t',.assign (.tmp t),ty2,p2,a2,none⟩] (Exit.thenS (rest.wpS P (bodyPostS P fn c₀ cs fun e u2 w'=>∃ v g' M',e=.returned v∧u2=u'∧Rel ⟨w,M,zaP g objs,[]⟩ ⟨[.junk],objs'⟩ g' M' ⟨#[v],[]⟩ w'∧∀ id,zaq objs id=true→g.agree g' id)) (bodyPostS P fn c₀ cs fun e u2 w'=>∃ v g' M',e=.returned v∧u2=u'∧Rel ⟨w,M,zaP g objs,[]⟩ ⟨[.junk],objs'⟩ g' M' ⟨#[v],[]⟩ w'∧∀ id,zaq objs id=true→g.agree g' id)) [1]
   (Act.put { tmps:=vargs.toArray++Array.replicate (fn.ntmps - args.length) undef,defers:=[] } (some t) x) cs' w:=by
  rintro cs' ⟨v,rfl,rfl⟩
  have h1:=hR0.put (some t) (x:=rv) (hV _ _ _)
  have hev:(Act.put { tmps:=vargs.toArray++Array.replicate (fn.ntmps - args.length) undef,defers:=[] } (some t) v).eval (.tmp t)=v:=by
   have hlt:t<(vargs.toArray++Array.replicate (fn.ntmps - args.length) undef).size:=by simp;omega
   simp only [Act.put,Act.eval]
   rw [Array.getD_eq_getD_getElem?,Array.getElem?_setIfInBounds_self_of_lt hlt]
   rfl
  have h2:=h1.put (some t') (x:=rv) (hV _ _ _)
  simp only [wpOpsS,List.getElem?_toArray,List.getElem?_cons_succ,List.getElem?_cons_zero,Region.wanted,if_true,execOp,hev,Sem.run_pure,Oper.upon,Exit.thenS]
  refine wpS_of_wp ?_
  refine wp_mono (VC.to hE hm rest h (by simp [St.app];omega) _ g M _ w h2 hG) fun e a' w' ⟨σ',g',M',hq,hR',hM,hA,hl'⟩=>?_
  obtain ⟨he,vs,τ,hvs,hws,hwo,hpin,hnd,hlen⟩:=hq
  have key:a'.defers=[]∧∃ u2,({ c₀ with mode:=u' }::cs:List Frame)={ c₀ with mode:=u2 }::cs∧∃ v,(results fn a'.tmps).run P w'=.ok v w'∧(∃ v0 g' M',Ending.returned v=.returned v0∧u2=u'∧Rel ⟨w,M,zaP g objs,[]⟩ ⟨[.junk],objs'⟩ g' M' ⟨#[v0],[]⟩ w'∧∀ id,zaq objs id=true→g.agree g' id):=by
   refine ⟨hR'.defers,u',rfl,.tuple #[],by simp [results,hres],.tuple #[],_,M',rfl,rfl,hR'.wk (σ':=⟨[.junk],objs'⟩) (tau τ) (by simp) rfl (fun i hi=>.inl ?_) hwo (fun i j hi hj e=>zcO hnd (by simp at hi;omega) (by simp at hj;omega) e),fun id hid=>?_⟩
   ·have hi0:i=0:=by simpa using hi
    subst hi0
    rfl
   ·have hlt:id<objs.length:=by
     rcases Nat.lt_or_ge id objs.length with h|h
     ·exact h
     ·simp [zaq,List.getD,List.getElem?_eq_none h] at hid
    have hd:St.dom ((⟨args++List.replicate (fn.ntmps - args.length) .junk,objs++List.replicate (env.nobj - objs.length) none⟩:St).app (some t) ⟨rv,[]⟩ |>.app (some t') ⟨rv,[]⟩) id:=by
     intro h0
     have h1:(objs++List.replicate (env.nobj - objs.length) none).getD id none=none:=h0
     rw [List.getD_eq_getElem?_getD,List.getElem?_append_left hlt,←List.getD_eq_getElem?_getD] at h1
     simp only [zaq] at hid
     rw [h1] at hid;cases hid
    obtain ⟨⟨h1,h2,h3⟩,_⟩:=hA id hlt hd
    simp only [Gh.agree,hpin id hlt]
    exact ⟨h1,h2,h3⟩
  rcases he with rfl|rfl
  ·exact key
  ·exact key
 have hrun0:(execOp (Act.eval { tmps:=vargs.toArray++Array.replicate (fn.ntmps - args.length) undef,defers:=[] }) ⟨some t,.call ⟨.builtin .recover,#[],tys⟩,ty1,p1,a1,none⟩).run P w=.ok .recover w:=by
  simp [execOp,resolve,invoke,builtin,Sem.run_bind,Result.andThen]
 unfold wpOpsS
 simp only [List.getElem?_toArray,List.getElem?_cons_zero,Region.wanted,if_true,hrun0]
 rcases hx with hx|⟨hx,rfl,rfl⟩
 ·rw [hx]
  exact hmain _ ⟨x,rfl,rfl⟩
 ·rw [hx]
  exact hmain _ ⟨_,rfl,by cases c₀;simp_all⟩
def zGg (P:Program) (env:Env) (fc:FuncId) (cs:List AVal) (rs:List ResultVar) (res:AVal):Exit→St→Prop:=fun e σ=>
 ∃ (u u':FrameMode) (cargs:List AVal) (cobjs:List (Option AObj)) (ids:List Nat) (objs':List (Option AObj)),
  (((e=.ret∨e=.normal)∧u=.returning)∨∃ x,e=.panic (zke x)∧u=.panicking (zke x))∧settle u'=.returning∧AD P env.gl fc cargs cobjs u u' objs' ∧
  cs=zeX (tau (ids++[])) cargs∧ids.map σ.obj=cobjs.map (Option.map (zgt (tau (ids++[]))))∧zaz (zaq cobjs) cargs=true∧(∀ ob,some ob ∈ cobjs→zbX (zaq cobjs) ob=true) ∧
  (ids++[]).Nodup∧(∀ id,id ∈ ids++[]→id<env.nobj)∧objs'.length≤(ids++[]).length ∧
  PK (St.obj ⟨σ.slots,zaL σ.objs (zaR (tau (ids++[])) (ids++[]) 0 objs')⟩) (zkf env ⟨σ.slots,zaL σ.objs (zaR (tau (ids++[])) (ids++[]) 0 objs')⟩ rs) res
theorem Rel.value1 {E:Ent} {g:Gh} {M:Mem} {w:World} {v:Value} {x res:AVal} (hR:Rel E ⟨[x],σ.objs⟩ g M ⟨#[v],[]⟩ w) (h:rdV σ.obj x res):∃ gk Mk,Rel E ⟨[res],[]⟩ gk Mk ⟨#[v],[]⟩ w:=by
 obtain ⟨σk,xk,gk,Mk,h1,h2,h3,h4,h5,h6⟩:=hR.read1 (σ:=σ) h σ.objs.length (Nat.le_refl _)
 have hno:∀ i n ys,¬ zkg (σk.obj i) n ys:=fun i n ys=>by
  by_cases hi:i<σ.objs.length
  ·exact h6 i n ys hi
  ·rintro ⟨sz,e,_⟩
   simp [St.obj,List.getD,List.getElem?_eq_none (by omega:σk.objs.length≤i)] at e
 refine ⟨gk,Mk,rfl,h3.defers,fun i hi=>?_,fun id o ho=>by simp [St.obj] at ho,fun id id' o o' b ho=>by simp [St.obj] at ho,fun id o b ho=>by simp [St.obj] at ho,h3.sat,h3.M0,h3.Mnew,h3.size0,h3.same,fun id o b ho=>by simp [St.obj] at ho,h3.os,h3.tape,h3.output⟩
 have hi0:i=0:=by simpa using hi
 subst hi0
 have h7:=h3.slot 0
 have e:σk.slot 0=xk:=by simp [St.slot,h1]
 rw [e] at h7
 exact V.read hno h7 h5
theorem AC.of_defer (hE:zaY P env) (hm:P.follows .mixedOrders=true) {f fc:FuncId} {fn:Func} {r0 rest:Code} {i1 t9:Nat} {ty1 ty2:TypeId} {p1 p2:String} {a1 a2:Array Edge} {tys:Array TypeId} {caps:Array Operand} (hf:P.funcs[f]?=some fn)
  (hb:fn.body=some (.seq r0 (.seq (.region i1 #[⟨some t9,.makeFunc (.func fc) #[] caps,ty1,p1,a1,none⟩,⟨none,.defer ⟨.value (.tmp t9),#[],tys⟩,ty2,p2,a2,none⟩] false) rest))) {args:List AVal} {res:AVal}
  (hargs:args.length≤fn.ntmps) {cs:List AVal} {σ1:St} (hent:∀ vargs w,(callFunc fc vargs).run P w=.ok (.enter fc vargs) w)
  (h0:VC P env pin r0 ⟨args++List.replicate (fn.ntmps - args.length) .junk,List.replicate env.nobj none⟩ (fun e σ=>e=.normal∧σ=σ1))
  (hcap:caps.toList.map (zah env σ1)=cs) (hcs:∀ c,c ∈ cs→∃ id off,c=.ref id off∧id<pin) (ht9:t9<σ1.slots.length)
  (h1:VC P env pin rest (σ1.app (some t9) ⟨.clo fc cs,[]⟩) (zGg P env fc cs fn.results.toList res)):AC P env.gl f args [] res []:=by
 intro w M g vargs hR hG
 have hla:vargs.length=args.length:=by simpa using hR.size
 refine calls_of_wp_defers hf hb ?_
 have esz:fn.ntmps - vargs.toArray.size=fn.ntmps - args.length:=by simp [hla]
 rw [esz]
 have hR0:=hR.enter (fn.ntmps - args.length) env.nobj
 refine wp_seq (wp_mono (VC.to hE hm r0 h0 (by simp) _ g M _ w hR0 hG) fun e b1 w1 ⟨σ1',g1,M1,⟨he,hs1⟩,hR1,hM1,hA1,hl1⟩=>?_)
 subst he hs1
 refine wp_seq (wp_region ?_)
 show wpOps P _ _ [0,1] b1 w1
 have hop0:aop env (some t9) (zah env σ1') σ1'.obj (.makeFunc (.func fc) #[] caps)=some ⟨.clo fc cs,[]⟩:=by
  simp only [aop,hcap]
  rfl
 have hG0:zj6 env ⟨w,M,zaP g [],[]⟩ M:=hG
 have hG1:=hG0.mono hM1
 have hd0:=(zh5 (P:=P) (o:=⟨some t9,.makeFunc (.func fc) #[] caps,ty1,p1,a1,none⟩) hR1 hG1.1 hE hl1 hop0).toW
 unfold wpOps
 simp only [List.getElem?_toArray,List.getElem?_cons_zero,Region.wanted,if_true]
 refine .inl (hd0 _ _ fun v w2 g2 M2 hR2 hag2 hM2=>?_)
 replace hR2:Rel _ (σ1'.app (some t9) ⟨.clo fc cs,[]⟩) g2 M2 (b1.put (some t9) v) w2:=hR2
 show wpOps P _ _ [1] (b1.put (some t9) v) w2
 have hsl:(σ1'.app (some t9) ⟨.clo fc cs,[]⟩).slot t9=.clo fc cs:=by simp [St.app,St.slot,ht9]
 have hV:=hR2.slot t9
 rw [hsl] at hV
 generalize hb2:b1.put (some t9) v=b2 at hR2 hV
 generalize hu0:b2.tmps.getD t9 undef=u0 at hV
 cases hV with
 |clo _ _ vs hvl hvV=>
  have hrun1:(execOp b2.eval ⟨none,.defer ⟨.value (.tmp t9),#[],tys⟩,ty2,p2,a2,none⟩).run P w2=.ok (.defer ⟨.fn (.func fc) vs.toArray,#[]⟩) w2:=by
   have hv1:b2.eval (.tmp t9)=.func (.func fc) #[] vs.toArray:=hu0
   simp [execOp,resolve,hv1,Deferred.ofValue,Sem.run_bind,Result.andThen]
  unfold wpOps
  simp only [List.getElem?_toArray,List.getElem?_cons_succ,List.getElem?_cons_zero,Region.wanted,if_true]
  refine .inl ?_
  unfold Oper.wp
  rw [hrun1,Oper.upon_defer]
  show wpOps P _ _ [] { b2 with defers:=⟨.fn (.func fc) vs.toArray,#[]⟩::b2.defers } w2
  have hdef:b2.defers=[]:=hR2.defers
  rw [hdef]
  show rest.wp P _ _ w2
  have hR3:Rel ⟨w,M,zaP g [],[⟨.fn (.func fc) vs.toArray,#[]⟩]⟩ (σ1'.app (some t9) ⟨.clo fc cs,[]⟩) g2 M2 { b2 with defers:=[⟨.fn (.func fc) vs.toArray,#[]⟩] } w2:=
   ⟨hR2.size,rfl,hR2.slots,hR2.objs,hR2.apart,hR2.offM,hR2.sat,hR2.M0,hR2.Mnew,hR2.size0,hR2.same,hR2.own0,hR2.os,hR2.tape,hR2.output⟩
  have hG3:zj6 env ⟨w,M,zaP g [],[⟨.fn (.func fc) vs.toArray,#[]⟩]⟩ M2:=⟨(hG1.mono hM2).1,hG.2⟩
  refine wp_mono (VC.to hE hm rest h1 (by rw [zfd];exact hl1) _ g2 M2 _ w2 hR3 hG3) fun e b4 w4 ⟨σ4,g4,M4,hq,hR4,hM4,hA4,hl4⟩=>?_
  obtain ⟨u,u',cargs,cobjs,ids,objs',hmode,hset,hAD,f1,f2,f3,f4,f5,f6,f7,hpk⟩:=hq
  have hG4:=hG3.mono hM4
  have hvV4:∀ i,i<cs.length→V g4 σ4.dom M4 (cs.getD i .junk) (vs.getD i undef):=fun i hi=>by
   obtain ⟨id,off,hc,hid⟩:=hcs (cs.getD i .junk) (by rw [zlk _ _ _ hi];exact List.getElem_mem hi)
   have hv:=hvV i hi
   rw [hc] at hv ⊢
   generalize vs.getD i undef=y at hv ⊢
   cases hv with
   |ref id off hd=>
    obtain ⟨⟨q1,_,_⟩,q2⟩:=hA4 id hid hd
    rw [←q1]
    exact .ref id off q2
  obtain ⟨gc,k1,k2,k3⟩:=zkv (res:=.junk) (objs':=objs') hR4 hG4 hl4 hvl hvV4 f1 f2 f3 f4 f5 f6 (fun id h=>by cases h) f7
  have hcallsD:=hAD w4 M4 gc vs k1 k2
  have hinv:(invoke (.fn (.func fc) vs.toArray) #[]).run P w4=.ok (.enter fc vs.toArray) w4:=by
   have:=hent vs.toArray w4
   simpa [invoke] using this
  have hds:b4.defers=[⟨.fn (.func fc) vs.toArray,#[]⟩]:=hR4.defers
  have main:∀ hu:u≠.run,Leaves P fn b4.tmps (fun e w'=>∃ v g' M',e=.returned v∧Rel ⟨w,M,zaP g [],[]⟩ ⟨[res],[]⟩ g' M' ⟨#[v],[]⟩ w'∧∀ id,zaq [] id=true→g.agree g' id) b4.defers u w4:=fun hu=>by
   rw [hds]
   refine leaves_cons hu hinv (hcallsD.mono ?_)
   rintro e u2 w5 ⟨v,g5,M5,rfl,rfl,hR5,hag5⟩
   obtain ⟨g6,hR6,_,_,_⟩:=k3 w5 v g5 M5 hR5 hag5
   show Leaves P fn b4.tmps _ [] (settle u2) w5
   rw [hset]
   cases hvs:zkf env ⟨σ4.slots,zaL σ4.objs (zaR (tau (ids++[])) (ids++[]) 0 objs')⟩ fn.results.toList with
   |none=>rw [hvs] at hpk;exact hpk.elim
   |some vs2=>
    rw [hvs,zn7] at hpk
    obtain ⟨v2,hrun,hV2⟩:=zgj (P:=P) hR6 hE hvs
    refine ⟨v2,hrun,v2,?_⟩
    have hR7:Rel ⟨w,M,zaP g [],[]⟩ ⟨[znY vs2],zaL σ4.objs (zaR (tau (ids++[])) (ids++[]) 0 objs')⟩ g6 M5 ⟨#[v2],[]⟩ w5:=by
     refine ⟨rfl,rfl,fun i hi=>?_,hR6.objs,hR6.apart,hR6.offM,hR6.sat,hR6.M0,hR6.Mnew,hR6.size0,hR6.same,hR6.own0,hR6.os,hR6.tape,hR6.output⟩
     have hi0:i=0:=by simpa using hi
     subst hi0
     exact hV2
    obtain ⟨gk,Mk,hk⟩:=Rel.value1 (σ:=⟨σ4.slots,zaL σ4.objs (zaR (tau (ids++[])) (ids++[]) 0 objs')⟩) hR7 hpk
    exact ⟨gk,Mk,rfl,hk,fun id hid=>by simp [zaq] at hid⟩
  rcases hmode with ⟨he,rfl⟩|⟨x,rfl,rfl⟩
  ·rcases he with rfl|rfl
   ·exact main (by simp)
   ·exact main (by simp)
  ·exact main (by simp)
end Go.Abs
namespace Go.Abs
open Go
variable {P:Program} {env:Env} {pin:Nat} {σ σ':St} {Q:Exit→St→Prop}
def FI (P:Program) (f:FuncId) (code:Code) (n:Nat) (rs:List ResultVar):Prop:=∃ fn,P.funcs[f]?=some fn∧fn.body=some code∧fn.ntmps=n∧fn.results=rs.toArray
theorem FI.of {P:Program} {f:FuncId} {fn:Func} {code:Code} {n:Nat} {rs:List ResultVar} (hf:P.funcs[f]?=some fn) (hb:fn.body=some code) (hn:fn.ntmps=n) (hrs:fn.results=rs.toArray):FI P f code n rs:=⟨fn,hf,hb,hn,hrs⟩
class SBC (b:Bool) (p q:outParam Prop):Prop where
 h1:b=true→p
 h2:b=false→q
instance (priority:=low) (b:Bool):SBC b (b=true) (b=false):=⟨id,id⟩
instance (p:Prop) [Decidable p]:SBC (decide p) p (¬ p):=⟨fun h=>by simpa using h,fun h=>by simpa using h⟩
instance {α:Type} [BEq α] [LawfulBEq α] (a b:α):SBC (a==b) (a=b) (a≠b):=⟨fun h=>by simpa using h,fun h=>by simpa using h⟩
instance {α:Type} [BEq α] [LawfulBEq α] (a b:α):SBC (a != b) (a≠b) (a=b):=⟨fun h=>by simpa using h,fun h=>by simpa using h⟩
theorem SB.c {b:Bool} {p q:Prop} [SBC b p q] {A B:Prop} {t:Tg (A,B)} (h1:p→A) (h2:q→B):SB b A B t:=⟨fun h=>h1 (SBC.h1 h),fun h=>h2 (SBC.h2 h)⟩
theorem REG.j {ops:Array Oper} {t:Tg ops} {tr:Tr} (h:zzP ops (anc ops) (zi1 tr)=true:=by kernel_rfl):REG ops t tr:=h
theorem zxI.j {ops:Array Oper} {t:Tg ops} {tr:Tr} (h:(zzP ops (anc ops) (zi1 tr)&&zrU ops tr.length&&tr.all fun r=>r.2.isEmpty)=true:=by kernel_rfl):zxI ops t tr:=h
theorem zac {a b:Prop} (hb:b) (ha:a:=by first|with_reducible exact REG.j|with_reducible exact zxI.j|(intros;(try simp only [decide_eq_true_eq,decide_eq_false_iff_not,beq_iff_eq,bne_iff_ne,Bool.and_eq_true,Bool.or_eq_true] at *);omega)):a∧b:=⟨ha,hb⟩
theorem zad {a:Prop} (ha:a:=by with_reducible first|exact trivial|exact REG.j|exact zxI.j):a:=ha
inductive NE (p q:Prop):Prop|mk
theorem NE.same {p:Prop}:NE p p:=.mk
/-! Several facts as one. -/
section
variable {A B C D E F G H I J K L M N O R:Prop}
theorem fA2 (a:A) (b:B):A∧B:=⟨a,b⟩
theorem fA3 (a:A) (b:B) (c:C):A∧B∧C:=⟨a,b,c⟩
theorem fA4 (a:A) (b:B) (c:C) (d:D):A∧B∧C∧D:=⟨a,b,c,d⟩
theorem fA5 (a:A) (b:B) (c:C) (d:D) (e:E):A∧B∧C∧D∧E:=⟨a,b,c,d,e⟩
theorem fA6 (a:A) (b:B) (c:C) (d:D) (e:E) (f:F):A∧B∧C∧D∧E∧F:=⟨a,b,c,d,e,f⟩
theorem fA7 (a:A) (b:B) (c:C) (d:D) (e:E) (f:F) (g:G):A∧B∧C∧D∧E∧F∧G:=⟨a,b,c,d,e,f,g⟩
theorem fA8 (a:A) (b:B) (c:C) (d:D) (e:E) (f:F) (g:G) (h:H):A∧B∧C∧D∧E∧F∧G∧H:=⟨a,b,c,d,e,f,g,h⟩
theorem fA9 (a:A) (b:B) (c:C) (d:D) (e:E) (f:F) (g:G) (h:H) (i:I):A∧B∧C∧D∧E∧F∧G∧H∧I:=⟨a,b,c,d,e,f,g,h,i⟩
theorem zj4 (a:A) (b:B) (c:C) (d:D) (e:E) (f:F) (g:G) (h:H) (i:I) (j:J):A∧B∧C∧D∧E∧F∧G∧H∧I∧J:=⟨a,b,c,d,e,f,g,h,i,j⟩
theorem zfA (a:A) (b:B) (c:C) (d:D) (e:E) (f:F) (g:G) (h:H) (i:I) (j:J) (k:K):A∧B∧C∧D∧E∧F∧G∧H∧I∧J∧K:=⟨a,b,c,d,e,f,g,h,i,j,k⟩
theorem zkA (a:A) (b:B) (c:C) (d:D) (e:E) (f:F) (g:G) (h:H) (i:I) (j:J) (k:K) (l:L):A∧B∧C∧D∧E∧F∧G∧H∧I∧J∧K∧L:=⟨a,b,c,d,e,f,g,h,i,j,k,l⟩
theorem zru (a:A) (b:B) (c:C) (d:D) (e:E) (f:F) (g:G) (h:H) (i:I) (j:J) (k:K) (l:L) (m:M):A∧B∧C∧D∧E∧F∧G∧H∧I∧J∧K∧L∧M:=⟨a,b,c,d,e,f,g,h,i,j,k,l,m⟩
theorem zBC (a:A) (b:B) (c:C) (d:D) (e:E) (f:F) (g:G) (h:H) (i:I) (j:J) (k:K) (l:L) (m:M) (n:N):A∧B∧C∧D∧E∧F∧G∧H∧I∧J∧K∧L∧M∧N:=⟨a,b,c,d,e,f,g,h,i,j,k,l,m,n⟩
theorem zHs (a:A) (b:B) (c:C) (d:D) (e:E) (f:F) (g:G) (h:H) (i:I) (j:J) (k:K) (l:L) (m:M) (n:N) (o:O):A∧B∧C∧D∧E∧F∧G∧H∧I∧J∧K∧L∧M∧N∧O:=⟨a,b,c,d,e,f,g,h,i,j,k,l,m,n,o⟩
end
theorem Va {P Q A:Prop} (a:A) (h:Q) (e:A→P=Q:=by
 intro t;conv=>lhs;simp -implicitDefEqProofs +contextual (maxSteps:=9000000) only [kx,↓ky,t,simprocAttr]) (_:NE P Q:=by (fail_if_success with_reducible exact NE.same);exact .mk):P:=(e a).mpr h
section
variable {K:KT} {t:Tg K} {p:Prop} {f:FuncId} {vals cargs:List AVal} {res:AVal} {d:Option Nat} {rest:List COp} {acc:Option Tr}
theorem CK.d0 (hent:∀ vargs w,(callFunc f vargs).run P w=.ok (.enter f vargs) w) (hac:AC P env.gl f vals [] res [])
  (h:VL P env K t rest (zbP acc ([],[])) (σ.app d ⟨cw p res,[]⟩)) (hsc:zaz (zaq []) vals=true:=by rfl) (hres:zaw (zaq []) res=true:=by rfl):CK P env K t p f vals d rest acc σ:=
 CK.cp hent (fun _=>hac) hsc hres h
theorem CK.dx {A:List AVal} {O vobjs:List (Option AObj)} {objs':List (Option AObj)} (ids news:List Nat) (hent:∀ vargs w,(callFunc f vargs).run P w=.ok (.enter f vargs) w)
  (hac:AC P env.gl f A vobjs res objs')
  (h:VL P env K t rest (zbP acc (ids++news,(zaR (tau (ids++news)) (ids++news) 0 objs').map Prod.fst)) (σ.app d ⟨ren (tau (ids++news)) res,zaR (tau (ids++news)) (ids++news) 0 objs'⟩))
  (hobjs:ids.map σ.obj=O:=by rfl)
  (hA:zeX (tau (ids++news)) A=vals:=by rfl) (hO:zi5 (tau (ids++news)) vobjs=O:=by rfl) (hsA:zaz (zaq vobjs) A=true:=by rfl) (hsO:zrt (zaq vobjs) vobjs=true:=by rfl)
  (hn:((ids++news).Nodup∧∀ id ∈ ids++news,id<env.nobj):=by decide) (hf:zf8 σ news=true:=by rfl) (hl:objs'.length≤(ids++news).length:=by simp):CK P env K t True f vals d rest acc σ:=
 CK.co ids news hent hac hobjs hA hO hsA hsO hn hf hl h
theorem dC1 {A:List AVal} {O vobjs:List (Option AObj)} {objs':List (Option AObj)} (hent:∀ vargs w,(callFunc f vargs).run P w=.ok (.enter f vargs) w)
  (hac:AC P env.gl f A vobjs res objs')
  (h:VL P env K t rest (zbP acc (([0]++[]:List Nat),(zaR (tau ([0]++[]:List Nat)) ([0]++[]:List Nat) 0 objs').map Prod.fst)) (σ.app d ⟨ren (tau ([0]++[]:List Nat)) res,zaR (tau ([0]++[]:List Nat)) ([0]++[]:List Nat) 0 objs'⟩))
  (hobjs:([0]:List Nat).map σ.obj=O:=by rfl)
  (hA:zeX (tau ([0]++[]:List Nat)) A=vals:=by rfl) (hO:zi5 (tau ([0]++[]:List Nat)) vobjs=O:=by rfl) (hsA:zaz (zaq vobjs) A=true:=by rfl) (hsO:zrt (zaq vobjs) vobjs=true:=by rfl)
  (hn:(([0]++[]:List Nat).Nodup∧∀ id ∈ ([0]++[]:List Nat),id<env.nobj):=by decide) (hf:zf8 σ []=true:=by rfl) (hl:objs'.length≤([0]++[]:List Nat).length:=by simp):CK P env K t True f vals d rest acc σ:=
 CK.dx [0] [] hent hac h hobjs hA hO hsA hsO hn hf hl
theorem CK.dp {A:List AVal} {O vobjs:List (Option AObj)} {objs':List (Option AObj)} {x:Value} (ids news:List Nat) (hent:∀ vargs w,(callFunc f vargs).run P w=.ok (.enter f vargs) w)
  (hac:AP P env.gl f A vobjs x objs')
  (h:K acc (some x) ⟨σ.slots,zaL σ.objs (zaR (tau (ids++news)) (ids++news) 0 objs')⟩)
  (hobjs:ids.map σ.obj=O:=by rfl)
  (hA:zeX (tau (ids++news)) A=vals:=by rfl) (hO:zi5 (tau (ids++news)) vobjs=O:=by rfl) (hsA:zaz (zaq vobjs) A=true:=by rfl) (hsO:zrt (zaq vobjs) vobjs=true:=by rfl)
  (hn:((ids++news).Nodup∧∀ id ∈ ids++news,id<env.nobj):=by decide) (hf:zf8 σ news=true:=by rfl) (hl:objs'.length≤(ids++news).length:=by simp):CK P env K t True f vals d rest acc σ:=
 CK.po ids news hent hac hobjs hA hO hsA hsO hn hf hl h
theorem CK.dq {A:List AVal} {O vobjs:List (Option AObj)} (ids:List Nat) (hent:∀ vargs w,(callFunc f vargs).run P w=.ok (.enter f vargs) w)
  (hac:p→AC P env.gl f A vobjs res vobjs)
  (h:VL P env K t rest none (σ.app d ⟨cw p res,[]⟩))
  (hobjs:ids.map σ.obj=O:=by rfl)
  (hA:zeX (tau ids) A=vals:=by rfl) (hO:zi5 (tau ids) vobjs=O:=by rfl) (hsA:zaz (zaq vobjs) A=true:=by rfl) (hsO:zrt (zaq vobjs) vobjs=true:=by rfl)
  (hn:(ids.Nodup∧∀ id ∈ ids,id<env.nobj):=by decide) (hl:vobjs.length≤ids.length:=by simp) (hr:ren (tau ids) res=res:=by rfl) (hs:(zaR (tau ids) ids 0 vobjs).foldl (fun l q=>l.set q.1 (some q.2)) σ.objs=σ.objs:=by rfl):CK P env K t p f vals d rest none σ:=
 CK.cpo ids hent hac hobjs hA hO hsA hsO hn hl hr hs h
end
theorem zyt (τ:Nat→Nat) (n:Nat→Bool):zcr τ n [] []=True:=by simp [zcr]
theorem zvn (τ:Nat→Nat) (n:Nat→Bool) (a b:AVal) (r s:List AVal):zcr τ n (a::r) (b::s)=((b=.junk∨(a=ren τ b∧zaw n b=true))∧zcr τ n r s):=by simp [zcr]
theorem zyu (τ:Nat→Nat) (n:Nat→Bool) (σ:St) (k:Nat):zbc τ n σ k []=True:=by simp [zbc]
theorem zvo (τ:Nat→Nat) (n:Nat→Bool) (σ:St) (k:Nat) (r:List (Option AObj)):zbc τ n σ k (none::r)=zbc τ n σ (k+1) r:=by simp [zbc]
theorem zvp (τ:Nat→Nat) (n:Nat→Bool) (σ:St) (k:Nat) (r:List (Option AObj)):zbc τ n σ k (some .dead::r)=zbc τ n σ (k+1) r:=by simp [zbc]
theorem zsw (τ:Nat→Nat) (n:Nat→Bool) (σ:St) (k:Nat) (cs:List AVal) (r:List (Option AObj)):zbc τ n σ k (some (.cells cs)::r)=((σ.obj (τ k)=some (.cells (zeX τ cs))∧zaz n cs=true)∧zbc τ n σ (k+1) r):=by simp [zbc,zgt,zbX]
theorem zyv (τ:Nat→Nat) (n:Nat→Bool) (σ:St) (k:Nat) (sz:Nat) (xs:List (List PVal)) (r:List (Option AObj)):zbc τ n σ k (some (.row sz xs)::r)=(σ.obj (τ k)=some (.row sz xs)∧zbc τ n σ (k+1) r):=by simp [zbc,zgt,zbX]
theorem zyw (τ:Nat→Nat) (n:Nat→Bool) (σ:St) (k:Nat) (kd:Kd) (es:List (PVal × Bool × List PVal)) (r:List (Option AObj)):zbc τ n σ k (some (.map kd es)::r)=(σ.obj (τ k)=some (.map kd es)∧zbc τ n σ (k+1) r):=by simp [zbc,zgt,zbX]
theorem zBD (τ:Nat→Nat) (n:Nat→Bool) (σ:St) (k:Nat) (T e B m:Nat) (r:List (Option AObj)):zbc τ n σ k (some (.bh T e B m)::r)=((σ.obj (τ k)=some (.bh T e (τ B) m)∧n B=true)∧zbc τ n σ (k+1) r):=by simp [zbc,zgt,zbX]
theorem zBE (τ:Nat→Nat) (n:Nat→Bool) (σ:St) (k:Nat) (e:Nat) (s:List UInt8) (r:List (Option AObj)):zbc τ n σ k (some (.bb e s)::r)=(σ.obj (τ k)=some (.bb e s)∧zbc τ n σ (k+1) r):=by simp [zbc,zgt,zbX]
theorem zHt (n:Nat→Bool) (i o:Nat):zaw n (.ref i o)=n i:=by simp [zaw]
theorem zHu (n:Nat→Bool) (i o:Nat):zaw n (.row i o)=n i:=by simp [zaw]
theorem zHv (n:Nat→Bool) (i a b c:Nat):zaw n (.eref i a b c)=n i:=by simp [zaw]
theorem zHw (n:Nat→Bool) (i:Nat):zaw n (.map i)=n i:=by simp [zaw]
theorem zHx (n:Nat→Bool) (cs:List AVal):zaw n (.agg cs)=zaz n cs:=by simp [zaw]
theorem zHy (n:Nat→Bool) (cs:List AVal):zaw n (.tup cs)=zaz n cs:=by simp [zaw]
theorem zHz (n:Nat→Bool) (f:Nat) (cs:List AVal):zaw n (.clo f cs)=zaz n cs:=by simp [zaw]
theorem zHA (n:Nat→Bool) (p:PVal):zaw n (.pv p)=true:=by simp [zaw]
theorem zHB (n:Nat→Bool):zaw n .snil=true:=by simp [zaw]
theorem zHC (n:Nat→Bool) (i a b:Nat):zaw n (.csl i a b)=n i:=by simp [zaw]
theorem zHD (n:Nat→Bool):zaw n .junk=true:=by simp [zaw]
theorem zEf (n:Nat→Bool):zaz n []=true:=by simp [zaz]
theorem zEg (n:Nat→Bool) (a:AVal) (r:List AVal):zaz n (a::r)=(zaw n a&&zaz n r):=by simp [zaz]
theorem zBF (ι:Nat→Nat) (i a b c:Nat):ren ι (.eref i a b c)=.eref (ι i) a b c:=by simp [ren]
theorem zvq (o:List (Option AObj)) (i:Nat):zaq o i=(o.getD i none).isSome:=rfl
theorem zEh (σ:St) (i:Nat):σ.obj i=σ.objs.getD i none:=rfl
theorem zBG {α:Type} (l:List α) (i:Nat) (d:α):l.getD i d=l[i]?.getD d:=rfl
def zHE:=And.intro @zBD<|And.intro @zBE<|And.intro @zyt<|And.intro @zvn<|And.intro @zyu<|And.intro @zvo<|And.intro @zvp<|And.intro @zsw<|And.intro @zyv<|And.intro @zyw<|And.intro @zEf<|@zEg
def zHF:=And.intro @zHC<|And.intro @zHt<|And.intro @zHu<|And.intro @zHv<|And.intro @zHw<|And.intro @zHx<|And.intro @zHy<|And.intro @zHz<|And.intro @zHA<|And.intro @zHB<|@zHD
def zHG:=And.intro @zD6<|And.intro @kz1<|And.intro @zBF<|And.intro @zvq<|And.intro @zEh<|And.intro @zBG<|And.intro @zst<|And.intro @zsu<|@zsv
def kwf:=And.intro @zHE<|And.intro @zHF @zHG
theorem zBH (l:List Nat) (k:Nat):tau l k=l[k]?.getD 0:=rfl
theorem zBI (σ:St) (i:Nat):σ.slot i=σ.slots[i]?.getD .junk:=rfl
theorem zBJ (v:AVal):znY [v]=v:=rfl
theorem zBK:znY []=.tup []:=rfl
theorem zBL (a b:AVal) (r:List AVal):znY (a::b::r)=.tup (a::b::r):=rfl
def kwt:=And.intro @kwf @zBH
def kwr:=And.intro @kwt<|And.intro @zBI<|And.intro @zBJ<|And.intro @zBK @zBL
theorem WFn (hs:zcr id (zaq σ'.objs) σ.slots σ'.slots:=by simp [kwf]) (ho:zbc id (zaq σ'.objs) σ 0 σ'.objs:=by simp [kwf]) (hlen:σ'.objs.length=env.nobj:=by rfl) (h1:(σ'.objs.take pin).all Option.isSome=true:=by simp) (h2:pin≤σ'.objs.length:=by simp):za0 env pin σ σ':=
 za0.forget hlen (zxy h1 h2) hs ho
theorem WFe (hs:zcr id (zaq σ'.objs) σ.slots σ'.slots) (ho:zbc id (zaq σ'.objs) σ 0 σ'.objs) (hlen:σ'.objs.length=env.nobj:=by rfl) (h1:(σ'.objs.take pin).all Option.isSome=true:=by simp) (h2:pin≤σ'.objs.length:=by simp):za0 env pin σ σ':=
 za0.forget hlen (zxy h1 h2) hs ho
theorem WTe (τ:List Nat) (hs:zcr (tau τ) (zaq σ'.objs) σ.slots σ'.slots) (ho:zbc (tau τ) (zaq σ'.objs) σ 0 σ'.objs) (hlen:σ'.objs.length=env.nobj:=by rfl) (hτ:τ.length=env.nobj:=by rfl) (hnd:τ.Nodup:=by decide) (hp:∀ k,k<pin→tau τ k=k:=by first|decide|(simp only [List.length_cons,List.length_nil];decide)) (h1:(σ'.objs.take pin).all Option.isSome=true:=by simp) (h2:pin≤σ'.objs.length:=by simp):za0 env pin σ σ':=
 za0.wk τ hlen hτ hnd (zz9 hp h1 h2) hs ho
theorem zay.mk {n:Nat} {rs:List ResultVar} {res:AVal} {objs':List (Option AObj)} {e:Exit} {vs:List AVal} (τ:List Nat) (h1:zcr (tau τ) (zaq objs') [znY vs] [res]) (h2:zbc (tau τ) (zaq objs') σ 0 objs') (hv:zkf env σ rs=some vs:=by rfl) (he:e=.ret∨e=.normal:=by first|exact .inl rfl|exact .inr rfl)
  (hp:∀ k,k<n→tau τ k=k:=by first|decide|(simp only [List.length_cons,List.length_nil];decide)) (hd:τ.Nodup:=by decide) (hl:objs'.length≤τ.length:=by simp):zay env n rs res objs' e σ:=⟨he,vs,τ,hv,h1,h2,hp,hd,hl⟩
theorem zci.mk {n:Nat} {x:Value} {objs':List (Option AObj)} {e:Exit} (τ:List Nat) (h2:zbc (tau τ) (zaq objs') σ 0 objs') (he:e=.panic (zke x):=by rfl)
  (hp:∀ k,k<n→tau τ k=k:=by first|decide|(simp only [List.length_cons,List.length_nil];decide)) (hd:τ.Nodup:=by decide) (hl:objs'.length≤τ.length:=by simp):zci n x objs' e σ:=⟨he,τ,h2,hp,hd,hl⟩
end Go.Abs
namespace Go.Abs
open Go
variable {P:Program} {env:Env} {pin:Nat} {σ:St} {Q:Exit→St→Prop}
theorem LW.loopS {ι:Type} {c:Code} {t:Tg (Code.loop c,Q)} (I:ι→St) (μ:ι→Nat) (i0:ι) (h0:za0 env pin σ (I i0))
  (round:∀ i,SW P env pin c (I i) (zeY (NX env pin I μ .mk (μ i)) Q)):LW P env pin (.loop c) σ Q t:=
 SW.loop I μ i0 h0 round
end Go.Abs
namespace Go.Abs
open Go
abbrev Ext (w w':World):Prop:=Go.RowKit.Below w.heap.size w w'
theorem zpe {w w':World} (h:Ext w w') {b i:Nat} {u:Value} (hc:w.cell? ⟨b,i,none⟩=some u):w'.cell? ⟨b,i,none⟩=some u:=by
 have hb:b<w.heap.size:=by
  unfold World.cell? at hc
  rcases Nat.lt_or_ge b w.heap.size with h'|h'
  ·exact h'
  ·simp [Array.getElem?_eq_none h'] at hc
 unfold World.cell? at hc ⊢
 simp only [h.block b hb] at *
 exact hc
theorem AC.ofCalls {P:Program} {gl:Nat→Option (List PVal)} {f:FuncId} {ps:List PVal} {res:AVal}
  (h:∀ (w:World) (M:Mem) (vs:List Value),vs.length=ps.length→(∀ i,i<ps.length→Rd M (ps.getD i .nilptr) (vs.getD i undef))→(∀ b i u,M b i=some u→w.cell? ⟨b,i,none⟩=some u) →
   GOK ⟨fun _=>none,gl,fun _=>0,0⟩ M→(∀ b cs,gl b=some cs→cs≠[]→∃ vals T l,w.heap[b]?=some (.cells vals T l)∧vals.size=cs.length)→Calls P f vs.toArray w fun e w'=>∃ v,e=.returned v∧(∀ g D M',V g D M' res v)∧Ext w w') :
  AC P gl f (ps.map .pv) [] res []:=by
 intro w M g vargs hR hG
 have hl:vargs.length=ps.length:=by simpa using hR.size
 refine Calls.mono (h w M vargs hl (fun i hi=>?_) hR.sat hG.1 (fun b cs hb hne=>(hG.2 b cs hb hne).2)) ?_
 ·have:=hR.slots i (by simpa using hi)
  have e1:St.slot ⟨ps.map .pv,[]⟩ i=.pv (ps.getD i .nilptr):=by simp [St.slot,List.getD,hi]
  rw [e1] at this
  have e2:vargs.toArray.getD i undef=vargs.getD i undef:=by simp [List.getD]
  rw [←e2]
  exact this.pv_inv
 ·rintro e w' ⟨v,rfl,hv,hx⟩
  refine ⟨v,g,M,rfl,⟨rfl,rfl,fun i hi=>?_,fun id o ho=>by simp [St.obj] at ho,fun id id' o o' b ho=>by simp [St.obj] at ho,fun id o b ho=>by simp [St.obj] at ho,fun b i u hu=>zpe hx (hR.sat b i u hu),Mem.le_refl _,fun _ _ _ _=>rfl,hx.size,fun b hb _=>hx.block b hb,fun id o b ho=>by simp [St.obj] at ho,hx.os,hx.tape,hx.output⟩,fun id hid=>by simp [zaq] at hid⟩
  have hi0:i=0:=by simpa using hi
  subst hi0
  exact hv _ _ _
theorem zBM (g:Gh) (D:Nat→Prop) (M:Mem) (k:IntKind) (n:Int):V g D M (.pv (.int k n)) (.int k n):=.pv (.int k n)
theorem zyx (g:Gh) (D:Nat→Prop) (M:Mem) (s:List UInt8):V g D M (.pv (.str s)) (.string ⟨s.toArray⟩):=.pv (.str s)
theorem zkB {g:Gh} {D:Nat→Prop} {M:Mem} {a b:AVal} {x y:Value} (h1:V g D M a x) (h2:V g D M b y):V g D M (.tup [a,b]) (.tuple #[x,y]):=
 .tup [a,b] [x,y] rfl (fun i hi=>by
  match i,hi with
  |0,_=>exact h1
  |1,_=>exact h2)
open Go Go.Proofs Go.Shelf Go.RowKit
def zBN (w:World) (v v':Value):Prop:=v'.ownBlock=v.ownBlock∨∃ g,v'.ownBlock=some g∧w.heap.size≤g
structure AppR (w:World) (e:TypeId) (v v':Value) (n:Nat) (xs:List Value) (w':World):Prop where
 own:w'.ownsRow 0 e 1 v' n xs
 grow:w.grownBy w' v.ownBlock
 place:zBN w v v'
section
variable {P:Program} (w:World)
theorem zsx (t u ty e:TypeId) (i:TypeInfo) (ht:P.underlying t=some (.slice e)) (hu:P.underlying u=some .string) (hi:P.info? e=some i) (hz:i.zero=some (.int .u8 0))
  (hsize:i.size=1) (hby:i.bytes=1) (v:Value) (n:Nat) (xs:List Value) (hown:w.ownsRow 0 e 1 v n xs) (s:ByteArray) (hbytes:n+s.size≤140737488355328) :
  ∃ v' w',(Builtin.append_ #[t,u] ty #[v,.string s]).run P w=.ok v' w'∧AppR w e v v' (n+s.size) (xs++Lib.strCells s) w':=by
 obtain ⟨v',w',hr,h2,h3,h4⟩:=Lib.run_append_own_string (P:=P) w 0 t u ty e i ht hu hi hz hsize hby v n xs hown s (by unfold maxLen;omega) hbytes (Nat.zero_le _)
 refine ⟨v',w',hr,h2,h3,?_⟩
 have hxl:xs.length=n:=by simpa using hown.1
 rcases hown.2 with ⟨rfl,rfl⟩|⟨g,cap,cur,rfl,hbg,hg,hnc,hcm,hcs,htake⟩
 ·by_cases hm:s.size=0
  ·have:=h4.2 ⟨rfl,hm⟩
   subst this
   exact .inl rfl
  ·have hr2:=run_append_nil_string (P:=P) w t u ty e i (.int .u8 0) ht hu hi hz s (by omega) (by omega) (by rw [hby];omega)
   rw [hr] at hr2
   injection hr2 with h5 h6
   exact .inr ⟨w.heap.size,by rw [h5];rfl,Nat.le_refl _⟩
 ·by_cases hroom:n+s.size≤cap
  ·have hcs':cur.size=cap:=by simpa using hcs
   have hr2:=Lib.run_append_room_string (P:=P) w t u ty e i ht hu hi hsize g n cap cur hg s hroom (by omega)
   rw [hr] at hr2
   injection hr2 with h5 h6
   exact .inl (by rw [h5];rfl)
  ·have holds:∀ j u,xs[j]?=some u→w.cell? ((⟨g,0,none⟩:Addr).add j)=some u:=hown.cells (g:=g) rfl
   have hr2:=Lib.run_append_grow_string (P:=P) w t u ty e i (.int .u8 0) ht hu hi hz ⟨g,0,none⟩ n cap xs (by rw [hsize];simpa using hxl) holds s (by omega) (by omega) (by rw [hby];exact growslice_fits (by omega) (by omega))
   rw [hr] at hr2
   injection hr2 with h5 h6
   exact .inr ⟨w.heap.size,by rw [h5];rfl,Nat.le_refl _⟩
theorem zpf (t ty e:TypeId) (i:TypeInfo) (ht:P.underlying t=some (.slice e)) (hi:P.info? e=some i) (hz:i.zero=some (.int .u8 0))
  (hsize:i.size=1) (hby:i.bytes=1) (v:Value) (n:Nat) (xs:List Value) (hown:w.ownsRow 0 e 1 v n xs) (a:Addr) (c:Nat) (x:Value) (hx:w.cell? (a.add 0)=some x) (h1:x.oneCell'=true) (hbytes:n+1≤140737488355328) :
  ∃ v' w',(Builtin.append_ #[t,t] ty #[v,.slice (some a) 1 c]).run P w=.ok v' w'∧AppR w e v v' (n+1) (xs++[x]) w':=by
 have hnews:∀ j u,[x][j]?=some u→w.cell? (a.add j)=some u:=by
  intro j u hj
  match j,hj with
  |0,hj=>simp at hj;subst hj;exact hx
 have hone:∀ u ∈ [x],u.oneCell'=true:=by intro u hu;simp at hu;subst hu;exact h1
 obtain ⟨v',w',hr,h2,h3,h4⟩:=run_append_own (P:=P) w 0 t ty e i (.int .u8 0) 1 1 ht hi hz hsize hby rfl (by decide) v n xs hown a 1 c [x] rfl hnews hone (by unfold maxLen;omega) (by omega) (Nat.zero_le _)
 refine ⟨v',w',hr,h2,h3,?_⟩
 have hxl:xs.length=n:=by simpa using hown.1
 rcases hown.2 with ⟨rfl,rfl⟩|⟨g,cap,cur,rfl,hbg,hg,hnc,hcm,hcs,htake⟩
 ·have hr2:=run_append_nil (P:=P) w t ty e i (.int .u8 0) ht hi hz a 1 c [x] (by rw [hsize];rfl) hnews (by omega) (by omega) (by rw [hby];omega)
  rw [hr] at hr2
  injection hr2 with h5 h6
  exact .inr ⟨w.heap.size,by rw [h5];rfl,Nat.le_refl _⟩
 ·have hcs':cur.size=cap:=by simpa using hcs
  by_cases hroom:n+1≤cap
  ·have hr2:=run_append_room (P:=P) w t ty e i ht hi g n cap cur hg a 1 c [x] (by rw [hsize];rfl) hnews hone hroom (by rw [hsize];simp;omega)
   rw [hr] at hr2
   injection hr2 with h5 h6
   exact .inl (by rw [h5];rfl)
  ·have holds:∀ j u,xs[j]?=some u→w.cell? ((⟨g,0,none⟩:Addr).add j)=some u:=hown.cells (g:=g) rfl
   have hr2:=run_append_grow (P:=P) w t ty e i (.int .u8 0) ht hi hz ⟨g,0,none⟩ n cap xs (by rw [hsize];simpa using hxl) holds a 1 c [x] (by rw [hsize];rfl) hnews (by omega) (by omega) (by rw [hby];exact growslice_fits (by omega) (by omega))
   rw [hr] at hr2
   injection hr2 with h5 h6
   exact .inr ⟨w.heap.size,by rw [h5];rfl,Nat.le_refl _⟩
theorem zfB {ops:Array Oper} {rest:List Oper} {o:Oper} {a:Act} {Q:Exit→Act→World→Prop} (hgd:o.guard=none) (sl x:Operand) (t u:TypeId)
  (ho:o.op=.call { callee:=.builtin .append,args:=#[sl,x],argTypes:=#[t,u] }) (v y:Value) (hs:a.eval sl=v) (hx:a.eval x=y) {R:Value→World→Prop}
  (hr:∃ v' w',(Builtin.append_ #[t,u] o.type #[v,y]).run P w=.ok v' w'∧R v' w')
  (h:∀ v' w',R v' w'→wpList P ops Q rest (a.put o.dst v') w'):wpList P ops Q (o::rest) a w:=by
 refine wpList_plain hgd fun K hK=>?_
 obtain ⟨v',w',hr,h2⟩:=hr
 unfold Oper.wp execOp
 simp only [ho,resolve,invoke,builtin,Sem.run_bind,Sem.run_pure,Result.andThen_ok,List.map_toArray,List.map_cons,List.map_nil,hs,hx,hr]
 exact hK _ _ (h v' w' h2)
end
structure BPost (T e b:Nat) (w w':World) (v v':Value) (bs:List Value):Prop where
 head:w'.heap[b]?=some (.cells #[.pointer (some ⟨b,0,none⟩),v'] T (0,0))
 own:w'.ownsRow 0 e 1 v' bs.length bs
 place:zBN w v v'
 frame:∀ k,k<w.heap.size→k≠b→v.ownBlock≠some k→w'.heap[k]?=w.heap[k]?
 size:w.heap.size≤w'.heap.size
 os:w'.os=w.os
 tape:w'.tape=w.tape
 output:w'.output=w.output
section
variable {P:Program} {ρ:Ren}
theorem zmI (L:Lays.n240 P ρ) (X:Builder.X72 P ρ) (b:Nat) (p v:Value) (w:World) (hbk:w.heap[b]?=some (.cells #[p,v] (ρ.t 72) (0,0))) (hp:p=.pointer none∨p=.pointer (some ⟨b,0,none⟩)) :
  Calls P (ρ.f 240) #[.pointer (some ⟨b,0,none⟩)] w fun e w1=>e=.returned (.tuple #[])∧(w1.heap[b]?=some (.cells #[.pointer (some ⟨b,0,none⟩),v] (ρ.t 72) (0,0))∧w.grownBy w1 (some b)∧w1.heap.size=w.heap.size):=by
 have h0:w.cell? ⟨b,0,none⟩=some p:=by rw [Lib.cell_of_heap hbk];rfl
 rcases hp with rfl|rfl
 ·refine (Any.Builder_copyCheck_fresh L X b w h0 (by simp [World.shape?,hbk]) (Lib.frozen_of_heap hbk 0)).mono ?_
  rintro e w' ⟨rfl,rfl⟩
  refine ⟨rfl,by simp [World.setCell,Array.getElem?_modify,hbk],⟨rfl,rfl,rfl,by simp [World.setCell],fun k _ hk=>Below.heap_setCell _ _ _ _ (fun e=>hk (by simp [e]))⟩,by simp [World.setCell]⟩
 ·refine (Any.Builder_copyCheck_used L X b w h0).mono ?_
  rintro e w' ⟨rfl,rfl⟩
  exact ⟨rfl,hbk,⟨rfl,rfl,rfl,Nat.le_refl _,fun _ _ _=>rfl⟩,rfl⟩
theorem zhI (L:Lays.n166 P ρ) (X:Builder.Extra P ρ) (b:Nat) (p v:Value) (bs:List Value) (s:ByteArray) (w:World) (hbk:w.heap[b]?=some (.cells #[p,v] (ρ.t 72) (0,0))) (hp:p=.pointer none∨p=.pointer (some ⟨b,0,none⟩))
  (hown:w.ownsRow 0 (ρ.t 5) 1 v bs.length bs) (hlen:bs.length+s.size≤140737488355328) :
  Calls P (ρ.f 166) #[.pointer (some ⟨b,0,none⟩),.string s] w fun e w'=>e=.returned (.tuple #[.int .i64 s.size,.nilIface])∧∃ v',BPost (ρ.t 72) (ρ.t 5) b w w' v v' (bs++Lib.strCells s):=by
 obtain ⟨i0,hi,hz0,hz1,hz2⟩:=info_parts X.infoByte
 have hne:v.ownBlock≠some b:=Lib.ownBlock_ne hown hbk X.neB5
 have hlt:b<w.heap.size:=by
  rcases Nat.lt_or_ge b w.heap.size with h'|h'
  ·exact h'
  ·simp [Array.getElem?_eq_none h'] at hbk
 have mixed:=L.mixed
 have t72:=L.t72;have a72:=L.a72;have z72:=L.z72;have v72:=L.v72;have u72:=run_underlying L.t72
 have t70:=L.t70;have a70:=L.a70;have z70:=L.z70;have v70:=L.v70;have u70:=run_underlying L.t70
 have t37:=L.t37;have a37:=L.a37;have z37:=L.z37;have v37:=L.v37;have u37:=run_underlying L.t37
 have t3:=L.t3;have a3:=L.a3;have z3:=L.z3;have v3:=L.v3;have u3:=run_underlying L.t3
 have t9:=L.t9;have a9:=L.a9;have z9:=L.z9;have v9:=L.v9;have u9:=run_underlying L.t9
 have t4:=L.t4;have a4:=L.a4;have z4:=L.z4;have v4:=L.v4;have u4:=run_underlying L.t4
 have t164:=L.t164;have a164:=L.a164;have z164:=L.z164;have v164:=L.v164;have u164:=run_underlying L.t164
 have t5:=X.t5;have a5:=X.a5;have z5:=X.z5;have v5:=X.v5;have u5:=run_underlying X.t5
 have e240:∀ args w,(callFunc (ρ.f 240) args).run P w=.ok (.enter (ρ.f 240) args) w:=enters_of L.f240 (by kernel_rfl) rfl
 go_enter L.f166,Body.n166_ntmps ρ
 go_wp2_with (go_at_fn (ρ.f 240);refine (zmI { L with } X.toX72 b p v _ hbk hp).mono ?_)
 rintro e w1 ⟨rfl,hbk1,hg1,hs1⟩
 have HS:Hid (w1.heap.size=w.heap.size):=hs1
 clear hs1
 have hown1:=hown.kept hg1 (Or.inr hne)
 have c0:w1.cell? ⟨b,0,none⟩=some (.pointer (some ⟨b,0,none⟩)):=by rw [Lib.cell_of_heap hbk1];rfl
 have c1:w1.cell? ⟨b,1,none⟩=some v:=by rw [Lib.cell_of_heap hbk1];rfl
 go_wp2_with (at_builtin;refine zfB _ rfl _ _ (ρ.t 37) (ρ.t 9) rfl v (.string s) rfl rfl (zsx w1 (ρ.t 37) (ρ.t 9) _ (ρ.t 5) i0 L.t37 L.t9 hi hz0 hz1 hz2 v bs.length bs hown1 s hlen) ?_)
 rintro v' w2 hR
 have hs1:=HS.out
 have hown':=hR.own
 have hgrow:=hR.grow
 have hpl:=hR.place
 clear hR
 have hb2:w2.heap[b]?=some (.cells #[.pointer (some ⟨b,0,none⟩),v] (ρ.t 72) (0,0)):=by
  rw [hgrow.block b (by omega) (fun e=>hne e.symm)]
  exact hbk1
 have d0:w2.cell? ⟨b,0,none⟩=some (.pointer (some ⟨b,0,none⟩)):=by rw [Lib.cell_of_heap hb2];rfl
 have d1:w2.cell? ⟨b,1,none⟩=some v:=by rw [Lib.cell_of_heap hb2];rfl
 have f1:w2.frozen? ⟨b,1,none⟩=false:=Lib.frozen_of_heap hb2 1
 have hne':v'.ownBlock≠some b:=Lib.ownBlock_ne hown' hb2 X.neB5
 obtain ⟨ao,n',cap,rfl⟩:∃ ao n' cap,v'=.slice ao n' cap:=by
  rcases hown'.2 with ⟨hv,_⟩|⟨g,cap,cur,hv,_⟩
  ·exact ⟨_,_,_,hv⟩
  ·exact ⟨_,_,_,hv⟩
 clear hs1
 go_wp2
 go_ret2
 have hs1:=HS.out
 refine ⟨rfl,.slice ao n' cap,?_⟩
 refine ⟨by simp [World.setCell,Array.getElem?_modify,hb2],?_,?_,?_,?_,?_,?_,?_⟩
 ·have:=hown'.kept (row:=some b) (w':=w2.setCell ⟨b,1,none⟩ (.slice ao n' cap)) ⟨rfl,rfl,rfl,by simp [World.setCell],fun k _ hk=>Below.heap_setCell _ _ _ _ (fun e=>hk (by simp [e]))⟩ (Or.inr hne')
  simpa [Lib.strCells_length] using this
 ·rcases hpl with h|⟨g,h,hh⟩
  ·exact .inl h
  ·exact .inr ⟨g,h,by omega⟩
 ·intro k hk hkb hkv
  rw [Below.heap_setCell _ _ _ _ hkb,hgrow.block k (by omega) (fun e=>hkv e.symm),hg1.block k hk (by simpa using hkb)]
 ·have:=hgrow.size;simp [World.setCell];omega
 ·exact hgrow.os.trans hg1.os
 ·exact hgrow.tape.trans hg1.tape
 ·exact hgrow.output.trans hg1.output
theorem zkC (L:Lays.n167 P ρ) (X:Builder.Extra P ρ) (b:Nat) (p v:Value) (bs:List Value) (c:Int) (w:World) (hbk:w.heap[b]?=some (.cells #[p,v] (ρ.t 72) (0,0))) (hp:p=.pointer none∨p=.pointer (some ⟨b,0,none⟩))
  (hown:w.ownsRow 0 (ρ.t 5) 1 v bs.length bs) (hlen:bs.length+1≤140737488355328) :
  Calls P (ρ.f 167) #[.pointer (some ⟨b,0,none⟩),.int .u8 c] w fun e w'=>e=.returned .nilIface∧∃ v',BPost (ρ.t 72) (ρ.t 5) b w w' v v' (bs++[.int .u8 c]):=by
 obtain ⟨i0,hi,hz0,hz1,hz2⟩:=info_parts X.infoByte
 have hne:v.ownBlock≠some b:=Lib.ownBlock_ne hown hbk X.neB5
 have hlt:b<w.heap.size:=by
  rcases Nat.lt_or_ge b w.heap.size with h'|h'
  ·exact h'
  ·simp [Array.getElem?_eq_none h'] at hbk
 have mixed:=L.mixed
 have t72:=L.t72;have a72:=L.a72;have z72:=L.z72;have v72:=L.v72;have u72:=run_underlying L.t72
 have t70:=L.t70;have a70:=L.a70;have z70:=L.z70;have v70:=L.v70;have u70:=run_underlying L.t70
 have t5:=L.t5;have a5:=L.a5;have z5:=L.z5;have v5:=L.v5;have u5:=run_underlying L.t5
 have t37:=L.t37;have a37:=L.a37;have z37:=L.z37;have v37:=L.v37;have u37:=run_underlying L.t37
 have t9:=L.t9;have a9:=L.a9;have z9:=L.z9;have v9:=L.v9;have u9:=run_underlying L.t9
 have t4:=L.t4;have a4:=L.a4;have z4:=L.z4;have v4:=L.v4;have u4:=run_underlying L.t4
 have t164:=L.t164;have a164:=L.a164;have z164:=L.z164;have v164:=L.v164;have u164:=run_underlying L.t164
 have e240:∀ args w,(callFunc (ρ.f 240) args).run P w=.ok (.enter (ρ.f 240) args) w:=enters_of L.f240 (by kernel_rfl) rfl
 go_enter L.f167,Body.n167_ntmps ρ
 go_wp2_with (go_at_fn (ρ.f 240);refine (zmI { L with } X.toX72 b p v _ hbk hp).mono ?_)
 rintro e w1 ⟨rfl,hbk1,hg1,hs1⟩
 have HS:Hid (w1.heap.size=w.heap.size):=hs1
 clear hs1
 have hown1:=hown.kept hg1 (Or.inr hne)
 have c0:w1.cell? ⟨b,0,none⟩=some (.pointer (some ⟨b,0,none⟩)):=by rw [Lib.cell_of_heap hbk1];rfl
 have c1:w1.cell? ⟨b,1,none⟩=some v:=by rw [Lib.cell_of_heap hbk1];rfl
 go_wp2_with (at_builtin;refine zfB _ rfl _ _ (ρ.t 37) (ρ.t 37) rfl v (.slice (some ⟨w1.heap.size,0,none⟩) 1 1) rfl rfl (zpf _ (ρ.t 37) _ (ρ.t 5) i0 L.t37 hi hz0 hz1 hz2 v bs.length bs (hown1.alloc _) ⟨w1.heap.size,0,none⟩ 1 (.int .u8 c) ?cx rfl hlen) ?_)
 case cx=>simp [Addr.add]
 rintro v' w2 hR
 have hs1:=HS.out
 have hown':=hR.own
 have hgrow:=hR.grow
 have hpl:=hR.place
 clear hR
 have hb2:w2.heap[b]?=some (.cells #[.pointer (some ⟨b,0,none⟩),v] (ρ.t 72) (0,0)):=by
  rw [hgrow.block b (by simp;omega) (fun e=>hne e.symm),Lib.alloc_old w1 _ b (by omega)]
  exact hbk1
 have d0:w2.cell? ⟨b,0,none⟩=some (.pointer (some ⟨b,0,none⟩)):=by rw [Lib.cell_of_heap hb2];rfl
 have d1:w2.cell? ⟨b,1,none⟩=some v:=by rw [Lib.cell_of_heap hb2];rfl
 have f1:w2.frozen? ⟨b,1,none⟩=false:=Lib.frozen_of_heap hb2 1
 have hne':v'.ownBlock≠some b:=Lib.ownBlock_ne hown' hb2 X.neB5
 obtain ⟨g,cap,rfl⟩:∃ g cap,v'=.slice (some ⟨g,0,none⟩) (bs.length+1) cap:=by
  rcases hown'.2 with ⟨_,h0⟩|⟨g,cap,cur,hv,_⟩
  ·omega
  ·exact ⟨g,cap,hv⟩
 clear hs1
 go_wp2
 go_ret
 have hs1:=HS.out
 refine ⟨rfl,.slice (some ⟨g,0,none⟩) (bs.length+1) cap,?_⟩
 refine ⟨by simp [World.setCell,Array.getElem?_modify,hb2],?_,?_,?_,?_,?_,?_,?_⟩
 ·have:=hown'.kept (row:=some b) (w':=w2.setCell ⟨b,1,none⟩ (.slice (some ⟨g,0,none⟩) (bs.length+1) cap)) ⟨rfl,rfl,rfl,by simp [World.setCell],fun k _ hk=>Below.heap_setCell _ _ _ _ (fun e=>hk (by simp [e]))⟩ (Or.inr hne')
  simpa using this
 ·rcases hpl with h|⟨g',h,hh⟩
  ·exact .inl h
  ·exact .inr ⟨g',h,by simp at hh;omega⟩
 ·intro k hk hkb hkv
  rw [Below.heap_setCell _ _ _ _ hkb,hgrow.block k (by simp;omega) (fun e=>hkv e.symm),Lib.alloc_old w1 _ k (by omega),hg1.block k hk (by simpa using hkb)]
 ·have:=hgrow.size;simp at this;simp [World.setCell];omega
 ·exact hgrow.os.trans hg1.os
 ·exact hgrow.tape.trans hg1.tape
 ·exact hgrow.output.trans hg1.output
theorem zkh (w:World) (g n:Nat):w.grownBy (w.drew.freeze ⟨g,0,none⟩ n) (some g):=by
 unfold World.freeze
 split
 ·exact ⟨rfl,rfl,rfl,Nat.le_refl _,fun _ _ _=>rfl⟩
 ·exact ⟨rfl,rfl,rfl,by rw [Array.size_modify];exact Nat.le_refl _,fun k _ hk=>by
   simp only [Array.getElem?_modify]
   rw [if_neg (fun e=>hk (by simp [e]))]
   rfl⟩
theorem zvr (L:Lays.n169 P ρ) (X:Builder.Extra P ρ) (b:Nat) (p v:Value) (l:List UInt8) (w:World) (hbk:w.heap[b]?=some (.cells #[p,v] (ρ.t 72) (0,0)))
  (hown:w.ownsRow 0 (ρ.t 5) 1 v l.length (Lib.byteCells l)) (h0:l≠[]) :
  Calls P (ρ.f 169) #[.pointer (some ⟨b,0,none⟩)] w fun e w'=>e=.returned (.string ⟨l.toArray⟩)∧w.grownBy w' v.ownBlock:=by
 have hl0:l.length≠0:=by simpa using h0
 obtain ⟨g,cap,cur,rfl,hbg,hg,hnc,hcm,hcs,htake⟩:∃ g cap cur,v=.slice (some ⟨g,0,none⟩) l.length cap∧0≤g∧w.heap[g]?=some (.cells cur (ρ.t 5) (0,0))∧l.length≤cap∧cap≤maxLen∧cur.size=cap * 1∧cur.toList.take (l.length * 1)=Lib.byteCells l:=by
  rcases hown.2 with ⟨_,hz⟩|⟨g,cap,cur,hv,r⟩
  ·exact absurd hz hl0
  ·exact ⟨g,cap,cur,hv,r⟩
 have c1:w.drew.cell? ⟨b,1,none⟩=some (.slice (some ⟨g,0,none⟩) l.length cap):=by
  have:w.drew.heap[b]?=some (.cells #[p,.slice (some ⟨g,0,none⟩) l.length cap] (ρ.t 72) (0,0)):=hbk
  rw [Lib.cell_of_heap this];rfl
 have hSD:(Builtin.unsafeSliceData_ #[(ρ.t 37)] (ρ.t 127) #[.slice (some ⟨g,0,none⟩) l.length cap]).run P w.drew=.ok (.pointer (some ⟨g,0,none⟩)) w.drew:=
  Lib.run_unsafeSliceData_row _ _ _ _ _ _ (by omega)
 have hUS:(Builtin.unsafeString_ #[(ρ.t 127),(ρ.t 3)] (ρ.t 9) #[.pointer (some ⟨g,0,none⟩),.int .i64 l.length]).run P w.drew=.ok (.string ⟨l.toArray⟩) (w.drew.freeze ⟨g,0,none⟩ l.length):=by
  refine Lib.run_unsafeString_row w.drew (ρ.t 127) (ρ.t 3) (ρ.t 9) (ρ.t 5) L.t127 X.cellsByte g cur.size (by have hg':w.drew.heap[g]?=some (.cells cur (ρ.t 5) (0,0)):=hg;simp [World.shape?,hg']) l h0 (by omega) (by unfold maxLen at hcm;omega) ?_
  intro j x hx
  have:=hown.cells (g:=g) rfl j (.int .u8 x.toNat) (by simp [Lib.byteCells,hx])
  exact this
 have HG:=zkh w g l.length
 have mixed:=L.mixed
 have t72:=L.t72;have a72:=L.a72;have z72:=L.z72;have v72:=L.v72;have u72:=run_underlying L.t72
 have t70:=L.t70;have a70:=L.a70;have z70:=L.z70;have v70:=L.v70;have u70:=run_underlying L.t70
 have t37:=L.t37;have a37:=L.a37;have z37:=L.z37;have v37:=L.v37;have u37:=run_underlying L.t37
 have t127:=L.t127;have a127:=L.a127;have z127:=L.z127;have v127:=L.v127;have u127:=run_underlying L.t127
 have t3:=L.t3;have a3:=L.a3;have z3:=L.z3;have v3:=L.v3;have u3:=run_underlying L.t3
 have t9:=L.t9;have a9:=L.a9;have z9:=L.z9;have v9:=L.v9;have u9:=run_underlying L.t9
 have t5:=X.t5;have a5:=X.a5;have z5:=X.z5;have v5:=X.v5;have u5:=run_underlying X.t5
 go_enter L.f169,Body.n169_ntmps ρ
 go_wp2
 go_region_o
 all_goals (go_wp2;go_ret;exact ⟨rfl,HG⟩)
theorem bString (L:Lays.n169 P ρ) (X:Builder.Extra P ρ) (b:Nat) (p v:Value) (l:List UInt8) (w:World) (hbk:w.heap[b]?=some (.cells #[p,v] (ρ.t 72) (0,0)))
  (hown:w.ownsRow 0 (ρ.t 5) 1 v l.length (Lib.byteCells l)) :
  Calls P (ρ.f 169) #[.pointer (some ⟨b,0,none⟩)] w fun e w'=>e=.returned (.string ⟨l.toArray⟩)∧w.grownBy w' v.ownBlock:=by
 have fin:∀ {w':World},Below w.heap.size w w'→w.grownBy w' v.ownBlock:=fun h=>⟨h.os,h.tape,h.output,h.size,fun k hk _=>h.block k hk⟩
 cases l with
 |nil=>
  rcases hown.2 with ⟨rfl,_⟩|⟨g,cap,cur,rfl,hbg,hg,_,_,_,_⟩
  ·exact (Any.Builder_String_nil L X w.heap.size b p w hbk).mono (fun _ _ h=>⟨h.1,fin h.2⟩)
  ·by_cases hc0:cap=0
   ·subst hc0
    exact (Any.Builder_String_noroom L X w.heap.size b g p cur w (Nat.le_refl _) hbk hg).mono (fun _ _ h=>⟨h.1,fin h.2⟩)
   ·exact (Any.Builder_String_room L X w.heap.size b g cap p w hc0 hbk).mono (fun _ _ h=>⟨h.1,fin h.2⟩)
 |cons x r=>exact zvr L X b p v (x::r) w hbk hown (by simp)
end
/-! ### Contracts -/
theorem zn9 {g:Gh} {D:Nat→Prop} {M:Mem} {w:World} {e id:Nat} {t:List UInt8} (h:OR g D M w id (.bb e t)):w.ownsRow 0 e 1 (ziH g id t.length) t.length (zb0 t):=by
 refine ⟨by simp [zb0],?_⟩
 unfold ziH
 cases hν:g.ν id with
 |true=>exact .inl ⟨by simp,by rw [h.1 hν];rfl⟩
 |false=>
  obtain ⟨cur,h1,h2,h3,h4,h5⟩:=h.2 hν
  exact .inr ⟨g.ρ id,g.κ id,cur,by simp,Nat.zero_le _,h1,h2,h3,by omega,by simpa using h5⟩
theorem zgC (g:Gh) (B n:Nat) (k:Nat):(ziH g B n).ownBlock=some k→g.ν B=false∧g.ρ B=k:=by
 unfold ziH
 cases hν:g.ν B<;>simp [Value.ownBlock]
theorem zsy {a b c:AObj} {id:Nat} {o:AObj} (h:[some a,some b,some c].getD id none=some o):(id=0∧o=a)∨(id=1∧o=b)∨(id=2∧o=c):=by
 match id,h with
 |0,h=>simp at h;exact .inl ⟨rfl,h.symm⟩
 |1,h=>simp at h;exact .inr (.inl ⟨rfl,h.symm⟩)
 |2,h=>simp at h;exact .inr (.inr ⟨rfl,h.symm⟩)
 |n+3,h=>simp [List.getD] at h
theorem AC.bwrite {P:Program} {gl:Nat→Option (List PVal)} {f:FuncId} {T e:Nat} {t s:List UInt8} {q:PVal} {res:AVal} (hTe:T≠e)
  (h:∀ (w:World) (b:Nat) (p v y:Value) (M:Mem),Rd M q y→w.heap[b]?=some (.cells #[p,v] T (0,0))→(p=.pointer none∨p=.pointer (some ⟨b,0,none⟩))→w.ownsRow 0 e 1 v t.length (zb0 t) →
   Calls P f #[.pointer (some ⟨b,0,none⟩),y] w fun en w'=>∃ r v',en=.returned r∧(∀ g D M',V g D M' res r)∧BPost T e b w w' v v' (zb0 s)) :
  AC P gl f [.ref 0 0,.pv q] [some (.bh T e 1 t.length),some (.bb e t)] res [some (.bh T e 2 s.length),some .dead,some (.bb e s)]:=by
 intro w M g vargs hR hG
 have hl:vargs.length=2:=by simpa using hR.size
 match vargs,hl with
 |[x0,x1],_=>
  have h0:V g _ M (.ref 0 0) x0:=hR.slots 0 (by simp)
  have h1:V g _ M (.pv q) x1:=hR.slots 1 (by simp)
  have h1:=h1.pv_inv
  obtain ⟨hD,hn0,p,hheap,hp⟩:OR g _ M w 0 (.bh T e 1 t.length):=hR.objs 0 _ rfl
  have hbb:OR g _ M w 1 (.bb e t):=hR.objs 1 _ rfl
  have hown:=zn9 hbb
  cases h0
  refine Calls.mono (h w (g.ρ 0) p (ziH g 1 t.length) x1 M h1 hheap hp hown) ?_
  rintro en w' ⟨r,v',rfl,hv,hB⟩
  have hne':v'.ownBlock≠some (g.ρ 0):=Lib.ownBlock_ne hB.own hB.head hTe
  have hlt:g.ρ 0<w.heap.size:=(Array.getElem?_eq_some_iff.1 hheap).1
  have hso:(zb0 s).length=s.length:=by simp [zb0]
  obtain ⟨r2,k2,n2,hbuf,hs0,hs1,hpl,hr0⟩:∃ (r2 k2:Nat) (n2:Bool),v'=(if n2 then .slice none 0 0 else .slice (some ⟨r2,0,none⟩) s.length k2)∧(n2=true→s=[]) ∧
    (n2=false→∃ cur,w'.heap[r2]?=some (.cells cur e (0,0))∧s.length≤k2∧k2≤9223372036854775807∧cur.size=k2∧cur.toList.take s.length=zb0 s) ∧
    (n2=false→(g.ν 1=false∧g.ρ 1=r2)∨w.heap.size≤r2)∧(n2=false→r2≠g.ρ 0):=by
   rcases hB.own.2 with ⟨hv',hn⟩|⟨g2,cap,cur,hv',_,hg2,hnc,hcm,hcs,htake⟩
   ·exact ⟨0,0,true,by simpa using hv',fun _=>List.eq_nil_of_length_eq_zero (by omega),by simp,by simp,by simp⟩
   ·rw [hso] at hv' hnc htake
    refine ⟨g2,cap,false,by simpa using hv',by simp,fun _=>⟨cur,hg2,hnc,hcm,by omega,by simpa using htake⟩,fun _=>?_,fun _ hc=>hne' (by rw [hv',hc];rfl)⟩
    have ho:v'.ownBlock=some g2:=by rw [hv'];rfl
    rcases hB.place with h'|⟨g3,h',hh⟩
    ·rw [ho] at h'
     exact .inl (zgC g 1 _ _ h'.symm)
    ·rw [ho] at h'
     injection h' with h'
     exact .inr (by omega)
  have hsat:∀ b i u,M b i=some u→w'.cell? ⟨b,i,none⟩=some u:=by
   intro b i u hu
   have hc:=hR.sat b i u hu
   have hb:b<w.heap.size:=World.block_lt_of_cell? w ⟨b,i,none⟩ hc
   have e1:b≠g.ρ 0:=fun hbe=>by
    have:=hR.offM 0 (.bh T e 1 t.length) b rfl (by simp [zbj,hbe]) i
    rw [this] at hu;cases hu
   have e2:(ziH g 1 t.length).ownBlock≠some b:=fun hbe=>by
    obtain ⟨hν,hρ⟩:=zgC g 1 _ _ hbe
    have:=hR.offM 1 (.bb e t) b rfl (by simp [zbj,hν,hρ]) i
    rw [this] at hu;cases hu
   exact (World.cell?_of_block (w:=w) (w':=w') (a:=⟨b,i,none⟩) (hB.frame b hb e1 e2)).trans hc
  have hoffN:∀ b i,w.heap.size≤b→M b i=none:=by
   intro b i hb
   cases hm:M b i with
   |none=>rfl
   |some u=>
    have:=World.block_lt_of_cell? w ⟨b,i,none⟩ (hR.sat b i u hm)
    simp at this
    omega
  refine ⟨r,⟨fun id=>if id=2 then r2 else g.ρ id,fun id=>if id=2 then k2 else g.κ id,fun id=>if id=2 then n2 else g.ν id⟩,M,rfl,⟨rfl,rfl,fun i hi=>?_,fun id o ho=>?_,fun id id' o o' b ho ho' hb hb'=>?_,fun id o b ho hb i=>?_,hsat,Mem.le_refl _,fun _ _ _ _=>rfl,hB.size,fun b hb hnb=>?_,fun id o b ho hb=>?_,hB.os,hB.tape,hB.output⟩,fun id hid=>?_⟩
  ·have hi0:i=0:=by simpa using hi
   subst hi0
   exact hv _ _ _
  ·rcases zsy ho with ⟨rfl,rfl⟩|⟨rfl,rfl⟩|⟨rfl,rfl⟩
   ·refine ⟨by simp [St.dom,St.obj],fun hν=>by rw [hs0 (by simpa using hν)];rfl,.pointer (some ⟨g.ρ 0,0,none⟩),?_,.inr (by simp)⟩
    have hh:=hB.head
    rw [hbuf] at hh
    simpa [ziH] using hh
   ·trivial
   ·exact ⟨fun hν=>hs0 (by simpa using hν),fun hν=>by simpa using hs1 (by simpa using hν)⟩
  ·rcases zsy ho with ⟨rfl,rfl⟩|⟨rfl,rfl⟩|⟨rfl,rfl⟩<;>rcases zsy ho' with ⟨rfl,rfl⟩|⟨rfl,rfl⟩|⟨rfl,rfl⟩
   ·rfl
   ·simp [zbj] at hb'
   ·exfalso
    simp [zbj] at hb hb'
    exact hr0 hb'.1 (by omega)
   ·simp [zbj] at hb
   ·rfl
   ·simp [zbj] at hb
   ·exfalso
    simp [zbj] at hb hb'
    exact hr0 hb.1 (by omega)
   ·simp [zbj] at hb'
   ·rfl
  ·rcases zsy ho with ⟨rfl,rfl⟩|⟨rfl,rfl⟩|⟨rfl,rfl⟩
   ·exact hR.offM 0 (.bh T e 1 t.length) b rfl (by simpa [zbj] using hb) i
   ·simp [zbj] at hb
   ·simp [zbj] at hb
    rcases hpl hb.1 with ⟨hν,hρ⟩|hge
    ·exact hR.offM 1 (.bb e t) b rfl (by simp [zbj,hν];omega) i
    ·exact hoffN b i (by omega)
  ·have e1:b≠g.ρ 0:=fun hbe=>hnb ⟨0,_,rfl,by simp [zbj,hbe]⟩
   have e2:(ziH g 1 t.length).ownBlock≠some b:=fun hbe=>by
    obtain ⟨hν,hρ⟩:=zgC g 1 _ _ hbe
    exact hnb ⟨1,_,rfl,by simp [zbj,hν,hρ]⟩
   exact hB.frame b hb e1 e2
  ·rcases zsy ho with ⟨rfl,rfl⟩|⟨rfl,rfl⟩|⟨rfl,rfl⟩
   ·exact .inl ⟨0,_,rfl,by simpa [zbj] using hb⟩
   ·simp [zbj] at hb
   ·simp [zbj] at hb
    rcases hpl hb.1 with ⟨hν,hρ⟩|hge
    ·exact .inl ⟨1,_,rfl,by simp [zbj,hν];omega⟩
    ·exact .inr (show w.heap.size≤b by omega)
  ·have:id≠2:=fun he=>by subst he;simp [zaq] at hid
   simp [Gh.agree,this]
theorem zvs {a b:AObj} {id:Nat} {o:AObj} (h:[some a,some b].getD id none=some o):(id=0∧o=a)∨(id=1∧o=b):=by
 match id,h with
 |0,h=>simp at h;exact .inl ⟨rfl,h.symm⟩
 |1,h=>simp at h;exact .inr ⟨rfl,h.symm⟩
 |n+2,h=>simp [List.getD] at h
theorem AC.bstring {P:Program} {gl:Nat→Option (List PVal)} {f:FuncId} {T e:Nat} {t:List UInt8}
  (h:∀ (w:World) (b:Nat) (p v:Value),w.heap[b]?=some (.cells #[p,v] T (0,0))→w.ownsRow 0 e 1 v t.length (zb0 t) →
   Calls P f #[.pointer (some ⟨b,0,none⟩)] w fun en w'=>en=.returned (.string ⟨t.toArray⟩)∧w.grownBy w' v.ownBlock) :
  AC P gl f [.ref 0 0] [some (.bh T e 1 t.length),some (.bb e t)] (.pv (.str t)) [some .dead,some .dead]:=by
 intro w M g vargs hR hG
 have hl:vargs.length=1:=by simpa using hR.size
 match vargs,hl with
 |[x0],_=>
  have h0:V g _ M (.ref 0 0) x0:=hR.slots 0 (by simp)
  obtain ⟨hD,hn0,p,hheap,hp⟩:OR g _ M w 0 (.bh T e 1 t.length):=hR.objs 0 _ rfl
  have hbb:OR g _ M w 1 (.bb e t):=hR.objs 1 _ rfl
  have hown:=zn9 hbb
  cases h0
  refine Calls.mono (h w (g.ρ 0) p (ziH g 1 t.length) hheap hown) ?_
  rintro en w' ⟨rfl,hB⟩
  have hsat:∀ b i u,M b i=some u→w'.cell? ⟨b,i,none⟩=some u:=by
   intro b i u hu
   have hc:=hR.sat b i u hu
   have hb:b<w.heap.size:=World.block_lt_of_cell? w ⟨b,i,none⟩ hc
   have e2:(ziH g 1 t.length).ownBlock≠some b:=fun hbe=>by
    obtain ⟨hν,hρ⟩:=zgC g 1 _ _ hbe
    have:=hR.offM 1 (.bb e t) b rfl (by simp [zbj,hν,hρ]) i
    rw [this] at hu;cases hu
   exact (World.cell?_of_block (w:=w) (w':=w') (a:=⟨b,i,none⟩) (hB.block b hb (fun e=>e2 e.symm))).trans hc
  refine ⟨_,g,M,rfl,⟨rfl,rfl,fun i hi=>?_,fun id o ho=>?_,fun id id' o o' b ho ho' hb hb'=>?_,fun id o b ho hb i=>?_,hsat,Mem.le_refl _,fun _ _ _ _=>rfl,hB.size,fun b hb hnb=>?_,fun id o b ho hb=>?_,hB.os,hB.tape,hB.output⟩,fun id hid=>⟨rfl,rfl,rfl⟩⟩
  ·have hi0:i=0:=by simpa using hi
   subst hi0
   exact zyx _ _ _ _
  ·rcases zvs ho with ⟨rfl,rfl⟩|⟨rfl,rfl⟩<;>trivial
  ·rcases zvs ho with ⟨rfl,rfl⟩|⟨rfl,rfl⟩<;>simp [zbj] at hb
  ·rcases zvs ho with ⟨rfl,rfl⟩|⟨rfl,rfl⟩<;>simp [zbj] at hb
  ·exact hB.block b hb (fun hbe=>by
    obtain ⟨hν,hρ⟩:=zgC g 1 _ _ hbe.symm
    exact hnb ⟨1,_,rfl,by simp [zbj,hν,hρ]⟩)
  ·rcases zvs ho with ⟨rfl,rfl⟩|⟨rfl,rfl⟩<;>simp [zbj] at hb
theorem AC.blen {P:Program} {gl:Nat→Option (List PVal)} {f:FuncId} {T e:Nat} {t:List UInt8}
  (h:∀ (w:World) (b:Nat) (p v:Value),w.heap[b]?=some (.cells #[p,v] T (0,0))→(p=.pointer none∨p=.pointer (some ⟨b,0,none⟩))→w.ownsRow 0 e 1 v t.length (zb0 t) →
   Calls P f #[.pointer (some ⟨b,0,none⟩)] w fun en w'=>en=.returned (.int .i64 t.length)∧w'=w) :
  AC P gl f [.ref 0 0] [some (.bh T e 1 t.length),some (.bb e t)] (.pv (.int .i64 t.length)) [some (.bh T e 1 t.length),some (.bb e t)]:=by
 intro w M g vargs hR hG
 have hl:vargs.length=1:=by simpa using hR.size
 match vargs,hl with
 |[x0],_=>
  have h0:V g _ M (.ref 0 0) x0:=hR.slots 0 (by simp)
  obtain ⟨hD,hn0,p,hheap,hp⟩:OR g _ M w 0 (.bh T e 1 t.length):=hR.objs 0 _ rfl
  have hbb:OR g _ M w 1 (.bb e t):=hR.objs 1 _ rfl
  have hown:=zn9 hbb
  cases h0
  refine Calls.mono (h w (g.ρ 0) p (ziH g 1 t.length) hheap hp hown) ?_
  rintro en w' ⟨rfl,rfl⟩
  refine ⟨_,g,M,rfl,⟨rfl,rfl,fun i hi=>?_,hR.objs,hR.apart,hR.offM,hR.sat,hR.M0,hR.Mnew,hR.size0,hR.same,hR.own0,hR.os,hR.tape,hR.output⟩,fun id hid=>⟨rfl,rfl,rfl⟩⟩
  have hi0:i=0:=by simpa using hi
  subst hi0
  exact zBM _ _ _ _ _
theorem zoa (s:List UInt8):Lib.strCells ⟨s.toArray⟩=zb0 s:=by simp [Lib.strCells,zb0]
theorem zgD (a b:List UInt8):zb0 (a++b)=zb0 a++zb0 b:=by simp [zb0]
section
variable {P:Program} {ρ:Ren} {gl:Nat→Option (List PVal)}
theorem AC.bString (L:Lays.n169 P ρ) (X:Builder.Extra P ρ) (t:List UInt8) :
  AC P gl (ρ.f 169) [.ref 0 0] [some (.bh (ρ.t 72) (ρ.t 5) 1 t.length),some (.bb (ρ.t 5) t)] (.pv (.str t)) [some .dead,some .dead]:=
 AC.bstring fun w b p v hbk hown=>Go.Abs.bString L X b p v t w hbk hown
theorem AC.bLen (L:Lays.n170 P ρ) (hne:ρ.t 72≠ρ.t 5) (t:List UInt8) :
  AC P gl (ρ.f 170) [.ref 0 0] [some (.bh (ρ.t 72) (ρ.t 5) 1 t.length),some (.bb (ρ.t 5) t)] (.pv (.int .i64 t.length)) [some (.bh (ρ.t 72) (ρ.t 5) 1 t.length),some (.bb (ρ.t 5) t)]:=
 AC.blen fun w b p v hbk hp hown=>by
  have hb:t.length=(zb0 t).length:=by simp [zb0]
  have hnb:=Lib.ownBlock_ne hown hbk hne
  rw [hb] at hown
  have:=Any.Builder_Len L 0 b (zb0 t) w (hp.elim (fun e=>.inl ⟨Nat.zero_le _,v,e ▸ hbk,hown,hnb⟩) (fun e=>.inr ⟨Nat.zero_le _,v,e ▸ hbk,hown,hnb⟩))
  rw [←hb] at this
  exact this
end
end Go.Abs
namespace Go.Abs
open Go Go.Proofs Go.Shelf Go.RowKit
def zaj (c:UInt8):List UInt8→List (List UInt8)
 |[]=>[[]]
 |x::r=>if x=c then []::zaj c r else match zaj c r with
  |[]=>[[x]]
  |h::t=>(x::h)::t
theorem zbG (c:UInt8):∀ s,zaj c s≠[]
 |[]=>by simp [zaj]
 |x::r=>by
  unfold zaj
  split
  ·simp
  ·split<;>simp
theorem zeC (c:UInt8):∀ s,c ∉ s→zaj c s=[s]
 |[],_=>rfl
 |x::r,h=>by
  have h1:x≠c:=fun e=>h (by simp [e])
  rw [zaj,if_neg h1,zeC c r (fun e=>h (by simp [e]))]
theorem zdd (c:UInt8) (r:List UInt8):∀ a,c ∉ a→zaj c (a++c::r)=a::zaj c r
 |[],_=>by simp [zaj]
 |x::a,h=>by
  have h1:x≠c:=fun e=>h (by simp [e])
  rw [List.cons_append,zaj,if_neg h1,zdd c r a (fun e=>h (by simp [e]))]
theorem zsz (c:UInt8):∀ (n:Nat) (s:ByteArray),s.size≤n→(Lib.splitB ⟨#[c]⟩ 0 (Lib.countB s ⟨#[c]⟩) s).map (fun b=>b.data.toList)=zaj c s.data.toList:=by
 intro n
 induction n with
 |zero=>
  intro s hs
  have e:s.data.toList=[]:=List.eq_nil_of_length_eq_zero (by rw [Array.length_toList];exact Nat.le_zero.1 hs)
  have hi:Lib.indexB s ⟨#[c]⟩=-1:=by
   show Lib.index _ _=_
   rw [e];rfl
  rw [Lib.splitB_miss _ _ _ _ hi,e]
  simp [e,zaj]
 |succ n ih=>
  intro s hs
  have h1:Lib.index s.data.toList [c]=Lib.indexByte s.data.toList c:=Lib.index_one _ _
  have hge:=Lib.indexByte_ge s.data.toList c
  by_cases hm:Lib.indexByte s.data.toList c=-1
  ·have hi:Lib.indexB s ⟨#[c]⟩=-1:=h1.trans hm
   rw [Lib.splitB_miss _ _ _ _ hi]
   have hno:c ∉ s.data.toList:=fun hc=>by
    obtain ⟨k,hk,he⟩:=List.getElem_of_mem hc
    exact Lib.indexByte_none hm k (by rw [List.getElem?_eq_getElem hk,he])
   rw [zeC c _ hno]
   rfl
  ·obtain ⟨i,hi⟩:∃ i:Nat,Lib.indexByte s.data.toList c=i:=⟨(Lib.indexByte s.data.toList c).toNat,by omega⟩
   have hB:Lib.indexB s ⟨#[c]⟩=i:=h1.trans hi
   obtain ⟨hc,hno⟩:=Lib.indexByte_some hi
   obtain ⟨hlt,hce⟩:=List.getElem?_eq_some_iff.1 hc
   rw [Lib.countB_hit s ⟨#[c]⟩ i (Nat.le_refl 1) hB,Nat.add_comm,Lib.splitB_hit _ _ _ _ i hB]
   have hd:s.data.toList=s.data.toList.take i++c::s.data.toList.drop (i+1):=by
    rw [←hce,List.getElem_cons_drop,List.take_append_drop]
   have hnc:c ∉ s.data.toList.take i:=fun hm'=>by
    obtain ⟨k,hk,he⟩:=List.getElem_of_mem hm'
    have hk':k<i:=by simp at hk;omega
    refine hno k hk' ?_
    rw [List.getElem_take] at he
    rw [List.getElem?_eq_getElem (by omega),he]
   conv=>rhs;rw [hd,zdd c _ _ hnc]
   rw [List.map_cons,ih (s.extract (i+(ByteArray.mk #[c]).size) s.size) (by simp [ByteArray.size_extract];have:(ByteArray.mk #[c]).size=1:=rfl;omega)]
   congr 1
   ·simp [ByteArray.data_extract]
   ·rw [Lib.extract_to_end]
    rfl
theorem AC.ofTexts {P:Program} {gl:Nat→Option (List PVal)} {f:FuncId} {ps:List PVal} {us:List (List UInt8)}
  (h:∀ (w:World) (M:Mem) (vs:List Value),vs.length=ps.length→(∀ i,i<ps.length→Rd M (ps.getD i .nilptr) (vs.getD i undef))→(∀ b i u,M b i=some u→w.cell? ⟨b,i,none⟩=some u) →
   GOK ⟨fun _=>none,gl,fun _=>0,0⟩ M→(∀ b cs,gl b=some cs→cs≠[]→∃ vals T l,w.heap[b]?=some (.cells vals T l)∧vals.size=cs.length) →
   Calls P f vs.toArray w fun e w'=>∃ T,e=.returned (.slice (some ⟨w.heap.size,0,none⟩) us.length us.length)∧w'=w.alloc (.cells (us.map fun s=>Value.string ⟨s.toArray⟩).toArray T)) :
  AC P gl f (ps.map .pv) [] (.pv (.slice (us.map fun s=>[.str s]))) []:=by
 intro w M g vargs hR hG
 have hl:vargs.length=ps.length:=by simpa using hR.size
 refine Calls.mono (h w M vargs hl (fun i hi=>?_) hR.sat hG.1 (fun b cs hb hne=>(hG.2 b cs hb hne).2)) ?_
 ·have:=hR.slots i (by simpa using hi)
  have e1:St.slot ⟨ps.map .pv,[]⟩ i=.pv (ps.getD i .nilptr):=by simp [St.slot,List.getD,hi]
  rw [e1] at this
  have e2:vargs.toArray.getD i undef=vargs.getD i undef:=by simp [List.getD]
  rw [←e2]
  exact this.pv_inv
 ·rintro e w' ⟨T,rfl,rfl⟩
  have hoff:∀ i,M w.heap.size i=none:=by
   intro i
   cases hm:M w.heap.size i with
   |none=>rfl
   |some u=>
    have:=World.block_lt_of_cell? w ⟨w.heap.size,i,none⟩ (hR.sat _ i u hm)
    simp at this
  have hx:Ext w (w.alloc (.cells (us.map fun s=>Value.string ⟨s.toArray⟩).toArray T)):=(Below.refl _ w).alloc (Nat.le_refl _) _
  refine ⟨_,g,fun b i=>if b=w.heap.size then (us[i]?).map (fun s=>Value.string ⟨s.toArray⟩) else M b i,rfl,⟨rfl,rfl,fun i hi=>?_,fun id o ho=>by simp [St.obj] at ho,fun id id' o o' b ho=>by simp [St.obj] at ho,fun id o b ho=>by simp [St.obj] at ho,fun b i u hu=>?_,fun b i u hu=>?_,fun b i hb _=>?_,hx.size,fun b hb _=>hx.block b hb,fun id o b ho=>by simp [St.obj] at ho,hx.os,hx.tape,hx.output⟩,fun id hid=>by simp [zaq] at hid⟩
  ·have hi0:i=0:=by simpa using hi
   subst hi0
   have hlen:us.length=(us.map fun s=>[PVal.str s]).length:=by simp
   refine .pv ?_
   have:=Rd.slice (M:=fun b i=>if b=w.heap.size then (us[i]?).map (fun s=>Value.string ⟨s.toArray⟩) else M b i) (us.map fun s=>[PVal.str s]) 1 w.heap.size 0 us.length (fun i _=>Value.string ⟨(us.getD i []).toArray⟩) (fun x hx=>by simp at hx;obtain ⟨s,_,rfl⟩:=hx;rfl) (fun i j hi hj=>?_) (fun i j hi hj=>?_) (by simp)
   ·rw [List.length_map] at this
    exact this
   ·have hj0:j=0:=by omega
    subst hj0
    have hi':i<us.length:=by simpa using hi
    simp [List.getD,hi']
   ·have hj0:j=0:=by omega
    subst hj0
    have hi':i<us.length:=by simpa using hi
    have:zbW (us.map fun s=>[PVal.str s]) i 0=.str (us.getD i []):=by simp [zbW,List.getD,hi']
    rw [this]
    exact .str _
  ·by_cases hb:b=w.heap.size
   ·subst hb
    simp only [if_pos] at hu
    rw [Option.map_eq_some_iff] at hu
    obtain ⟨s,hs,rfl⟩:=hu
    rw [Lib.cell_of_heap (zbu w _)]
    simp [hs]
   ·simp only [if_neg hb] at hu
    exact zpe hx (hR.sat b i u hu)
  ·show (if b=w.heap.size then _ else M b i)=_
   rw [if_neg (fun hb=>by subst hb;have h0:=hoff i;exact absurd (h0.symm.trans hu) (by simp))]
   exact hu
  ·show (if b=w.heap.size then _ else M b i)=_
   rw [if_neg (by have:b<w.heap.size:=hb;omega)]
open Go
structure VarD where
 name:List UInt8
 size:Int
 init:Int
def zat (v:VarD):List PVal:=[.str v.name,.int .i64 v.size,.int .i64 v.init]
inductive Ex where
 |mk (op value:Int) (name:List UInt8) (slot size:Int) (args:List Ex)
def Ex.op:Ex→Int|.mk a _ _ _ _ _=>a
def Ex.value:Ex→Int|.mk _ a _ _ _ _=>a
def Ex.name:Ex→List UInt8|.mk _ _ a _ _ _=>a
def Ex.slot:Ex→Int|.mk _ _ _ a _ _=>a
def Ex.size:Ex→Int|.mk _ _ _ _ a _=>a
def Ex.args:Ex→List Ex|.mk _ _ _ _ _ a=>a
mutual
def zbk:Ex→List PVal
 |.mk op value name slot size args=>[.int .i64 op,.int .i64 value,.str name,.int .i64 slot,.int .i64 size,.slice (zm3 args)]
def zm3:List Ex→List (List PVal)
 |[]=>[]
 |e::r=>zbk e::zm3 r
end
theorem zkD:∀ l:List Ex,zm3 l=l.map zbk
 |[]=>by simp [zm3]
 |e::r=>by simp [zm3,zkD r]
theorem zaC (e:Ex):zbk e=[.int .i64 e.op,.int .i64 e.value,.str e.name,.int .i64 e.slot,.int .i64 e.size,.slice (e.args.map zbk)]:=by
 cases e;simp [zbk,zkD,Ex.op,Ex.value,Ex.name,Ex.slot,Ex.size,Ex.args]
theorem zdr (e:Ex):(zbk e).length=6:=by rw [zaC];rfl
inductive Sm where
 |mk (kind:Int) (name:List UInt8) (slot size:Int) (place value:Ex) (body els:List Sm)
def Sm.kind:Sm→Int|.mk a _ _ _ _ _ _ _=>a
def Sm.name:Sm→List UInt8|.mk _ a _ _ _ _ _ _=>a
def Sm.slot:Sm→Int|.mk _ _ a _ _ _ _ _=>a
def Sm.size:Sm→Int|.mk _ _ _ a _ _ _ _=>a
def Sm.place:Sm→Ex|.mk _ _ _ _ a _ _ _=>a
def Sm.value:Sm→Ex|.mk _ _ _ _ _ a _ _=>a
def Sm.body:Sm→List Sm|.mk _ _ _ _ _ _ a _=>a
def Sm.els:Sm→List Sm|.mk _ _ _ _ _ _ _ a=>a
mutual
def zai:Sm→List PVal
 |.mk kind name slot size place value body els=>[.int .i64 kind,.str name,.int .i64 slot,.int .i64 size]++zbk place++zbk value++[.slice (zkE body),.slice (zkE els)]
def zkE:List Sm→List (List PVal)
 |[]=>[]
 |e::r=>zai e::zkE r
end
theorem zkF:∀ l:List Sm,zkE l=l.map zai
 |[]=>by simp [zkE]
 |e::r=>by simp [zkE,zkF r]
theorem zan (s:Sm):zai s=[.int .i64 s.kind,.str s.name,.int .i64 s.slot,.int .i64 s.size,
  .int .i64 s.place.op,.int .i64 s.place.value,.str s.place.name,.int .i64 s.place.slot,.int .i64 s.place.size,.slice (s.place.args.map zbk),
  .int .i64 s.value.op,.int .i64 s.value.value,.str s.value.name,.int .i64 s.value.slot,.int .i64 s.value.size,.slice (s.value.args.map zbk),
  .slice (s.body.map zai),.slice (s.els.map zai)]:=by
 cases s;simp [zai,zkF,zaC,Sm.kind,Sm.name,Sm.slot,Sm.size,Sm.place,Sm.value,Sm.body,Sm.els]
theorem zhJ (s:Sm):(zai s).length=18:=by rw [zan];rfl
abbrev mx:=zgs
mutual
def szE:Ex→Nat
 |.mk _ _ _ _ _ args=>1+zlE args
def zlE:List Ex→Nat
 |[]=>0
 |e::r=>szE e+zlE r
end
theorem zgV (e:Ex):szE e=1+zlE e.args:=by cases e;rfl
theorem zbx (e:Ex):1≤szE e:=by rw [zgV];omega
theorem zdJ:∀ l:List Ex,l.length≤zlE l
 |[]=>by simp
 |e::r=>by have:=zdJ r;have:=zbx e;simp only [zlE,List.length_cons];omega
theorem zcB:∀ (l:List Ex) (e:Ex),e ∈ l→szE e≤zlE l
 |[],_,h=>by cases h
 |x::r,e,h=>by
  simp only [zlE]
  rcases List.mem_cons.1 h with rfl|h
  ·omega
  ·have:=zcB r e h;omega
mutual
def szS:Sm→Nat
 |.mk _ _ _ _ place value body els=>1+szE place+szE value+zbT body+zbT els
def zbT:List Sm→Nat
 |[]=>0
 |e::r=>szS e+zbT r
end
theorem zed (s:Sm):szS s=1+szE s.place+szE s.value+zbT s.body+zbT s.els:=by cases s;rfl
theorem zde (s:Sm):1≤szS s:=by rw [zed];omega
theorem zbY:∀ l:List Sm,l.length≤zbT l
 |[]=>by simp
 |e::r=>by have:=zbY r;have:=zde e;simp only [zbT,List.length_cons];omega
theorem za1:∀ (l:List Sm) (e:Sm),e ∈ l→szS e≤zbT l
 |[],_,h=>by cases h
 |x::r,e,h=>by
  simp only [zbT]
  rcases List.mem_cons.1 h with rfl|h
  ·omega
  ·have:=za1 r e h;omega
mutual
def zgl:Ex→Int
 |.mk _ _ _ _ _ args=>1+zds 0 args
def zds:Int→List Ex→Int
 |d,[]=>d
 |d,e::r=>zds (mx d (zgl e)) r
end
theorem zsQ (e:Ex):zgl e=1+zds 0 e.args:=by cases e;rfl
mutual
theorem zvU:∀ e:Ex,1≤zgl e
 |.mk _ _ _ _ _ args=>by simp only [zgl];have:=zin 0 args;omega
theorem zin:∀ (d:Int) (l:List Ex),d≤zds d l
 |d,[]=>by simp [zds]
 |d,e::r=>by
  have h1:=zin (mx d (zgl e)) r
  have h2:d≤mx d (zgl e):=by unfold mx zgs;split<;>omega
  simp only [zds];omega
end
theorem zhr (x:Ex):∀ (l:List Ex) (d:Int),zds d (l++[x])=mx (zds d l) (zgl x)
 |[],d=>by simp [zds]
 |e::r,d=>by simp only [List.cons_append,zds];exact zhr x r _
mutual
def zpt:Sm→Int
 |.mk _ _ _ _ place value body els=>1+mx (mx (mx (zgl place) (zgl value)) (zbE 0 body)) (zbE 0 els)
def zbE:Int→List Sm→Int
 |d,[]=>d
 |d,s::r=>zbE (mx d (zpt s)) r
end
theorem zoe (s:Sm):zpt s=1+mx (mx (mx (zgl s.place) (zgl s.value)) (zbE 0 s.body)) (zbE 0 s.els):=by cases s;rfl
theorem zhs (x:Sm):∀ (l:List Sm) (d:Int),zbE d (l++[x])=mx (zbE d l) (zpt x)
 |[],d=>by simp [zbE]
 |e::r,d=>by simp only [List.cons_append,zbE];exact zhs x r _
theorem zCg (x y:Int):x≤mx x y:=by unfold mx zgs;split<;>omega
theorem zGx (x y:Int):y≤mx x y:=by unfold mx zgs;split<;>omega
theorem zpu (s:Sm):1≤zpt s:=by
 rw [zoe]
 have h1:=zvU s.place
 have h2:=zCg (zgl s.place) (zgl s.value)
 have h3:=zCg (mx (zgl s.place) (zgl s.value)) (zbE 0 s.body)
 have h4:=zCg (mx (mx (zgl s.place) (zgl s.value)) (zbE 0 s.body)) (zbE 0 s.els)
 omega
mutual
theorem zjm:∀ e:Ex,zgl e≤szE e
 |.mk _ _ _ _ _ args=>by simp only [zgl,szE];have:=zpv 0 args;unfold mx zgs at this;split at this<;>omega
theorem zpv:∀ (d:Int) (l:List Ex),zds d l≤mx d (zlE l)
 |d,[]=>by simp only [zds,zlE];exact zCg _ _
 |d,e::r=>by
  have h1:=zpv (mx d (zgl e)) r
  have h2:=zjm e
  simp only [zds,zlE]
  unfold mx zgs at *
  split at h1<;>split at h1<;>split<;>omega
end
mutual
theorem zof:∀ s:Sm,zpt s≤szS s
 |.mk _ _ _ _ place value body els=>by
  have h1:=zjm place
  have h2:=zjm value
  have h3:=zlF 0 body
  have h4:=zlF 0 els
  have p1:=zbx place
  simp only [zpt,szS]
  generalize zgl place=a at *
  generalize zgl value=b at *
  generalize zbE 0 body=c at *
  generalize zbE 0 els=d at *
  unfold mx zgs at *
  split at h3<;>split at h4<;>(repeat' split)<;>omega
theorem zlF:∀ (d:Int) (l:List Sm),zbE d l≤mx d (zbT l)
 |d,[]=>by simp only [zbE,zbT];exact zCg _ _
 |d,e::r=>by
  have h1:=zlF (mx d (zpt e)) r
  have h2:=zof e
  simp only [zbE,zbT]
  generalize zbE (mx d (zpt e)) r=q at *
  unfold mx zgs at *
  split at h1<;>split at h1<;>split<;>omega
end
open Go
def zdf (n:Int):Bool:=(decide (n≥97)&&decide (n≤122)) || (decide (n≥65)&&decide (n≤90)) || n==95
def zcU (n:Int):Bool:=decide (n≥48)&&decide (n≤57)
def isW (c:UInt8):Bool:=zdf c.toNat || zcU c.toNat
def zvV (s:List UInt8) (a:Nat):Nat:=a+((s.drop a).takeWhile isW).length
def zsR (s:List UInt8):Bool:=s==[118,97,114] || s==[97,114,114,97,121] || s==[111,110] || s==[115,116,97,114,116] || s==[109,101,115,115,97,103,101] || s==[116,105,99,107] || s==[105,110,112,117,116] || s==[105,102] || s==[101,108,115,101] || s==[119,104,105,108,101] || s==[115,101,110,100] || s==[111,117,116,112,117,116] || s==[115,101,108,102] || s==[112,114,111,99,115] || s==[102,114,111,109] || s==[118,97,108,117,101]
def zd0 (s:List UInt8):Bool:=!(s==[] || decide ((s.length:Int) > 16) || !zdf (s.getD 0 0).toNat)&&(((zvV s 0:Nat):Int)==(s.length:Int)&&!zsR s)
structure PgD where
 vars:List VarD
 start:List Sm
 message:List Sm
 tick:List Sm
 input:List Sm
def pgA (p:PgD):AVal:=.agg [.pv (.slice (p.vars.map zat)),.pv (.slice (p.start.map zai)),.pv (.slice (p.message.map zai)),.pv (.slice (p.tick.map zai)),.pv (.slice (p.input.map zai))]
def szP (p:PgD):Nat:=zbT p.start+zbT p.message+zbT p.tick+zbT p.input+p.vars.length
def zuf (p:PgD):Int:=mx (mx (mx (zbE 0 p.start) (zbE 0 p.message)) (zbE 0 p.tick)) (zbE 0 p.input)
def zcV (v:VarD):Bool:=if !zd0 v.name || decide (v.size<0) then false else if v.size != 0&&v.init != 0 then false else v.init != -9223372036854775808
def zcW (g:List Sm→Bool) (p:PgD):Int:=
 if zuf p > 16 then 6 else if p.vars.any (fun v=>!zcV v) then 7 else if !g p.start || !g p.message || !g p.tick || !g p.input then 7 else 0
theorem zjn (s:List UInt8) (h:16<s.length):zd0 s=false:=by
 have:(s.length:Int) > 16:=by omega
 simp [zd0,this]
def zm4 (op:Int):Int:=if op<1∨op > 22 then -1 else if op≥10 then 2 else if op=3∨op=8∨op=9 then 1 else 0
def zdt (name:List UInt8) (m:Bool):Bool:=if m then zd0 name else name==[]
def zm5 (e:Ex):Bool:=e.op==0&&e.value==0&&e.name==[]&&e.slot==0&&e.size==0&&e.args.length==0
def zhK (op value:Int) (name:List UInt8) (slot size:Int) (n:Nat):Bool:=
 zm4 op==(n:Int)&&slot==0&&size==0&&!(decide (value<0) || (value != 0&&op != 1))&&zdt name (op==2 || op==3)
mutual
def zee:Ex→Bool
 |.mk op value name slot size args=>zhK op value name slot size args.length&&zdg args
def zdg:List Ex→Bool
 |[]=>true
 |e::r=>zee e&&zdg r
end
theorem zm6 (e:Ex):zee e=(zhK e.op e.value e.name e.slot e.size e.args.length&&zdg e.args):=by cases e;simp [zee,Ex.op,Ex.value,Ex.name,Ex.slot,Ex.size,Ex.args]
def zm7 (kind:Int) (name:List UInt8) (slot size:Int) (place:Ex) (nb ne:Nat):Bool:=
 decide (kind≥1)&&decide (kind≤6)&&slot==0&&size==0&&zdt name (kind==1 || kind==2) &&
 (if kind==2 || kind==5 then zee place else zm5 place)&&!(decide (nb > 0)&&kind != 3&&kind != 4)&&!(decide (ne > 0)&&kind != 3)
mutual
def zhL:Sm→Bool
 |.mk kind name slot size place value body els=>zm7 kind name slot size place body.length els.length&&(zee value&&zaT body&&zaT els)
def zaT:List Sm→Bool
 |[]=>true
 |e::r=>zhL e&&zaT r
end
theorem zm8 (s:Sm):zhL s=(zm7 s.kind s.name s.slot s.size s.place s.body.length s.els.length&&(zee s.value&&zaT s.body&&zaT s.els)):=by cases s;simp [zhL,Sm.kind,Sm.name,Sm.slot,Sm.size,Sm.place,Sm.value,Sm.body,Sm.els]
theorem zog (a b:Nat):((a:Int)==(b:Int))=(a==b):=Bool.eq_iff_iff.mpr (by simp only [beq_iff_eq];omega)
theorem zFV {a b:Int} (h:¬ a=b):(a==b)=false:=by simpa using h
open Go
structure TkD where
 kind:Int
 text:List UInt8
 value:Int
 pos:Int
def zfk (t:TkD):List PVal:=[.int .i64 t.kind,.str t.text,.int .i64 t.value,.int .i64 t.pos]
def tk0:TkD:=⟨0,[],0,0⟩
def zbM (p:UInt8→Bool) (s:List UInt8) (a:Nat):Nat:=a+((s.drop a).takeWhile p).length
theorem zgW (p:UInt8→Bool) (s:List UInt8) (a:Nat) (h:s.length≤a):zbM p s a=a:=by
 simp [zbM,List.drop_eq_nil_of_le h]
theorem zcf (p:UInt8→Bool) (s:List UInt8) (a:Nat) (h:a<s.length):zbM p s a=if p (s.getD a 0) then zbM p s (a+1) else a:=by
 unfold zbM
 rw [List.drop_eq_getElem_cons h,List.takeWhile_cons]
 have:s.getD a 0=s[a]:=by simp [List.getD,h]
 rw [this]
 split
 ·simp;omega
 ·simp
theorem zfl (p:UInt8→Bool) (s:List UInt8) (a:Nat):a≤zbM p s a:=by unfold zbM;omega
theorem zht (p:UInt8→Bool) (s:List UInt8) (a:Nat) (h:a≤s.length):zbM p s a≤s.length:=by
 unfold zbM
 have h1:((s.drop a).takeWhile p).length≤(s.drop a).length:=(List.takeWhile_sublist p).length_le
 simp at h1
 omega
theorem zsS (s:List UInt8) (a:Nat):zvV s a=zbM isW s a:=rfl
def isD (c:UInt8):Bool:=zcU c.toNat
def isL (c:UInt8):Bool:=zdf c.toNat
def zbL (c:UInt8):Bool:=c != 10
def isB (c:UInt8):Bool:=c==9 || c==10 || c==13 || c==32
def cut (s:List UInt8) (a b:Nat):List UInt8:=(s.take b).drop a
def zhu:List UInt8→Nat→Nat
 |[],acc=>acc
 |c::r,acc=>zhu r (acc * 10+(c.toNat - 48))
def zba (l:List UInt8):Nat:=zhu l 0
theorem zoh:∀ (l:List UInt8) (acc:Nat),acc≤zhu l acc
 |[],acc=>by rw [zhu];omega
 |c::r,acc=>by have:=zoh r (acc * 10+(c.toNat - 48));rw [zhu];omega
theorem zcC {c:UInt8} (h:isD c=true):48≤c.toNat∧c.toNat≤57:=by
 unfold isD zcU at h
 rw [Bool.and_eq_true,decide_eq_true_eq,decide_eq_true_eq] at h
 omega
theorem zew (acc:Nat) (c:UInt8) (r:List UInt8):zhu (c::r) acc=zhu r (acc * 10+(c.toNat - 48)):=by rw [zhu]
theorem zeG (M:Nat) (hM:M<18446744073709551620):∀ (l:List UInt8) (acc:Nat),(∀ c ∈ l,isD c=true)→acc≤M→Lib.parseUintM M acc l=if zhu l acc≤M then .ok (zhu l acc) else .range
 |[],acc,_,h=>by rw [Lib.parseUintM,zhu,if_pos h]
 |c::r,acc,hd,h=>by
  have hc:=zcC (hd c List.mem_cons_self)
  have hge:=zoh r (acc * 10+(c.toNat - 48))
  rw [Lib.parseUintM,zew,if_pos hc]
  have ih:=zeG M hM r (acc * 10+(c.toNat - 48)) (fun x hx=>hd x (List.mem_cons_of_mem _ hx))
  generalize hq:acc * 10+(c.toNat - 48)=q at *
  by_cases h1:1844674407370955162≤acc
  ·rw [if_pos h1,if_neg (by omega)]
  ·rw [if_neg h1]
   by_cases h2:M<q
   ·rw [if_pos h2,if_neg (by omega)]
   ·rw [if_neg h2]
    exact ih (by omega)
theorem zgm (l:List UInt8) (h0:l≠[]) (hd:∀ c ∈ l,isD c=true):Lib.parseIntB 64 l=if zba l<9223372036854775808 then .ok (zba l:Int) else .range:=by
 cases l with
 |nil=>exact absurd rfl h0
 |cons c r=>
  have hc:=zcC (hd c (by simp))
  have e1:¬ (c.toNat=43∨c.toNat=45):=by omega
  have e2:¬ c.toNat=45:=by omega
  have hp:=zeG 18446744073709551615 (by omega) (c::r) 0 hd (by omega)
  simp only [Lib.parseIntB,if_neg e1,Lib.parseUintB]
  rw [if_neg (by simp),show (2 ^ 64 - 1:Nat)=18446744073709551615 from rfl,hp]
  have hv0:zhu (c::r) 0=zba (c::r):=rfl
  rw [hv0]
  generalize zba (c::r)=v
  by_cases h1:v≤18446744073709551615
  ·rw [if_pos h1]
   by_cases h2:v<9223372036854775808
   ·rw [if_pos h2]
    simp only [e2]
    rw [if_neg (by simp;omega),if_neg (by simp)]
    simp
   ·rw [if_neg h2]
    simp only [e2]
    rw [if_pos (by simp;omega)]
  ·rw [if_neg h1,if_neg (by omega)]
def zct (c n:Int):Int:=
 if c==61 || c==33 || c==60 || c==62 then (if n==61 then 2 else 1)
 else if c==40 || c==41 || c==123 || c==125 || c==91 || c==93 || c==44 || c==59 || c==43 || c==45 || c==42 || c==47 || c==37 then 1
 else if (c==38 || c==124)&&n==c then 2 else 0
def zcX (s:List UInt8) (a:Nat):Int:=if a+1<s.length then ((s.getD (a+1) 0).toNat:Int) else 0
def za7 (s:List UInt8) (a:Nat):Nat:=if s.getD a 0=48 then a+1 else zbM isD s (a+1)
def znJ (s:List UInt8) (a:Nat):TkD × Int × Int:=
 if zbM isW s (za7 s a) > za7 s a then (tk0,0,1)
 else if zba (cut s a (za7 s a))<9223372036854775808 then (⟨2,[],zba (cut s a (za7 s a)),a⟩,za7 s a,0) else (tk0,0,3)
def zcp (s:List UInt8) (a:Nat):TkD × Int × Int:=
 if isL (s.getD a 0) then (if zbM isW s a - a > 16 then (tk0,0,5) else (⟨1,cut s a (zbM isW s a),0,a⟩,zbM isW s a,0))
 else if isD (s.getD a 0) then znJ s a
 else if zct (s.getD a 0).toNat (zcX s a)=0 then (tk0,0,1)
 else (⟨3,cut s a (a+(zct (s.getD a 0).toNat (zcX s a)).toNat),0,a⟩,a+zct (s.getD a 0).toNat (zcX s a),0)
theorem zlG (c n:Int):0≤zct c n∧zct c n≤2:=by
 unfold zct
 repeat' split
 all_goals omega
theorem zjo (s:List UInt8) (a:Nat) (h:a<s.length):a<za7 s a∧za7 s a≤s.length:=by
 unfold za7
 split
 ·omega
 ·have:=zfl isD s (a+1);have:=zht isD s (a+1) (by omega);omega
theorem zvW {c n:Int} (h:zct c n=2):n=61∨n=38∨n=124:=by
 unfold zct at h
 grind
theorem zio (s:List UInt8) (a:Nat) (h:a<s.length) (h0:(zcp s a).2.2=0):∃ e:Nat,(zcp s a).2.1=e∧a<e∧e≤s.length:=by
 unfold zcp at h0 ⊢
 split
 ·rename_i hl
  rw [if_pos hl] at h0
  have hW:isW (s.getD a 0)=true:=by simp [isW];exact .inl hl
  have h1:=zcf isW s a h
  rw [hW,if_pos rfl] at h1
  have h2:=zfl isW s (a+1)
  have h3:=zht isW s a (by omega)
  split
  ·rename_i h16;rw [if_pos h16] at h0;simp at h0
  ·exact ⟨_,rfl,by omega,h3⟩
 ·rename_i hl
  rw [if_neg hl] at h0
  split
  ·rename_i hd
   rw [if_pos hd] at h0
   unfold znJ at h0 ⊢
   have h1:=zjo s a h
   split
   ·rename_i hw;rw [if_pos hw] at h0;simp at h0
   ·rename_i hw
    rw [if_neg hw] at h0
    split
    ·exact ⟨_,rfl,h1.1,h1.2⟩
    ·rename_i hv;rw [if_neg hv] at h0;simp at h0
  ·rename_i hd
   rw [if_neg hd] at h0
   split
   ·rename_i hs;rw [if_pos hs] at h0;simp at h0
   ·rename_i hs
    have h1:=zlG (s.getD a 0).toNat (zcX s a)
    refine ⟨a+(zct (s.getD a 0).toNat (zcX s a)).toNat,by show (a:Int)+zct _ _=_;omega,by omega,?_⟩
    by_cases h2:zct (s.getD a 0).toNat (zcX s a)=2
    ·have h3:=zvW h2
     have:a+1<s.length:=by
      by_cases h4:a+1<s.length
      ·exact h4
      ·simp [zcX,h4] at h3
     omega
    ·omega
def zcL (s:List UInt8):Nat→Nat→List TkD→List TkD × Int × Int
 |0,_,acc=>(acc,0,0)
 |f+1,a,acc=>
  if a<s.length then
   if isB (s.getD a 0) then zcL s f (a+1) acc
   else if s.getD a 0=35 then zcL s f (zbM zbL s a) acc
   else if (zcp s a).2.2=0 then zcL s f (zcp s a).2.1.toNat (acc++[(zcp s a).1])
   else ([],a,(zcp s a).2.2)
  else (acc,0,0)
def zgX (s:List UInt8):List TkD × Int × Int:=if s.length > 4096 then ([],0,5) else zcL s (s.length+1) 0 []
inductive PR (α:Type) where
 |ok (a:α) (k:Nat)
 |bad (k:Nat)
 |out
def PR.bind {α β:Type} (r:PR α) (f:α→Nat→PR β):PR β:=
 match r with
 |.ok a k=>f a k
 |.bad k=>.bad k
 |.out=>.out
section
variable (l:List TkD)
def zbF (k:Nat):List UInt8:=if k<l.length then (l.getD k tk0).text else []
def isT (k:Nat) (s:List UInt8):Bool:=zbF l k==s
def zaU (s:List UInt8) (k:Nat):PR Unit:=if isT l k s then .ok () (k+1) else .bad k
def zdz (k:Nat):PR (List UInt8):=if k<l.length∧(l.getD k tk0).kind=1∧zd0 (l.getD k tk0).text=true then .ok (l.getD k tk0).text (k+1) else .bad k
def nmF (least:Int) (k:Nat):PR Int:=if k<l.length∧(l.getD k tk0).kind=2∧least≤(l.getD k tk0).value then .ok (l.getD k tk0).value (k+1) else .bad k
def zd6 (k:Nat):Bool:=decide (k<l.length)&&(l.getD k tk0).kind==2
def opF (lv:Nat) (s:List UInt8):Nat:=
 if lv=0 then (if s==[124,124] then 22 else 0)
 else if lv=1 then (if s==[38,38] then 21 else 0)
 else if lv=2 then (if s==[60] then 15 else if s==[60,61] then 16 else if s==[62] then 17 else if s==[62,61] then 18 else if s==[61,61] then 19 else if s==[33,61] then 20 else 0)
 else if lv=3 then (if s==[43] then 10 else if s==[45] then 11 else 0)
 else if lv=4 then (if s==[42] then 12 else if s==[47] then 13 else if s==[37] then 14 else 0)
 else 0
def exK (op:Int):Ex:=.mk op 0 [] 0 0 []
def exC (v:Int):Ex:=.mk 1 v [] 0 0 []
def exN (nm:List UInt8):Ex:=.mk 2 0 nm 0 0 []
def exI (nm:List UInt8) (e:Ex):Ex:=.mk 3 0 nm 0 0 [e]
def exU (op:Int) (e:Ex):Ex:=.mk op 0 [] 0 0 [e]
def exB (op:Int) (a b:Ex):Ex:=.mk op 0 [] 0 0 [a,b]
def exZ:Ex:=exK 0
inductive Nt where
 |bin (lv:Nat)
 |loop (lv:Nat) (e:Ex)
 |un
 |prim
def exF:Nat→Nt→Nat→PR Ex
 |0,_,_=>.out
 |n+1,.bin lv,k=>if lv=5 then exF n .un k else (exF n (.bin (lv+1)) k).bind fun e k'=>exF n (.loop lv e) k'
 |n+1,.loop lv e,k=>if opF lv (zbF l k)=0 then .ok e k else (exF n (.bin (lv+1)) (k+1)).bind fun e2 k2=>exF n (.loop lv (exB (opF lv (zbF l k)) e e2)) k2
 |n+1,.un,k=>
  if isT l k [45] then (exF n .un (k+1)).bind fun e k'=>.ok (exU 8 e) k'
  else if isT l k [33] then (exF n .un (k+1)).bind fun e k'=>.ok (exU 9 e) k'
  else exF n .prim k
 |n+1,.prim,k=>
  if zd6 l k then (nmF l 0 k).bind fun v k'=>.ok (exC v) k'
  else if isT l k [115,101,108,102] then .ok (exK 4) (k+1)
  else if isT l k [112,114,111,99,115] then .ok (exK 5) (k+1)
  else if isT l k [102,114,111,109] then .ok (exK 6) (k+1)
  else if isT l k [118,97,108,117,101] then .ok (exK 7) (k+1)
  else if isT l k [40] then (exF n (.bin 0) (k+1)).bind fun e k'=>(zaU l [41] k').bind fun _ k2=>.ok e k2
  else (zdz l k).bind fun nm k1=>if isT l k1 [91] then (exF n (.bin 0) (k1+1)).bind fun e k'=>(zaU l [93] k').bind fun _ k2=>.ok (exI nm e) k2 else .ok (exN nm) k1
def zbl (k:Nat):PR Ex:=exF l (9 * l.length+20) (.bin 0) k
inductive Ns where
 |block
 |stmts (acc:List Sm)
 |stmt
def smE (kind:Int) (nm:List UInt8) (place value:Ex) (body els:List Sm):Sm:=.mk kind nm 0 0 place value body els
def smF:Nat→Ns→Nat→PR (List Sm)
 |0,_,_=>.out
 |n+1,.block,k=>(zaU l [123] k).bind fun _ k1=>smF n (.stmts []) k1
 |n+1,.stmts acc,k=>if isT l k [125] then .ok acc (k+1) else (smF n .stmt k).bind fun s k1=>smF n (.stmts (acc++s)) k1
 |n+1,.stmt,k=>
  if isT l k [105,102] then (zbl l (k+1)).bind fun e k1=>(smF n .block k1).bind fun b k2=>if isT l k2 [101,108,115,101] then (smF n .block (k2+1)).bind fun c k3=>.ok [smE 3 [] exZ e b c] k3 else .ok [smE 3 [] exZ e b []] k2
  else if isT l k [119,104,105,108,101] then (zbl l (k+1)).bind fun e k1=>(smF n .block k1).bind fun b k2=>.ok [smE 4 [] exZ e b []] k2
  else if isT l k [115,101,110,100] then (zbl l (k+1)).bind fun p k1=>(zaU l [44] k1).bind fun _ k2=>(zbl l k2).bind fun e k3=>(zaU l [59] k3).bind fun _ k4=>.ok [smE 5 [] p e [] []] k4
  else if isT l k [111,117,116,112,117,116] then (zbl l (k+1)).bind fun e k1=>(zaU l [59] k1).bind fun _ k2=>.ok [smE 6 [] exZ e [] []] k2
  else (zdz l k).bind fun nm k1=>
   if isT l k1 [91] then (zbl l (k1+1)).bind fun p k2=>(zaU l [93] k2).bind fun _ k3=>(zaU l [61] k3).bind fun _ k4=>(zbl l k4).bind fun e k5=>(zaU l [59] k5).bind fun _ k6=>.ok [smE 2 nm p e [] []] k6
   else (zaU l [61] k1).bind fun _ k4=>(zbl l k4).bind fun e k5=>(zaU l [59] k5).bind fun _ k6=>.ok [smE 1 nm exZ e [] []] k6
def zbr (k:Nat):PR (List Sm):=smF l (3 * l.length+20) .block k
def zlH (k:Nat):PR Int:=if isT l k [61] then (if isT l (k+1) [45] then (nmF l 0 (k+2)).bind fun v k'=>.ok (-v) k' else nmF l 0 (k+1)) else .ok 0 k
def zhM:Nat→List VarD→Nat→PR (List VarD)
 |0,_,_=>.out
 |n+1,acc,k=>
  if isT l k [118,97,114] then (zdz l (k+1)).bind fun nm k1=>(zlH l k1).bind fun v k2=>(zaU l [59] k2).bind fun _ k3=>zhM n (acc++[⟨nm,0,v⟩]) k3
  else if isT l k [97,114,114,97,121] then (zdz l (k+1)).bind fun nm k1=>(zaU l [91] k1).bind fun _ k2=>(nmF l 1 k2).bind fun v k3=>(zaU l [93] k3).bind fun _ k4=>(zaU l [59] k4).bind fun _ k5=>zhM n (acc++[⟨nm,v,0⟩]) k5
  else .ok acc k
structure Seen where
 s:Bool
 m:Bool
 t:Bool
 i:Bool
def zip:Nat→PgD→Seen→Nat→PR PgD
 |0,_,_,_=>.out
 |n+1,p,z,k=>
  if k<l.length then (zaU l [111,110] k).bind fun _ k1=>
   if !z.s&&isT l k1 [115,116,97,114,116] then (zbr l (k1+1)).bind fun b k2=>zip n { p with start:=b } { z with s:=true } k2
   else if !z.m&&isT l k1 [109,101,115,115,97,103,101] then (zbr l (k1+1)).bind fun b k2=>zip n { p with message:=b } { z with m:=true } k2
   else if !z.t&&isT l k1 [116,105,99,107] then (zbr l (k1+1)).bind fun b k2=>zip n { p with tick:=b } { z with t:=true } k2
   else if !z.i&&isT l k1 [105,110,112,117,116] then (zbr l (k1+1)).bind fun b k2=>zip n { p with input:=b } { z with i:=true } k2
   else .bad k1
  else .ok p k
def zjp:PR PgD:=(zhM l (l.length+1) [] 0).bind fun vs k=>zip l (l.length+1) ⟨vs,[],[],[],[]⟩ ⟨false,false,false,false⟩ k
def zar (n:Nat) (k:Nat):Int:=if k<l.length then (l.getD k tk0).pos else n
end
end Go.Abs
namespace Go.Abs
open Go
def PR.on {α:Type} (r:PR α) (k n:Nat):Prop:=match r with|.ok _ k'=>k≤k'∧k'≤n|.bad k'=>k≤k'∧k'≤n|.out=>True
def PR.past {α:Type} (r:PR α) (k n:Nat):Prop:=match r with|.ok _ k'=>k<k'∧k'≤n|.bad k'=>k≤k'∧k'≤n|.out=>True
theorem PR.past.on {α:Type} {r:PR α} {k n:Nat} (h:r.past k n):r.on k n:=by
 cases r<;>simp only [PR.past,PR.on] at *<;>omega
theorem PR.on.le {α:Type} {r:PR α} {k k0 n:Nat} (h:r.on k n) (hk:k0≤k):r.on k0 n:=by
 cases r<;>simp only [PR.on] at *<;>omega
theorem PR.on.lt {α:Type} {r:PR α} {k k0 n:Nat} (h:r.on k n) (hk:k0<k):r.past k0 n:=by
 cases r<;>simp only [PR.past,PR.on] at *<;>omega
theorem PR.on.bind {α β:Type} {r:PR α} {f:α→Nat→PR β} {k n:Nat} (h:r.on k n) (hf:∀ a k',k≤k'→k'≤n→(f a k').on k' n):(r.bind f).on k n:=by
 cases r with
 |ok a k'=>simp only [PR.on,PR.bind] at *;exact PR.on.le (hf a k' h.1 h.2) h.1
 |bad k'=>exact h
 |out=>trivial
theorem PR.past.bind {α β:Type} {r:PR α} {f:α→Nat→PR β} {k n:Nat} (h:r.past k n) (hf:∀ a k',k<k'→k'≤n→(f a k').on k' n):(r.bind f).past k n:=by
 cases r with
 |ok a k'=>simp only [PR.past,PR.bind] at *;exact PR.on.lt (hf a k' h.1 h.2) h.1
 |bad k'=>exact h
 |out=>trivial
theorem PR.ok_on {α:Type} (a:α) {k n:Nat} (h:k≤n):(PR.ok a k).on k n:=⟨Nat.le_refl _,h⟩
section
variable {l:List TkD}
theorem zau {k:Nat} {s:List UInt8} (h:isT l k s=true) (hs:s≠[]):k<l.length:=by
 unfold isT zbF at h
 by_cases hk:k<l.length
 ·exact hk
 ·rw [if_neg hk] at h
  exact absurd (by simpa using h:([]:List UInt8)=s).symm hs
theorem zav {s:List UInt8} {k:Nat} (hk:k≤l.length) (hs:s≠[]):(zaU l s k).past k l.length:=by
 unfold zaU
 split
 ·rename_i h;have:=zau h hs;exact ⟨by omega,by omega⟩
 ·exact ⟨Nat.le_refl _,hk⟩
theorem za6 {k:Nat} (hk:k≤l.length):(zdz l k).past k l.length:=by
 unfold zdz
 split
 ·rename_i h;exact ⟨by omega,by omega⟩
 ·exact ⟨Nat.le_refl _,hk⟩
theorem zdK {z:Int} {k:Nat} (hk:k≤l.length):(nmF l z k).past k l.length:=by
 unfold nmF
 split
 ·rename_i h;exact ⟨by omega,by omega⟩
 ·exact ⟨Nat.le_refl _,hk⟩
theorem zhN {lv k:Nat} (h:¬ opF lv (zbF l k)=0):k<l.length:=by
 by_cases hk:k<l.length
 ·exact hk
 ·exfalso
  apply h
  unfold zbF
  rw [if_neg hk]
  unfold opF
  repeat' split
  all_goals first|rfl|simp_all
def Nt.strict:Nt→Bool
 |.loop _ _=>false
 |_=>true
theorem zcq:∀ (n:Nat) (nt:Nt) (k:Nat),k≤l.length→(exF l n nt k).on k l.length∧(nt.strict=true→(exF l n nt k).past k l.length)
 |0,nt,k,hk=>by constructor<;>intros<;>(unfold exF;trivial)
 |n+1,.bin lv,k,hk=>by
  have h:(exF l (n+1) (.bin lv) k).past k l.length:=by
   unfold exF
   split
   ·exact (zcq n .un k hk).2 rfl
   ·exact PR.past.bind ((zcq n (.bin (lv+1)) k hk).2 rfl) (fun e k' _ h2=>(zcq n (.loop lv e) k' h2).1)
  exact ⟨h.on,fun _=>h⟩
 |n+1,.loop lv e,k,hk=>by
  refine ⟨?_,fun h=>by cases h⟩
  unfold exF
  split
  ·exact PR.ok_on _ hk
  ·rename_i h
   have:=zhN h
   exact PR.on.le (PR.on.bind (zcq n (.bin (lv+1)) (k+1) (by omega)).1 (fun e2 k2 _ h2=>(zcq n _ k2 h2).1)) (by omega)
 |n+1,.un,k,hk=>by
  have h:(exF l (n+1) .un k).past k l.length:=by
   unfold exF
   split
   ·rename_i h
    have:=zau h (by simp)
    exact PR.on.lt (PR.on.bind (zcq n .un (k+1) (by omega)).1 (fun e k' _ h2=>PR.ok_on _ h2)) (by omega)
   ·split
    ·rename_i h
     have:=zau h (by simp)
     exact PR.on.lt (PR.on.bind (zcq n .un (k+1) (by omega)).1 (fun e k' _ h2=>PR.ok_on _ h2)) (by omega)
    ·exact (zcq n .prim k hk).2 rfl
  exact ⟨h.on,fun _=>h⟩
 |n+1,.prim,k,hk=>by
  have one:∀ {s:List UInt8} {e:Ex},isT l k s=true→s≠[]→(PR.ok e (k+1)).past k l.length:=fun h hs=>⟨by omega,by have:=zau h hs;omega⟩
  have h:(exF l (n+1) .prim k).past k l.length:=by
   unfold exF
   split
   ·exact PR.past.bind (zdK hk) (fun v k' _ h2=>PR.ok_on _ h2)
   split
   ·exact one ‹_› (by simp)
   split
   ·exact one ‹_› (by simp)
   split
   ·exact one ‹_› (by simp)
   split
   ·exact one ‹_› (by simp)
   split
   ·rename_i h
    have:=zau h (by simp)
    exact PR.on.lt (PR.on.bind (zcq n (.bin 0) (k+1) (by omega)).1 (fun e k' _ h2=>PR.on.bind (zav h2 (by simp)).on (fun _ k2 _ h3=>PR.ok_on _ h3))) (by omega)
   ·refine PR.past.bind (za6 hk) (fun nm k1 _ h1=>?_)
    split
    ·rename_i h
     have:=zau h (by simp)
     exact PR.on.le (PR.on.bind (zcq n (.bin 0) (k1+1) (by omega)).1 (fun e k' _ h2=>PR.on.bind (zav h2 (by simp)).on (fun _ k2 _ h3=>PR.ok_on _ h3))) (by omega)
    ·exact PR.ok_on _ h1
  exact ⟨h.on,fun _=>h⟩
def Nt.need (m:Nat):Nt→Nat
 |.bin lv=>9 * m+(5 - lv)+3
 |.loop _ _=>9 * m+9
 |.un=>9 * m+2
 |.prim=>9 * m+1
def Nt.fit:Nt→Bool
 |.bin lv=>decide (lv≤5)
 |.loop lv _=>decide (lv<5)
 |_=>true
def PR.isOut {α:Type}:PR α→Bool
 |.out=>true
 |_=>false
theorem PR.bind_out {α β:Type} {r:PR α} {f:α→Nat→PR β} (h:r.isOut=false) (hf:∀ a k',r=.ok a k'→(f a k').isOut=false):(r.bind f).isOut=false:=by
 cases r with
 |ok a k'=>exact hf a k' rfl
 |bad k'=>rfl
 |out=>cases h
theorem zbt {s:List UInt8} {k:Nat}:(zaU l s k).isOut=false:=by unfold zaU;split<;>rfl
theorem zdL {k:Nat}:(zdz l k).isOut=false:=by unfold zdz;split<;>rfl
theorem zhv {z:Int} {k:Nat}:(nmF l z k).isOut=false:=by unfold nmF;split<;>rfl
theorem zd1:∀ (n:Nat) (nt:Nt) (k:Nat),k≤l.length→nt.fit=true→nt.need (l.length - k)≤n→(exF l n nt k).isOut=false
 |0,nt,k,hk,_,h=>by cases nt<;>simp only [Nt.need] at h<;>omega
 |n+1,.bin lv,k,hk,hf,h=>by
  simp only [Nt.need] at h
  simp only [Nt.fit,decide_eq_true_eq] at hf
  unfold exF
  split
  ·exact zd1 n .un k hk rfl (by simp only [Nt.need];omega)
  ·refine PR.bind_out (zd1 n (.bin (lv+1)) k hk (by simp only [Nt.fit,decide_eq_true_eq];omega) (by simp only [Nt.need];omega)) (fun e k' he=>?_)
   have h1:=(zcq (l:=l) n (.bin (lv+1)) k hk).2 rfl
   rw [he] at h1
   exact zd1 n (.loop lv e) k' h1.2 (by simp only [Nt.fit,decide_eq_true_eq];omega) (by have:=h1.1;have:=h1.2;simp only [Nt.need];omega)
 |n+1,.loop lv e,k,hk,hf,h=>by
  simp only [Nt.need] at h
  simp only [Nt.fit,decide_eq_true_eq] at hf
  unfold exF
  split
  ·rfl
  ·rename_i h0
   have:=zhN h0
   refine PR.bind_out (zd1 n (.bin (lv+1)) (k+1) (by omega) (by simp only [Nt.fit,decide_eq_true_eq];omega) (by simp only [Nt.need];omega)) (fun e2 k2 he=>?_)
   have h1:=(zcq (l:=l) n (.bin (lv+1)) (k+1) (by omega)).2 rfl
   rw [he] at h1
   exact zd1 n _ k2 h1.2 (by simp only [Nt.fit,decide_eq_true_eq];omega) (by have:=h1.1;have:=h1.2;simp only [Nt.need];omega)
 |n+1,.un,k,hk,hf,h=>by
  simp only [Nt.need] at h
  unfold exF
  split
  ·rename_i h0
   have:=zau h0 (by simp)
   exact PR.bind_out (zd1 n .un (k+1) (by omega) rfl (by simp only [Nt.need];omega)) (fun _ _ _=>rfl)
  ·split
   ·rename_i h0
    have:=zau h0 (by simp)
    exact PR.bind_out (zd1 n .un (k+1) (by omega) rfl (by simp only [Nt.need];omega)) (fun _ _ _=>rfl)
   ·exact zd1 n .prim k hk rfl (by simp only [Nt.need];omega)
 |n+1,.prim,k,hk,hf,h=>by
  simp only [Nt.need] at h
  unfold exF
  split
  ·exact PR.bind_out zhv (fun _ _ _=>rfl)
  split
  ·rfl
  split
  ·rfl
  split
  ·rfl
  split
  ·rfl
  split
  ·rename_i h0
   have:=zau h0 (by simp)
   exact PR.bind_out (zd1 n (.bin 0) (k+1) (by omega) rfl (by simp only [Nt.need];omega)) (fun _ _ _=>PR.bind_out zbt (fun _ _ _=>rfl))
  ·refine PR.bind_out zdL (fun nm k1 he=>?_)
   have h1:=za6 (l:=l) hk
   rw [he] at h1
   split
   ·rename_i h0
    have:=zau h0 (by simp)
    exact PR.bind_out (zd1 n (.bin 0) (k1+1) (by omega) rfl (by have:=h1.1;simp only [Nt.need];omega)) (fun _ _ _=>PR.bind_out zbt (fun _ _ _=>rfl))
   ·rfl
theorem zef {k:Nat} (hk:k≤l.length):(zbl l k).isOut=false:=zd1 _ _ k hk rfl (by simp only [Nt.need];omega)
theorem zjq {k:Nat} (hk:k≤l.length):(zbl l k).past k l.length:=(zcq _ _ k hk).2 rfl
end
end Go.Abs
namespace Go.Abs
open Go
def lvF (op:Nat):Nat:=if op=22 then 0 else if op=21 then 1 else if op=10∨op=11 then 3 else if op=12∨op=13∨op=14 then 4 else 2
def sgF (op:Nat):List UInt8:=
 if op=8∨op=11 then [45] else if op=9 then [33] else if op=10 then [43] else if op=12 then [42] else if op=13 then [47] else if op=14 then [37]
 else if op=15 then [60] else if op=16 then [60,61] else if op=17 then [62] else if op=18 then [62,61] else if op=19 then [61,61] else if op=20 then [33,61] else if op=21 then [38,38] else [124,124]
theorem zCh (k:Nat) (h1:10≤k) (h2:k≤22):opF (lvF k) (sgF k)=k:=by
 have:k=10∨k=11∨k=12∨k=13∨k=14∨k=15∨k=16∨k=17∨k=18∨k=19∨k=20∨k=21∨k=22:=by omega
 rcases this with rfl|rfl|rfl|rfl|rfl|rfl|rfl|rfl|rfl|rfl|rfl|rfl|rfl<;>rfl
theorem zw7 {lv:Nat} {s:List UInt8} (h:opF lv s≠0):10≤opF lv s∧opF lv s≤22∧lvF (opF lv s)=lv∧sgF (opF lv s)=s:=by
 unfold opF at h ⊢
 repeat' split
 all_goals first
  |(exfalso;simp_all;done)
  |(rename_i hs;simp only [beq_iff_eq] at hs;subst hs;subst_vars;decide)
def zlI:List Ex→AVal
 |[]=>.snil
 |e::r=>.pv (.slice ((e::r).map zbk))
def exA (e:Ex):AVal:=.agg [.pv (.int .i64 e.op),.pv (.int .i64 e.value),.pv (.str e.name),.pv (.int .i64 e.slot),.pv (.int .i64 e.size),zlI e.args]
theorem zyZ:zlI []=.snil:=rfl
theorem zbC (e:Ex) (r:List Ex):zlI (e::r)=.pv (.slice ((e::r).map zbk)):=rfl
theorem zy0 (a:List Ex):AVal.isCell (zlI a)=true:=by cases a<;>rfl
theorem zsT (a:List Ex):AVal.cells (zlI a)=[zlI a]:=by cases a<;>rfl
theorem zbq (ι:Nat→Nat) (a:List Ex):ren ι (zlI a)=zlI a:=by cases a<;>simp [zlI,ren]
theorem zb7 (n:Nat→Bool) (a:List Ex):zaw n (zlI a)=true:=by cases a<;>simp [zlI,zaw]
theorem zvX (a:List Ex) (r:List AVal):ze2 (zlI a::r)=match ze2 r with|some ps=>some (.slice (a.map zbk)::ps)|none=>none:=by
 cases a<;>(simp only [zlI,ze2,AVal.toP];cases ze2 r<;>rfl)
def kA:=And.intro @zy0<|And.intro @zsT<|And.intro @zbq<|And.intro @zvX<|@zyZ
theorem zjr (op:Int):exA (exK op)=.agg [.pv (.int .i64 op),.pv (.int .i64 0),.pv (.str []),.pv (.int .i64 0),.pv (.int .i64 0),.snil]:=rfl
theorem zCi (v:Int):exA (exC v)=.agg [.pv (.int .i64 1),.pv (.int .i64 v),.pv (.str []),.pv (.int .i64 0),.pv (.int .i64 0),.snil]:=rfl
theorem zy1 (nm:List UInt8):exA (exN nm)=.agg [.pv (.int .i64 2),.pv (.int .i64 0),.pv (.str nm),.pv (.int .i64 0),.pv (.int .i64 0),.snil]:=rfl
theorem zgY:∀ l:List UInt8,Lib.indexByte l 10=if (l.takeWhile zbL).length=l.length then -1 else ((l.takeWhile zbL).length:Int)
 |[]=>by simp [Lib.indexByte]
 |b::l=>by
  rw [Lib.indexByte,zgY l,List.takeWhile_cons]
  have hle:(l.takeWhile zbL).length≤l.length:=(List.takeWhile_sublist zbL).length_le
  by_cases h:b=10
  ·subst h
   simp [zbL]
  ·have hb:(b==10)=false:=by simpa using h
   have hn:zbL b=true:=by simp [zbL,h]
   rw [hb,hn,if_neg (by simp),if_pos rfl]
   simp only [List.length_cons]
   by_cases h2:(l.takeWhile zbL).length=l.length
   ·simp [h2]
   ·have h3:¬ ((l.takeWhile zbL).length+1=l.length+1):=by omega
    have h4:¬ (((l.takeWhile zbL).length:Int)=-1):=by omega
    simp [h2,h4]
theorem zkG (s:List UInt8) (a:Nat) (h:a≤s.length):(if Lib.indexByte (s.drop a) 10<0 then (s.length:Int) else a+Lib.indexByte (s.drop a) 10)=zbM zbL s a:=by
 rw [zgY]
 unfold zbM
 have hl:(s.drop a).length=s.length - a:=by simp
 by_cases h2:((s.drop a).takeWhile zbL).length=(s.drop a).length
 ·rw [if_pos h2,if_pos (by omega),h2,hl];omega
 ·rw [if_neg h2,if_neg (by omega)];omega
theorem zeH (s:List UInt8) (a k:Nat) (h:k<s.length) (ha:a≤k):cut s a (k+1)=cut s a k++[s.getD k 0]:=by
 unfold cut
 rw [List.take_succ_eq_append_getElem h,List.drop_append_of_le_length (by simp;omega)]
 simp [List.getD,h]
theorem zeI (s:List UInt8) (a k:Nat) (hr1:s.getD a 0≠48→zbM isD s k=zbM isD s (a+1)) (hr2:s.getD a 0=48→k=a+1)
  (hc:((((s.getD a 0).toNat:Nat):Int) != 48&&decide ((k:Int)<s.length)&&zcU ((s.getD k 0).toNat:Int))=false) (h48:((((s.getD a 0).toNat:Nat):Int) != 48)=true ↔ s.getD a 0≠48):za7 s a=k:=by
 unfold za7
 by_cases h:s.getD a 0=48
 ·rw [if_pos h,hr2 h]
 ·rw [if_neg h,←hr1 h]
  rw [h48.2 h,Bool.true_and] at hc
  by_cases hlt:k<s.length
  ·rw [zcf isD s k hlt]
   have h1:decide ((k:Int)<s.length)=true:=by simpa using (show (k:Int)<s.length by omega)
   rw [h1,Bool.true_and] at hc
   rw [show isD (s.getD k 0)=false from hc]
   simp
  ·exact zgW isD s k (by omega)
theorem ziq (s:List UInt8) (a:Nat):cut s a a=[]:=by simp [cut]
theorem zsU (s:List UInt8) (a k:Nat) (h:a<k) (hk:k≤s.length):cut s a k≠[]:=by
 intro e
 have:=congrArg List.length e
 simp [cut] at this
 omega
theorem zhw (s:List UInt8) (a k:Nat) (hk:k≤s.length):(cut s a k).length=k - a:=by simp [cut];omega
theorem zFW (c:UInt8) (n:Nat) (h:n<256):(((c.toNat:Int) != (n:Int))=true) ↔ c≠UInt8.ofNat n:=by
 rw [bne_iff_ne]
 constructor
 ·intro h1 h2
  apply h1
  rw [h2]
  simp
  omega
 ·intro h1 h2
  apply h1
  apply UInt8.toNat.inj
  simp
  omega
structure SI (s:List UInt8) where
 k:Nat
 acc:List TkD
 f:Nat
 hk:k≤s.length
 hf:s.length<k+f
 ha:acc.length≤k
 eq:zcL s f k acc=zcL s (s.length+1) 0 []
variable {s:List UInt8} (i:SI s)
theorem SI.fpos (h:i.k<s.length):∃ f,i.f=f+1:=⟨i.f - 1,by have:=i.hf;omega⟩
theorem SI.unf (h:i.k<s.length):zcL s i.f i.k i.acc=(if isB (s.getD i.k 0) then zcL s (i.f - 1) (i.k+1) i.acc else if s.getD i.k 0=35 then zcL s (i.f - 1) (zbM zbL s i.k) i.acc else if (zcp s i.k).2.2=0 then zcL s (i.f - 1) (zcp s i.k).2.1.toNat (i.acc++[(zcp s i.k).1]) else ([],i.k,(zcp s i.k).2.2)):=by
 obtain ⟨f,hf⟩:=i.fpos h
 rw [hf,zcL,if_pos h]
 rfl
def SI.blank (h:i.k<s.length) (hb:isB (s.getD i.k 0)=true):SI s:=⟨i.k+1,i.acc,i.f - 1,h,by have:=i.hf;omega,by have:=i.ha;omega,by
 have:=i.unf h;rw [if_pos hb] at this;rw [←this];exact i.eq⟩
theorem zjs (h:i.k<s.length) (hh:s.getD i.k 0=35):i.k<zbM zbL s i.k∧zbM zbL s i.k≤s.length:=by
 have h1:=zcf zbL s i.k h
 have h2:zbL (s.getD i.k 0)=true:=by rw [hh];rfl
 rw [h2,if_pos rfl] at h1
 have h3:=zfl zbL s (i.k+1)
 exact ⟨by omega,zht zbL s i.k (by omega)⟩
def SI.hsh (h:i.k<s.length) (hh:s.getD i.k 0=35):SI s:=⟨zbM zbL s i.k,i.acc,i.f - 1,(zjs i h hh).2,by have:=i.hf;have:=zjs i h hh;omega,by have:=i.ha;have:=zjs i h hh;omega,by
 have:=i.unf h
 have hb:¬ (isB (s.getD i.k 0)=true):=by rw [hh];decide
 rw [if_neg hb,if_pos hh] at this;rw [←this];exact i.eq⟩
theorem zm9 (h:i.k<s.length) (h0:(zcp s i.k).2.2=0):i.k<(zcp s i.k).2.1.toNat∧(zcp s i.k).2.1.toNat≤s.length∧(zcp s i.k).2.1=(((zcp s i.k).2.1.toNat:Nat):Int):=by
 obtain ⟨e,h1,h2,h3⟩:=zio s i.k h h0
 rw [h1]
 exact ⟨by simpa using h2,by simpa using h3,by simp⟩
def SI.tok (h:i.k<s.length) (hb:¬ (isB (s.getD i.k 0)=true)) (hh:¬ s.getD i.k 0=35) (h0:(zcp s i.k).2.2=0):SI s:=
 ⟨(zcp s i.k).2.1.toNat,i.acc++[(zcp s i.k).1],i.f - 1,(zm9 i h h0).2.1,by have:=i.hf;have:=zm9 i h h0;omega,by have:=i.ha;have:=zm9 i h h0;simp;omega,by
 have:=i.unf h
 rw [if_neg hb,if_neg hh,if_pos h0] at this;rw [←this];exact i.eq⟩
theorem SI.bad (h:i.k<s.length) (hb:¬ (isB (s.getD i.k 0)=true)) (hh:¬ s.getD i.k 0=35) (h0:¬ (zcp s i.k).2.2=0):zcL s (s.length+1) 0 []=([],(i.k:Int),(zcp s i.k).2.2):=by
 have:=i.unf h
 rw [if_neg hb,if_neg hh,if_neg h0] at this;rw [←i.eq,this]
theorem SI.fin (h:¬ i.k<s.length):zcL s (s.length+1) 0 []=(i.acc,0,0):=by
 rw [←i.eq]
 cases hf:i.f with
 |zero=>rfl
 |succ f=>rw [zcL,if_neg h]
def SI.start (s:List UInt8):SI s:=⟨0,[],s.length+1,by omega,by omega,by simp,rfl⟩
theorem SI.blank_k (h:i.k<s.length) (hb:isB (s.getD i.k 0)=true):(i.blank h hb).k=i.k+1:=rfl
theorem SI.blank_acc (h:i.k<s.length) (hb:isB (s.getD i.k 0)=true):(i.blank h hb).acc=i.acc:=rfl
theorem SI.hsh_k (h:i.k<s.length) (hb:s.getD i.k 0=35):(i.hsh h hb).k=zbM zbL s i.k:=rfl
theorem SI.hsh_acc (h:i.k<s.length) (hb:s.getD i.k 0=35):(i.hsh h hb).acc=i.acc:=rfl
theorem SI.tok_k (h:i.k<s.length) (hb:¬ (isB (s.getD i.k 0)=true)) (hh:¬ s.getD i.k 0=35) (h0:(zcp s i.k).2.2=0):(i.tok h hb hh h0).k=(zcp s i.k).2.1.toNat:=rfl
theorem SI.tok_acc (h:i.k<s.length) (hb:¬ (isB (s.getD i.k 0)=true)) (hh:¬ s.getD i.k 0=35) (h0:(zcp s i.k).2.2=0):(i.tok h hb hh h0).acc=i.acc++[(zcp s i.k).1]:=rfl
theorem SI.start_k (s:List UInt8):(SI.start s).k=0:=rfl
theorem SI.start_acc (s:List UInt8):(SI.start s).acc=[]:=rfl
theorem u8f {c d:UInt8} (h:c≠d):(((c.toNat:Nat):Int)==((d.toNat:Nat):Int))=false:=by
 have:¬ ((c.toNat:Int)=d.toNat):=fun e=>h (UInt8.toNat.inj (by omega))
 simpa using this
theorem u8b (c d:UInt8):(((c.toNat:Nat):Int)==((d.toNat:Nat):Int))=(c==d):=by
 rw [Bool.eq_iff_iff]
 simp only [beq_iff_eq]
 constructor
 ·intro h;exact UInt8.toNat.inj (by omega)
 ·intro h;rw [h]
def zy2 (a b:Int):Bool:=b==61&&(a==61 || a==33 || a==60 || a==62) || a==38&&b==38 || a==124&&b==124
def zoi:List UInt8:=[40,41,123,125,91,93,44,59,61,60,62,43,45,42,47,37,33]
theorem zvY (c:UInt8) (n:Int):zct c.toNat n=if zy2 c.toNat n then 2 else if zoi.contains c then 1 else 0:=by
 have e:=fun d:UInt8=>u8b c d
 have e1:=e 61;have e2:=e 33;have e3:=e 60;have e4:=e 62;have e5:=e 40;have e6:=e 41;have e7:=e 123;have e8:=e 125;have e9:=e 91;have e10:=e 93
 have f1:=e 44;have f2:=e 59;have f3:=e 43;have f4:=e 45;have f5:=e 42;have f6:=e 47;have f7:=e 37;have f8:=e 38;have f9:=e 124
 simp only [UInt8.reduceToNat,Int.cast_ofNat_Int] at e1 e2 e3 e4 e5 e6 e7 e8 e9 e10 f1 f2 f3 f4 f5 f6 f7 f8 f9
 unfold zct zy2 zoi
 simp only [e1,e2,e3,e4,e5,e6,e7,e8,e9,e10,f1,f2,f3,f4,f5,f6,f7,f8,f9,List.contains_cons,List.contains_nil,Bool.or_false]
 have hl:(c==40 || (c==41 || (c==123 || (c==125 || (c==91 || (c==93 || (c==44 || (c==59 || (c==61 || (c==60 || (c==62 || (c==43 || (c==45 || (c==42 || (c==47 || (c==37 || c==33)))))))))))))))) =
   ((c==61 || c==33 || c==60 || c==62) || (c==40 || c==41 || c==123 || c==125 || c==91 || c==93 || c==44 || c==59 || c==43 || c==45 || c==42 || c==47 || c==37)):=by ac_rfl
 rw [hl]
 by_cases h38:c=38
 ·subst h38;simp
 ·by_cases h124:c=124
  ·subst h124;simp
  ·have g1:(c==38)=false:=by simpa using h38
   have g2:(c==124)=false:=by simpa using h124
   rw [g1,g2]
   generalize (c==61 || c==33 || c==60 || c==62)=A
   generalize (c==40 || c==41 || c==123 || c==125 || c==91 || c==93 || c==44 || c==59 || c==43 || c==45 || c==42 || c==47 || c==37)=B
   cases A<;>cases B<;>simp
theorem zeg (p:UInt8→Bool) (s:List UInt8) (k:Nat) (hc:(decide ((k:Int)<s.length)&&p (s.getD k 0))=false):zbM p s k=k:=by
 by_cases hlt:k<s.length
 ·have h1:decide ((k:Int)<s.length)=true:=by simpa using (show (k:Int)<s.length by omega)
  rw [h1,Bool.true_and] at hc
  rw [zcf p s k hlt,hc];simp
 ·exact zgW p s k (by omega)
theorem zgZ (p:UInt8→Bool) (s:List UInt8) (k:Nat) (hc:(decide ((k:Int)<s.length)&&p (s.getD k 0))=true):k<s.length∧zbM p s k=zbM p s (k+1)∧k<zbM p s k:=by
 rw [Bool.and_eq_true,decide_eq_true_eq] at hc
 have hlt:k<s.length:=by omega
 have h1:=zcf p s k hlt
 rw [hc.2,if_pos rfl] at h1
 have:=zfl p s (k+1)
 exact ⟨hlt,h1,by omega⟩
theorem zy3 {c:UInt8} (h:¬ (isB c=true)):c≠9∧c≠10∧c≠13∧c≠32:=by
 simp [isB] at h;exact ⟨h.1.1.1,h.1.1.2,h.1.2,h.2⟩
theorem zCj {c:UInt8} (h:isB c=true):c=9∨c=10∨c=13∨c=32:=by
 simp [isB] at h
 rcases h with ((h|h)|h)|h<;>simp [h]
end Go.Abs
namespace Go.Abs
open Go
def dg:Nat→Nat→List UInt8
 |0,_=>[]
 |f+1,n=>if n=0 then [] else dg f (n / 10)++[UInt8.ofNat (48+n % 10)]
def zeV (n:Int):List UInt8:=if n≤0 then [48] else dg 20 n.toNat
theorem zdA (f:Nat):dg f 0=[]:=by cases f<;>simp [dg]
theorem zel (f n:Nat) (h:n≠0):dg (f+1) n=dg f (n / 10)++[UInt8.ofNat (48+n % 10)]:=by rw [dg,if_neg h]
theorem zsV:∀ (f n:Nat),n<10 ^ f→dg (f+1) n=dg f n
 |0,n,h=>by
  have:n=0:=by simpa using h
  subst this;rw [zdA,zdA]
 |f+1,n,h=>by
  by_cases h0:n=0
  ·subst h0;rw [zdA,zdA]
  ·rw [zel _ _ h0,zel _ _ h0,zsV f (n / 10) (by rw [Nat.pow_succ] at h;omega)]
theorem dgD (n:Nat):isD (UInt8.ofNat (48+n % 10))=true:=by
 have h:n % 10<10:=Nat.mod_lt _ (by omega)
 unfold isD zcU
 simp
 omega
theorem zw8:∀ (f n:Nat) (c:UInt8),c ∈ dg f n→isD c=true
 |0,_,c,h=>by simp [dg] at h
 |f+1,n,c,h=>by
  by_cases h0:n=0
  ·subst h0;rw [zdA] at h;simp at h
  ·rw [zel _ _ h0,List.mem_append,List.mem_singleton] at h
   rcases h with h|rfl
   ·exact zw8 f _ c h
   ·exact dgD n
theorem zeJ:∀ (l r:List UInt8) (a:Nat),zhu (l++r) a=zhu r (zhu l a)
 |[],r,a=>by simp [zhu]
 |c::l,r,a=>by simp only [List.cons_append,zhu];exact zeJ l r _
theorem zw9:∀ (f n:Nat),n<10 ^ f→zba (dg f n)=n
 |0,n,h=>by have:n=0:=(by simpa using h);subst this;rfl
 |f+1,n,h=>by
  by_cases h0:n=0
  ·subst h0;rw [zdA];rfl
  ·have hv:=zw9 f (n / 10) (by rw [Nat.pow_succ] at h;omega)
   unfold zba at *
   rw [zel _ _ h0,zeJ,hv]
   have hr:n % 10<10:=Nat.mod_lt _ (by omega)
   have:(UInt8.ofNat (48+n % 10)).toNat=48+n % 10:=by simp;omega
   simp only [zhu,this]
   omega
theorem zsW:∀ (f n:Nat),(dg f n).length≤f
 |0,_=>by simp [dg]
 |f+1,n=>by
  rw [dg]
  split
  ·simp
  ·have:=zsW f (n / 10);simp;omega
theorem zsX:∀ (f n:Nat),n<10 ^ f→n≠0→∃ c r,dg f n=c::r∧c≠48∧isD c=true
 |0,n,h,h0=>by simp at h;omega
 |f+1,n,h,h0=>by
  rw [zel _ _ h0]
  by_cases h1:n / 10=0
  ·rw [h1,zdA]
   refine ⟨_,[],rfl,?_,dgD n⟩
   intro e
   have:=congrArg UInt8.toNat e
   simp at this
   omega
  ·obtain ⟨c,r,e,h2,h3⟩:=zsX f (n / 10) (by rw [Nat.pow_succ] at h;omega) h1
   exact ⟨c,r++[_],by rw [e];rfl,h2,h3⟩
structure Num (d:List UInt8):Prop where
 all:∀ c ∈ d,isD c=true
 ne:d≠[]
 lead:d.getD 0 0=48→d.length=1
inductive Sc (s:List UInt8):Nat→List TkD→Prop
 |fin {k:Nat}:s.length≤k→Sc s k []
 |blank {k:Nat} {l:List TkD}:k<s.length→isB (s.getD k 0)=true→Sc s (k+1) l→Sc s k l
 |hsh {k:Nat} {l:List TkD}:k<s.length→s.getD k 0=35→Sc s (zbM zbL s k) l→Sc s k l
 |tok {k e:Nat} {t:TkD} {l:List TkD}:k<s.length→¬ (isB (s.getD k 0)=true)→¬ s.getD k 0=35→zcp s k=(t,(e:Int),0)→Sc s e l→Sc s k (t::l)
theorem zlJ (s:List UInt8) (k:Nat) (h:k<s.length) (hh:s.getD k 0=35):k<zbM zbL s k∧zbM zbL s k≤s.length:=by
 have h1:=zcf zbL s k h
 have h2:zbL (s.getD k 0)=true:=by rw [hh];rfl
 rw [h2,if_pos rfl] at h1
 have h3:=zfl zbL s (k+1)
 exact ⟨by omega,zht zbL s k (by omega)⟩
theorem zir (s:List UInt8):∀ (f k:Nat) (acc:List TkD),s.length<k+f→(zcL s f k acc).2.2=0→∃ l,Sc s k l∧zcL s f k acc=(acc++l,0,0)
 |0,k,acc,hf,_=>⟨[],.fin (by omega),by simp [zcL]⟩
 |f+1,k,acc,hf,h=>by
  rw [zcL] at h ⊢
  by_cases hk:k<s.length
  ·rw [if_pos hk] at h ⊢
   by_cases hb:isB (s.getD k 0)=true
   ·rw [if_pos hb] at h ⊢
    obtain ⟨l,h1,h2⟩:=zir s f (k+1) acc (by omega) h
    exact ⟨l,.blank hk hb h1,h2⟩
   ·rw [if_neg hb] at h ⊢
    by_cases hh:s.getD k 0=35
    ·rw [if_pos hh] at h ⊢
     have hg:=zlJ s k hk hh
     obtain ⟨l,h1,h2⟩:=zir s f (zbM zbL s k) acc (by omega) h
     exact ⟨l,.hsh hk hh h1,h2⟩
    ·rw [if_neg hh] at h ⊢
     by_cases h0:(zcp s k).2.2=0
     ·rw [if_pos h0] at h ⊢
      obtain ⟨e,he,h1,h2⟩:=zio s k hk h0
      have het:(zcp s k).2.1.toNat=e:=by rw [he];simp
      rw [het] at h ⊢
      obtain ⟨l,g1,g2⟩:=zir s f e (acc++[(zcp s k).1]) (by omega) h
      refine ⟨(zcp s k).1::l,.tok hk hb hh ?_ g1,by rw [g2];simp⟩
      rw [←he,←h0]
     ·rw [if_neg h0] at h
      exact absurd h h0
  ·rw [if_neg hk]
   exact ⟨[],.fin (by omega),by simp⟩
theorem zg0 (s:List UInt8):∀ (f k:Nat) (acc:List TkD),(zcL s f k acc).2.2≠0→(zcL s f k acc).1=[]∧0≤(zcL s f k acc).2.1∧(zcL s f k acc).2.1≤s.length
 |0,k,acc,h=>by simp [zcL] at h
 |f+1,k,acc,h=>by
  rw [zcL] at h ⊢
  by_cases hk:k<s.length
  ·rw [if_pos hk] at h ⊢
   by_cases hb:isB (s.getD k 0)=true
   ·rw [if_pos hb] at h ⊢
    exact zg0 s f _ _ h
   ·rw [if_neg hb] at h ⊢
    by_cases hh:s.getD k 0=35
    ·rw [if_pos hh] at h ⊢
     exact zg0 s f _ _ h
    ·rw [if_neg hh] at h ⊢
     by_cases h0:(zcp s k).2.2=0
     ·rw [if_pos h0] at h ⊢
      exact zg0 s f _ _ h
     ·rw [if_neg h0]
      exact ⟨rfl,by simp,by simp;omega⟩
  ·rw [if_neg hk] at h
   simp at h
theorem zoj (s:List UInt8) (h:(zgX s).2.2=0):s.length≤4096∧∃ l,Sc s 0 l∧zgX s=(l,0,0):=by
 unfold zgX at h ⊢
 by_cases hl:s.length > 4096
 ·rw [if_pos hl] at h;simp at h
 ·rw [if_neg hl] at h ⊢
  obtain ⟨l,h1,h2⟩:=zir s (s.length+1) 0 [] (by omega) h
  exact ⟨by omega,l,h1,by rw [h2];simp⟩
theorem zpw (s:List UInt8) (h:(zgX s).2.2≠0):(zgX s).1=[]∧0≤(zgX s).2.1∧(zgX s).2.1≤s.length:=by
 unfold zgX at h ⊢
 by_cases hl:s.length > 4096
 ·rw [if_pos hl];exact ⟨rfl,by simp,by simp⟩
 ·rw [if_neg hl] at h ⊢
  exact zg0 s _ _ _ h
structure Good (t:TkD) (w:List UInt8):Prop where
 ne:w≠[]
 kinds:(t.kind=1∧t.text=w∧t.value=0∧isL (w.getD 0 0)=true∧(∀ c ∈ w,isW c=true)∧w.length≤16) ∨
  (t.kind=2∧t.text=[]∧t.value=zba w∧Num w∧zba w<9223372036854775808) ∨
  (t.kind=3∧t.text=w∧t.value=0∧isL (w.getD 0 0)=false∧isD (w.getD 0 0)=false ∧
   ((w.length=1∧zct (w.getD 0 0).toNat 0=1)∨(w.length=2∧zct (w.getD 0 0).toNat (w.getD 1 0).toNat=2)))
def nx (r:List UInt8):Int:=match r with
 |[]=>0
 |c::_=>(c.toNat:Int)
def zCk (t:TkD) (w r:List UInt8):Prop:=
 (t.kind≠3→∀ c,r.head?=some c→isW c=false)∧(t.kind=3→w.length=1→zct (w.getD 0 0).toNat (nx r)=1)
theorem zvZ (s:List UInt8) (a:Nat):zcX s a=nx (s.drop (a+1)):=by
 unfold zcX
 by_cases h:a+1<s.length
 ·rw [if_pos h,List.drop_eq_getElem_cons h]
  simp [nx,List.getD,h]
 ·rw [if_neg h,List.drop_eq_nil_of_le (by omega)]
  rfl
theorem zv0 {c n:Int} (h:zct c n=1) (m:Int) (hm:m≠61):zct c m=1:=by
 unfold zct at h ⊢
 have hm':(m==61)=false:=by simpa using hm
 rw [hm']
 split
 ·rfl
 ·rename_i h1
  rw [if_neg h1] at h
  split
  ·rfl
  ·rename_i h2
   rw [if_neg h2] at h
   split at h<;>omega
theorem zpx (p:UInt8→Bool) (s:List UInt8) (a:Nat):∀ c,(s.drop (zbM p s a)).head?=some c→p c=false:=by
 intro c hc
 unfold zbM at hc
 rw [←List.drop_drop] at hc
 generalize s.drop a=u at hc
 induction u with
 |nil=>simp at hc
 |cons x u ih=>
  rw [List.takeWhile_cons] at hc
  by_cases hx:p x=true
  ·rw [if_pos hx] at hc
   simp at hc
   exact ih (by simpa using hc)
  ·rw [if_neg hx] at hc
   simp at hc
   subst hc
   simpa using hx
theorem zsY (p:UInt8→Bool) (s:List UInt8) (a:Nat):∀ c ∈ cut s a (zbM p s a),p c=true:=by
 intro c hc
 unfold cut zbM at hc
 rw [List.drop_take,show a+((s.drop a).takeWhile p).length - a=((s.drop a).takeWhile p).length by omega] at hc
 generalize s.drop a=u at hc
 have h1:u.take (u.takeWhile p).length=u.takeWhile p:=by
  induction u with
  |nil=>simp
  |cons x u ih=>
   rw [List.takeWhile_cons]
   by_cases hx:p x=true
   ·rw [if_pos hx] at *
    simp only [List.length_cons,List.take_succ_cons]
    rw [List.takeWhile_cons,if_pos hx] at hc
    simp only [List.length_cons,List.take_succ_cons] at hc
    congr 1
    clear hc
    clear ih
    induction u with
    |nil=>simp
    |cons y u ih2=>
     rw [List.takeWhile_cons]
     by_cases hy:p y=true
     ·rw [if_pos hy];simp only [List.length_cons,List.take_succ_cons];rw [ih2]
     ·rw [if_neg hy];simp
   ·rw [if_neg hx];simp
 rw [h1] at hc
 clear h1
 induction u with
 |nil=>simp at hc
 |cons x u ih=>
  rw [List.takeWhile_cons] at hc
  by_cases hx:p x=true
  ·rw [if_pos hx] at hc
   rcases List.mem_cons.1 hc with rfl|hc
   ·exact hx
   ·exact ih hc
  ·rw [if_neg hx] at hc;simp at hc
theorem zv1 (s:List UInt8) (a e:Nat) (h:a<e) (he:e≤s.length):(cut s a e).getD 0 0=s.getD a 0:=by
 unfold cut
 simp [List.getD,List.getElem?_drop,List.getElem?_take,h]
theorem zv2 (s:List UInt8) (a e:Nat) (h:a+1<e) (he:e≤s.length):(cut s a e).getD 1 0=s.getD (a+1) 0:=by
 unfold cut
 simp [List.getD,List.getElem?_drop,List.getElem?_take,h]
theorem zpy (s:List UInt8) (k e:Nat) (t:TkD) (hk:k<s.length) (h:zcp s k=(t,(e:Int),0)):Good t (cut s k e)∧t.pos=k∧k<e∧e≤s.length∧zCk t (cut s k e) (s.drop e):=by
 obtain ⟨e',he',hlt,hle⟩:=zio s k hk (by rw [h])
 rw [h] at he'
 simp only [Int.ofNat_inj] at he'
 have hee:e=e':=by omega
 subst hee
 have hne:=zsU s k e hlt hle
 have hg0:=zv1 s k e hlt hle
 have hcl:=zhw s k e hle
 unfold zcp at h
 by_cases hl:isL (s.getD k 0)=true
 ·rw [if_pos hl] at h
  by_cases h16:zbM isW s k - k > 16
  ·rw [if_pos h16] at h;simp at h
  ·rw [if_neg h16] at h
   simp only [Prod.mk.injEq,Int.ofNat_inj,and_true] at h
   obtain ⟨rfl,h2⟩:=h
   have h2':zbM isW s k=e:=by omega
   subst h2'
   refine ⟨⟨hne,.inl ⟨rfl,rfl,rfl,by rw [hg0];exact hl,zsY isW s k,by omega⟩⟩,rfl,hlt,hle,?_,?_⟩
   ·intro _;exact zpx isW s k
   ·intro hc;simp at hc
 ·rw [if_neg hl] at h
  by_cases hd:isD (s.getD k 0)=true
  ·rw [if_pos hd] at h
   unfold znJ at h
   have hnl:=zjo s k hk
   by_cases hw:zbM isW s (za7 s k) > za7 s k
   ·rw [if_pos hw] at h;simp at h
   ·rw [if_neg hw] at h
    by_cases hv:zba (cut s k (za7 s k))<9223372036854775808
    ·rw [if_pos hv] at h
     simp only [Prod.mk.injEq,Int.ofNat_inj,and_true] at h
     obtain ⟨rfl,h2⟩:=h
     have h2':za7 s k=e:=by omega
     have hstop:=zpx isW s (za7 s k)
     have hge:=zfl isW s (za7 s k)
     rw [show zbM isW s (za7 s k)=za7 s k by omega,h2'] at hstop
     rw [h2'] at hv hge hw ⊢
     refine ⟨⟨hne,.inr (.inl ⟨rfl,rfl,rfl,⟨?_,hne,?_⟩,hv⟩)⟩,rfl,hlt,hle,?_,?_⟩
     ·unfold za7 at h2'
      split at h2'
      ·rw [←h2',zeH s k k hk (Nat.le_refl _),ziq];simpa using hd
      ·have h3:=zsY isD s k
       rw [zcf isD s k hk,if_pos hd,h2'] at h3
       exact h3
     ·intro h48
      rw [hg0] at h48
      unfold za7 at h2'
      rw [if_pos h48] at h2'
      omega
     ·intro _;exact hstop
     ·intro hc;simp at hc
    ·rw [if_neg hv] at h;simp at h
  ·rw [if_neg hd] at h
   by_cases h0:zct (s.getD k 0).toNat (zcX s k)=0
   ·rw [if_pos h0] at h;simp at h
   ·rw [if_neg h0] at h
    have hs:=zlG (s.getD k 0).toNat (zcX s k)
    simp only [Prod.mk.injEq,and_true] at h
    obtain ⟨rfl,h2⟩:=h
    have h2':k+(zct (s.getD k 0).toNat (zcX s k)).toNat=e:=by omega
    rw [h2']
    have hl':isL (s.getD k 0)=false:=by simpa using hl
    have hd':isD (s.getD k 0)=false:=by simpa using hd
    by_cases h1:zct (s.getD k 0).toNat (zcX s k)=1
    ·have he1:e=k+1:=by omega
     refine ⟨⟨hne,.inr (.inr ⟨rfl,rfl,rfl,by rw [hg0];exact hl',by rw [hg0];exact hd',.inl ⟨by omega,?_⟩⟩)⟩,rfl,hlt,hle,?_,?_⟩
     ·rw [hg0];exact zv0 h1 0 (by omega)
     ·intro hc;simp at hc
     ·intro _ _
      rw [hg0,he1,←zvZ]
      exact h1
    ·have h22:zct (s.getD k 0).toNat (zcX s k)=2:=by omega
     have he1:e=k+2:=by omega
     have hg1:=zv2 s k e (by omega) hle
     refine ⟨⟨hne,.inr (.inr ⟨rfl,rfl,rfl,by rw [hg0];exact hl',by rw [hg0];exact hd',.inr ⟨by omega,?_⟩⟩)⟩,rfl,hlt,hle,?_,?_⟩
     ·rw [hg0,hg1]
      rw [←h22]
      unfold zcX
      rw [if_pos (by omega)]
     ·intro hc;simp at hc
     ·intro _ hc;omega
theorem Sc.good {s:List UInt8} {k:Nat} {l:List TkD} (h:Sc s k l):∀ t ∈ l,∃ e:Nat,∃ a:Nat,t.pos=a∧k≤a∧a<e∧e≤s.length∧Good t (cut s a e):=by
 induction h with
 |fin _=>intro t ht;simp at ht
 |blank hk hb _ ih=>
  intro t ht
  obtain ⟨e,a,h1,h2,h3⟩:=ih t ht
  exact ⟨e,a,h1,by omega,h3⟩
 |@hsh k l hk hh _ ih=>
  intro t ht
  obtain ⟨e,a,h1,h2,h3⟩:=ih t ht
  have:=zlJ s k hk hh
  exact ⟨e,a,h1,by omega,h3⟩
 |@tok k e t l hk hb hh ho _ ih=>
  intro x hx
  obtain ⟨g1,g2,g3,g4,_⟩:=zpy s k e t hk ho
  rcases List.mem_cons.1 hx with rfl|hx
  ·exact ⟨e,k,g2,by omega,g3,g4,g1⟩
  ·obtain ⟨e',a,h1,h2,h3⟩:=ih x hx
   exact ⟨e',a,h1,by omega,h3⟩
theorem zok:∀ (f:Nat) (d:List UInt8),(∀ c ∈ d,isD c=true)→(d.getD 0 0≠48)→d.length≤f→dg f (zba d)=d∧(d≠[]→0<zba d)
 |0,d,hd,h0,hl=>by
  have:d=[]:=List.length_eq_zero_iff.1 (by omega)
  subst this
  exact ⟨rfl,fun h=>absurd rfl h⟩
 |f+1,d,hd,h0,hl=>by
  by_cases hne:d=[]
  ·subst hne;exact ⟨zdA _,fun h=>absurd rfl h⟩
  ·obtain ⟨r,c,rfl⟩:∃ r c,d=r++[c]:=⟨d.dropLast,d.getLast hne,(List.dropLast_concat_getLast hne).symm⟩
   have hc:=zcC (hd c (by simp))
   have hv:zba (r++[c])=zba r * 10+(c.toNat - 48):=by
    unfold zba;rw [zeJ];rfl
   by_cases hr:r=[]
   ·subst hr
    have hc48:c≠48:=by simpa using h0
    have hcn:c.toNat≠48:=fun e=>hc48 (UInt8.toNat.inj (by simpa using e))
    have hv1:zba [c]=c.toNat - 48:=by simp [zba,zhu]
    rw [List.nil_append,hv1,zel _ _ (by omega),show (c.toNat - 48) / 10=0 by omega,zdA,show 48+(c.toNat - 48) % 10=c.toNat by omega]
    exact ⟨by simp,fun _=>by omega⟩
   ·have h0':r.getD 0 0≠48:=by
     cases r with
     |nil=>exact absurd rfl hr
     |cons x r=>simpa using h0
    obtain ⟨ih1,ih2⟩:=zok f r (fun x hx=>hd x (by simp [hx])) h0' (by simp at hl;omega)
    have hp:=ih2 hr
    rw [hv,zel _ _ (by omega),show (zba r * 10+(c.toNat - 48)) / 10=zba r by omega,ih1,show 48+(zba r * 10+(c.toNat - 48)) % 10=c.toNat by omega]
    exact ⟨by simp,fun _=>by omega⟩
theorem zpz:∀ (l:List UInt8) (acc:Nat),acc * 10 ^ l.length≤zhu l acc
 |[],acc=>by simp [zhu]
 |c::r,acc=>by
  rw [zew]
  refine Nat.le_trans ?_ (zpz r _)
  rw [List.length_cons,Nat.pow_succ,Nat.mul_comm (10 ^ r.length) 10,←Nat.mul_assoc]
  exact Nat.mul_le_mul_right _ (by omega)
theorem zy4 {d:List UInt8} (hd:Num d) (hv:zba d<9223372036854775808):d.length≤20:=by
 cases d with
 |nil=>simp
 |cons c r=>
  by_cases h48:c=48
  ·subst h48;have:=hd.lead rfl;omega
  ·have hc:=zcC (hd.all c (by simp))
   have hcn:c.toNat≠48:=fun e=>h48 (UInt8.toNat.inj (by simpa using e))
   have hlow:=zpz r (c.toNat - 48)
   have hvv:zba (c::r)=zhu r (c.toNat - 48):=by unfold zba;rw [zew];simp
   rw [hvv] at hv
   by_cases hl:r.length≤18
   ·simp;omega
   ·exfalso
    have h1:10 ^ 19≤10 ^ r.length:=Nat.pow_le_pow_right (by omega) (by omega)
    have h2:1 * 10 ^ r.length≤(c.toNat - 48) * 10 ^ r.length:=Nat.mul_le_mul_right _ (by omega)
    have h3:(10:Nat) ^ 19=10000000000000000000:=by decide
    omega
theorem zy5 {d:List UInt8} (hd:Num d) (hv:zba d<9223372036854775808):zeV (zba d)=d:=by
 by_cases h48:d.getD 0 0=48
 ·have hl:=hd.lead h48
  match d,hl with
  |[c],_=>simp at h48;subst h48;rfl
 ·obtain ⟨h1,h2⟩:=zok 20 d hd.all h48 (zy4 hd hv)
  have:=h2 hd.ne
  unfold zeV
  rw [if_neg (by omega),Int.toNat_natCast,h1]
def zol (t:TkD):List UInt8:=if t.kind=1∨t.kind=3 then t.text else if t.kind=2 then zeV t.value else []
theorem Good.word {t:TkD} {w:List UInt8} (hg:Good t w):zol t=w:=by
 unfold zol
 rcases hg.kinds with ⟨h1,h2,_⟩|⟨h1,_,h3,h4,h5⟩|⟨h1,h2,_⟩
 ·rw [if_pos (.inl h1),h2]
 ·rw [if_neg (by omega),if_pos h1,h3,zy5 h4 h5]
 ·rw [if_pos (.inr h1),h2]
theorem zsZ:∀ (f m:Nat),0<m→m<10 ^ f→Lib.decDigits m=dg f m
 |0,m,h0,h=>by simp at h;omega
 |f+1,m,h0,h=>by
  rw [zel _ _ (by omega),Lib.decDigits]
  by_cases h9:m<10
  ·rw [dif_pos h9,Nat.div_eq_of_lt h9,zdA,Nat.mod_eq_of_lt h9];rfl
  ·rw [dif_neg h9,zsZ f (m / 10) (by omega) (by rw [Nat.pow_succ] at h;omega)]
theorem zv3 (v:Int) (h:v≤9223372036854775807):Lib.itoa (zgs v 0)=zeV v:=by
 unfold zeV Lib.itoa zgs
 by_cases h0:v≤0
 ·rw [if_pos h0]
  by_cases h1:v<0
  ·simp [h1,Lib.decDigits]
  ·have:v=0:=by omega
   subst this
   simp [Lib.decDigits]
 ·rw [if_neg h0,if_neg (by omega:¬ v<0)]
  rw [if_neg (by omega)]
  exact zsZ 20 v.toNat (by omega) (by omega)
section
variable (op value:Int) (name:List UInt8) (slot size:Int) (args:List Ex) (place val:Ex) (body els:List Sm)
theorem Ex.op_mk:(Ex.mk op value name slot size args).op=op:=rfl
theorem Ex.value_mk:(Ex.mk op value name slot size args).value=value:=rfl
theorem Ex.name_mk:(Ex.mk op value name slot size args).name=name:=rfl
theorem Ex.slot_mk:(Ex.mk op value name slot size args).slot=slot:=rfl
theorem Ex.size_mk:(Ex.mk op value name slot size args).size=size:=rfl
theorem Ex.args_mk:(Ex.mk op value name slot size args).args=args:=rfl
theorem Sm.kind_mk:(Sm.mk op name slot size place val body els).kind=op:=rfl
theorem Sm.name_mk:(Sm.mk op name slot size place val body els).name=name:=rfl
theorem Sm.slot_mk:(Sm.mk op name slot size place val body els).slot=slot:=rfl
theorem Sm.size_mk:(Sm.mk op name slot size place val body els).size=size:=rfl
theorem Sm.place_mk:(Sm.mk op name slot size place val body els).place=place:=rfl
theorem Sm.value_mk:(Sm.mk op name slot size place val body els).value=val:=rfl
theorem Sm.body_mk:(Sm.mk op name slot size place val body els).body=body:=rfl
theorem Sm.els_mk:(Sm.mk op name slot size place val body els).els=els:=rfl
end
structure Pl where
 name:List UInt8
 slot:Int
 size:Int
def zhx (p:Pl):PVal × Bool × List PVal:=(.str p.name,true,[.int .i64 p.slot,.int .i64 p.size])
def zb8 (n:List UInt8):List Pl→Option (Int × Int)
 |[]=>none
 |p::r=>if n=p.name then some (p.slot,p.size) else zb8 n r
def zkj (n:List UInt8) (a b:Int):List Pl→List Pl
 |[]=>[⟨n,a,b⟩]
 |p::r=>if n=p.name then ⟨n,a,b⟩::r else p::zkj n a b r
theorem zjt (n:List UInt8):∀ l:List Pl,zfV (.str n) (l.map zhx)=(zb8 n l).map fun q=>(true,[.int .i64 q.1,.int .i64 q.2])
 |[]=>rfl
 |p::r=>by
  simp only [List.map_cons,zfV,zb8]
  by_cases h:n=p.name
  ·subst h;simp [zfU,zhx]
  ·have:zfU (.str n) (zhx p).1=false:=by simp [zfU,zhx,h]
   rw [this,if_neg h,if_neg (by simp)]
   exact zjt n r
theorem zlK (n:List UInt8) (a b:Int):∀ l:List Pl,zqc (.str n) (true,[.int .i64 a,.int .i64 b]) (l.map zhx)=(zkj n a b l).map zhx
 |[]=>rfl
 |p::r=>by
  simp only [List.map_cons,zqc,zkj]
  by_cases h:n=p.name
  ·subst h;simp [zfU,zhx]
  ·have:zfU (.str n) (zhx p).1=false:=by simp [zfU,zhx,h]
   rw [this,if_neg h,if_neg (by simp)]
   simp [zlK n a b r]
abbrev Fl:=Bool × Bool
def zfm (pl:List Pl) (n:List UInt8) (arr:Bool) (f:Fl):(Int × Int) × Fl:=
 match zb8 n pl with
 |none=>((0,0),(true,f.2))
 |some q=>(q,(f.1,f.2 || (arr != decide (q.2 > 0))))
def zcY (pl:List Pl) (op:Int) (n:List UInt8) (a b:Int) (f:Fl) (k1 k2:Int):(Int × Int) × Fl:=
 if op=k1 then zfm pl n false f else if op=k2 then zfm pl n true f else ((a,b),f)
mutual
def rsE (pl:List Pl):Ex→Fl→Ex × Fl
 |.mk op v n a b args,f=>
  (.mk op v n (zcY pl op n a b f 2 3).1.1 (zcY pl op n a b f 2 3).1.2 (zd2 pl args (zcY pl op n a b f 2 3).2).1,(zd2 pl args (zcY pl op n a b f 2 3).2).2)
def zd2 (pl:List Pl):List Ex→Fl→List Ex × Fl
 |[],f=>([],f)
 |e::r,f=>((rsE pl e f).1::(zd2 pl r (rsE pl e f).2).1,(zd2 pl r (rsE pl e f).2).2)
end
theorem zCl (pl:List Pl) (e:Ex) (f:Fl):rsE pl e f=(.mk e.op e.value e.name (zcY pl e.op e.name e.slot e.size f 2 3).1.1 (zcY pl e.op e.name e.slot e.size f 2 3).1.2 (zd2 pl e.args (zcY pl e.op e.name e.slot e.size f 2 3).2).1,(zd2 pl e.args (zcY pl e.op e.name e.slot e.size f 2 3).2).2):=by
 cases e;simp [rsE,Ex.op,Ex.value,Ex.name,Ex.slot,Ex.size,Ex.args]
theorem zeK (pl:List Pl):∀ (l:List Ex) (f:Fl),(zd2 pl l f).1.length=l.length
 |[],f=>by simp [zd2]
 |e::r,f=>by simp [zd2,zeK pl r]
theorem zna (pl:List Pl):∀ (l:List Ex) (x:Ex) (f:Fl),zd2 pl (l++[x]) f=((zd2 pl l f).1++[(rsE pl x (zd2 pl l f).2).1],(rsE pl x (zd2 pl l f).2).2)
 |[],x,f=>by simp [zd2]
 |e::r,x,f=>by simp [zd2,zna pl r]
mutual
def rsS (pl:List Pl):Sm→Fl→Sm × Fl
 |.mk k n a b p v body els,f=>
  let q:=zcY pl k n a b f 1 2
  let p':=rsE pl p q.2
  let v':=rsE pl v p'.2
  let b':=zcc pl body v'.2
  let e':=zcc pl els b'.2
  (.mk k n q.1.1 q.1.2 p'.1 v'.1 b'.1 e'.1,e'.2)
def zcc (pl:List Pl):List Sm→Fl→List Sm × Fl
 |[],f=>([],f)
 |e::r,f=>((rsS pl e f).1::(zcc pl r (rsS pl e f).2).1,(zcc pl r (rsS pl e f).2).2)
end
def rsQ (pl:List Pl) (s:Sm) (f:Fl):=zcY pl s.kind s.name s.slot s.size f 1 2
def rsP (pl:List Pl) (s:Sm) (f:Fl):=rsE pl s.place (rsQ pl s f).2
def rsV (pl:List Pl) (s:Sm) (f:Fl):=rsE pl s.value (rsP pl s f).2
def rsB (pl:List Pl) (s:Sm) (f:Fl):=zcc pl s.body (rsV pl s f).2
def rsL (pl:List Pl) (s:Sm) (f:Fl):=zcc pl s.els (rsB pl s f).2
theorem zCm (pl:List Pl) (s:Sm) (f:Fl):rsS pl s f=(.mk s.kind s.name (rsQ pl s f).1.1 (rsQ pl s f).1.2 (rsP pl s f).1 (rsV pl s f).1 (rsB pl s f).1 (rsL pl s f).1,(rsL pl s f).2):=by
 cases s;simp [rsS,rsL,rsB,rsV,rsP,rsQ,Sm.kind,Sm.name,Sm.slot,Sm.size,Sm.place,Sm.value,Sm.body,Sm.els]
theorem zlL (pl:List Pl):∀ (l:List Sm) (f:Fl),(zcc pl l f).1.length=l.length
 |[],f=>by simp [zcc]
 |e::r,f=>by simp [zcc,zlL pl r]
theorem znb (pl:List Pl):∀ (l:List Sm) (x:Sm) (f:Fl),zcc pl (l++[x]) f=((zcc pl l f).1++[(rsS pl x (zcc pl l f).2).1],(rsS pl x (zcc pl l f).2).2)
 |[],x,f=>by simp [zcc]
 |e::r,x,f=>by simp [zcc,znb pl r]
theorem zju (pl:List Pl) (l:List Ex) (f:Fl) (k:Nat) (h:k<l.length):zd2 pl (l.take (k+1)) f=((zd2 pl (l.take k) f).1++[(rsE pl l[k] (zd2 pl (l.take k) f).2).1],(rsE pl l[k] (zd2 pl (l.take k) f).2).2):=by rw [List.take_succ_eq_append_getElem h,zna]
theorem zs0 (pl:List Pl) (l:List Sm) (f:Fl) (k:Nat) (h:k<l.length):zcc pl (l.take (k+1)) f=((zcc pl (l.take k) f).1++[(rsS pl l[k] (zcc pl (l.take k) f).2).1],(rsS pl l[k] (zcc pl (l.take k) f).2).2):=by rw [List.take_succ_eq_append_getElem h,znb]
def znK:List Pl→List VarD→Option (List Pl)
 |es,[]=>some es
 |es,v::r=>if (zb8 v.name es).isSome then none else znK (zkj v.name 0 0 es) r
def zfZ:List Pl→List Int→List VarD→Option (List Pl × List Int)
 |es,xs,[]=>some (es,xs)
 |es,xs,v::r=>if mx v.size 1 > 32 - xs.length then none else zfZ (zkj v.name xs.length v.size es) (xs++[v.init]++List.replicate ((mx v.size 1).toNat - 1) 0) r
structure CdD where
 init:List Int
 start:List Sm
 message:List Sm
 tick:List Sm
 input:List Sm
def zhO (n:Int):List PVal:=[.int .i64 n]
def cdA (c:CdD):AVal:=.agg [.pv (.slice (c.init.map zhO)),.pv (.slice (c.start.map zai)),.pv (.slice (c.message.map zai)),.pv (.slice (c.tick.map zai)),.pv (.slice (c.input.map zai))]
def cd0:CdD:=⟨[],[],[],[],[]⟩
def rs4 (pl:List Pl) (p:PgD):(List Sm × List Sm × List Sm × List Sm) × Fl:=
 let a:=zcc pl p.start (false,false)
 let b:=zcc pl p.message a.2
 let c:=zcc pl p.tick b.2
 let d:=zcc pl p.input c.2
 ((a.1,b.1,c.1,d.1),d.2)
def zCn (xs:List Int) (r:(List Sm × List Sm × List Sm × List Sm) × Fl):CdD × Int:=
 if r.2.1 then (cd0,2) else if r.2.2 then (cd0,7) else (⟨xs,r.1.1,r.1.2.1,r.1.2.2.1,r.1.2.2.2⟩,0)
def zbp (p:PgD):CdD × Int:=
 if zcW zaT p≠0 then (cd0,zcW zaT p)
 else if p.vars.length > 16 then (cd0,4)
 else match znK [] p.vars with
  |none=>(cd0,2)
  |some es=>match zfZ es [] p.vars with
   |none=>(cd0,4)
   |some q=>zCn q.2 (rs4 q.1 p)
end Go.Abs
namespace Go.Abs
open Go
def zcu:List UInt8:=[32,118,97,114,32,97,114,114,97,121,32,111,110,32,115,116,97,114,116,32,109,101,115,115,97,103,101,32,116,105,99,107,32,105,110,112,117,116,32,105,102,32,101,108,115,101,32,119,104,105,108,101,32,115,101,110,100,32,111,117,116,112,117,116,32,115,101,108,102,32,112,114,111,99,115,32,102,114,111,109,32,118,97,108,117,101,32]
theorem zfI:zcu.length=87:=rfl
def zFX:List (List UInt8):=[[118,97,114],[97,114,114,97,121],[111,110],[115,116,97,114,116],[109,101,115,115,97,103,101],[116,105,99,107],[105,110,112,117,116],[105,102],[101,108,115,101],[119,104,105,108,101],[115,101,110,100],[111,117,116,112,117,116],[115,101,108,102],[112,114,111,99,115],[102,114,111,109],[118,97,108,117,101]]
theorem zv4 {s:List UInt8} (h:zsR s=true):s ∈ zFX:=by
 simp only [zsR,Bool.or_eq_true,beq_iff_eq] at h
 simp only [zFX,List.mem_cons,List.not_mem_nil,or_false]
 grind
def zy6 (s:List UInt8) (i:Nat):Bool:=(zcu.take (i+(s.length+2))).drop i==32::(s++[32])
theorem zs1:∀ w ∈ zFX,(List.range 87).any (fun i=>decide (i+(w.length+2)≤87)&&zy6 w i)=true:=by decide +kernel
theorem zs2 {s:List UInt8} (h:∀ i,i+(s.length+2)≤87→zy6 s i=false):zsR s=false:=by
 cases hr:zsR s with
 |false=>rfl
 |true=>
  have:=zs1 s (zv4 hr)
  rw [List.any_eq_true] at this
  obtain ⟨i,_,hi⟩:=this
  simp only [Bool.and_eq_true,decide_eq_true_eq] at hi
  rw [h i hi.1] at hi
  exact absurd hi.2 (by simp)
theorem zv5:∀ i<87,(zcu.drop (i+1)).takeWhile (· != 32)=[]∨zsR ((zcu.drop (i+1)).takeWhile (· != 32))=true∨zcu.getD i 0≠32:=by decide +kernel
theorem zd3:∀ (s r:List UInt8),(∀ c ∈ s,c≠32)→(s++32::r).takeWhile (· != 32)=s
 |[],r,_=>by simp
 |c::s,r,h=>by
  have h1:c≠32:=h c (by simp)
  simp [List.takeWhile_cons,h1,zd3 s r (fun x hx=>h x (by simp [hx]))]
theorem zv6 {s:List UInt8} (h0:s≠[]) (hb:∀ c ∈ s,c≠32) {i:Nat} (hi:i+(s.length+2)≤87) (hh:zy6 s i=true):zsR s=true:=by
 simp only [zy6,beq_iff_eq] at hh
 have hd:zcu.drop i=32::(s++32::zcu.drop (i+(s.length+2))):=by
  have h1:zcu=zcu.take (i+(s.length+2))++zcu.drop (i+(s.length+2)):=(List.take_append_drop _ _).symm
  have h2:zcu.drop i=(zcu.take (i+(s.length+2))).drop i++zcu.drop (i+(s.length+2)):=by
   conv=>lhs;rw [h1]
   rw [List.drop_append_of_le_length (by rw [List.length_take,zfI];omega)]
  rw [h2,hh];simp
 have hd1:zcu.drop (i+1)=s++32::zcu.drop (i+(s.length+2)):=by
  have:zcu.drop (i+1)=(zcu.drop i).drop 1:=by rw [List.drop_drop]
  rw [this,hd];rfl
 have hlt:i<87:=by omega
 rcases zv5 i hlt with h|h|h
 ·rw [hd1,zd3 s _ hb] at h;exact absurd h h0
 ·rw [hd1,zd3 s _ hb] at h;exact h
 ·exfalso;apply h
  have hw:i<zcu.length:=by rw [zfI];exact hlt
  have:(zcu.drop i)[0]?=some 32:=by rw [hd];rfl
  rw [List.getElem?_drop,Nat.add_zero] at this
  simp [List.getD,this]
theorem zs3 (s:List UInt8):(((zvV s 0:Nat):Int)==(s.length:Int))=s.all isW:=by
 rw [zog]
 unfold zvV
 simp only [List.drop_zero,Nat.zero_add]
 induction s with
 |nil=>rfl
 |cons c r ih=>
  rw [List.takeWhile_cons]
  cases h:isW c
  ·simp [h]
  ·simp only [if_true,List.length_cons,List.all_cons,h,Bool.true_and]
   rw [←ih]
   simp
def zaK (name:List UInt8):Int→List VarD→Int × Int × Bool
 |_,[]=>(0,0,false)
 |first,v::r=>if v.name==name then (first,mx v.size 0,true)
  else if mx v.size 1 > 2147483648 - first then (0,0,false) else zaK name (first+mx v.size 1) r
def zqO (name:List UInt8) (l:List VarD):AVal:=.tup [.pv (.int .i64 (zaK name 0 l).1),.pv (.int .i64 (zaK name 0 l).2.1),.pv (.bool (zaK name 0 l).2.2)]
theorem zs4 (first s:Int) (h0:0≤first) (h1:first≤2147483648):(first+znI (mx s 1) 2147483649 > 2147483648 ↔ mx s 1 > 2147483648 - first)∧(¬ mx s 1 > 2147483648 - first→znI (mx s 1) 2147483649=mx s 1)∧1≤znI (mx s 1) 2147483649∧znI (mx s 1) 2147483649≤2147483649:=by
 have:=zGx s 1
 generalize mx s 1=m at *
 unfold znI
 split<;>omega
def zpA (l:List VarD) (n:List UInt8):Bool:=(zaK n 0 l).2.2
mutual
def zeh (l:List VarD):Ex→Bool
 |.mk op _ n _ _ args=>!((op==2 || op==3)&&!zpA l n)&&zcZ l args
def zcZ (l:List VarD):List Ex→Bool
 |[]=>true
 |e::r=>zeh l e&&zcZ l r
end
theorem zs5 (l:List VarD) (e:Ex):zeh l e=(!((e.op==2 || e.op==3)&&!zpA l e.name)&&zcZ l e.args):=by cases e;simp [zeh,Ex.op,Ex.name,Ex.args]
mutual
def zlM (l:List VarD):Sm→Bool
 |.mk k n _ _ p v b e=>!((k==1 || k==2)&&!zpA l n)&&!(!zeh l p || !zeh l v || !zcv l b || !zcv l e)
def zcv (l:List VarD):List Sm→Bool
 |[]=>true
 |s::r=>zlM l s&&zcv l r
end
theorem zv7 (l:List VarD) (s:Sm):zlM l s=(!((s.kind==1 || s.kind==2)&&!zpA l s.name)&&!(!zeh l s.place || !zeh l s.value || !zcv l s.body || !zcv l s.els)):=by cases s;simp [zlM,Sm.kind,Sm.name,Sm.place,Sm.value,Sm.body,Sm.els]
def zdh (l:List VarD) (op:Int) (n:List UInt8) (a b:Int) (k1 k2:Int):(Int × Int) × Bool:=
 if (op==k1 || op==k2)=true then (((zaK n 0 l).1,(zaK n 0 l).2.1),(op==k2)==decide ((zaK n 0 l).2.1 > 0)) else ((a,b),true)
mutual
def r3E (l:List VarD):Ex→Ex × Bool
 |.mk op v n a b args=>(.mk op v n (zdh l op n a b 2 3).1.1 (zdh l op n a b 2 3).1.2 (zeL l args).1,(zdh l op n a b 2 3).2&&(zeL l args).2)
def zeL (l:List VarD):List Ex→List Ex × Bool
 |[]=>([],true)
 |e::r=>((r3E l e).1::(zeL l r).1,(r3E l e).2&&(zeL l r).2)
end
theorem zCo (l:List VarD) (e:Ex):r3E l e=(.mk e.op e.value e.name (zdh l e.op e.name e.slot e.size 2 3).1.1 (zdh l e.op e.name e.slot e.size 2 3).1.2 (zeL l e.args).1,(zdh l e.op e.name e.slot e.size 2 3).2&&(zeL l e.args).2):=by
 cases e;simp [r3E,Ex.op,Ex.value,Ex.name,Ex.slot,Ex.size,Ex.args]
theorem zg1 (l:List VarD):∀ x:List Ex,(zeL l x).1.length=x.length
 |[]=>by simp [zeL]
 |e::r=>by simp [zeL,zg1 l r]
theorem znc (l:List VarD) (x:Ex):∀ r:List Ex,zeL l (r++[x])=((zeL l r).1++[(r3E l x).1],(zeL l r).2&&(r3E l x).2)
 |[]=>by simp [zeL]
 |e::r=>by simp [zeL,znc l x r,Bool.and_assoc]
theorem znd (l:List VarD) (x:List Ex) (k:Nat) (h:k<x.length):zeL l (x.take (k+1))=((zeL l (x.take k)).1++[(r3E l x[k]).1],(zeL l (x.take k)).2&&(r3E l x[k]).2):=by
 rw [List.take_succ_eq_append_getElem h,znc]
mutual
def r3S (l:List VarD):Sm→Sm × Bool
 |.mk k n a b p v body els=>(.mk k n (zdh l k n a b 1 2).1.1 (zdh l k n a b 1 2).1.2 (r3E l p).1 (r3E l v).1 (zb4 l body).1 (zb4 l els).1,
   (zdh l k n a b 1 2).2&&((r3E l p).2&&(r3E l v).2&&(zb4 l body).2&&(zb4 l els).2))
def zb4 (l:List VarD):List Sm→List Sm × Bool
 |[]=>([],true)
 |s::r=>((r3S l s).1::(zb4 l r).1,(r3S l s).2&&(zb4 l r).2)
end
theorem zCp (l:List VarD) (s:Sm):r3S l s=(.mk s.kind s.name (zdh l s.kind s.name s.slot s.size 1 2).1.1 (zdh l s.kind s.name s.slot s.size 1 2).1.2 (r3E l s.place).1 (r3E l s.value).1 (zb4 l s.body).1 (zb4 l s.els).1,
   (zdh l s.kind s.name s.slot s.size 1 2).2&&((r3E l s.place).2&&(r3E l s.value).2&&(zb4 l s.body).2&&(zb4 l s.els).2)):=by
 cases s;simp [r3S,Sm.kind,Sm.name,Sm.slot,Sm.size,Sm.place,Sm.value,Sm.body,Sm.els]
theorem zlN (l:List VarD):∀ x:List Sm,(zb4 l x).1.length=x.length
 |[]=>by simp [zb4]
 |e::r=>by simp [zb4,zlN l r]
theorem znf (l:List VarD) (x:Sm):∀ r:List Sm,zb4 l (r++[x])=((zb4 l r).1++[(r3S l x).1],(zb4 l r).2&&(r3S l x).2)
 |[]=>by simp [zb4]
 |e::r=>by simp [zb4,znf l x r,Bool.and_assoc]
theorem zs6 (l:List VarD) (x:List Sm) (k:Nat) (h:k<x.length):zb4 l (x.take (k+1))=((zb4 l (x.take k)).1++[(r3S l x[k]).1],(zb4 l (x.take k)).2&&(r3S l x[k]).2):=by
 rw [List.take_succ_eq_append_getElem h,znf]
open Go
def zom:List VarD→Bool
 |[]=>false
 |v::r=>r.any (fun x=>x.name==v.name) || zom r
theorem zs7:∀ (l:List VarD) (i j:Nat) (a b:VarD),i<j→l[i]?=some a→l[j]?=some b→a.name=b.name→zom l=true
 |[],i,j,a,b,_,h,_,_=>by simp at h
 |v::r,0,0,a,b,h,_,_,_=>by omega
 |v::r,0,j+1,a,b,_,h1,h2,h=>by
  simp at h1 h2
  subst h1
  have:b ∈ r:=List.mem_of_getElem? h2
  simp only [zom,Bool.or_eq_true,List.any_eq_true,beq_iff_eq]
  exact .inl ⟨b,this,h.symm⟩
 |v::r,i+1,0,a,b,h,_,_,_=>by omega
 |v::r,i+1,j+1,a,b,hlt,h1,h2,h=>by
  simp at h1 h2
  simp only [zom,zs7 r i j a b (by omega) h1 h2 h,Bool.or_true]
theorem zkH:∀ (l:List VarD),(∀ (i j:Nat) (a b:VarD),i<j→l[i]?=some a→l[j]?=some b→a.name≠b.name)→zom l=false
 |[],_=>rfl
 |v::r,h=>by
  have h2:=zkH r (fun i j a b hij ha hb=>h (i+1) (j+1) a b (by omega) (by simpa using ha) (by simpa using hb))
  simp only [zom,h2,Bool.or_false]
  cases hc:r.any (fun x=>x.name==v.name) with
  |false=>rfl
  |true=>
   rw [List.any_eq_true] at hc
   obtain ⟨x,hx,he⟩:=hc
   obtain ⟨k,hk,hke⟩:=List.mem_iff_getElem.1 hx
   exact absurd (show v.name=x.name by simpa using (beq_iff_eq.1 he).symm) (h 0 (k+1) v x (by omega) (by simp) (by simp [hk,hke]))
def zc6 (v:VarD):Int:=znI (mx v.size 1) 2147483649
theorem zhy (v:VarD):1≤zc6 v∧zc6 v≤2147483649:=by
 unfold zc6 znI mx zgs
 split<;>split<;>omega
def zmm:Int→List VarD→Option Int
 |n,[]=>some n
 |n,v::r=>if n+zc6 v > 32 then none else zmm (n+zc6 v) r
def zv8 (v:VarD):List Int:=v.init::List.replicate (v.size.toNat - 1) 0
def zdu:List VarD→List Int
 |[]=>[]
 |v::r=>zv8 v++zdu r
theorem zfn:∀ l r:List VarD,zdu (l++r)=zdu l++zdu r
 |[],r=>by simp [zdu]
 |v::l,r=>by simp [zdu,zfn l r]
theorem zis (v:VarD):((zv8 v).length:Int)=mx v.size 1:=by
 unfold zv8 mx zgs
 simp only [List.length_cons,List.length_replicate]
 split<;>omega
theorem zfo (v:VarD) (h:zc6 v≤32):zc6 v=mx v.size 1:=by
 unfold zc6 znI at *
 split<;>split at h<;>omega
theorem zlO:∀ (l:List VarD) (n m:Int),0≤n→zmm n l=some m→n+(zdu l).length=m∧m≤mx n 32
 |[],n,m,_,h=>by simp [zmm] at h;subst h;simp [zdu,mx,zgs];split<;>omega
 |v::r,n,m,h0,h=>by
  rw [zmm] at h
  split at h
  ·cases h
  ·rename_i hle
   have h5:=zhy v
   have h4:=zfo v (by omega)
   obtain ⟨h1,h2⟩:=zlO r _ m (by omega) h
   have h3:=zis v
   simp only [zdu,List.length_append]
   have h6:mx (n+zc6 v) 32=32:=by unfold mx zgs;split<;>omega
   have h7:32≤mx n 32:=by unfold mx zgs;split<;>omega
   constructor<;>omega
def zdv (p:PgD):CdD × Int:=
 if zcW zaT p≠0 then (cd0,zcW zaT p)
 else if p.vars.length > 16 then (cd0,4)
 else if zom p.vars=true then (cd0,2)
 else if zmm 0 p.vars=none then (cd0,4)
 else if (!zcv p.vars p.start || !zcv p.vars p.message || !zcv p.vars p.tick || !zcv p.vars p.input)=true then (cd0,2)
 else if (!(zb4 p.vars p.start).2 || !(zb4 p.vars p.message).2 || !(zb4 p.vars p.tick).2 || !(zb4 p.vars p.input).2)=true then (cd0,7)
 else (⟨zdu p.vars,(zb4 p.vars p.start).1,(zb4 p.vars p.message).1,(zb4 p.vars p.tick).1,(zb4 p.vars p.input).1⟩,0)
def zxa (l:List VarD) (pl:List Pl):Prop:=∀ n,zb8 n pl=if (zaK n 0 l).2.2 then some ((zaK n 0 l).1,(zaK n 0 l).2.1) else none
theorem zhP (n:List UInt8):∀ (l:List VarD) (f:Int),(zaK n f l).2.2=false→(zaK n f l).1=0∧(zaK n f l).2.1=0
 |[],f,_=>⟨rfl,rfl⟩
 |v::r,f,h=>by
  rw [zaK] at h ⊢
  split at h
  ·simp at h
  ·rename_i h1
   rw [if_neg h1]
   split at h
   ·rename_i h2;rw [if_pos h2];exact ⟨rfl,rfl⟩
   ·rename_i h2;rw [if_neg h2];exact zhP n r _ h
theorem zpB {l:List VarD} {pl:List Pl} (h:zxa l pl) (n:List UInt8) (arr:Bool) (f:Fl) :
  zfm pl n arr f=(((zaK n 0 l).1,(zaK n 0 l).2.1),(f.1 || !zpA l n,f.2 || (zpA l n&&(arr != decide ((zaK n 0 l).2.1 > 0))))):=by
 unfold zfm zpA
 rw [h n]
 cases hf:(zaK n 0 l).2.2
 ·obtain ⟨h1,h2⟩:=zhP n l 0 hf
  simp [h1,h2]
 ·simp
theorem zpC {l:List VarD} {pl:List Pl} (h:zxa l pl) (op:Int) (n:List UInt8) (a b:Int) (f:Fl) (k1 k2:Int) (hk:k1≠k2) :
  (zcY pl op n a b f k1 k2).1=(zdh l op n a b k1 k2).1∧(zcY pl op n a b f k1 k2).2.1=(f.1 || ((op==k1 || op==k2)&&!zpA l n)) ∧
  (((op==k1 || op==k2)&&!zpA l n)=false→(zcY pl op n a b f k1 k2).2.2=(f.2 || !(zdh l op n a b k1 k2).2)):=by
 unfold zcY zdh
 by_cases h1:op=k1
 ·subst h1
  rw [if_pos rfl,zpB h]
  have h2:(op==k2)=false:=by simpa using hk
  simp [h2]
  intro hf;simp [hf]
  try (cases decide (0<(zaK n 0 l).2.1)<;>rfl)
 ·have h1':(op==k1)=false:=by simpa using h1
  rw [if_neg h1]
  by_cases h2:op=k2
  ·subst h2
   rw [if_pos rfl,zpB h]
   simp [h1']
   intro hf;simp [hf]
   try (cases decide (0<(zaK n 0 l).2.1)<;>rfl)
  ·have h2':(op==k2)=false:=by simpa using h2
   rw [if_neg h2]
   simp [h1',h2']
structure RelR (l:List VarD) (α:Type) (r:α × Fl) (f:Fl) (d:Bool) (q:α × Bool):Prop where
 val:r.1=q.1
 nm:r.2.1=(f.1 || !d)
 sh:d=true→r.2.2=(f.2 || !q.2)
mutual
theorem zs8 {l:List VarD} {pl:List Pl} (h:zxa l pl):∀ (e:Ex) (f:Fl),RelR l Ex (rsE pl e f) f (zeh l e) (r3E l e)
 |.mk op v n a b args,f=>by
  obtain ⟨h1,h2,h3⟩:=zpC h op n a b f 2 3 (by decide)
  obtain ⟨g1,g2,g3⟩:=zs9 h args (zcY pl op n a b f 2 3).2
  refine ⟨?_,?_,?_⟩
  ·simp only [rsE,r3E,h1,g1]
  ·simp only [rsE,zeh,g2,h2]
   cases f.1<;>cases ((op==2 || op==3)&&!zpA l n)<;>cases zcZ l args<;>rfl
  ·intro hn
   simp only [zeh,Bool.and_eq_true,Bool.not_eq_true'] at hn
   simp only [rsE,r3E,g3 hn.2,h3 hn.1]
   cases f.2<;>cases (zdh l op n a b 2 3).2<;>cases (zeL l args).2<;>rfl
theorem zs9 {l:List VarD} {pl:List Pl} (h:zxa l pl):∀ (e:List Ex) (f:Fl),RelR l (List Ex) (zd2 pl e f) f (zcZ l e) (zeL l e)
 |[],f=>⟨by simp [zd2,zeL],by simp [zd2,zcZ],by simp [zd2,zeL]⟩
 |e::r,f=>by
  obtain ⟨h1,h2,h3⟩:=zs8 h e f
  obtain ⟨g1,g2,g3⟩:=zs9 h r (rsE pl e f).2
  refine ⟨?_,?_,?_⟩
  ·simp only [zd2,zeL,h1,g1]
  ·simp only [zd2,zcZ,g2,h2]
   cases f.1<;>cases zeh l e<;>cases zcZ l r<;>rfl
  ·intro hn
   simp only [zcZ,Bool.and_eq_true] at hn
   simp only [zd2,zeL,g3 hn.2,h3 hn.1]
   cases f.2<;>cases (r3E l e).2<;>cases (zeL l r).2<;>rfl
end
mutual
theorem zCq {l:List VarD} {pl:List Pl} (h:zxa l pl):∀ (s:Sm) (f:Fl),RelR l Sm (rsS pl s f) f (zlM l s) (r3S l s)
 |.mk k n a b p v body els,f=>by
  obtain ⟨h1,h2,h3⟩:=zpC h k n a b f 1 2 (by decide)
  obtain ⟨p1,p2,p3⟩:=zs8 h p (zcY pl k n a b f 1 2).2
  obtain ⟨v1,v2,v3⟩:=zs8 h v (rsE pl p (zcY pl k n a b f 1 2).2).2
  obtain ⟨b1,b2,b3⟩:=zgn h body (rsE pl v (rsE pl p (zcY pl k n a b f 1 2).2).2).2
  obtain ⟨e1,e2,e3⟩:=zgn h els (zcc pl body (rsE pl v (rsE pl p (zcY pl k n a b f 1 2).2).2).2).2
  refine ⟨?_,?_,?_⟩
  ·simp only [rsS,r3S,h1,p1,v1,b1,e1]
  ·simp only [rsS,zlM,e2,b2,v2,p2,h2]
   cases f.1<;>cases ((k==1 || k==2)&&!zpA l n)<;>cases zeh l p<;>cases zeh l v<;>cases zcv l body<;>cases zcv l els<;>rfl
  ·intro hn
   simp only [zlM,Bool.and_eq_true,Bool.not_eq_true',Bool.or_eq_false_iff,Bool.not_eq_false'] at hn
   obtain ⟨hn0,⟨⟨hnp,hnv⟩,hnb⟩,hne⟩:=hn
   simp only [rsS,r3S,e3 hne,b3 hnb,v3 hnv,p3 hnp,h3 hn0]
   cases f.2<;>cases (zdh l k n a b 1 2).2<;>cases (r3E l p).2<;>cases (r3E l v).2<;>cases (zb4 l body).2<;>cases (zb4 l els).2<;>rfl
theorem zgn {l:List VarD} {pl:List Pl} (h:zxa l pl):∀ (s:List Sm) (f:Fl),RelR l (List Sm) (zcc pl s f) f (zcv l s) (zb4 l s)
 |[],f=>⟨by simp [zcc,zb4],by simp [zcc,zcv],by simp [zcc,zb4]⟩
 |e::r,f=>by
  obtain ⟨h1,h2,h3⟩:=zCq h e f
  obtain ⟨g1,g2,g3⟩:=zgn h r (rsS pl e f).2
  refine ⟨?_,?_,?_⟩
  ·simp only [zcc,zb4,h1,g1]
  ·simp only [zcc,zcv,g2,h2]
   cases f.1<;>cases zlM l e<;>cases zcv l r<;>rfl
  ·intro hn
   simp only [zcv,Bool.and_eq_true] at hn
   simp only [zcc,zb4,g3 hn.2,h3 hn.1]
   cases f.2<;>cases (r3S l e).2<;>cases (zb4 l r).2<;>rfl
end
theorem zCr {l:List VarD} {pl:List Pl} (h:zxa l pl) (p:PgD) (xs:List Int):zCn xs (rs4 pl p) =
  if (!zcv l p.start || !zcv l p.message || !zcv l p.tick || !zcv l p.input)=true then (cd0,2)
  else if (!(zb4 l p.start).2 || !(zb4 l p.message).2 || !(zb4 l p.tick).2 || !(zb4 l p.input).2)=true then (cd0,7)
  else (⟨xs,(zb4 l p.start).1,(zb4 l p.message).1,(zb4 l p.tick).1,(zb4 l p.input).1⟩,0):=by
 obtain ⟨a1,a2,a3⟩:=zgn h p.start (false,false)
 obtain ⟨b1,b2,b3⟩:=zgn h p.message (zcc pl p.start (false,false)).2
 obtain ⟨c1,c2,c3⟩:=zgn h p.tick (zcc pl p.message (zcc pl p.start (false,false)).2).2
 obtain ⟨d1,d2,d3⟩:=zgn h p.input (zcc pl p.tick (zcc pl p.message (zcc pl p.start (false,false)).2).2).2
 unfold zCn rs4
 dsimp only
 have hnm:(zcc pl p.input (zcc pl p.tick (zcc pl p.message (zcc pl p.start (false,false)).2).2).2).2.1=(!zcv l p.start || !zcv l p.message || !zcv l p.tick || !zcv l p.input):=by
  rw [d2,c2,b2,a2];rfl
 rw [hnm]
 split
 ·rfl
 ·rename_i hn
  simp only [Bool.or_eq_true,Bool.not_eq_true',not_or,Bool.not_eq_false] at hn
  obtain ⟨⟨⟨n1,n2⟩,n3⟩,n4⟩:=hn
  have hsh:(zcc pl p.input (zcc pl p.tick (zcc pl p.message (zcc pl p.start (false,false)).2).2).2).2.2=(!(zb4 l p.start).2 || !(zb4 l p.message).2 || !(zb4 l p.tick).2 || !(zb4 l p.input).2):=by
   rw [d3 n4,c3 n3,b3 n2,a3 n1];rfl
  rw [hsh,a1,b1,c1,d1]
open Go
theorem zfJ (n m:List UInt8) (a b:Int):∀ l:List Pl,zb8 n (zkj m a b l)=if n=m then some (a,b) else zb8 n l
 |[]=>by simp [zkj,zb8]
 |p::r=>by
  have ih:=zfJ n m a b r
  rw [zkj]
  by_cases h:m=p.name
  ·rw [if_pos h]
   by_cases h2:n=m
   ·simp [zb8,h2]
   ·have:¬ n=p.name:=fun e=>h2 (e.trans h.symm)
    simp [zb8,h2,this]
  ·rw [if_neg h]
   by_cases h2:n=p.name
   ·have:¬ n=m:=fun e=>h (e.symm.trans h2)
    simp [zb8,h2] at *
    simp [h,Ne.symm] at *
   ·simp [zb8,h2,ih]
theorem zng:∀ (l:List VarD) (es:List Pl),(znK es l=none ↔ (l.any (fun v=>(zb8 v.name es).isSome)=true∨zom l=true))
 |[],es=>by simp [znK,zom]
 |v::r,es=>by
  rw [znK]
  by_cases h:(zb8 v.name es).isSome=true
  ·rw [if_pos h];simp [h]
  ·rw [if_neg h,zng r]
   simp only [List.any_cons,zom,zfJ,Bool.or_eq_true]
   constructor
   ·rintro (h1|h1)
    ·rw [List.any_eq_true] at h1
     obtain ⟨x,hx,hs⟩:=h1
     by_cases hxv:x.name=v.name
     ·right;left;rw [List.any_eq_true];exact ⟨x,hx,by simpa using hxv⟩
     ·rw [if_neg hxv] at hs
      left;right;rw [List.any_eq_true];exact ⟨x,hx,hs⟩
    ·right;right;exact h1
   ·rintro ((h1|h1)|(h1|h1))
    ·exact absurd h1 h
    ·rw [List.any_eq_true] at h1
     obtain ⟨x,hx,hs⟩:=h1
     left;rw [List.any_eq_true];refine ⟨x,hx,?_⟩
     split
     ·rfl
     ·exact hs
    ·rw [List.any_eq_true] at h1
     obtain ⟨x,hx,hs⟩:=h1
     left;rw [List.any_eq_true];refine ⟨x,hx,?_⟩
     rw [if_pos (by simpa using hs)];rfl
    ·right;exact h1
theorem znh (n:List UInt8):∀ (l:List VarD) (es es':List Pl),znK es l=some es'→(∀ v ∈ l,v.name≠n)→zb8 n es'=zb8 n es
 |[],es,es',h,_=>by simp [znK] at h;rw [h]
 |v::r,es,es',h,hn=>by
  rw [znK] at h
  split at h
  ·cases h
  ·rw [znh n r _ es' h (fun x hx=>hn x (by simp [hx])),zfJ,if_neg (fun e=>hn v (by simp) e.symm)]
def lkF (n:List UInt8):Int→List VarD→Option (Int × Int)
 |_,[]=>none
 |f,v::r=>if v.name=n then some (f,v.size) else lkF n (f+mx v.size 1) r
theorem zpD (n:List UInt8):∀ (l:List VarD) (f:Int),(∀ v ∈ l,v.name≠n)→lkF n f l=none
 |[],f,_=>rfl
 |v::r,f,h=>by rw [lkF,if_neg (h v (by simp))];exact zpD n r _ (fun x hx=>h x (by simp [hx]))
theorem zpE (n:List UInt8):∀ (l:List VarD) (f:Int),lkF n f l=none→∀ v ∈ l,v.name≠n
 |[],f,_,v,hv=>by simp at hv
 |v::r,f,h,x,hx=>by
  rw [lkF] at h
  split at h
  ·cases h
  ·rename_i hne
   rcases List.mem_cons.1 hx with rfl|hx
   ·exact hne
   ·exact zpE n r _ h x hx
theorem zta (v:VarD):[v.init]++List.replicate ((mx v.size 1).toNat - 1) 0=zv8 v:=by
 unfold zv8
 have:(mx v.size 1).toNat - 1=v.size.toNat - 1:=by unfold mx zgs;split<;>omega
 rw [this];rfl
theorem ztb (n:Int) (v:VarD) (h0:0≤n):(mx v.size 1 > 32 - n ↔ n+zc6 v > 32):=by
 unfold zc6 znI
 split<;>omega
theorem zjv:∀ (l:List VarD) (es:List Pl) (xs:List Int),(zfZ es xs l=none ↔ zmm xs.length l=none)∧∀ q,zfZ es xs l=some q→q.2=xs++zdu l
 |[],es,xs=>by simp [zfZ,zmm,zdu]
 |v::r,es,xs=>by
  rw [zfZ,zmm]
  have hs:=ztb xs.length v (by omega)
  by_cases h:mx v.size 1 > 32 - (xs.length:Int)
  ·rw [if_pos h,if_pos (hs.1 h)];simp
  ·have h':¬ (xs.length:Int)+zc6 v > 32:=fun e=>h (hs.2 e)
   rw [if_neg h,if_neg h']
   have hc:=zfo v (by omega)
   have h1:=zis v
   have ih:=zjv r (zkj v.name xs.length v.size es) (xs++[v.init]++List.replicate ((mx v.size 1).toNat - 1) 0)
   rw [List.append_assoc,zta] at ih ⊢
   have hl:((xs++zv8 v).length:Int)=xs.length+zc6 v:=by rw [List.length_append,hc,←h1];omega
   rw [hl] at ih
   refine ⟨ih.1,fun q hq=>?_⟩
   rw [ih.2 q hq,zdu,List.append_assoc]
theorem zkI (n:List UInt8):∀ (l:List VarD) (es:List Pl) (xs:List Int) (q:List Pl × List Int),zom l=false→zfZ es xs l=some q→zb8 n q.1=(lkF n xs.length l).or (zb8 n es)
 |[],es,xs,q,_,h=>by simp [zfZ] at h;rw [←h];simp [lkF]
 |v::r,es,xs,q,hd,h=>by
  rw [zfZ] at h
  split at h
  ·cases h
  ·rename_i hle
   simp only [zom,Bool.or_eq_false_iff] at hd
   have hl:(((xs++[v.init]++List.replicate ((mx v.size 1).toNat - 1) 0).length:Nat):Int)=xs.length+mx v.size 1:=by
    rw [List.append_assoc,zta,List.length_append,←zis v];omega
   have ih:=zkI n r _ _ q hd.2 h
   rw [hl,zfJ] at ih
   rw [ih,lkF]
   by_cases hv:v.name=n
   ·subst hv
    have:∀ x ∈ r,x.name≠v.name:=fun x hx e=>by
     have:=hd.1
     rw [List.any_eq_false] at this
     exact this x hx (by simpa using e)
    rw [zpD _ r _ this];simp
   ·rw [if_neg hv,if_neg (fun e=>hv e.symm)]
theorem zkJ (n:List UInt8):∀ (l:List VarD) (f:Int),0≤f→zmm f l≠none→(∀ v ∈ l,0≤v.size)→zaK n f l=match lkF n f l with|some q=>(q.1,q.2,true)|none=>(0,0,false)
 |[],f,_,_,_=>rfl
 |v::r,f,h0,hs,hp=>by
  rw [zmm] at hs
  split at hs
  ·exact absurd rfl hs
  ·rename_i hle
   have hc0:=zhy v
   have hc:=zfo v (by omega)
   rw [zaK,lkF]
   by_cases hv:v.name=n
   ·have h1:=hp v (by simp)
    have h2:mx v.size 0=v.size:=by unfold mx zgs;split<;>omega
    simp [hv,h2]
   ·have:(v.name==n)=false:=by simpa using hv
    rw [this,if_neg (by simp),if_neg (by omega),if_neg hv]
    rw [hc] at hs
    exact zkJ n r _ (by omega) hs (fun x hx=>hp x (by simp [hx]))
theorem zy7 {l:List VarD} {es:List Pl} {q:List Pl × List Int} (hd:zom l=false) (he:znK [] l=some es) (hf:zfZ es [] l=some q) (hp:∀ v ∈ l,0≤v.size):zxa l q.1:=by
 intro n
 have hs:zmm 0 l≠none:=fun h=>by
  have:=(zjv l es []).1.2 (by simpa using h)
  rw [this] at hf;cases hf
 have h1:=zkI n l es [] q hd hf
 have h2:=zkJ n l 0 (by omega) hs hp
 rw [h1,h2]
 simp only [List.length_nil]
 rw [show ((0:Nat):Int)=0 from rfl]
 cases hk:lkF n 0 l with
 |some z=>simp
 |none=>
  have:=znh n l [] es he (zpE n l 0 hk)
  simp [this,zb8]
theorem zhQ (p:PgD):zbp p=zdv p:=by
 unfold zbp zdv
 by_cases h1:zcW zaT p≠0
 ·rw [if_pos h1,if_pos h1]
 ·rw [if_neg h1,if_neg h1]
  by_cases h2:p.vars.length > 16
  ·rw [if_pos h2,if_pos h2]
  ·rw [if_neg h2,if_neg h2]
   have hp:∀ v ∈ p.vars,0≤v.size:=by
    intro v hv
    have h3:zcW zaT p=0:=by simpa using h1
    unfold zcW at h3
    split at h3
    ·cases h3
    ·split at h3
     ·cases h3
     ·rename_i hany
      have:zcV v=true:=by
       cases hg:zcV v with
       |true=>rfl
       |false=>exact absurd (List.any_eq_true.2 ⟨v,hv,by simp [hg]⟩) hany
      unfold zcV at this
      grind
   have hdn:=zng p.vars []
   have h0:p.vars.any (fun v=>(zb8 v.name []).isSome)=false:=by simp [zb8]
   rw [h0] at hdn
   cases hd:zom p.vars with
   |true=>
    have:znK [] p.vars=none:=hdn.2 (.inr hd)
    rw [this];simp
   |false=>
    cases he:znK [] p.vars with
    |none=>have:=hdn.1 he;rw [hd] at this;simp at this
    |some es=>
     have hfs:=zjv p.vars es []
     rw [if_neg (by simp)]
     dsimp only
     cases hf:zfZ es [] p.vars with
     |none=>
      have:=hfs.1.1 hf
      rw [if_pos (by simpa using this)]
     |some q=>
      have hs:¬ zmm 0 p.vars=none:=fun h=>by
       have:=hfs.1.2 (by simpa using h)
       rw [this] at hf;cases hf
      rw [if_neg hs]
      dsimp only
      rw [zCr (zy7 hd he hf hp) p q.2,hfs.2 q hf]
      rfl
def zz0 (x:UInt8):List PVal:=[.int .u8 (x.toNat:Int)]
def zFY (q:Bool × List UInt8):List UInt8:=if q.1 then 40::(q.2++[41]) else q.2
def fmN (op value:Int) (nm:List UInt8) (ts:List (Bool × List UInt8)):List UInt8:=
 if op=1 then zeV value else if op=2 then nm
 else if op=3 then nm++91::((ts.getD 0 (false,[])).2++[93])
 else if op=4 then [115,101,108,102] else if op=5 then [112,114,111,99,115] else if op=6 then [102,114,111,109] else if op=7 then [118,97,108,117,101]
 else if op=8∨op=9 then sgF op.toNat++zFY (ts.getD 0 (false,[]))
 else zFY (ts.getD 0 (false,[]))++32::(sgF op.toNat++32::zFY (ts.getD 1 (false,[])))
mutual
def fmE:Ex→List UInt8
 |.mk op value nm _ _ args=>fmN op value nm (zGy args)
def zGy:List Ex→List (Bool × List UInt8)
 |[]=>[]
 |e::r=>(decide (e.op≥8),fmE e)::zGy r
end
def zFZ (n:Nat):List UInt8:=List.replicate (2 * n) 32
def fmS (kind:Int) (nm place value body els:List UInt8) (he:Bool) (n:Nat):List UInt8:=
 if kind=1 then nm++[32,61,32]++value++[59,10]
 else if kind=2 then nm++[91]++place++[93,32,61,32]++value++[59,10]
 else if kind=5 then [115,101,110,100,32]++place++[44,32]++value++[59,10]
 else if kind=6 then [111,117,116,112,117,116,32]++value++[59,10]
 else (if kind=3 then [105,102,32] else [119,104,105,108,101,32])++value++[32,123,10]++body++zFZ n++(if he then [125,32,101,108,115,101,32,123,10]++els++zFZ n else [])++[125,10]
mutual
def stT (n:Nat):Sm→List UInt8
 |.mk kind nm _ _ place value body els=>fmS kind nm (fmE place) (fmE value) (lsT (n+1) body) (lsT (n+1) els) (decide (els.length > 0)) n
def lsT (n:Nat):List Sm→List UInt8
 |[]=>[]
 |s::r=>zFZ n++stT n s++lsT n r
end
def hdT (nm:List UInt8) (l:List Sm):List UInt8:=if l.length=0 then [] else [111,110,32]++nm++[32,123,10]++lsT 1 l++[125,10]
def itT (n:Int):List UInt8:=if n<0 then 45::zeV (-n) else zeV n
def vaT (v:VarD):List UInt8:=if v.size≠0 then [97,114,114,97,121,32]++v.name++[91]++itT v.size++[93,59,10] else if v.init≠0 then [118,97,114,32]++v.name++[32,61,32]++itT v.init++[59,10] else [118,97,114,32]++v.name++[59,10]
def vsT (l:List VarD):List UInt8:=(l.map vaT).flatten
def pgT (p:PgD):List UInt8:=vsT p.vars++hdT [115,116,97,114,116] p.start++hdT [109,101,115,115,97,103,101] p.message++hdT [116,105,99,107] p.tick++hdT [105,110,112,117,116] p.input
def zkk (p:PgD):List UInt8 × Int:=
 if zcW zaT p≠0 then ([],zcW zaT p) else if ((pgT p).length:Int) > 4096 then ([],5) else (pgT p,0)
theorem zpF (n:Int):(zeV n).length≤20:=by
 unfold zeV
 split
 ·simp
 ·exact zsW _ _
theorem zdB (n:Int):(itT n).length≤21:=by
 unfold itT
 split
 ·have:=zpF (-n);simp only [List.length_cons];omega
 ·have:=zpF n;omega
theorem zon (n:Int) (h0:-9223372036854775808≤n) (h1:n≤9223372036854775807):Lib.itoa n=itT n:=by
 unfold itT
 by_cases h:n<0
 ·rw [if_pos h]
  have e:=zsZ 20 n.natAbs (by omega) (by omega)
  unfold Lib.itoa zeV
  rw [if_pos h,if_neg (by omega),e]
  congr 2
  omega
 ·rw [if_neg h]
  have:=zv3 n h1
  rw [show zgs n 0=n by unfold zgs;split<;>omega] at this
  exact this
def zlP (n:Int):Bool:=decide (-9223372036854775808≤n)&&decide (n≤9223372036854775807)
theorem zem {n:Int} (h:zlP n=true):-9223372036854775808≤n∧n≤9223372036854775807:=by simpa [zlP] using h
open Go
theorem zdO (n:Int) (h0:0≤n) (h:n≤9223372036854775808):zeV n≠[]∧(∀ c ∈ zeV n,isD c=true)∧(zba (zeV n):Int)=n∧((zeV n).head?=some 48→n=0)∧(zeV n).length≤19:=by
 by_cases hn:n≤0
 ·have:n=0:=by omega
  subst this
  exact ⟨by decide,by decide,by decide,fun _=>rfl,by decide⟩
 ·have e:zeV n=dg 20 n.toNat:=by unfold zeV;rw [if_neg hn]
  have e2:dg 20 n.toNat=dg 19 n.toNat:=zsV 19 n.toNat (by omega)
  obtain ⟨c,r,h1,h2,h3⟩:=zsX 20 n.toNat (by omega) (by omega)
  refine ⟨by rw [e,h1];simp,fun c hc=>zw8 20 n.toNat c (by rw [←e];exact hc),by rw [e,zw9 20 n.toNat (by omega)];omega,fun hh=>?_,by rw [e,e2];exact zsW _ _⟩
  rw [e,h1] at hh
  simp at hh
  exact absurd hh h2
def dgs (w:List UInt8):List UInt8:=if w.head?=some 45 then w.tail else w
def zaW (w:List UInt8):Int × Bool:=
 if dgs w=[]∨19<(dgs w).length∨((dgs w).head?=some 48∧(1<(dgs w).length∨1<w.length)) then (0,false)
 else if (dgs w).all isD=false then (0,false)
 else if (dgs w).length<w.length then (IntKind.i64.wrap (-(zba (dgs w):Int)),decide (zba (dgs w)≤9223372036854775808))
 else (IntKind.i64.wrap (zba (dgs w)),decide (zba (dgs w)<9223372036854775808))
theorem zqP (n:Int) (h0:0≤n) (h:n≤9223372036854775808):(zeV n).head?≠some 45:=by
 intro hh
 obtain ⟨_,h2,_⟩:=zdO n h0 h
 have:=zcC (h2 45 (List.mem_of_mem_head? hh))
 have h3:(45:UInt8).toNat=45:=rfl
 omega
theorem ztc (v:Int) (h:v<0):itT v=45::zeV (-v)∧dgs (itT v)=zeV (-v):=by
 have e:itT v=45::zeV (-v):=by unfold itT;rw [if_pos h]
 exact ⟨e,by rw [e];simp [dgs]⟩
theorem ztd (v:Int) (h:0≤v) (h1:v≤9223372036854775807):itT v=zeV v∧dgs (itT v)=zeV v:=by
 have e:itT v=zeV v:=by unfold itT;rw [if_neg (by omega)]
 refine ⟨e,?_⟩
 rw [e]
 unfold dgs
 rw [if_neg (zqP v h (by omega))]
theorem zoo (v:Int) (h0:-9223372036854775808≤v) (h1:v≤9223372036854775807):zaW (itT v)=(v,true):=by
 by_cases h:v<0
 ·obtain ⟨e1,e2⟩:=ztc v h
  obtain ⟨f1,f2,f3,f4,f5⟩:=zdO (-v) (by omega) (by omega)
  unfold zaW
  rw [e2,e1,if_neg (by rintro (h'|h'|⟨h',_⟩);exact f1 h';omega;have:=f4 h';omega),if_neg (by simpa using f2),if_pos (by simp)]
  rw [f3,zaS _ (by omega) (by omega)]
  simp
  omega
 ·obtain ⟨e1,e2⟩:=ztd v (by omega) h1
  obtain ⟨f1,f2,f3,f4,f5⟩:=zdO v (by omega) (by omega)
  unfold zaW
  rw [e2,e1,if_neg (by rintro (h'|h'|⟨h',h''⟩);exact f1 h';omega;have:=f4 h';subst this;exact absurd h'' (by decide)),if_neg (by simpa using f2),if_neg (by simp)]
  rw [f3,zaS _ (by omega) (by omega)]
  simp
  omega
theorem zv9 (d:List UInt8) (hne:d≠[]) (hall:∀ c ∈ d,isD c=true) (hh:d.head?=some 48→d.length=1) (hl:d.length≤19):zeV (zba d)=d∧(d.head?≠some 48→0<zba d):=by
 have hg:d.getD 0 0=48 ↔ d.head?=some 48:=by
  cases d with
  |nil=>exact absurd rfl hne
  |cons c r=>simp
 by_cases h48:d.head?=some 48
 ·refine ⟨?_,fun h=>absurd h48 h⟩
  match d,hh h48 with
  |[c],_=>simp at h48;subst h48;rfl
 ·obtain ⟨h1,h2⟩:=zok 20 d hall (fun e=>h48 (hg.1 e)) (by omega)
  have h3:=h2 hne
  refine ⟨?_,fun _=>h3⟩
  unfold zeV
  rw [if_neg (by omega),Int.toNat_natCast,h1]
theorem zc0 (w:List UInt8) (h:(zaW w).2=true):itT (zaW w).1=w∧-9223372036854775808≤(zaW w).1∧(zaW w).1≤9223372036854775807:=by
 unfold zaW at h ⊢
 split at h
 ·cases h
 ·rename_i hc
  rw [if_neg hc]
  split at h
  ·cases h
  ·rename_i ha
   rw [if_neg ha]
   have hall:∀ c ∈ dgs w,isD c=true:=by simpa using ha
   have hne:dgs w≠[]:=fun e=>hc (.inl e)
   have hl:(dgs w).length≤19:=by
    rcases Nat.lt_or_ge 19 (dgs w).length with h'|h'
    ·exact absurd (.inr (.inl h')) hc
    ·exact h'
   have hlead:(dgs w).head?=some 48→(dgs w).length≤1∧w.length≤1:=by
    intro h48
    refine ⟨?_,?_⟩
    ·rcases Nat.lt_or_ge 1 (dgs w).length with h'|h'
     ·exact absurd (.inr (.inr ⟨h48,.inl h'⟩)) hc
     ·exact h'
    ·rcases Nat.lt_or_ge 1 w.length with h'|h'
     ·exact absurd (.inr (.inr ⟨h48,.inr h'⟩)) hc
     ·exact h'
   have hpos:0<(dgs w).length:=List.length_pos_iff.2 hne
   have hb:=zv9 (dgs w) hne hall (fun h48=>by have:=(hlead h48).1;omega) hl
   split at h
   ·rename_i hlt
    rw [if_pos hlt]
    have hv:zba (dgs w)≤9223372036854775808:=by simpa using h
    have h45:w.head?=some 45:=by
     rcases Decidable.em (w.head?=some 45) with h'|h'
     ·exact h'
     ·exfalso
      unfold dgs at hlt
      rw [if_neg h'] at hlt
      omega
    have hw:w=45::dgs w:=by
     cases w with
     |nil=>simp at h45
     |cons c r=>simp at h45;subst h45;simp [dgs]
    have h48:(dgs w).head?≠some 48:=fun e=>by have:=(hlead e).2;omega
    have hp:=hb.2 h48
    have e1:IntKind.i64.wrap (-(zba (dgs w):Int))=-(zba (dgs w):Int):=zaS _ (by omega) (by omega)
    simp only [e1]
    refine ⟨?_,by omega,by omega⟩
    unfold itT
    rw [if_pos (by omega),Int.neg_neg,hb.1]
    exact hw.symm
   ·rename_i hlt
    rw [if_neg hlt]
    have hv:zba (dgs w)<9223372036854775808:=by simpa using h
    have hw:dgs w=w:=by
     unfold dgs
     split
     ·rename_i h45
      exfalso
      unfold dgs at hlt
      rw [if_pos h45] at hlt
      cases w with
      |nil=>simp at h45
      |cons c r=>simp at hlt
     ·rfl
    have e1:IntKind.i64.wrap (zba (dgs w):Int)=(zba (dgs w):Int):=zaS _ (by omega) (by omega)
    simp only [e1]
    refine ⟨?_,by omega,by omega⟩
    unfold itT
    rw [if_neg (by omega),hb.1,hw]
theorem zwa (v:Int) (h0:-9223372036854775808≤v) (h1:v≤9223372036854775807):Lib.parseIntB 64 (itT v)=.ok v:=by
 by_cases h:v<0
 ·obtain ⟨e1,_⟩:=ztc v h
  obtain ⟨f1,f2,f3,f4,f5⟩:=zdO (-v) (by omega) (by omega)
  have hu:Lib.parseUintB 64 (zeV (-v))=.ok (zba (zeV (-v))):=by
   unfold Lib.parseUintB
   rw [if_neg f1,zeG _ (by decide) _ _ f2 (by omega)]
   rw [if_pos]
   ·rfl
   ·show zba (zeV (-v))≤2 ^ 64 - 1
    omega
  rw [e1]
  unfold Lib.parseIntB
  have h45:(45:UInt8).toNat=45:=rfl
  simp only [h45,or_true,if_true,hu]
  rw [if_neg (by simp),if_neg (by simp;omega)]
  congr 1
  omega
 ·obtain ⟨e1,_⟩:=ztd v (by omega) h1
  obtain ⟨f1,f2,f3,f4,f5⟩:=zdO v (by omega) (by omega)
  rw [e1,zgm _ f1 f2,if_pos (by omega),f3]
theorem zpG (w:List UInt8) (v:Int) (h:Lib.parseIntB 64 w=.ok v):-9223372036854775808≤v∧v≤9223372036854775807:=by
 unfold Lib.parseIntB at h
 cases w with
 |nil=>cases h
 |cons c r=>
  simp only at h
  split at h
  ·cases h
  ·cases h
  ·split at h
   ·cases h
   ·split at h
    ·cases h
    ·rename_i u _ h1 h2
     cases h
     simp at h1 h2
     split
     ·rename_i hn;have:=h2 hn;omega
     ·rename_i hn;have:=h1 hn;omega
def zrz (w:List UInt8):Int × Bool:=match Lib.parseIntB 64 w with
 |.ok v=>if Lib.itoa v=w then (v,true) else (0,false)
 |_=>(0,false)
theorem zop (w:List UInt8):zrz w=if (zaW w).2=true then ((zaW w).1,true) else (0,false):=by
 by_cases h:(zaW w).2=true
 ·obtain ⟨h1,h2,h3⟩:=zc0 w h
  rw [if_pos h]
  unfold zrz
  rw [show Lib.parseIntB 64 w=.ok (zaW w).1 by rw [←zwa _ h2 h3,h1]]
  simp only
  rw [zon _ h2 h3,if_pos h1]
 ·rw [if_neg h]
  unfold zrz
  split
  ·rename_i v hv
   obtain ⟨h2,h3⟩:=zpG w v hv
   rw [if_neg]
   intro hw
   rw [zon _ h2 h3] at hw
   exact h (by rw [←hw,zoo v h2 h3])
  ·rfl
structure StD where
 kind:Int
 proc:Int
 place:Int
 value:Int
 deriving DecidableEq
def zcw (x:StD):List PVal:=[.int .i64 x.kind,.int .i64 x.proc,.int .i64 x.place,.int .i64 x.value]
def stA (x:StD):AVal:=.agg [.pv (.int .i64 x.kind),.pv (.int .i64 x.proc),.pv (.int .i64 x.place),.pv (.int .i64 x.value)]
def st0:StD:=⟨0,0,0,0⟩
def zug:List (List UInt8):=[[],[100,101,108,105,118,101,114],[116,105,99,107],[105,110,112,117,116],[100,114,111,112],[100,117,112,108,105,99,97,116,101],[114,101,115,101,110,100],[99,104,101,99,107,112,111,105,110,116],[102,108,117,115,104],[97,99,107],[99,114,97,115,104],[114,101,99,111,118,101,114],[114,101,115,116,111,114,101],[99,111,109,109,105,116],[99,111,108,108,101,99,116]]
def zlR:List (List UInt8):=[[],[105,110,100,101,112,101,110,100,101,110,116],[99,111,111,114,100,105,110,97,116,101,100],[105,110,100,101,120,101,100],[109,111,100,101,108,98,97,115,101,100],[112,101,115,115,105,109,105,115,116,105,99],[115,101,110,100,101,114,98,97,115,101,100],[111,112,116,105,109,105,115,116,105,99],[99,97,117,115,97,108]]
def wdF (k:Int):List UInt8:=if k<1∨14<k then [] else zug.getD k.toNat []
def prF (k:Int):List UInt8:=if k<1∨8<k then [] else zlR.getD k.toNat []
def shF (k:Int):Nat:=if k=1∨k=4∨k=5 then 1 else if k=2∨k=3∨k=10 then 2 else if k=6∨k=7∨k=8∨k=9∨k=12 then 3 else 0
def zit (x:StD):List Int:=match shF x.kind with
 |1=>[x.place]
 |2=>[x.proc,x.value]
 |3=>[x.proc]
 |_=>[]
def zc1 (x:StD):Bool:=match shF x.kind with
 |1=>x.proc==0&&x.value==0
 |2=>x.place==0
 |3=>x.place==0&&x.value==0
 |_=>x.proc==0&&x.place==0&&x.value==0
def zaO (x:StD):List UInt8:=wdF x.kind++(zit x).flatMap fun n=>32::itT n
def zfL (k:Int) (ns:List Int):StD:=match shF k with
 |1=>⟨k,0,ns.getD 0 0,0⟩
 |2=>⟨k,ns.getD 0 0,0,ns.getD 1 0⟩
 |3=>⟨k,ns.getD 0 0,0,0⟩
 |_=>⟨k,0,0,0⟩
def nfF (k:Int):Nat:=match shF k with|1=>1|2=>2|3=>1|_=>0
def kdF (w:List UInt8):Int:=if w=[] then 0 else (zug.idxOf w:Int)
def zjx (a:List UInt8) (l:List (List UInt8)):Option StD:=
 if kdF a<1∨14<kdF a then none
 else if l.length≠nfF (kdF a) then none
 else if (l.all fun w=>(zaW w).2)=false then none
 else some (zfL (kdF a) (l.map fun w=>(zaW w).1))
def zf0 (line:List UInt8):Option StD:=match zaj 32 line with
 |[]=>none
 |a::l=>zjx a l
/-! ### Cutting and joining -/
def zgo (c:UInt8):List (List UInt8)→List UInt8
 |[]=>[]
 |[a]=>a
 |a::b::r=>a++c::zgo c (b::r)
theorem zhz (c:UInt8):∀ s,zgo c (zaj c s)=s
 |[]=>rfl
 |x::r=>by
  have ih:=zhz c r
  have hne:=zbG c r
  rw [zaj]
  split
  ·rename_i h
   subst h
   match zaj x r,hne,ih with
   |a::t,_,ih=>simp [zgo,ih]
  ·match zaj c r,hne,ih with
   |[a],_,ih=>simpa [zgo] using ih
   |a::b::t,_,ih=>simp [zgo] at ih ⊢;exact ih
theorem zkL (c:UInt8):∀ l:List (List UInt8),l≠[]→(∀ w ∈ l,c ∉ w)→zaj c (zgo c l)=l
 |[],h,_=>absurd rfl h
 |[a],_,h=>zeC c a (h a (by simp))
 |a::b::r,_,h=>by
  rw [zgo,zdd c _ a (h a (by simp)),zkL c (b::r) (by simp) (fun w hw=>h w (by simp only [List.mem_cons] at hw ⊢;exact .inr hw))]
theorem zqU (n:Int) (h0:-9223372036854775808≤n) (h1:n≤9223372036854775807) (c:UInt8) (hc:c=32∨c=10):c ∉ itT n:=by
 have key:∀ m:Int,0≤m→m≤9223372036854775808→c ∉ zeV m:=fun m a b hm=>by
  obtain ⟨_,h,_⟩:=zdO m a b
  have h2:=zcC (h c hm)
  rcases hc with rfl|rfl
  ·have:(32:UInt8).toNat=32:=rfl
   omega
  ·have:(10:UInt8).toNat=10:=rfl
   omega
 unfold itT
 split
 ·intro h
  rcases List.mem_cons.1 h with h|h
  ·rcases hc with rfl|rfl<;>cases h
  ·exact key _ (by omega) (by omega) h
 ·exact key _ (by omega) (by omega)
theorem zeM (P:Int→Prop) (h:P 1∧P 2∧P 3∧P 4∧P 5∧P 6∧P 7∧P 8∧P 9∧P 10∧P 11∧P 12∧P 13∧P 14) (k:Int) (h1:1≤k) (h2:k≤14):P k:=by
 obtain ⟨a1,a2,a3,a4,a5,a6,a7,a8,a9,a10,a11,a12,a13,a14⟩:=h
 have:k=1∨k=2∨k=3∨k=4∨k=5∨k=6∨k=7∨k=8∨k=9∨k=10∨k=11∨k=12∨k=13∨k=14:=by omega
 rcases this with rfl|rfl|rfl|rfl|rfl|rfl|rfl|rfl|rfl|rfl|rfl|rfl|rfl|rfl<;>assumption
theorem zze (k:Int) (h1:1≤k) (h2:k≤14):kdF (wdF k)=k:=by
 refine zeM (fun k=>kdF (wdF k)=k) ?_ k h1 h2
 decide
theorem zwc (k:Int) (c:UInt8) (hc:c=32∨c=10):c ∉ wdF k:=by
 by_cases h:k<1∨14<k
 ·unfold wdF;rw [if_pos h];simp
 ·rcases hc with rfl|rfl
  ·refine zeM (fun k=>(32:UInt8) ∉ wdF k) ?_ k (by omega) (by omega)
   decide
  ·refine zeM (fun k=>(10:UInt8) ∉ wdF k) ?_ k (by omega) (by omega)
   decide
theorem zCy (w:List UInt8) (h1:1≤kdF w) (h2:kdF w≤14):wdF (kdF w)=w:=by
 have hw:w≠[]:=by
  rintro rfl
  simp [kdF] at h1
 have hk:kdF w=(zug.idxOf w:Int):=by unfold kdF;rw [if_neg hw]
 have hlt:zug.idxOf w<zug.length:=by
  have:zug.length=15:=rfl
  omega
 unfold wdF
 rw [if_neg (by omega),hk,Int.toNat_natCast]
 have:=List.getElem_idxOf hlt
 simp only [List.getD,List.getElem?_eq_getElem hlt,Option.getD_some]
 exact this
def znl (x:StD):Bool:=zlP x.kind&&zlP x.proc&&zlP x.place&&zlP x.value
theorem zth (x:StD) (h:znl x=true):∀ n ∈ zit x,-9223372036854775808≤n∧n≤9223372036854775807:=by
 simp only [znl,Bool.and_eq_true] at h
 obtain ⟨⟨⟨_,h1⟩,h2⟩,h3⟩:=h
 intro n hn
 unfold zit at hn
 split at hn<;>simp at hn
 ·subst hn;exact zem h2
 ·rcases hn with rfl|rfl
  ·exact zem h1
  ·exact zem h3
 ·subst hn;exact zem h1
theorem znm (a:List UInt8):∀ l:List (List UInt8),(a++l.flatMap fun w=>32::w)=zgo 32 (a::l)
 |[]=>by simp [zgo]
 |b::r=>by
  rw [zgo,←znm b r]
  simp
theorem znn (x:StD):zaO x=zgo 32 (wdF x.kind::(zit x).map itT):=by
 rw [←znm]
 simp [zaO,List.flatMap_map]
theorem zqV (x:StD) (h:znl x=true):zaj 32 (zaO x)=wdF x.kind::(zit x).map itT:=by
 rw [znn]
 refine zkL 32 _ (by simp) ?_
 intro w hw
 rcases List.mem_cons.1 hw with rfl|hw
 ·exact zwc _ _ (.inl rfl)
 ·obtain ⟨n,hn,rfl⟩:=List.mem_map.1 hw
  have:=zth x h n hn
  exact zqU n this.1 this.2 32 (.inl rfl)
theorem zzf (x:StD):(zit x).length=nfF x.kind:=by
 unfold zit nfF
 split<;>simp_all
theorem zCz (x:StD) (h:zc1 x=true):zfL x.kind (zit x)=x:=by
 unfold zc1 at h
 obtain ⟨k,p,q,v⟩:=x
 unfold zfL zit
 simp only at h ⊢
 split<;>simp_all
theorem zCA (k:Int) (ns:List Int) (h:ns.length=nfF k):zit (zfL k ns)=ns∧zc1 (zfL k ns)=true∧(zfL k ns).kind=k:=by
 have hk:(zfL k ns).kind=k:=by unfold zfL;split<;>rfl
 refine ⟨?_,?_,hk⟩
 ·unfold zit
  rw [hk]
  unfold nfF at h
  unfold zfL
  split at h
  ·match ns,h with|[a],_=>rfl
  ·match ns,h with|[a,b],_=>rfl
  ·match ns,h with|[a],_=>rfl
  ·match ns,h with
   |[],_=>rfl
 ·unfold zc1
  rw [hk]
  unfold zfL
  split<;>simp_all
theorem zqW (x:StD) (h1:1≤x.kind) (h2:x.kind≤14) (hr:znl x=true) (hz:zc1 x=true):zf0 (zaO x)=some x:=by
 unfold zf0
 rw [zqV x hr]
 simp only
 unfold zjx
 have hall:((zit x).map itT).all (fun w=>(zaW w).2)=true:=by
  rw [List.all_eq_true]
  intro w hw
  obtain ⟨n,hn,rfl⟩:=List.mem_map.1 hw
  have:=zth x hr n hn
  rw [zoo n this.1 this.2]
 have hmap:((zit x).map itT).map (fun w=>(zaW w).1)=zit x:=by
  rw [List.map_map]
  conv=>rhs;rw [←List.map_id (zit x)]
  refine List.map_congr_left fun n hn=>?_
  have:=zth x hr n hn
  simp [zoo n this.1 this.2]
 rw [List.length_map,zze _ h1 h2]
 rw [if_neg (by omega),if_neg (by rw [zzf];omega),hall,if_neg (by simp),hmap,zCz x hz]
theorem zqX (line:List UInt8) (x:StD) (h:zf0 line=some x):zaO x=line∧1≤x.kind∧x.kind≤14∧znl x=true∧zc1 x=true:=by
 unfold zf0 at h
 match hs:zaj 32 line,zbG 32 line with
 |a::l,_=>
  rw [hs] at h
  simp only at h
  unfold zjx at h
  split at h
  ·cases h
  ·rename_i hk
   split at h
   ·cases h
   ·rename_i hl
    by_cases ha:(l.all fun w=>(zaW w).2)=false
    ·rw [if_pos ha] at h
     cases h
    ·rw [if_neg ha] at h
     have hx:=Option.some.inj h
     have hall:∀ w ∈ l,(zaW w).2=true:=by simpa using ha
     obtain ⟨f1,f2,f3⟩:=zCA (kdF a) (l.map fun w=>(zaW w).1) (by rw [List.length_map];omega)
     rw [hx] at f1 f2 f3
     have hmap:(zit x).map itT=l:=by
      rw [f1,List.map_map]
      conv=>rhs;rw [←List.map_id l]
      refine List.map_congr_left fun w hw=>?_
      exact (zc0 w (hall w hw)).1
     refine ⟨?_,by omega,by omega,?_,f2⟩
     ·rw [znn,hmap,f3,zCy a (by omega) (by omega),←hs,zhz]
     ·have hrg:∀ n ∈ zit x,zlP n=true:=by
       intro n hn
       rw [f1] at hn
       obtain ⟨w,hw,rfl⟩:=List.mem_map.1 hn
       have:=zc0 w (hall w hw)
       simp [zlP,this.2]
      have h0:zlP 0=true:=by decide
      have hkk:zlP x.kind=true:=by rw [f3];simp [zlP];omega
      unfold zc1 at f2
      unfold zit at hrg
      unfold znl
      rw [hkk]
      split at f2<;>rename_i e<;>simp only [e,Bool.and_eq_true,beq_iff_eq] at f2 hrg
      ·simp [f2.1,f2.2,h0,hrg x.place (by simp)]
      ·simp [f2,h0,hrg x.proc (by simp),hrg x.value (by simp)]
      ·simp [f2.1,f2.2,h0,hrg x.proc (by simp)]
      ·simp [f2.1.1,f2.1.2,f2.2,h0]
theorem zzg (k:Int) (ns:List Int):zc1 (zfL k ns)=true∧(zfL k ns).kind=k:=by
 have hk:(zfL k ns).kind=k:=by unfold zfL;split<;>rfl
 refine ⟨?_,hk⟩
 unfold zc1
 rw [hk]
 unfold zfL
 split<;>simp_all
theorem zti (ns:List Int) (h:∀ n ∈ ns,zlP n=true) (i:Nat):zlP (ns.getD i 0)=true:=by
 by_cases hi:i<ns.length
 ·rw [List.getD_eq_getElem?_getD,List.getElem?_eq_getElem hi]
  exact h _ (List.getElem_mem hi)
 ·rw [List.getD_eq_getElem?_getD,List.getElem?_eq_none (by omega)]
  decide
theorem zF1 (k:Int) (ns:List Int) (hk:zlP k=true) (h:∀ n ∈ ns,zlP n=true):znl (zfL k ns)=true:=by
 have h0:=zti ns h 0
 have h1:=zti ns h 1
 have hz:zlP 0=true:=by decide
 unfold znl zfL
 split<;>simp only [hk,h0,h1,hz,Bool.and_true]
def zno (line a:List UInt8) (l:List (List UInt8)):Option StD:=
 if kdF a<1∨14<kdF a then none
 else if ((l.take (nfF (kdF a))).all fun w=>(zaW w).2)=false∨line≠zaO (zfL (kdF a) ((l.take (nfF (kdF a))).map fun w=>(zaW w).1)) then none
 else some (zfL (kdF a) ((l.take (nfF (kdF a))).map fun w=>(zaW w).1))
theorem zwd (line a:List UInt8) (l:List (List UInt8)) (hs:zaj 32 line=a::l):zno line a l=zf0 line:=by
 have e0:zf0 line=zjx a l:=by unfold zf0;rw [hs]
 by_cases hk:kdF a<1∨14<kdF a
 ·rw [e0]
  unfold zno zjx
  rw [if_pos hk,if_pos hk]
 ·cases h:zf0 line with
  |some x=>
   obtain ⟨b1,b2,b3,b4,b5⟩:=zqX line x h
   have h':=h
   rw [e0] at h'
   unfold zjx at h'
   rw [if_neg hk] at h'
   split at h'
   ·cases h'
   ·rename_i hl
    have hl:l.length=nfF (kdF a):=by omega
    split at h'
    ·cases h'
    ·rename_i ha
     have hx:=Option.some.inj h'
     unfold zno
     rw [if_neg hk,←hl,List.take_length,hx,if_neg]
     rintro (h1|h1)
     ·exact ha h1
     ·exact h1 b1.symm
  |none=>
   unfold zno
   rw [if_neg hk]
   split
   ·rfl
   ·rename_i hc
    exfalso
    have ha:¬ ((l.take (nfF (kdF a))).all fun w=>(zaW w).2)=false:=fun e=>hc (.inl e)
    have hline:line=zaO (zfL (kdF a) ((l.take (nfF (kdF a))).map fun w=>(zaW w).1)):=Decidable.byContradiction fun e=>hc (.inr e)
    have hall:∀ w ∈ l.take (nfF (kdF a)),(zaW w).2=true:=by simpa only [Bool.not_eq_false,List.all_eq_true] using ha
    obtain ⟨z1,z2⟩:=zzg (kdF a) ((l.take (nfF (kdF a))).map fun w=>(zaW w).1)
    have hr:=zF1 (kdF a) ((l.take (nfF (kdF a))).map fun w=>(zaW w).1) (by simp [zlP];omega) (fun n hn=>by
     obtain ⟨w,hw,rfl⟩:=List.mem_map.1 hn
     have:=zc0 w (hall w hw)
     simp [zlP,this.2])
    have:=zqW _ (by rw [z2];omega) (by rw [z2];omega) hr z1
    rw [←hline,h] at this
    cases this
variable (l:List TkD)
theorem zot (n:Nat) (lv:Nat) (k:Nat):exF l (n+1) (.bin lv) k=(if lv=5 then exF l n .un k else (exF l n (.bin (lv+1)) k).bind fun e k'=>exF l n (.loop lv e) k'):=rfl
theorem ziu (n:Nat) (lv:Nat) (e:Ex) (k:Nat):exF l (n+1) (.loop lv e) k=(if opF lv (zbF l k)=0 then .ok e k else (exF l n (.bin (lv+1)) (k+1)).bind fun e2 k2=>exF l n (.loop lv (exB (opF lv (zbF l k)) e e2)) k2):=rfl
theorem ztj (n:Nat) (k:Nat):exF l (n+1) .un k=(if isT l k [45] then (exF l n .un (k+1)).bind fun e k'=>.ok (exU 8 e) k' else if isT l k [33] then (exF l n .un (k+1)).bind fun e k'=>.ok (exU 9 e) k' else exF l n .prim k):=rfl
theorem zeN (n:Nat) (k:Nat):exF l (n+1) .prim k=(if zd6 l k then (nmF l 0 k).bind fun v k'=>.ok (exC v) k' else if isT l k [115,101,108,102] then .ok (exK 4) (k+1) else if isT l k [112,114,111,99,115] then .ok (exK 5) (k+1) else if isT l k [102,114,111,109] then .ok (exK 6) (k+1) else if isT l k [118,97,108,117,101] then .ok (exK 7) (k+1) else if isT l k [40] then (exF l n (.bin 0) (k+1)).bind fun e k'=>(zaU l [41] k').bind fun _ k2=>.ok e k2 else (zdz l k).bind fun nm k1=>if isT l k1 [91] then (exF l n (.bin 0) (k1+1)).bind fun e k'=>(zaU l [93] k').bind fun _ k2=>.ok (exI nm e) k2 else .ok (exN nm) k1):=rfl
theorem zfp (n:Nat) (k:Nat):smF l (n+1) .block k=((zaU l [123] k).bind fun _ k1=>smF l n (.stmts []) k1):=rfl
theorem zex (n:Nat) (acc:List Sm) (k:Nat):smF l (n+1) (.stmts acc) k=(if isT l k [125] then .ok acc (k+1) else (smF l n .stmt k).bind fun s k1=>smF l n (.stmts (acc++s)) k1):=rfl
theorem zfM (n:Nat) (k:Nat):smF l (n+1) .stmt k=(if isT l k [105,102] then (zbl l (k+1)).bind fun e k1=>(smF l n .block k1).bind fun b k2=>if isT l k2 [101,108,115,101] then (smF l n .block (k2+1)).bind fun c k3=>.ok [smE 3 [] exZ e b c] k3 else .ok [smE 3 [] exZ e b []] k2 else if isT l k [119,104,105,108,101] then (zbl l (k+1)).bind fun e k1=>(smF l n .block k1).bind fun b k2=>.ok [smE 4 [] exZ e b []] k2 else if isT l k [115,101,110,100] then (zbl l (k+1)).bind fun p k1=>(zaU l [44] k1).bind fun _ k2=>(zbl l k2).bind fun e k3=>(zaU l [59] k3).bind fun _ k4=>.ok [smE 5 [] p e [] []] k4 else if isT l k [111,117,116,112,117,116] then (zbl l (k+1)).bind fun e k1=>(zaU l [59] k1).bind fun _ k2=>.ok [smE 6 [] exZ e [] []] k2 else (zdz l k).bind fun nm k1=>if isT l k1 [91] then (zbl l (k1+1)).bind fun p k2=>(zaU l [93] k2).bind fun _ k3=>(zaU l [61] k3).bind fun _ k4=>(zbl l k4).bind fun e k5=>(zaU l [59] k5).bind fun _ k6=>.ok [smE 2 nm p e [] []] k6 else (zaU l [61] k1).bind fun _ k4=>(zbl l k4).bind fun e k5=>(zaU l [59] k5).bind fun _ k6=>.ok [smE 1 nm exZ e [] []] k6):=rfl
end Go.Abs
namespace Go.Abs
open Go
section
variable {l:List TkD}
theorem PR.bind_ok {α β:Type} {r:PR α} {f:α→Nat→PR β} {b:β} {k:Nat} (h:r.bind f=.ok b k):∃ a k',r=.ok a k'∧f a k'=.ok b k:=by
 cases r with
 |ok a k'=>exact ⟨a,k',rfl,h⟩
 |bad k'=>cases h
 |out=>cases h
def Ns.need (m:Nat):Ns→Nat
 |.block=>3 * m+1
 |.stmts _=>3 * m+3
 |.stmt=>3 * m+2
theorem zjy {k:Nat} (hk:k≤l.length):(zbl l k).on k l.length:=(zjq hk).on
theorem zcn:∀ (n:Nat) (nt:Ns) (k:Nat),k≤l.length→(smF l n nt k).past k l.length
 |0,nt,k,hk=>by cases nt<;>trivial
 |n+1,.block,k,hk=>by
  rw [zfp]
  exact PR.past.bind (zav hk (by simp)) (fun _ k1 _ h1=>(zcn n (.stmts []) k1 h1).on)
 |n+1,.stmts acc,k,hk=>by
  rw [zex]
  split
  ·rename_i h
   have:=zau h (by simp)
   exact ⟨by omega,by omega⟩
  ·exact PR.past.bind (zcn n .stmt k hk) (fun s k1 _ h1=>(zcn n _ k1 h1).on)
 |n+1,.stmt,k,hk=>by
  rw [zfM]
  have semi:∀ (s:List Sm) (k5:Nat),k5≤l.length→((zaU l [59] k5).bind fun _ k6=>PR.ok s k6).on k5 l.length:=fun s k5 h5=>PR.on.bind (zav h5 (by simp)).on (fun _ k6 _ h6=>PR.ok_on _ h6)
  have valu:∀ (g:Ex→List Sm) (k4:Nat),k4≤l.length→((zbl l k4).bind fun e k5=>(zaU l [59] k5).bind fun _ k6=>PR.ok (g e) k6).on k4 l.length:=fun g k4 h4=>PR.on.bind (zjy h4) (fun e k5 _ h5=>semi _ _ h5)
  split
  ·rename_i h
   have:=zau h (by simp)
   refine PR.on.lt (PR.on.bind (zjy (k:=k+1) (by omega)) (fun e k1 _ h1=>PR.on.bind (zcn n .block k1 h1).on (fun b k2 _ h2=>?_))) (by omega)
   split
   ·rename_i h3
    have:=zau h3 (by simp)
    exact PR.on.le (PR.on.bind (zcn n .block (k2+1) (by omega)).on (fun c k3 _ h3=>PR.ok_on _ h3)) (by omega)
   ·exact PR.ok_on _ h2
  split
  ·rename_i h
   have:=zau h (by simp)
   exact PR.on.lt (PR.on.bind (zjy (k:=k+1) (by omega)) (fun e k1 _ h1=>PR.on.bind (zcn n .block k1 h1).on (fun b k2 _ h2=>PR.ok_on _ h2))) (by omega)
  split
  ·rename_i h
   have:=zau h (by simp)
   exact PR.on.lt (PR.on.bind (zjy (k:=k+1) (by omega)) (fun p k1 _ h1=>PR.on.bind (zav h1 (by simp)).on (fun _ k2 _ h2=>valu _ k2 h2))) (by omega)
  split
  ·rename_i h
   have:=zau h (by simp)
   exact PR.on.lt (valu _ (k+1) (by omega)) (by omega)
  ·refine PR.past.bind (za6 hk) (fun nm k1 _ h1=>?_)
   split
   ·rename_i h
    have:=zau h (by simp)
    exact PR.on.le (PR.on.bind (zjy (k:=k1+1) (by omega)) (fun p k2 _ h2=>PR.on.bind (zav h2 (by simp)).on (fun _ k3 _ h3=>PR.on.bind (zav h3 (by simp)).on (fun _ k4 _ h4=>valu _ k4 h4)))) (by omega)
   ·exact PR.on.bind (zav h1 (by simp)).on (fun _ k4 _ h4=>valu _ k4 h4)
theorem zgp:∀ (n:Nat) (nt:Ns) (k:Nat),k≤l.length→nt.need (l.length - k)≤n→(smF l n nt k).isOut=false
 |0,nt,k,hk,h=>by cases nt<;>simp only [Ns.need] at h<;>omega
 |n+1,.block,k,hk,h=>by
  simp only [Ns.need] at h
  rw [zfp]
  refine PR.bind_out zbt (fun _ k1 he=>?_)
  have h1:=zav (l:=l) (s:=[123]) hk (by simp)
  rw [he] at h1
  exact zgp n (.stmts []) k1 h1.2 (by have:=h1.1;have:=h1.2;simp only [Ns.need];omega)
 |n+1,.stmts acc,k,hk,h=>by
  simp only [Ns.need] at h
  rw [zex]
  split
  ·rfl
  ·refine PR.bind_out (zgp n .stmt k hk (by simp only [Ns.need];omega)) (fun s k1 he=>?_)
   have h1:=zcn (l:=l) n .stmt k hk
   rw [he] at h1
   exact zgp n _ k1 h1.2 (by have:=h1.1;have:=h1.2;simp only [Ns.need];omega)
 |n+1,.stmt,k,hk,h=>by
  simp only [Ns.need] at h
  rw [zfM]
  have semi:∀ (s:List Sm) (k5:Nat),((zaU l [59] k5).bind fun _ k6=>PR.ok s k6).isOut=false:=fun s k5=>PR.bind_out zbt (fun _ _ _=>rfl)
  have valu:∀ (g:Ex→List Sm) (k4:Nat),k4≤l.length→((zbl l k4).bind fun e k5=>(zaU l [59] k5).bind fun _ k6=>PR.ok (g e) k6).isOut=false:=fun g k4 h4=>PR.bind_out (zef h4) (fun e k5 _=>semi _ _)
  have okx:∀ {k k1:Nat} {e:Ex},k≤l.length→zbl l k=.ok e k1→k<k1∧k1≤l.length:=fun hk he=>by have:=zjq (l:=l) hk;rw [he] at this;exact this
  have oke:∀ {s:List UInt8} {k k1:Nat} {u:Unit},k≤l.length→s≠[]→zaU l s k=.ok u k1→k<k1∧k1≤l.length:=fun hk hs he=>by have:=zav (l:=l) hk hs;rw [he] at this;exact this
  have okb:∀ {k k1:Nat} {b:List Sm},k≤l.length→smF l n .block k=.ok b k1→k<k1∧k1≤l.length:=fun hk he=>by have:=zcn (l:=l) n .block _ hk;rw [he] at this;exact this
  split
  ·rename_i h0
   have:=zau h0 (by simp)
   refine PR.bind_out (zef (by omega)) (fun e k1 he=>?_)
   have h1:=okx (by omega) he
   refine PR.bind_out (zgp n .block k1 h1.2 (by simp only [Ns.need];omega)) (fun b k2 hb=>?_)
   have h2:=okb h1.2 hb
   split
   ·rename_i h3
    have:=zau h3 (by simp)
    exact PR.bind_out (zgp n .block (k2+1) (by omega) (by simp only [Ns.need];omega)) (fun _ _ _=>rfl)
   ·rfl
  split
  ·rename_i h0
   have:=zau h0 (by simp)
   refine PR.bind_out (zef (by omega)) (fun e k1 he=>?_)
   have h1:=okx (by omega) he
   exact PR.bind_out (zgp n .block k1 h1.2 (by simp only [Ns.need];omega)) (fun _ _ _=>rfl)
  split
  ·rename_i h0
   have:=zau h0 (by simp)
   refine PR.bind_out (zef (by omega)) (fun p k1 he=>?_)
   have h1:=okx (by omega) he
   refine PR.bind_out zbt (fun _ k2 hx=>?_)
   exact valu _ k2 (oke h1.2 (by simp) hx).2
  split
  ·rename_i h0
   have:=zau h0 (by simp)
   exact valu _ (k+1) (by omega)
  ·refine PR.bind_out zdL (fun nm k1 he=>?_)
   have h1:=za6 (l:=l) hk
   rw [he] at h1
   have h1':k<k1∧k1≤l.length:=h1
   split
   ·rename_i h0
    have:=zau h0 (by simp)
    refine PR.bind_out (zef (by omega)) (fun p k2 hp=>?_)
    have h2:=okx (by omega) hp
    refine PR.bind_out zbt (fun _ k3 hx=>?_)
    have h3:=oke h2.2 (by simp) hx
    refine PR.bind_out zbt (fun _ k4 hy=>?_)
    exact valu _ k4 (oke h3.2 (by simp) hy).2
   ·refine PR.bind_out zbt (fun _ k4 hy=>?_)
    exact valu _ k4 (oke h1'.2 (by simp) hy).2
theorem zou:∀ {n k k':Nat} {b:List Sm},smF l n .stmt k=.ok b k'→∃ s,b=[s]
 |0,_,_,_,h=>by cases h
 |n+1,k,k',b,h=>by
  rw [zfM] at h
  have semi:∀ {s:Sm} {k5:Nat},((zaU l [59] k5).bind fun _ k6=>PR.ok [s] k6)=.ok b k'→∃ s,b=[s]:=fun h=>by
   obtain ⟨_,_,_,h2⟩:=PR.bind_ok h
   cases h2;exact ⟨_,rfl⟩
  have valu:∀ {g:Ex→Sm} {k4:Nat},((zbl l k4).bind fun e k5=>(zaU l [59] k5).bind fun _ k6=>PR.ok [g e] k6)=.ok b k'→∃ s,b=[s]:=fun h=>by
   obtain ⟨_,_,_,h2⟩:=PR.bind_ok h
   exact semi h2
  split at h
  ·obtain ⟨_,_,_,h2⟩:=PR.bind_ok h
   obtain ⟨_,_,_,h3⟩:=PR.bind_ok h2
   split at h3
   ·obtain ⟨_,_,_,h4⟩:=PR.bind_ok h3
    cases h4;exact ⟨_,rfl⟩
   ·cases h3;exact ⟨_,rfl⟩
  split at h
  ·obtain ⟨_,_,_,h2⟩:=PR.bind_ok h
   obtain ⟨_,_,_,h3⟩:=PR.bind_ok h2
   cases h3;exact ⟨_,rfl⟩
  split at h
  ·obtain ⟨_,_,_,h2⟩:=PR.bind_ok h
   obtain ⟨_,_,_,h3⟩:=PR.bind_ok h2
   exact valu h3
  split at h
  ·exact valu (g:=fun e=>smE 6 [] exZ e [] []) h
  ·obtain ⟨nm,_,_,h2⟩:=PR.bind_ok h
   split at h2
   ·obtain ⟨_,_,_,h3⟩:=PR.bind_ok h2
    obtain ⟨_,_,_,h4⟩:=PR.bind_ok h3
    obtain ⟨_,_,_,h5⟩:=PR.bind_ok h4
    exact valu h5
   ·obtain ⟨_,_,_,h3⟩:=PR.bind_ok h2
    exact valu (g:=fun e=>smE 1 nm exZ e [] []) h3
theorem zey {k:Nat} (hk:k≤l.length):(zbr l k).isOut=false:=zgp _ _ k hk (by simp only [Ns.need];omega)
theorem zdi {k:Nat} (hk:k≤l.length):(zbr l k).past k l.length:=zcn _ _ k hk
end
end Go.Abs
namespace Go.Abs
open Go
section
variable {l:List TkD}
theorem zjz (n:Nat) (acc:List VarD) (k:Nat):zhM l (n+1) acc k=(if isT l k [118,97,114] then (zdz l (k+1)).bind fun nm k1=>(zlH l k1).bind fun v k2=>(zaU l [59] k2).bind fun _ k3=>zhM l n (acc++[⟨nm,0,v⟩]) k3
  else if isT l k [97,114,114,97,121] then (zdz l (k+1)).bind fun nm k1=>(zaU l [91] k1).bind fun _ k2=>(nmF l 1 k2).bind fun v k3=>(zaU l [93] k3).bind fun _ k4=>(zaU l [59] k4).bind fun _ k5=>zhM l n (acc++[⟨nm,v,0⟩]) k5
  else .ok acc k):=rfl
theorem ztk (n:Nat) (p:PgD) (z:Seen) (k:Nat):zip l (n+1) p z k=(if k<l.length then (zaU l [111,110] k).bind fun _ k1=>
   if !z.s&&isT l k1 [115,116,97,114,116] then (zbr l (k1+1)).bind fun b k2=>zip l n { p with start:=b } { z with s:=true } k2
   else if !z.m&&isT l k1 [109,101,115,115,97,103,101] then (zbr l (k1+1)).bind fun b k2=>zip l n { p with message:=b } { z with m:=true } k2
   else if !z.t&&isT l k1 [116,105,99,107] then (zbr l (k1+1)).bind fun b k2=>zip l n { p with tick:=b } { z with t:=true } k2
   else if !z.i&&isT l k1 [105,110,112,117,116] then (zbr l (k1+1)).bind fun b k2=>zip l n { p with input:=b } { z with i:=true } k2
   else .bad k1
  else .ok p k):=rfl
theorem zg2 {k:Nat} (hk:k≤l.length):(zlH l k).on k l.length:=by
 unfold zlH
 split
 ·rename_i h
  have:=zau h (by simp)
  split
  ·rename_i h2
   have:=zau h2 (by simp)
   exact PR.on.le (PR.on.bind (zdK (z:=0) (k:=k+2) (by omega)).on (fun v k' _ h2=>PR.ok_on _ h2)) (by omega)
  ·exact PR.on.le (zdK (by omega)).on (by omega)
 ·exact PR.ok_on _ hk
theorem ztl {k:Nat}:(zlH l k).isOut=false:=by
 unfold zlH
 split
 ·split
  ·exact PR.bind_out zhv (fun _ _ _=>rfl)
  ·exact zhv
 ·rfl
theorem zhA:∀ (n:Nat) (acc:List VarD) (k:Nat),k≤l.length→(zhM l n acc k).on k l.length
 |0,_,_,_=>trivial
 |n+1,acc,k,hk=>by
  rw [zjz]
  split
  ·rename_i h
   have:=zau h (by simp)
   exact PR.on.le (PR.on.bind (za6 (k:=k+1) (by omega)).on (fun nm k1 _ h1=>PR.on.bind (zg2 h1) (fun v k2 _ h2=>PR.on.bind (zav h2 (by simp)).on (fun _ k3 _ h3=>zhA n _ k3 h3)))) (by omega)
  split
  ·rename_i h
   have:=zau h (by simp)
   exact PR.on.le (PR.on.bind (za6 (k:=k+1) (by omega)).on (fun nm k1 _ h1=>PR.on.bind (zav h1 (by simp)).on (fun _ k2 _ h2=>PR.on.bind (zdK h2).on (fun v k3 _ h3=>PR.on.bind (zav h3 (by simp)).on (fun _ k4 _ h4=>PR.on.bind (zav h4 (by simp)).on (fun _ k5 _ h5=>zhA n _ k5 h5)))))) (by omega)
  ·exact PR.ok_on _ hk
theorem zg3:∀ (n:Nat) (acc:List VarD) (k:Nat),k≤l.length→l.length - k+1≤n→(zhM l n acc k).isOut=false
 |0,_,k,hk,h=>by omega
 |n+1,acc,k,hk,h=>by
  rw [zjz]
  have on':∀ {α:Type} {r:PR α} {a:α} {k k1:Nat},r.on k l.length→r=.ok a k1→k≤k1∧k1≤l.length:=fun h e=>by rw [e] at h;exact h
  split
  ·rename_i h0
   have:=zau h0 (by simp)
   refine PR.bind_out zdL (fun nm k1 e1=>?_)
   have h1:=on' (za6 (k:=k+1) (by omega)).on e1
   refine PR.bind_out ztl (fun v k2 e2=>?_)
   have h2:=on' (zg2 h1.2) e2
   refine PR.bind_out zbt (fun _ k3 e3=>?_)
   have h3:=on' (zav h2.2 (by simp)).on e3
   exact zg3 n _ k3 h3.2 (by omega)
  split
  ·rename_i h0
   have:=zau h0 (by simp)
   refine PR.bind_out zdL (fun nm k1 e1=>?_)
   have h1:=on' (za6 (k:=k+1) (by omega)).on e1
   refine PR.bind_out zbt (fun _ k2 e2=>?_)
   have h2:=on' (zav h1.2 (by simp)).on e2
   refine PR.bind_out zhv (fun v k3 e3=>?_)
   have h3:=on' (zdK h2.2).on e3
   refine PR.bind_out zbt (fun _ k4 e4=>?_)
   have h4:=on' (zav h3.2 (by simp)).on e4
   refine PR.bind_out zbt (fun _ k5 e5=>?_)
   have h5:=on' (zav h4.2 (by simp)).on e5
   exact zg3 n _ k5 h5.2 (by omega)
  ·rfl
theorem zpH:∀ (n:Nat) (p:PgD) (z:Seen) (k:Nat),k≤l.length→l.length - k+1≤n→(zip l n p z k).isOut=false
 |0,_,_,k,hk,h=>by omega
 |n+1,p,z,k,hk,h=>by
  rw [ztk]
  split
  ·refine PR.bind_out zbt (fun _ k1 e1=>?_)
   have h1:k<k1∧k1≤l.length:=by have:=zav (l:=l) (s:=[111,110]) hk (by simp);rw [e1] at this;exact this
   have one:∀ {s:List UInt8} (f:List Sm→PgD) (z':Seen),isT l k1 s=true→s≠[]→((zbr l (k1+1)).bind fun b k2=>zip l n (f b) z' k2).isOut=false:=fun f z' hs hne=>by
    have hlt:=zau hs hne
    refine PR.bind_out (zey (by omega)) (fun b k2 e2=>?_)
    have h2:k1+1<k2∧k2≤l.length:=by have:=zdi (l:=l) (k:=k1+1) (by omega);rw [e2] at this;exact this
    exact zpH n _ _ k2 h2.2 (by omega)
   split
   ·rename_i h2;exact one (fun b=>{ p with start:=b }) _ (by simp at h2;exact h2.2) (by simp)
   split
   ·rename_i h2;exact one (fun b=>{ p with message:=b }) _ (by simp at h2;exact h2.2) (by simp)
   split
   ·rename_i h2;exact one (fun b=>{ p with tick:=b }) _ (by simp at h2;exact h2.2) (by simp)
   split
   ·rename_i h2;exact one (fun b=>{ p with input:=b }) _ (by simp at h2;exact h2.2) (by simp)
   ·rfl
  ·rfl
theorem zg4:(zjp l).isOut=false:=by
 unfold zjp
 refine PR.bind_out (zg3 _ _ 0 (by omega) (by omega)) (fun vs k e=>?_)
 have h1:0≤k∧k≤l.length:=by have:=zhA (l:=l) (l.length+1) [] 0 (by omega);rw [e] at this;exact this
 exact zpH _ _ _ k h1.2 (by omega)
end
end Go.Abs
namespace Go.Abs
open Go
section
variable (l:List TkD)
def znL (p:PgD) (z:Seen) (k1:Nat):PR (PgD × Seen):=
 if !z.s&&isT l k1 [115,116,97,114,116] then (zbr l (k1+1)).bind fun b k2=>.ok ({ p with start:=b },{ z with s:=true }) k2
 else if !z.m&&isT l k1 [109,101,115,115,97,103,101] then (zbr l (k1+1)).bind fun b k2=>.ok ({ p with message:=b },{ z with m:=true }) k2
 else if !z.t&&isT l k1 [116,105,99,107] then (zbr l (k1+1)).bind fun b k2=>.ok ({ p with tick:=b },{ z with t:=true }) k2
 else if !z.i&&isT l k1 [105,110,112,117,116] then (zbr l (k1+1)).bind fun b k2=>.ok ({ p with input:=b },{ z with i:=true }) k2
 else .bad k1
def zov (p:PgD) (z:Seen) (k:Nat):PR (PgD × Seen):=(zaU l [111,110] k).bind fun _ k1=>znL l p z k1
theorem PR.bind_assoc {α β γ:Type} (r:PR α) (f:α→Nat→PR β) (g:β→Nat→PR γ):(r.bind f).bind g=r.bind fun a k=>(f a k).bind g:=by cases r<;>rfl
theorem zjA (n:Nat) (p:PgD) (z:Seen) (k:Nat):zip l (n+1) p z k=if k<l.length then (zov l p z k).bind fun q k2=>zip l n q.1 q.2 k2 else .ok p k:=by
 rw [ztk]
 split
 ·unfold zov
  rw [PR.bind_assoc]
  congr 1
  funext _ k1
  unfold znL
  repeat' split
  all_goals first|rfl|(rw [PR.bind_assoc];rfl)
 ·rfl
theorem zzh (p:PgD) (z:Seen) (k1:Nat) (h:k1≤l.length):(znL l p z k1).on k1 l.length:=by
 have one:∀ {s:List UInt8} (f:List Sm→PgD × Seen),isT l k1 s=true→s≠[]→((zbr l (k1+1)).bind fun b k2=>PR.ok (f b) k2).on k1 l.length:=fun f hs hne=>by
  have hlt:=zau hs hne
  exact PR.on.le (PR.on.bind (zdi (by omega)).on (fun b k2 _ h2=>PR.ok_on _ h2)) (by omega)
 unfold znL
 split
 ·rename_i h2;exact one (fun b=>({ p with start:=b },_)) (by simp at h2;exact h2.2) (by simp)
 split
 ·rename_i h2;exact one (fun b=>({ p with message:=b },_)) (by simp at h2;exact h2.2) (by simp)
 split
 ·rename_i h2;exact one (fun b=>({ p with tick:=b },_)) (by simp at h2;exact h2.2) (by simp)
 split
 ·rename_i h2;exact one (fun b=>({ p with input:=b },_)) (by simp at h2;exact h2.2) (by simp)
 ·exact ⟨Nat.le_refl _,h⟩
theorem znp (p:PgD) (z:Seen) (k:Nat) (h:k≤l.length):(zov l p z k).past k l.length:=by
 unfold zov
 exact PR.past.bind (zav h (by simp)) (fun _ k1 _ h1=>zzh l p z k1 h1)
theorem zpI (p:PgD) (z:Seen) (k:Nat) (h:k≤l.length):(zov l p z k).isOut=false:=by
 unfold zov
 refine PR.bind_out zbt (fun _ k1 e1=>?_)
 have h1:k<k1∧k1≤l.length:=by have:=zav (l:=l) (s:=[111,110]) h (by simp);rw [e1] at this;exact this
 have one:∀ {s:List UInt8} (f:List Sm→PgD × Seen),isT l k1 s=true→s≠[]→((zbr l (k1+1)).bind fun b k2=>PR.ok (f b) k2).isOut=false:=fun f hs hne=>by
  have hlt:=zau hs hne
  exact PR.bind_out (zey (by omega)) (fun b k2 e2=>rfl)
 unfold znL
 split
 ·rename_i h2;exact one (fun b=>({ p with start:=b },_)) (by simp at h2;exact h2.2) (by simp)
 split
 ·rename_i h2;exact one (fun b=>({ p with message:=b },_)) (by simp at h2;exact h2.2) (by simp)
 split
 ·rename_i h2;exact one (fun b=>({ p with tick:=b },_)) (by simp at h2;exact h2.2) (by simp)
 split
 ·rename_i h2;exact one (fun b=>({ p with input:=b },_)) (by simp at h2;exact h2.2) (by simp)
 ·rfl
end
end Go.Abs
namespace Go.Abs
open Go
theorem zwe {s:List UInt8} {k e:Nat} {t:TkD} (hk:k<s.length) (h:zcp s k=(t,(e:Int),0)):t.pos=k∧cut s k e=zol t∧e=k+(zol t).length∧k<e∧e≤s.length:=by
 obtain ⟨hg,hp,h1,h2,_⟩:=zpy s k e t hk h
 have hw:=hg.word
 have hl:=zhw s k e h2
 exact ⟨hp,hw.symm,by rw [hw,hl];omega,h1,h2⟩
theorem Sc.len {s:List UInt8} {k:Nat} {l:List TkD} (h:Sc s k l):l.length≤s.length - k:=by
 induction h with
 |fin _=>simp
 |blank _ _ _ ih=>omega
 |@hsh k l hk hh _ ih=>have:=(zlJ s k hk hh);omega
 |@tok k e t l hk hb hh ho _ ih=>
  obtain ⟨h1,h2,h3,h4,h5⟩:=zwe hk ho
  simp only [List.length_cons];omega
theorem Sc.vals {s:List UInt8} {k:Nat} {l:List TkD} (h:Sc s k l):∀ t ∈ l,t.value≤9223372036854775807∧0<(zol t).length∧(zol t).length≤s.length∧Good t (zol t):=by
 intro t ht
 obtain ⟨e,a,_,h2,h3,h4,hg⟩:=h.good t ht
 have hw:=hg.word
 have hl:=zhw s a e h4
 refine ⟨?_,by rw [hw,hl];omega,by rw [hw,hl];omega,by rw [hw];exact hg⟩
 rcases hg.kinds with ⟨_,_,h,_⟩|⟨_,_,h,_,h5⟩|⟨_,_,h,_⟩
 all_goals rw [h]
 all_goals omega
structure TokOK (t:TkD):Prop where
 k:t.kind=1∨t.kind=2∨t.kind=3
 k1:t.kind=1→∃ c r,t.text=c::r∧isL c=true
 k2:t.kind=2→t.text=[]∧0≤t.value
 k3:t.kind=3→∃ c r,t.text=c::r∧isL c=false
def zbI (l:List TkD):Prop:=∀ k,k<l.length→TokOK (l.getD k tk0)
def zlS (s:List UInt8):Bool:=match s with|c::_=>!isL c|[]=>false
def zlT (s:List UInt8):Bool:=match s with|c::_=>isL c|[]=>false
theorem TokOK.sign {t:TkD} (h:TokOK t) {s:List UInt8} (hs:zlS s=true) (he:t.text=s):t.kind=3:=by
 cases s with
 |nil=>simp [zlS] at hs
 |cons c r=>
  have hc:isL c=false:=by simpa [zlS] using hs
  rcases h.k with h1|h1|h1
  ·obtain ⟨c',r',e,h2⟩:=h.k1 h1
   rw [he] at e
   cases e
   rw [hc] at h2;cases h2
  ·have:=(h.k2 h1).1
   rw [he] at this;cases this
  ·exact h1
theorem TokOK.word {t:TkD} (h:TokOK t) {s:List UInt8} (hs:zlT s=true) (he:t.text=s):t.kind=1:=by
 cases s with
 |nil=>simp [zlT] at hs
 |cons c r=>
  have hc:isL c=true:=by simpa [zlT] using hs
  rcases h.k with h1|h1|h1
  ·exact h1
  ·have:=(h.k2 h1).1
   rw [he] at this;cases this
  ·obtain ⟨c',r',e,h2⟩:=h.k3 h1
   rw [he] at e
   cases e
   rw [hc] at h2;cases h2
theorem zf9 {l:List TkD} {k:Nat} {s:List UInt8} (hk:k<l.length):isT l k s=((l.getD k tk0).text==s):=by
 unfold isT zbF
 rw [if_pos hk]
theorem ztm {l:List TkD} {k:Nat} {s:List UInt8} (hk:¬ k<l.length) (hs:s≠[]):isT l k s=false:=by
 cases h:isT l k s with
 |false=>rfl
 |true=>exact absurd (zau h hs) hk
theorem zwf {s:List UInt8} (h:zlS s=true):s≠[]:=by rintro rfl;cases h
theorem zwg {s:List UInt8} (h:zlT s=true):s≠[]:=by rintro rfl;cases h
theorem ztn {l:List TkD} (hT:zbI l) {k:Nat} {s:List UInt8} (hk:k<l.length) (hs:zlS s=true):(((l.getD k tk0).kind==3)&&((l.getD k tk0).text==s))=isT l k s:=by
 rw [zf9 hk]
 by_cases he:(l.getD k tk0).text=s
 ·rw [(hT k hk).sign hs he]
  simp
 ·have:((l.getD k tk0).text==s)=false:=by simpa using he
  rw [this,Bool.and_false]
theorem zto {l:List TkD} (hT:zbI l) {k:Nat} {s:List UInt8} (hk:k<l.length) (hs:zlT s=true):(((l.getD k tk0).kind==1)&&((l.getD k tk0).text==s))=isT l k s:=by
 rw [zf9 hk]
 by_cases he:(l.getD k tk0).text=s
 ·rw [(hT k hk).word hs he]
  simp
 ·have:((l.getD k tk0).text==s)=false:=by simpa using he
  rw [this,Bool.and_false]
variable {l:List TkD}
theorem ziv {k:Nat} (hk:k<l.length):zd6 l k=((l.getD k tk0).kind==2):=by unfold zd6;simp [hk]
theorem zei {k:Nat} {s:List UInt8} (hT:zbI l) (hk:k<l.length) (hs:zlT s=true) (h:(l.getD k tk0).kind≠1):isT l k s=false:=by
 cases hc:isT l k s with
 |false=>rfl
 |true=>rw [zf9 hk] at hc;exact absurd ((hT k hk).word hs (by simpa using hc)) h
theorem ztp {k:Nat} {s:List UInt8} (hT:zbI l) (hk:k<l.length) (hs:zlS s=true) (h:(l.getD k tk0).kind≠3):isT l k s=false:=by
 cases hc:isT l k s with
 |false=>rfl
 |true=>rw [zf9 hk] at hc;exact absurd ((hT k hk).sign hs (by simpa using hc)) h
theorem zwh {m k:Nat} (hk:¬ k<l.length):exF l (m+1) .prim k=.bad k:=by
 rw [zeN]
 have h0:zd6 l k=false:=by unfold zd6;simp [hk]
 have h1:zdz l k=.bad k:=by unfold zdz;rw [if_neg (fun h=>hk h.1)]
 simp [h0,ztm hk,h1,PR.bind]
theorem zwi {m k:Nat} (hT:zbI l) (hk:k<l.length) (h:(l.getD k tk0).kind=2):exF l (m+1) .prim k=.ok (exC (l.getD k tk0).value) (k+1):=by
 rw [zeN,ziv hk,h]
 have h2:=((hT k hk).k2 h).2
 have:nmF l 0 k=.ok (l.getD k tk0).value (k+1):=by unfold nmF;rw [if_pos ⟨hk,h,h2⟩]
 rw [this]
 rfl
theorem zqY {m k:Nat} (hT:zbI l) (hk:k<l.length) (h:(l.getD k tk0).kind=3) (hp:isT l k [40]=false):exF l (m+1) .prim k=.bad k:=by
 have hn:¬ (l.getD k tk0).kind=1:=by rw [h];decide
 have h1:zdz l k=.bad k:=by unfold zdz;rw [if_neg (fun g=>hn g.2.1)]
 rw [zeN,ziv hk,h,zei hT hk rfl hn,zei hT hk rfl hn,zei hT hk rfl hn,zei hT hk rfl hn,hp,h1]
 rfl
theorem zqZ {m k:Nat} (hT:zbI l) (hk:k<l.length) (h:(l.getD k tk0).kind=3) (hp:isT l k [40]=true):exF l (m+1) .prim k=(exF l m (.bin 0) (k+1)).bind fun e k'=>(zaU l [41] k').bind fun _ k2=>.ok e k2:=by
 have hn:¬ (l.getD k tk0).kind=1:=by rw [h];decide
 rw [zeN,ziv hk,h,zei hT hk rfl hn,zei hT hk rfl hn,zei hT hk rfl hn,zei hT hk rfl hn,hp]
 rfl
theorem zpJ {m k:Nat} (hT:zbI l) (hk:k<l.length) (h:(l.getD k tk0).kind=1):exF l (m+1) .prim k =
  if (l.getD k tk0).text=[115,101,108,102] then .ok (exK 4) (k+1) else if (l.getD k tk0).text=[112,114,111,99,115] then .ok (exK 5) (k+1) else if (l.getD k tk0).text=[102,114,111,109] then .ok (exK 6) (k+1) else if (l.getD k tk0).text=[118,97,108,117,101] then .ok (exK 7) (k+1)
  else (zdz l k).bind fun nm k1=>if isT l k1 [91] then (exF l m (.bin 0) (k1+1)).bind fun e k'=>(zaU l [93] k').bind fun _ k2=>.ok (exI nm e) k2 else .ok (exN nm) k1:=by
 have hp:isT l k [40]=false:=ztp hT hk rfl (by rw [h];decide)
 rw [zeN,ziv hk,h,hp,zf9 hk,zf9 hk,zf9 hk,zf9 hk]
 simp only [beq_iff_eq]
 rfl
end Go.Abs
namespace Go.Abs
open Go
section
variable {l:List TkD}
theorem ztq (op:Int):szE (exK op)=1:=by simp [exK,szE,zlE]
theorem zF2 (v:Int):szE (exC v)=1:=by simp [exC,szE,zlE]
theorem zF3 (nm:List UInt8):szE (exN nm)=1:=by simp [exN,szE,zlE]
theorem zF4 (nm:List UInt8) (e:Ex):szE (exI nm e)=1+szE e:=by simp [exI,szE,zlE]
theorem zCB (op:Int) (e:Ex):szE (exU op e)=1+szE e:=by simp [exU,szE,zlE]
theorem zF5 (op:Int) (a b:Ex):szE (exB op a b)=1+szE a+szE b:=by simp [exB,szE,zlE];omega
theorem zdj {s:List UInt8} {k k':Nat} {u:Unit} (h:zaU l s k=.ok u k'):k'=k+1:=by
 unfold zaU at h;split at h<;>cases h;rfl
theorem zlU {k k':Nat} {nm:List UInt8} (h:zdz l k=.ok nm k'):k'=k+1:=by
 unfold zdz at h;split at h<;>cases h;rfl
theorem zxc {z:Int} {k k':Nat} {v:Int} (h:nmF l z k=.ok v k'):k'=k+1:=by
 unfold nmF at h;split at h<;>cases h;rfl
def Nt.pre:Nt→Nat
 |.loop _ e=>szE e
 |_=>0
theorem zfq:∀ (n:Nat) (nt:Nt) (k:Nat) (e:Ex) (k':Nat),exF l n nt k=.ok e k'→szE e+k≤k'+nt.pre
 |0,nt,k,e,k',h=>by cases h
 |n+1,.bin lv,k,e,k',h=>by
  rw [zot] at h
  split at h
  ·exact zfq n .un k e k' h
  ·obtain ⟨e1,k1,h1,h2⟩:=PR.bind_ok h
   have:=zfq n _ _ _ _ h1
   have:=zfq n _ _ _ _ h2
   simp only [Nt.pre] at *
   omega
 |n+1,.loop lv e0,k,e,k',h=>by
  rw [ziu] at h
  split at h
  ·cases h;simp only [Nt.pre];omega
  ·obtain ⟨e1,k1,h1,h2⟩:=PR.bind_ok h
   have:=zfq n _ _ _ _ h1
   have:=zfq n _ _ _ _ h2
   simp only [Nt.pre,zF5] at *
   omega
 |n+1,.un,k,e,k',h=>by
  rw [ztj] at h
  split at h
  ·obtain ⟨e1,k1,h1,h2⟩:=PR.bind_ok h
   have:=zfq n _ _ _ _ h1
   cases h2
   simp only [Nt.pre,zCB] at *
   omega
  split at h
  ·obtain ⟨e1,k1,h1,h2⟩:=PR.bind_ok h
   have:=zfq n _ _ _ _ h1
   cases h2
   simp only [Nt.pre,zCB] at *
   omega
  ·exact zfq n .prim k e k' h
 |n+1,.prim,k,e,k',h=>by
  rw [zeN] at h
  split at h
  ·obtain ⟨v,k1,h1,h2⟩:=PR.bind_ok h
   have:=zxc h1
   cases h2
   simp only [Nt.pre,zF2] at *
   omega
  split at h
  ·cases h;simp only [Nt.pre,ztq] at *;omega
  split at h
  ·cases h;simp only [Nt.pre,ztq] at *;omega
  split at h
  ·cases h;simp only [Nt.pre,ztq] at *;omega
  split at h
  ·cases h;simp only [Nt.pre,ztq] at *;omega
  split at h
  ·obtain ⟨e1,k1,h1,h2⟩:=PR.bind_ok h
   have:=zfq n _ _ _ _ h1
   obtain ⟨u,k2,h3,h4⟩:=PR.bind_ok h2
   have:=zdj h3
   cases h4
   simp only [Nt.pre] at *
   omega
  ·obtain ⟨nm,k1,h1,h2⟩:=PR.bind_ok h
   have:=zlU h1
   split at h2
   ·obtain ⟨e1,k2,h3,h4⟩:=PR.bind_ok h2
    have:=zfq n _ _ _ _ h3
    obtain ⟨u,k3,h5,h6⟩:=PR.bind_ok h4
    have:=zdj h5
    cases h6
    simp only [Nt.pre,zF4] at *
    omega
   ·cases h2
    simp only [Nt.pre,zF3] at *
    omega
theorem zjB {k k':Nat} {e:Ex} (h:zbl l k=.ok e k'):szE e+k≤k':=by
 have:=zfq _ _ _ _ _ h
 simpa [Nt.pre] using this
theorem zpK:∀ a b:List Sm,zbT (a++b)=zbT a+zbT b
 |[],b=>by simp [zbT]
 |s::r,b=>by simp only [List.cons_append,zbT,zpK r b];omega
theorem zwj (kind:Int) (nm:List UInt8) (p v:Ex) (b c:List Sm):zbT [smE kind nm p v b c]=1+szE p+szE v+zbT b+zbT c:=by simp [smE,zbT,szS]
theorem zzi (kind:Int) (nm:List UInt8) (p v:Ex) (b c:List Sm):szS (smE kind nm p v b c)=1+szE p+szE v+zbT b+zbT c:=by simp [smE,szS]
def Ns.pre:Ns→Nat
 |.stmts acc=>zbT acc
 |_=>0
theorem zjC:∀ (n:Nat) (nt:Ns) (k:Nat) (b:List Sm) (k':Nat),smF l n nt k=.ok b k'→zbT b+2 * k≤2 * k'+nt.pre
 |0,nt,k,e,k',h=>by cases h
 |n+1,.block,k,b,k',h=>by
  rw [zfp] at h
  obtain ⟨u,k1,h1,h2⟩:=PR.bind_ok h
  have:=zdj h1
  have:=zjC n _ _ _ _ h2
  simp only [Ns.pre,zbT] at *
  omega
 |n+1,.stmts acc,k,b,k',h=>by
  rw [zex] at h
  split at h
  ·cases h;simp only [Ns.pre];omega
  ·obtain ⟨s,k1,h1,h2⟩:=PR.bind_ok h
   have:=zjC n _ _ _ _ h1
   have:=zjC n _ _ _ _ h2
   simp only [Ns.pre,zpK] at *
   omega
 |n+1,.stmt,k,b,k',h=>by
  rw [zfM] at h
  have z0:szE exZ=1:=ztq 0
  have valu:∀ {g:Ex→List Sm} {k4 c:Nat},(∀ e,zbT (g e)=c+szE e)→((zbl l k4).bind fun e k5=>(zaU l [59] k5).bind fun _ k6=>PR.ok (g e) k6)=.ok b k'→zbT b+k4+1≤k'+c:=fun hg h=>by
   obtain ⟨e,k5,h1,h2⟩:=PR.bind_ok h
   have:=zjB h1
   obtain ⟨u,k6,h3,h4⟩:=PR.bind_ok h2
   have:=zdj h3
   cases h4
   rw [hg]
   omega
  split at h
  ·obtain ⟨e,k1,h1,h2⟩:=PR.bind_ok h
   have:=zjB h1
   obtain ⟨b1,k2,h3,h4⟩:=PR.bind_ok h2
   have:=zjC n _ _ _ _ h3
   have:=zbx e
   split at h4
   ·obtain ⟨c,k3,h5,h6⟩:=PR.bind_ok h4
    have:=zjC n _ _ _ _ h5
    cases h6
    simp only [Ns.pre,zbT,zzi,z0] at *
    omega
   ·cases h4
    simp only [Ns.pre,zbT,zzi,z0] at *
    omega
  split at h
  ·obtain ⟨e,k1,h1,h2⟩:=PR.bind_ok h
   have:=zjB h1
   obtain ⟨b1,k2,h3,h4⟩:=PR.bind_ok h2
   have:=zjC n _ _ _ _ h3
   have:=zbx e
   cases h4
   simp only [Ns.pre,zbT,zzi,z0] at *
   omega
  split at h
  ·obtain ⟨p,k1,h1,h2⟩:=PR.bind_ok h
   have:=zjB h1
   obtain ⟨u,k2,h3,h4⟩:=PR.bind_ok h2
   have:=zdj h3
   have:=valu (c:=1+szE p) (fun e=>by rw [zwj];simp only [zbT];omega) h4
   simp only [Ns.pre]
   omega
  split at h
  ·have:=valu (g:=fun e=>[smE 6 [] exZ e [] []]) (c:=2) (fun e=>by rw [zwj,z0];simp [zbT]) h
   simp only [Ns.pre]
   omega
  ·obtain ⟨nm,k1,h1,h2⟩:=PR.bind_ok h
   have:=zlU h1
   split at h2
   ·obtain ⟨p,k2,h3,h4⟩:=PR.bind_ok h2
    have:=zjB h3
    obtain ⟨u,k3,h5,h6⟩:=PR.bind_ok h4
    have:=zdj h5
    obtain ⟨u2,k4,h7,h8⟩:=PR.bind_ok h6
    have:=zdj h7
    have:=valu (c:=1+szE p) (fun e=>by rw [zwj];simp only [zbT];omega) h8
    simp only [Ns.pre]
    omega
   ·obtain ⟨u,k3,h5,h6⟩:=PR.bind_ok h2
    have:=zdj h5
    have:=valu (g:=fun e=>[smE 1 nm exZ e [] []]) (c:=2) (fun e=>by rw [zwj,z0];simp [zbT]) h6
    simp only [Ns.pre]
    omega
theorem zg5 {k k':Nat} {b:List Sm} (h:zbr l k=.ok b k'):zbT b+2 * k≤2 * k':=by
 have:=zjC _ _ _ _ _ h
 simpa [Ns.pre] using this
theorem zow:∀ (n:Nat) (acc:List VarD) (k:Nat) (vs:List VarD) (k':Nat),zhM l n acc k=.ok vs k'→k≤l.length→vs.length+k≤k'+acc.length
 |0,_,_,_,_,h,_=>by cases h
 |n+1,acc,k,vs,k',h,hk=>by
  rw [zjz] at h
  split at h
  ·rename_i h0
   have:=zau h0 (by simp)
   obtain ⟨nm,k1,h1,h2⟩:=PR.bind_ok h
   have:=zlU h1
   obtain ⟨v,k2,h3,h4⟩:=PR.bind_ok h2
   have q:k1≤k2∧k2≤l.length:=by
    have:=za6 (l:=l) (k:=k+1) (by omega)
    rw [h1] at this
    have:=zg2 (l:=l) (k:=k1) this.2
    rw [h3] at this
    exact this
   obtain ⟨u,k3,h5,h6⟩:=PR.bind_ok h4
   have:=zdj h5
   have q3:k3≤l.length:=by
    have:=zav (l:=l) (s:=[59]) q.2 (by simp)
    rw [h5] at this
    exact this.2
   have:=zow n _ _ _ _ h6 q3
   simp only [List.length_append,List.length_cons,List.length_nil] at this
   omega
  split at h
  ·rename_i h0
   have:=zau h0 (by simp)
   obtain ⟨nm,k1,h1,h2⟩:=PR.bind_ok h
   have:=zlU h1
   obtain ⟨u,k2,h3,h4⟩:=PR.bind_ok h2
   have:=zdj h3
   obtain ⟨v,k3,h5,h6⟩:=PR.bind_ok h4
   have:=zxc h5
   obtain ⟨u2,k4,h7,h8⟩:=PR.bind_ok h6
   have:=zdj h7
   obtain ⟨u3,k5,h9,h10⟩:=PR.bind_ok h8
   have:=zdj h9
   have q3:k5≤l.length:=by
    have a1:=za6 (l:=l) (k:=k+1) (by omega)
    rw [h1] at a1
    have a2:=zav (l:=l) (s:=[91]) a1.2 (by simp)
    rw [h3] at a2
    have a3:=zdK (l:=l) (z:=1) a2.2
    rw [h5] at a3
    have a4:=zav (l:=l) (s:=[93]) a3.2 (by simp)
    rw [h7] at a4
    have a5:=zav (l:=l) (s:=[59]) a4.2 (by simp)
    rw [h9] at a5
    exact a5.2
   have:=zow n _ _ _ _ h10 q3
   simp only [List.length_append,List.length_cons,List.length_nil] at this
   omega
  ·cases h
   omega
def PgD.fits (p:PgD) (z:Seen):Prop:=(z.s=false→p.start=[])∧(z.m=false→p.message=[])∧(z.t=false→p.tick=[])∧(z.i=false→p.input=[])
theorem ztr:∀ (n:Nat) (p:PgD) (z:Seen) (k:Nat) (q:PgD) (k':Nat),zip l n p z k=.ok q k'→k≤l.length→p.fits z→szP q+2 * k≤2 * k'+szP p∧k'≤l.length
 |0,_,_,_,_,_,h,_,_=>by cases h
 |n+1,p,z,k,q,k',h,hk,hz=>by
  rw [zjA] at h
  split at h
  ·obtain ⟨⟨q1,z1⟩,k2,h1,h2⟩:=PR.bind_ok h
   have hp:=znp l p z k hk
   rw [h1] at hp
   unfold zov at h1
   obtain ⟨u,k1,h3,h4⟩:=PR.bind_ok h1
   have:=zdj h3
   unfold znL at h4
   obtain ⟨f1,f2,f3,f4⟩:=hz
   have key:szP q1+2 * k≤2 * k2+szP p∧q1.fits z1:=by
    split at h4
    ·rename_i hc
     obtain ⟨b,k3,h5,h6⟩:=PR.bind_ok h4
     have:=zg5 h5
     cases h6
     have:p.start=[]:=f1 (by simp at hc;exact hc.1)
     exact ⟨by simp only [szP,this,zbT];omega,fun h=>(by cases h),f2,f3,f4⟩
    split at h4
    ·rename_i hc
     obtain ⟨b,k3,h5,h6⟩:=PR.bind_ok h4
     have:=zg5 h5
     cases h6
     have:p.message=[]:=f2 (by simp at hc;exact hc.1)
     exact ⟨by simp only [szP,this,zbT];omega,f1,fun h=>(by cases h),f3,f4⟩
    split at h4
    ·rename_i hc
     obtain ⟨b,k3,h5,h6⟩:=PR.bind_ok h4
     have:=zg5 h5
     cases h6
     have:p.tick=[]:=f3 (by simp at hc;exact hc.1)
     exact ⟨by simp only [szP,this,zbT];omega,f1,f2,fun h=>(by cases h),f4⟩
    split at h4
    ·rename_i hc
     obtain ⟨b,k3,h5,h6⟩:=PR.bind_ok h4
     have:=zg5 h5
     cases h6
     have:p.input=[]:=f4 (by simp at hc;exact hc.1)
     exact ⟨by simp only [szP,this,zbT];omega,f1,f2,f3,fun h=>(by cases h)⟩
    ·cases h4
   have:=ztr n q1 z1 k2 q k' h2 hp.2 key.2
   omega
  ·cases h
   omega
theorem zlV {p:PgD} {k:Nat} (h:zjp l=.ok p k):szP p≤2 * l.length:=by
 unfold zjp at h
 obtain ⟨vs,k1,h1,h2⟩:=PR.bind_ok h
 have a1:=zow _ _ _ _ _ h1 (by omega)
 have a2:=zhA (l:=l) (l.length+1) [] 0 (by omega)
 rw [h1] at a2
 have a3:=ztr _ _ _ _ _ _ h2 a2.2 ⟨fun _=>rfl,fun _=>rfl,fun _=>rfl,fun _=>rfl⟩
 simp only [szP,zbT,List.length_nil] at a1 a3 ⊢
 omega
theorem zwk {s:List UInt8} {k:Nat} (h:Sc s k l):zbI l:=fun i hi=>by
 have e:l.getD i tk0=l[i]:=by simp [List.getD,hi]
 rw [e]
 have hg:=(h.vals l[i] (List.getElem_mem hi)).2.2.2
 generalize l[i]=t at hg
 obtain ⟨hne,hk⟩:=hg
 have hd:∀ w:List UInt8,w≠[]→∃ c r,w=c::r∧w.getD 0 0=c:=fun w hw=>by
  cases w with
  |nil=>exact absurd rfl hw
  |cons c r=>exact ⟨c,r,rfl,rfl⟩
 rcases hk with ⟨a1,a2,_,a4,_⟩|⟨a1,a2,a3,_,_⟩|⟨a1,a2,_,a4,_⟩
 ·refine ⟨.inl a1,fun _=>?_,fun h=>by omega,fun h=>by omega⟩
  rw [←a2] at a4 hne
  obtain ⟨c,r,e1,e2⟩:=hd _ hne
  exact ⟨c,r,e1,by rw [←e2];exact a4⟩
 ·exact ⟨.inr (.inl a1),fun h=>by omega,fun _=>⟨a2,by rw [a3];omega⟩,fun h=>by omega⟩
 ·refine ⟨.inr (.inr a1),fun h=>by omega,fun h=>by omega,fun _=>?_⟩
  rw [←a2] at a4 hne
  obtain ⟨c,r,e1,e2⟩:=hd _ hne
  exact ⟨c,r,e1,by rw [←e2];exact a4⟩
theorem zts {s:List UInt8} {k:Nat} (h:Sc s k l):∀ i,(l.getD i tk0).value≤9223372036854775807:=fun i=>by
 by_cases hi:i<l.length
 ·have e:l.getD i tk0=l[i]:=by simp [List.getD,hi]
  rw [e]
  exact (h.vals l[i] (List.getElem_mem hi)).1
 ·have e:l.getD i tk0=tk0:=by simp [List.getD,Nat.le_of_not_lt hi]
  rw [e];decide
end
end Go.Abs
namespace Go.Abs
open Go
def pgZ:PgD:=⟨[],[],[],[],[]⟩
def zgq (s:List UInt8):PgD × Int × Int:=
 if (zgX s).2.2≠0 then (pgZ,(zgX s).2.1,(zgX s).2.2)
 else match zjp (zgX s).1 with
  |.ok p _=>if zuf p > 16 then (pgZ,0,6) else (p,0,0)
  |.bad k=>(pgZ,zar (zgX s).1 s.length k,1)
  |.out=>(pgZ,0,0)
theorem zox (s:List UInt8):szP (zgq s).1≤1000000000:=by
 have h0:szP pgZ≤1000000000:=by decide
 unfold zgq
 split
 ·exact h0
 ·rename_i h
  obtain ⟨hs,l,hSc,e⟩:=zoj s (by simpa using h)
  rw [e]
  have:=hSc.len
  split
  ·rename_i p k hr
   have:=zlV hr
   split
   ·exact h0
   ·simp only at *;omega
  ·exact h0
  ·exact h0
def zb9 (s:List UInt8):List (List UInt8):=(zaj 10 s).dropLast
def zfr (s:List UInt8):Bool:=decide ((zaj 10 s).getLast (zbG 10 s)≠[])
def zd7 (s:List UInt8):CdD × Int:=if (zgq s).2.2≠0 then (cd0,(zgq s).2.2) else zbp (zgq s).1
def zbV:List (List UInt8)→List UInt8→Option (List UInt8 × List (List UInt8))
 |[],_=>none
 |l::r,b=>if l=[101,110,100] then some (b,r) else zbV r (b++(l++[10]))
inductive HR where
 |ok (cs:List CdD) (rest:List (List UInt8)) (at_:Int)
 |bad (at_:Int) (e:Int)
def zca:Nat→List (List UInt8)→Int→List CdD→HR
 |0,_,at_,_=>.bad at_ 1
 |_+1,[],at_,_=>.bad at_ 1
 |f+1,l::r,at_,cs=>
  if l=[112,114,111,99,101,115,115] then
   if 5≤cs.length then .bad at_ 4
   else match zbV r [] with
    |none=>.bad (at_+1+r.length) 1
    |some (b,r')=>if (zd7 b).2≠0 then .bad at_ (zd7 b).2 else zca f r' (at_+1+(r.length - r'.length:Nat)) (cs++[(zd7 b).1])
  else if l=[115,116,101,112,115]∧cs≠[] then .ok cs r (at_+1)
  else .bad at_ 1
def zbN (torn:Bool):List (List UInt8)→Int→List StD→(List StD × Int × Int)
 |[],at_,xs=>if torn then ([],at_,1) else (xs,0,0)
 |l::r,at_,xs=>match zf0 l with
  |none=>([],at_,1)
  |some x=>if 400≤xs.length then ([],at_,4) else zbN torn r (at_+1) (xs++[x])
/-! ### Writing -/
def zc2 (p:PgD):List UInt8:=[112,114,111,99,101,115,115,10]++(zkk p).1++[101,110,100,10]
def znM (p:PgD):Bool:=decide ((zkk p).2≠0)
def zkm (x:StD):Bool:=decide (wdF x.kind=[]) || !zc1 x
def zga (protocol faults:Int):List UInt8:=[112,114,111,116,111,99,111,108,32]++prF protocol++[32]++itT faults++[10]
def zfs (ps:List PgD) (protocol faults:Int) (l:List StD):List UInt8:=
 zga protocol faults++ps.flatMap zc2++[115,116,101,112,115,10]++l.flatMap fun x=>zaO x++[10]
def zcg (ps:List PgD) (protocol faults:Int) (l:List StD):List UInt8 × Int:=
 if protocol<1∨8<protocol then ([],17)
 else if ps=[]∨5<ps.length∨400<l.length then ([],4)
 else match ps.find? znM with
  |some p=>([],(zkk p).2)
  |none=>match l.find? zkm with
   |some x=>([],if wdF x.kind=[] then 17 else 7)
   |none=>if 65536<(zfs ps protocol faults l).length then ([],5) else (zfs ps protocol faults l,0)
structure ScD where
 codes:List CdD
 protocol:Int
 faults:Int
 steps:List StD
def zd8 (line:List UInt8):Int × Int × Bool:=match zaj 32 line with
 |[a,b,c]=>if a=[112,114,111,116,111,99,111,108]∧b ∈ zlR.tail then ((zlR.idxOf b:Int),(zaW c).1,(zaW c).2) else (0,0,false)
 |_=>(0,0,false)
def zhB (s:List UInt8):ScD × Int × Int:=
 if 65536<s.length then (⟨[],0,0,[]⟩,0,5)
 else match zb9 s with
  |[]=>(⟨[],0,0,[]⟩,1,1)
  |l::r=>if (zd8 l).2.2=false then (⟨[],0,0,[]⟩,1,1)
   else match zca (r.length+1) r 2 [] with
    |.bad a e=>(⟨[],0,0,[]⟩,a,e)
    |.ok cs r' a=>if (zbN (zfr s) r' a []).2.2≠0 then (⟨[],0,0,[]⟩,(zbN (zfr s) r' a []).2.1,(zbN (zfr s) r' a []).2.2)
     else (⟨cs,(zd8 l).1,(zd8 l).2.1,(zbN (zfr s) r' a []).1⟩,0,0)
theorem zxd (s:List UInt8) (a i:Nat):cut s a i=(s.drop a).take (i - a):=by
 unfold cut
 rw [List.drop_take]
theorem zwn (c:UInt8) (s:List UInt8) (a i:Nat) (h:a≤i) (hi:i<s.length) (no:∀ k,a≤k→k<i→s.getD k 0≠c) (hc:s.getD i 0=c):zaj c (s.drop a)=cut s a i::zaj c (s.drop (i+1)):=by
 have e:s.drop a=cut s a i++c::s.drop (i+1):=by
  conv=>lhs;rw [←List.take_append_drop (i - a) (s.drop a)]
  rw [←zxd,List.drop_drop,show a+(i - a)=i by omega,List.drop_eq_getElem_cons hi]
  congr 2
  rw [←hc,List.getD_eq_getElem?_getD,List.getElem?_eq_getElem hi]
  rfl
 rw [e]
 refine zdd c _ _ ?_
 intro hm
 rw [zxd] at hm
 obtain ⟨k,hk,he⟩:=List.getElem_of_mem hm
 have hk':k<i - a:=by simp at hk;omega
 rw [List.getElem_take,List.getElem_drop] at he
 refine no (a+k) (by omega) (by omega) ?_
 rw [List.getD_eq_getElem?_getD,List.getElem?_eq_getElem (by omega)]
 exact he
theorem ztt (c:UInt8) (s:List UInt8) (a:Nat) (no:∀ k,a≤k→k<s.length→s.getD k 0≠c):zaj c (s.drop a)=[cut s a s.length]:=by
 have e:cut s a s.length=s.drop a:=by unfold cut;rw [List.take_length]
 rw [e]
 refine zeC c _ ?_
 intro hm
 obtain ⟨k,hk,he⟩:=List.getElem_of_mem hm
 have hk':k<s.length - a:=by simpa using hk
 rw [List.getElem_drop] at he
 refine no (a+k) (by omega) (by omega) ?_
 rw [List.getD_eq_getElem?_getD,List.getElem?_eq_getElem (by omega)]
 exact he
structure WI (c:UInt8) (s:List UInt8) where
 i:Nat
 a:Nat
 acc:List (List UInt8)
 ha:a≤i
 hi:i≤s.length
 no:∀ k,a≤k→k<i→s.getD k 0≠c
 hl:acc.length≤i
 eq:zaj c s=acc++zaj c (s.drop a)
variable {c:UInt8} {s:List UInt8} (w:WI c s)
def WI.start (c:UInt8) (s:List UInt8):WI c s:=⟨0,0,[],Nat.le_refl _,Nat.zero_le _,fun _ _ h=>absurd h (Nat.not_lt_zero _),by simp,by simp⟩
def WI.skip (h:w.i<s.length) (hc:s.getD w.i 0≠c):WI c s:=⟨w.i+1,w.a,w.acc,by have:=w.ha;omega,h,fun k h1 h2=>by
 rcases Nat.lt_or_ge k w.i with h3|h3
 ·exact w.no k h1 h3
 ·rw [show k=w.i by omega];exact hc,by have:=w.hl;omega,w.eq⟩
def WI.push (h:w.i<s.length) (hc:s.getD w.i 0=c):WI c s:=⟨w.i+1,w.i+1,w.acc++[cut s w.a w.i],Nat.le_refl _,h,fun k h1 h2=>absurd h2 (by omega),by have:=w.hl;simp;omega,by
 rw [w.eq,zwn c s w.a w.i w.ha h w.no hc];simp⟩
theorem WI.skip_i (h:w.i<s.length) (hc:s.getD w.i 0≠c):(w.skip h hc).i=w.i+1:=rfl
theorem WI.skip_a (h:w.i<s.length) (hc:s.getD w.i 0≠c):(w.skip h hc).a=w.a:=rfl
theorem WI.skip_acc (h:w.i<s.length) (hc:s.getD w.i 0≠c):(w.skip h hc).acc=w.acc:=rfl
theorem WI.push_i (h:w.i<s.length) (hc:s.getD w.i 0=c):(w.push h hc).i=w.i+1:=rfl
theorem WI.push_a (h:w.i<s.length) (hc:s.getD w.i 0=c):(w.push h hc).a=w.i+1:=rfl
theorem WI.push_acc (h:w.i<s.length) (hc:s.getD w.i 0=c):(w.push h hc).acc=w.acc++[cut s w.a w.i]:=rfl
theorem WI.start_i (c:UInt8) (s:List UInt8):(WI.start c s).i=0:=rfl
theorem WI.start_a (c:UInt8) (s:List UInt8):(WI.start c s).a=0:=rfl
theorem WI.start_acc (c:UInt8) (s:List UInt8):(WI.start c s).acc=[]:=rfl
theorem WI.fin (h:w.i=s.length):zaj c s=w.acc++[cut s w.a s.length]:=by
 rw [w.eq,ztt c s w.a (fun k h1 h2=>w.no k h1 (by omega))]
def ze0 (x:List UInt8):List PVal:=[.str x]
end Go.Abs
namespace Go.Abs
open Go
theorem ztu:∀ (l:List UInt8) (acc:Nat),(∀ c ∈ l,isD c=true)→zhu l acc<(acc+1) * 10 ^ l.length
 |[],acc,_=>by simp [zhu]
 |c::r,acc,h=>by
  have hc:=zcC (h c (by simp))
  have ih:=ztu r (acc * 10+(c.toNat - 48)) (fun x hx=>h x (by simp [hx]))
  rw [zew,List.length_cons,Nat.pow_succ]
  refine Nat.lt_of_lt_of_le ih ?_
  have h1:acc * 10+(c.toNat - 48)+1≤(acc+1) * 10:=by omega
  calc (acc * 10+(c.toNat - 48)+1) * 10 ^ r.length≤((acc+1) * 10) * 10 ^ r.length:=Nat.mul_le_mul_right _ h1
   _=(acc+1) * (10 ^ r.length * 10):=by rw [Nat.mul_assoc,Nat.mul_comm 10]
theorem zzl (l:List UInt8) (h:∀ c ∈ l,isD c=true):zba l<10 ^ l.length:=by
 have:=ztu l 0 h
 simpa [zba] using this
theorem zd5 (d:List UInt8) (k:Nat) (hk:k≤d.length) (h:∀ j,j<k→isD (d.getD j 0)=true):∀ c ∈ d.take k,isD c=true:=by
 intro c hc
 obtain ⟨j,hj,rfl⟩:=List.getElem_of_mem hc
 have hj':j<k:=by simp at hj;omega
 have:=h j hj'
 rw [List.getElem_take]
 rwa [List.getD_eq_getElem?_getD,List.getElem?_eq_getElem (by omega)] at this
theorem zg6 (d:List UInt8) (k:Nat) (hk:k<d.length):zba (d.take (k+1))=zba (d.take k) * 10+((d.getD k 0).toNat - 48):=by
 rw [List.take_succ_eq_append_getElem hk]
 unfold zba
 rw [zeJ,zew,List.getD_eq_getElem?_getD,List.getElem?_eq_getElem hk]
 simp [zhu]
theorem zcJ (d:List UInt8) (k:Nat) (hk:k≤d.length) (h:∀ j,j<k→isD (d.getD j 0)=true) (h19:d.length≤19):zba (d.take k)<10000000000000000000:=by
 have h1:=zzl _ (zd5 d k hk h)
 have h2:10 ^ (d.take k).length≤10 ^ 19:=Nat.pow_le_pow_right (by omega) (by simp;omega)
 have h3:(10:Nat) ^ 19=10000000000000000000:=by decide
 omega
theorem ziw (v:Nat) (h:v<10000000000000000000):IntKind.i64.wrap (IntKind.u64.wrap (-(v:Int)))=IntKind.i64.wrap (-(v:Int)):=by
 by_cases h0:v=0
 ·subst h0;decide
 ·have e:IntKind.u64.wrap (-(v:Int))=18446744073709551616 - v:=by
   simp [IntKind.wrap,IntKind.bits,IntKind.signed]
   omega
  rw [e,IntKind.wrap_i64,IntKind.wrap_i64]
  omega
def znq (b:List UInt8):Nat→Int
 |0=>0
 |k+1=>if 1≤k∧prF k=b then k else znq b k
theorem zpM (b:List UInt8):znq b 1=0:=by simp [znq]
theorem zxe (b:List UInt8) (k:Nat) (h:1≤k) (e:prF k=b):znq b (k+1)=k:=by rw [znq,if_pos ⟨h,e⟩]
theorem zxf (b:List UInt8) (k:Nat) (e:prF k≠b):znq b (k+1)=znq b k:=by rw [znq,if_neg (fun h=>e h.2)]
def zcx (line:List UInt8) (f:Int):Int × Int × Bool:=match zaj 32 line with
 |[a,b,c]=>if a=[112,114,111,116,111,99,111,108] then (znq b 9,(zrz c).1,(zrz c).2&&(znq b 9 != 0)) else (0,f,false)
 |_=>(0,f,false)
theorem znr (line:List UInt8) (f:Int) (h:(zaj 32 line).length≠3):zcx line f=(0,f,false):=by
 unfold zcx
 match hs:zaj 32 line with
 |[]=>rfl
 |[a]=>rfl
 |[a,b]=>rfl
 |[a,b,c]=>rw [hs] at h;exact absurd rfl h
 |a::b::c::d::r=>rfl
theorem zpN (line:List UInt8) (f:Int) (a b c:List UInt8) (hs:zaj 32 line=[a,b,c]):zcx line f=if a=[112,114,111,116,111,99,111,108] then (znq b 9,(zrz c).1,(zrz c).2&&(znq b 9 != 0)) else (0,f,false):=by
 unfold zcx
 rw [hs]
theorem zwq (P:Nat→Prop) (h:P 1∧P 2∧P 3∧P 4∧P 5∧P 6∧P 7∧P 8) (k:Nat) (h1:1≤k) (h2:k≤8):P k:=by
 obtain ⟨a1,a2,a3,a4,a5,a6,a7,a8⟩:=h
 have:k=1∨k=2∨k=3∨k=4∨k=5∨k=6∨k=7∨k=8:=by omega
 rcases this with rfl|rfl|rfl|rfl|rfl|rfl|rfl|rfl<;>assumption
theorem ztv (k:Nat) (h1:1≤k) (h2:k≤8):prF k ∈ zlR.tail:=by
 refine zwq (fun k=>prF (k:Nat) ∈ zlR.tail) ?_ k h1 h2
 decide
theorem zpO (k:Nat) (h1:1≤k) (h2:k≤8):znq (prF k) 9=k∧(zlR.idxOf (prF k):Int)=k:=by
 refine zwq (fun k=>znq (prF (k:Nat)) 9=(k:Nat)∧(zlR.idxOf (prF (k:Nat)):Int)=(k:Nat)) ?_ k h1 h2
 decide
theorem zpP (b:List UInt8) (h:b ∉ zlR.tail):∀ n:Nat,n≤9→znq b n=0
 |0,_=>rfl
 |n+1,hn=>by
  rw [znq,if_neg,zpP b h n (by omega)]
  rintro ⟨h1,rfl⟩
  exact h (ztv n h1 (by omega))
theorem zns (b:List UInt8) (h:b ∈ zlR.tail):∃ k:Nat,1≤k∧k≤8∧b=prF k:=by
 simp only [zlR,List.tail_cons,List.mem_cons,List.not_mem_nil,or_false] at h
 rcases h with rfl|rfl|rfl|rfl|rfl|rfl|rfl|rfl
 ·exact ⟨1,by omega,by omega,by decide⟩
 ·exact ⟨2,by omega,by omega,by decide⟩
 ·exact ⟨3,by omega,by omega,by decide⟩
 ·exact ⟨4,by omega,by omega,by decide⟩
 ·exact ⟨5,by omega,by omega,by decide⟩
 ·exact ⟨6,by omega,by omega,by decide⟩
 ·exact ⟨7,by omega,by omega,by decide⟩
 ·exact ⟨8,by omega,by omega,by decide⟩
theorem zkQ (line:List UInt8) (f:Int):(zcx line f).2.2=(zd8 line).2.2∧((zd8 line).2.2=true→zcx line f=zd8 line):=by
 by_cases h3:(zaj 32 line).length=3
 ·match hs:zaj 32 line,h3 with
  |[a,b,c],_=>
   rw [zpN line f a b c hs]
   have hh:zd8 line=if a=[112,114,111,116,111,99,111,108]∧b ∈ zlR.tail then ((zlR.idxOf b:Int),(zaW c).1,(zaW c).2) else (0,0,false):=by
    unfold zd8;rw [hs]
   rw [hh]
   by_cases ha:a=[112,114,111,116,111,99,111,108]
   ·rw [if_pos ha]
    by_cases hb:b ∈ zlR.tail
    ·rw [if_pos ⟨ha,hb⟩]
     obtain ⟨k,h1,h2,rfl⟩:=zns b hb
     obtain ⟨e1,e2⟩:=zpO k h1 h2
     rw [e1,e2,zop]
     have hk:((k:Int) != 0)=true:=by simp;omega
     rw [hk,Bool.and_true]
     by_cases hn:(zaW c).2=true
     ·rw [if_pos hn,hn];exact ⟨rfl,fun _=>rfl⟩
     ·rw [if_neg hn]
      have:(zaW c).2=false:=by simpa using hn
      rw [this]
      exact ⟨rfl,fun h=>by cases h⟩
    ·rw [if_neg (fun h=>hb h.2),zpP b hb 9 (by omega)]
     simp
   ·rw [if_neg ha,if_neg (fun h=>ha h.1)]
    simp
 ·rw [znr line f h3]
  have hh:zd8 line=(0,0,false):=by
   unfold zd8
   match hs:zaj 32 line with
   |[]=>rfl
   |[a]=>rfl
   |[a,b]=>rfl
   |[a,b,c]=>rw [hs] at h3;exact absurd rfl h3
   |a::b::c::d::r=>rfl
  rw [hh]
  simp
theorem zg7 (c:UInt8) (s:List UInt8):∀ w ∈ zaj c s,w.length≤s.length:=by
 intro w hw
 have hj:=zhz c s
 have key:∀ (l:List (List UInt8)) (w:List UInt8),w ∈ l→w.length≤(zgo c l).length:=by
  intro l
  induction l with
  |nil=>intro w hw;simp at hw
  |cons a r ih=>
   intro w hw
   cases r with
   |nil=>simp at hw;subst hw;simp [zgo]
   |cons b r=>
    rcases List.mem_cons.1 hw with rfl|hw
    ·simp [zgo]
    ·have:=ih w hw
     simp only [zgo,List.length_append,List.length_cons]
     omega
 have:=key _ w hw
 rw [hj] at this
 exact this
theorem zg8 (c:UInt8):∀ s:List UInt8,(zaj c s).length≤s.length+1
 |[]=>by simp [zaj]
 |x::r=>by
  have ih:=zg8 c r
  rw [zaj]
  split
  ·simp;omega
  ·match hs:zaj c r,zbG c r with
   |a::t,_=>rw [hs] at ih;simp at ih ⊢;omega
def zcG (line:List UInt8):StD × Bool:=match zf0 line with
 |some x=>(x,true)
 |none=>(st0,false)
theorem zfO {line a:List UInt8} {l:List (List UInt8)} (hs:zaj 32 line=a::l):zcG line=match zjx a l with
 |some x=>(x,true)
 |none=>(st0,false):=by
 unfold zcG zf0
 rw [hs]
theorem zkR {line a:List UInt8} {l:List (List UInt8)} (hs:zaj 32 line=a::l) (hno:∀ j:Nat,1≤j→j<15→wdF j≠a):zcG line=(st0,false):=by
 rw [zfO hs]
 have:zjx a l=none:=by
  unfold zjx
  by_cases h:kdF a<1∨14<kdF a
  ·rw [if_pos h]
  ·exfalso
   have h2:=zCy a (by omega) (by omega)
   have h3:((kdF a).toNat:Int)=kdF a:=by omega
   exact hno (kdF a).toNat (by omega) (by omega) (by rw [h3];exact h2)
 rw [this]
theorem zjF (k:Int) (h1:1≤k) (h2:k≤14) (l:List (List UInt8)):zjx (wdF k) l=if l.length≠nfF k then none else if (l.all fun w=>(zaW w).2)=false then none else some (zfL k (l.map fun w=>(zaW w).1)):=by
 unfold zjx
 rw [zze k h1 h2,if_neg (by omega)]
theorem zdx {line:List UInt8} {k:Int} {l:List (List UInt8)} (hs:zaj 32 line=wdF k::l) (h1:1≤k) (h2:k≤14) (hl:l.length≠nfF k):zcG line=(st0,false):=by
 rw [zfO hs,zjF k h1 h2,if_pos hl]
theorem zzm {line:List UInt8} {k:Int} (hs:zaj 32 line=[wdF k]) (h1:1≤k) (h2:k≤14) (h:shF k=0):zcG line=(⟨k,0,0,0⟩,true):=by
 have hn:nfF k=0:=by simp [nfF,h]
 rw [zfO hs,zjF k h1 h2,if_neg (by rw [hn];simp)]
 simp [zfL,h]
theorem zzn {line b:List UInt8} {k:Int} (hs:zaj 32 line=[wdF k,b]) (h1:1≤k) (h2:k≤14) (h:shF k=1):zcG line=if (zaW b).2=true then (⟨k,0,(zaW b).1,0⟩,true) else (st0,false):=by
 have hn:nfF k=1:=by simp [nfF,h]
 rw [zfO hs,zjF k h1 h2,if_neg (by rw [hn];simp)]
 cases h3:(zaW b).2<;>simp [zfL,h,h3]
theorem zzo {line b:List UInt8} {k:Int} (hs:zaj 32 line=[wdF k,b]) (h1:1≤k) (h2:k≤14) (h:shF k=3):zcG line=if (zaW b).2=true then (⟨k,(zaW b).1,0,0⟩,true) else (st0,false):=by
 have hn:nfF k=1:=by simp [nfF,h]
 rw [zfO hs,zjF k h1 h2,if_neg (by rw [hn];simp)]
 cases h3:(zaW b).2<;>simp [zfL,h,h3]
theorem zzp {line b c:List UInt8} {k:Int} (hs:zaj 32 line=[wdF k,b,c]) (h1:1≤k) (h2:k≤14) (h:shF k=2):zcG line=if (zaW b).2=true then (if (zaW c).2=true then (⟨k,(zaW b).1,0,(zaW c).1⟩,true) else (st0,false)) else (st0,false):=by
 have hn:nfF k=2:=by simp [nfF,h]
 rw [zfO hs,zjF k h1 h2,if_neg (by rw [hn];simp)]
 cases h3:(zaW b).2<;>cases h4:(zaW c).2<;>simp [zfL,h,h3,h4]
theorem zpQ {w:List UInt8} (h:(zaW w).2=true):zrz w=((zaW w).1,true):=by rw [zop,if_pos h]
theorem zpR {w:List UInt8} (h:(zaW w).2=false):zrz w=(0,false):=by rw [zop,if_neg (by rw [h];simp)]
theorem zzq (k:Nat) (h:k<15):((zug.map PVal.str).drop k).take 1=[.str (wdF k)]:=by
 have:k=0∨k=1∨k=2∨k=3∨k=4∨k=5∨k=6∨k=7∨k=8∨k=9∨k=10∨k=11∨k=12∨k=13∨k=14:=by omega
 rcases this with rfl|rfl|rfl|rfl|rfl|rfl|rfl|rfl|rfl|rfl|rfl|rfl|rfl|rfl|rfl<;>rfl
theorem ztw (k:Nat) (h:k<9):((zlR.map PVal.str).drop k).take 1=[.str (prF k)]:=by
 have:k=0∨k=1∨k=2∨k=3∨k=4∨k=5∨k=6∨k=7∨k=8:=by omega
 rcases this with rfl|rfl|rfl|rfl|rfl|rfl|rfl|rfl|rfl<;>rfl
variable {P:Program} {env:Env} {pin:Nat} {σ:St} {Q:Exit→St→Prop}
def RN (P:Program) (env:Env) (pin:Nat) (c:Code) (Q:Exit→St→Prop) (t:Tg (c,Q)):Nat→St→Prop
 |0,_=>False
 |n+1,σ=>VC P env pin c σ (zeY (fun σ'=>RN P env pin c Q t n σ') Q)
@[congr] theorem zDn {c:Code} {t:Tg (c,Q)} {n:Nat} {σ σ':St} (h:σ=σ'):RN P env pin c Q t n σ=RN P env pin c Q t n σ':=by rw [h]
theorem zbR (c:Code) (t:Tg (c,Q)) (n:Nat) (σ:St):RN P env pin c Q t (n+1) σ=VC P env pin c σ (zeY (fun σ'=>RN P env pin c Q t n σ') Q):=rfl
theorem LW.rounds {c:Code} {t:Tg (Code.loop c,Q)} (hE:zaY P env) (hm:P.follows .mixedOrders=true) (n:Nat) (h:RN P env pin c Q .mk n σ):LW P env pin (.loop c) σ Q t:=by
 refine SW.loop (ι:={q:Nat × St // RN P env pin c Q .mk q.1 q.2}) (fun q=>q.1.2) (fun q=>q.1.1) ⟨(n,σ),h⟩ (za0.refl _) ?_
 rintro ⟨⟨k,s⟩,hk⟩
 cases k with
 |zero=>exact hk.elim
 |succ k=>
  refine (VC.to hE hm c hk).mono fun e σ' hq=>?_
  cases e with
  |normal=>exact ⟨⟨(k,σ'),hq⟩,za0.refl _,Nat.lt_succ_self _⟩
  |_=>exact hq
end Go.Abs
namespace Go.Abs
open Go
theorem zcK:∀ (l:List (List UInt8)) (b b':List UInt8) (r:List (List UInt8)),zbV l b=some (b',r)→r.length<l.length
 |[],_,_,_,h=>by simp [zbV] at h
 |x::l,b,b',r,h=>by
  rw [zbV] at h
  split at h
  ·cases h;simp
  ·have:=zcK l _ _ _ h
   simp;omega
def zkn (l:List (List UInt8)):Nat:=(l.map fun x=>x.length+1).sum
theorem zb5 (x:List UInt8) (l:List (List UInt8)):zkn (x::l)=x.length+1+zkn l:=by simp [zkn]
structure PcI (ls:List (List UInt8)) (k0:Nat) where
 k:Nat
 b:List UInt8
 hk:k≤ls.length
 eq:zbV (ls.drop k) b=zbV (ls.drop k0) []
 hb:b.length+zkn (ls.drop k)≤1000000
theorem PcI.line {ls:List (List UInt8)} {k0:Nat} (i:PcI ls k0) (h:i.k<ls.length):ls.drop i.k=ls.getD i.k []::ls.drop (i.k+1):=by
 rw [List.drop_eq_getElem_cons h]
 simp [List.getD,h]
def PcI.next {ls:List (List UInt8)} {k0:Nat} (i:PcI ls k0) (h:i.k<ls.length) (hne:ls.getD i.k []≠[101,110,100]):PcI ls k0:=
 ⟨i.k+1,i.b++(ls.getD i.k []++[10]),h,by
  rw [←i.eq,i.line h,zbV,if_neg hne],by
  have:=i.hb
  rw [i.line h,zb5] at this
  simp only [List.length_append,List.length_cons,List.length_nil]
  omega⟩
theorem PcI.fin {ls:List (List UInt8)} {k0:Nat} (i:PcI ls k0) (h:i.k<ls.length) (he:ls.getD i.k []=[101,110,100]):zbV (ls.drop k0) []=some (i.b,ls.drop (i.k+1)):=by
 rw [←i.eq,i.line h,zbV,if_pos he]
theorem PcI.out {ls:List (List UInt8)} {k0:Nat} (i:PcI ls k0) (h:¬ i.k<ls.length):zbV (ls.drop k0) []=none:=by
 rw [←i.eq,List.drop_eq_nil_of_le (by omega),zbV]
def sc0:ScD:=⟨[],0,0,[]⟩
def zdM (ls:List (List UInt8)) (torn:Bool):ScD × Int × Int:=
 if (zcx (ls.getD 0 []) 0).2.2=false then (sc0,1,1)
 else match zca ls.length (ls.drop 1) 2 [] with
  |.bad a e=>(sc0,a,e)
  |.ok cs r a=>if (zbN torn r a []).2.2≠0 then (sc0,(zbN torn r a []).2.1,(zbN torn r a []).2.2)
   else (⟨cs,(zcx (ls.getD 0 []) 0).1,(zcx (ls.getD 0 []) 0).2.1,(zbN torn r a []).1⟩,0,0)
theorem zl2 (s:List UInt8):zhB s=if 65536<s.length then (sc0,0,5) else zdM (zb9 s) (zfr s):=by
 unfold zhB
 by_cases hl:65536<s.length
 ·rw [if_pos hl,if_pos hl];rfl
 rw [if_neg hl,if_neg hl]
 cases h:zb9 s with
 |nil=>rfl
 |cons l r=>
  obtain ⟨e1,e2⟩:=zkQ l 0
  unfold zdM
  simp only [List.getD_cons_zero,List.length_cons,List.drop_succ_cons,List.drop_zero]
  rw [e1]
  by_cases hh:(zd8 l).2.2=false
  ·rw [if_pos hh,if_pos hh];rfl
  ·rw [if_neg hh,if_neg hh,e2 (by simpa using hh)]
   rfl
theorem zjH:∀ (l:List (List UInt8)) (b b':List UInt8) (r:List (List UInt8)),zbV l b=some (b',r)→r=l.drop (l.length - r.length)
 |[],_,_,_,h=>by simp [zbV] at h
 |x::l,b,b',r,h=>by
  have hl:=zcK _ _ _ _ h
  rw [zbV] at h
  split at h
  ·cases h;simp
  ·have hl2:=zcK _ _ _ _ h
   have:=zjH l _ _ _ h
   simp only [List.length_cons]
   rw [show l.length+1 - r.length=(l.length - r.length)+1 by omega,List.drop_succ_cons]
   exact this
structure RqI (ls:List (List UInt8)) (R:HR) where
 k:Nat
 cs:List CdD
 f:Nat
 hk1:1≤k
 hk:k≤ls.length
 hf:ls.length - k<f
 hcs:cs.length≤5
 eq:zca f (ls.drop k) ((k:Int)+1) cs=R
section
variable {ls:List (List UInt8)} {R:HR} (i:RqI ls R)
theorem RqI.line (h:i.k<ls.length):ls.drop i.k=ls.getD i.k []::ls.drop (i.k+1):=by
 rw [List.drop_eq_getElem_cons h]
 simp [List.getD,h]
theorem RqI.fuel:∃ g,i.f=g+1:=⟨i.f - 1,by have:=i.hf;omega⟩
theorem RqI.out (h:¬ i.k<ls.length):R=.bad ((i.k+1:Nat):Int) 1:=by
 obtain ⟨g,hg⟩:=i.fuel
 refine i.eq.symm.trans ?_
 rw [hg,List.drop_eq_nil_of_le (by omega),zca]
 congr 1
theorem RqI.bad (h:i.k<ls.length) (hp:ls.getD i.k []≠[112,114,111,99,101,115,115]) (hs:ls.getD i.k []≠[115,116,101,112,115]∨i.cs=[]):R=.bad ((i.k+1:Nat):Int) 1:=by
 obtain ⟨g,hg⟩:=i.fuel
 refine i.eq.symm.trans ?_
 rw [hg,i.line h,zca,if_neg hp,if_neg]
 ·congr 1
 ·rintro ⟨a,b⟩
  rcases hs with hs|hs
  ·exact hs a
  ·exact b hs
theorem RqI.steps (h:i.k<ls.length) (hs:ls.getD i.k []=[115,116,101,112,115]) (hc:i.cs≠[]):R=.ok i.cs (ls.drop (i.k+1)) (((i.k+1:Nat):Int)+1):=by
 obtain ⟨g,hg⟩:=i.fuel
 refine i.eq.symm.trans ?_
 rw [hg,i.line h,zca,hs,if_neg (by decide),if_pos ⟨rfl,hc⟩]
 congr 1
theorem RqI.many (h:i.k<ls.length) (hp:ls.getD i.k []=[112,114,111,99,101,115,115]) (h5:5≤i.cs.length):R=.bad ((i.k+1:Nat):Int) 4:=by
 obtain ⟨g,hg⟩:=i.fuel
 refine i.eq.symm.trans ?_
 rw [hg,i.line h,zca,if_pos hp,if_pos h5]
 congr 1
theorem RqI.none (h:i.k<ls.length) (hp:ls.getD i.k []=[112,114,111,99,101,115,115]) (h5:¬ 5≤i.cs.length) (hc:zbV (ls.drop (i.k+1)) []=none):R=.bad ((ls.length+1:Nat):Int) 1:=by
 obtain ⟨g,hg⟩:=i.fuel
 refine i.eq.symm.trans ?_
 rw [hg,i.line h,zca,if_pos hp,if_neg h5,hc]
 simp only [List.length_drop]
 congr 1
 omega
theorem RqI.body (h:i.k<ls.length) (hp:ls.getD i.k []=[112,114,111,99,101,115,115]) (h5:¬ 5≤i.cs.length) {b:List UInt8} {r:List (List UInt8)} (hc:zbV (ls.drop (i.k+1)) []=some (b,r)) (he:(zd7 b).2≠0):R=.bad ((i.k+1:Nat):Int) (zd7 b).2:=by
 obtain ⟨g,hg⟩:=i.fuel
 refine i.eq.symm.trans ?_
 rw [hg,i.line h,zca,if_pos hp,if_neg h5,hc]
 dsimp only
 rw [if_pos he]
 congr 1
def RqI.next (h:i.k<ls.length) (hp:ls.getD i.k []=[112,114,111,99,101,115,115]) (h5:¬ 5≤i.cs.length) {b:List UInt8} {r:List (List UInt8)} (hc:zbV (ls.drop (i.k+1)) []=some (b,r)) (he:(zd7 b).2=0):RqI ls R:=
 ⟨ls.length - r.length,i.cs++[(zd7 b).1],i.f - 1,by
  have:=zcK _ _ _ _ hc
  simp only [List.length_drop] at this
  have:=i.hk1
  omega,by omega,by
  have:=zcK _ _ _ _ hc
  simp only [List.length_drop] at this
  have:=i.hf
  omega,by simp;omega,by
  obtain ⟨g,hg⟩:=i.fuel
  have hl:=zcK _ _ _ _ hc
  have hd:=zjH _ _ _ _ hc
  simp only [List.length_drop] at hl
  rw [List.drop_drop,List.length_drop,show i.k+1+(ls.length - (i.k+1) - r.length)=ls.length - r.length by omega] at hd
  refine Eq.trans ?_ i.eq
  rw [hg,i.line h,zca,if_pos hp,if_neg h5,hc]
  dsimp only
  rw [if_neg (by simpa using he),←hd]
  simp only [List.length_drop,Nat.add_sub_cancel]
  congr 1
  omega⟩
end
structure RsI (ls:List (List UInt8)) (torn:Bool) (S:List StD × Int × Int) where
 k:Nat
 xs:List StD
 hk:k≤ls.length
 hx:xs.length≤400
 eq:zbN torn (ls.drop k) ((k:Int)+1) xs=S
section
variable {ls:List (List UInt8)} {torn:Bool} {S:List StD × Int × Int} (i:RsI ls torn S)
theorem RsI.line (h:i.k<ls.length):ls.drop i.k=ls.getD i.k []::ls.drop (i.k+1):=by
 rw [List.drop_eq_getElem_cons h]
 simp [List.getD,h]
theorem RsI.fin (h:¬ i.k<ls.length) (ht:torn=false):S=(i.xs,0,0):=by
 refine i.eq.symm.trans ?_
 rw [List.drop_eq_nil_of_le (by omega),zbN,if_neg (by rw [ht];simp)]
theorem RsI.cut (h:¬ i.k<ls.length) (ht:torn=true):S=([],((i.k+1:Nat):Int),1):=by
 refine i.eq.symm.trans ?_
 rw [List.drop_eq_nil_of_le (by omega),zbN,if_pos ht]
 rfl
theorem RsI.none (h:i.k<ls.length) (hs:zf0 (ls.getD i.k [])=none):S=([],((i.k+1:Nat):Int),1):=by
 refine i.eq.symm.trans ?_
 rw [i.line h,zbN,hs]
 rfl
theorem RsI.many (h:i.k<ls.length) {x:StD} (hs:zf0 (ls.getD i.k [])=some x) (h4:400≤i.xs.length):S=([],((i.k+1:Nat):Int),4):=by
 refine i.eq.symm.trans ?_
 rw [i.line h,zbN,hs]
 dsimp only
 rw [if_pos h4]
 rfl
def RsI.next (h:i.k<ls.length) {x:StD} (hs:zf0 (ls.getD i.k [])=some x) (h4:¬ 400≤i.xs.length):RsI ls torn S:=
 ⟨i.k+1,i.xs++[x],h,by simp;omega,by
  refine Eq.trans ?_ i.eq
  rw [i.line h,zbN,hs]
  dsimp only
  rw [if_neg h4]
  congr 1⟩
end
end Go.Abs
