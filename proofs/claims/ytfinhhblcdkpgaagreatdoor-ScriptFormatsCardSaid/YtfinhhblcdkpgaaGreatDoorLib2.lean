/- A sound walk of the program by abstract states, part 2: its theorems have no condition beyond what they state. -/
import Derived.Test.YtfinhhblcdkpgaaGreatDoorLib1
import Derived.IntWalk
import Derived.Scope
import Derived.Defers
import Derived.Recover
import Derived.KernelRfl
import Derived.Below
set_option maxRecDepth 100000
set_option maxHeartbeats 64000000
set_option linter.unusedSimpArgs false
set_option linter.unusedVariables false
set_option linter.defProp false
namespace Go.Abs
open Go
inductive Step (P:Program) (env:Env) (o:Oper) (σ:St):List Nat→Eff→Prop
 |op (e:Eff):aop env o.dst (zaf env σ) σ.obj o.op=some e→Step P env o σ (za8 env o.dst (zaf env σ) o.op) e
 |call (f:FuncId) (args:List AVal) (cargs:List AVal) (cobjs:List (Option AObj)) (ids news:List Nat) (res:AVal) (objs':List (Option AObj)) :
   CallFits P env σ o f args cargs cobjs ids news objs'→AC P env.gl f cargs cobjs res objs' →
   Step P env o σ (ids++news) ⟨ren (fun k=>(ids++news).getD k 0) res,zaH (fun k=>(ids++news).getD k 0) (ids++news) 0 objs'⟩
section
variable {P:Program} {env:Env} {o:Oper} {E:Ent} {σ σ':St} {g:Gh} {M:Mem} {a:Act} {w:World} {e:Eff}
theorem Step.does {T:List Nat} (h:Step P env o σ T e) (hR:Rel E σ g M a w) (hG:ziO env E M) (hE:zaO P env) (hl:σ.objs.length=env.nobj):zvd P o E σ g M a w e:=by
 cases h with
 |op _ h=>exact (znl hR hG.1 hE hl h).toW
 |call f args cargs cobjs ids news res objs' hf hac=>exact zpX hR hG hl hf hac
theorem zjY {ob ob':Nat→Option AObj} {v:AVal} (h:∀ id n,v=.row id n→ob id=ob' id):zcb ob v=zcb ob' v:=by
 cases v with
 |row id n=>simp only [zcb,h id n rfl]
 |pv p=>cases p<;>rfl
 |_=>rfl
theorem zpY (env:Env) (dst:Option Nat) {ev ev':Operand→AVal} {ob ob':Nat→Option AObj} (op:Op) (hev:∀ x,x ∈ op.operands→ev x=ev' x)
  (hob:∀ id,id ∈ za8 env dst ev op→ob id=ob' id):aop env dst ev ob op=aop env dst ev' ob' op∧za8 env dst ev op=za8 env dst ev' op:=by
 cases op with
 |move x=>simp [aop,za8,hev x (by simp [Op.operands])]
 |assign x=>simp [aop,za8,hev x (by simp [Op.operands])]
 |pick c x y=>simp [aop,za8,hev c (by simp [Op.operands]),hev x (by simp [Op.operands]),hev y (by simp [Op.operands])]
 |alloc t=>
  refine ⟨?_,rfl⟩
  simp only [za8] at hob
  simp only [aop]
  cases hty:env.ty t with
  |none=>rfl
  |some ty=>
   cases dst with
   |none=>rfl
   |some d=>
    rw [hty] at hob
    simp only at hob ⊢
    cases hb:ty.bld with
    |none=>
     rw [hb] at hob
     simp only at hob ⊢
     simp only [hob (env.site d) (by simp)]
    |some e=>
     rw [hb] at hob
     simp only at hob ⊢
     simp only [hob (env.site d) (by simp),hob (env.site d+1) (by simp)]
 |box t x=>
  refine ⟨?_,rfl⟩
  cases dst with
  |none=>rfl
  |some d=>simp only [aop,hob (env.site d) (by simp [za8]),hev x (by simp [Op.operands])]
 |build t ps=>
  have:(ps.toList.map fun q=>(q.1,ev q.2))=(ps.toList.map fun q=>(q.1,ev' q.2)):=List.map_congr_left fun q hq=>by
   rw [hev q.2 (by simp only [Op.operands,List.mem_toArray,List.mem_map];exact ⟨q,hq,rfl⟩)]
  exact ⟨by simp only [aop,this],rfl⟩
 |buildSlice t n ps=>
  have this:(ps.toList.map fun q=>(q.1,ev q.2))=(ps.toList.map fun q=>(q.1,ev' q.2)):=List.map_congr_left fun q hq=>by
   rw [hev q.2 (by simp only [Op.operands,List.mem_toArray,List.mem_map];exact ⟨q,hq,rfl⟩)]
  refine ⟨?_,by simp only [za8,this]⟩
  simp only [za8] at hob
  simp only [aop,←this]
  cases hty:env.ty t with
  |none=>rfl
  |some ty=>
   rw [hty] at hob
   simp only at hob ⊢
   cases har:zgV ty.eSize 0 (ps.toList.map fun q=>(q.1,ev q.2)) with
   |some xs=>rfl
   |none=>
    rw [har] at hob
    cases dst with
    |none=>rfl
    |some d=>simp only at hob ⊢;simp only [hob (env.site d) (by simp)]
 |load t p=>
  have hp:=hev p (by simp [Op.operands])
  refine ⟨?_,by simp only [za8,hp]⟩
  simp only [za8] at hob
  simp only [aop,←hp]
  cases env.ty t with
  |none=>rfl
  |some ty=>
   cases hv:ev p with
   |ref id off=>rw [hv] at hob;simp only [hob id (by simp)]
   |eref id i j sz=>rw [hv] at hob;simp only [hob id (by simp)]
   |pv q=>cases q<;>rfl
   |_=>rfl
 |store t p x=>
  have hp:=hev p (by simp [Op.operands])
  have hx:=hev x (by simp [Op.operands])
  refine ⟨?_,by simp only [za8,hp]⟩
  simp only [za8] at hob
  simp only [aop,←hp,←hx]
  cases env.ty t with
  |none=>rfl
  |some ty=>
   cases hv:ev p with
   |ref id off=>rw [hv] at hob;simp only [hob id (by simp)]
   |eref id i j sz=>rw [hv] at hob;simp only [hob id (by simp)]
   |_=>rfl
 |nilCheck x=>simp [aop,za8,hev x (by simp [Op.operands])]
 |binOp op t x y t'=>simp [aop,za8,hev x (by simp [Op.operands]),hev y (by simp [Op.operands])]
 |unOp op t x=>simp [aop,za8,hev x (by simp [Op.operands])]
 |convert s d x=>
  have hx:=hev x (by simp [Op.operands])
  refine ⟨?_,by simp only [za8,hx]⟩
  simp only [za8] at hob
  simp only [aop,←hx]
  cases env.ty s<;>cases env.ty d<;>cases hv:ev x
  all_goals first
   |rfl
   |(rw [hv] at hob;simp only [hob _ (List.mem_singleton.2 rfl)])
   |(rename_i q;cases q<;>rfl)
 |fieldAddr s x k=>simp [aop,za8,hev x (by simp [Op.operands])]
 |indexAddr t x i=>
  have hx:=hev x (by simp [Op.operands])
  have hi:=hev i (by simp [Op.operands])
  refine ⟨?_,by simp only [za8,hx]⟩
  simp only [za8] at hob
  simp only [aop,←hx,←hi]
  split
  ·split
   ·rfl
   ·rename_i ty _ _ _ _ _
    cases ty.kind with
    |slice=>
     cases hv:ev x with
     |row id n=>rw [hv] at hob;simp only [hob id (by simp)]
     |pv q=>cases q<;>rfl
     |_=>rfl
    |array n=>
     cases hv:ev x with
     |pv q=>cases q<;>rfl
     |_=>rfl
    |_=>rfl
  ·rfl
 |makeSlice t n c=>
  refine ⟨?_,rfl⟩
  simp only [aop,hev n (by simp [Op.operands]),hev c (by simp [Op.operands])]
  cases env.ty t with
  |none=>rfl
  |some ty=>
   cases dst with
   |none=>rfl
   |some d=>simp only [hob (env.site d) (by simp [za8])]
 |makeMap t r=>
  cases r with
  |some r=>exact ⟨rfl,rfl⟩
  |none=>
   refine ⟨?_,rfl⟩
   simp only [aop]
   cases env.ty t with
   |none=>rfl
   |some ty=>
    cases dst with
    |none=>rfl
    |some d=>simp only [hob (env.site d) (by simp [za8])]
 |lookup t x k ok=>
  have hx:=hev x (by simp [Op.operands])
  have hk:=hev k (by simp [Op.operands])
  refine ⟨?_,by simp only [za8,hx]⟩
  simp only [za8] at hob
  simp only [aop,←hx,←hk]
  cases env.ty t with
  |none=>rfl
  |some ty=>
   cases hv:ev x with
   |map id=>
    rw [hv] at hob
    cases hkv:ev k with
    |pv q=>simp only [hob id (by simp)]
    |_=>rfl
   |_=>rfl
 |mapUpdate t m k x=>
  have hm:=hev m (by simp [Op.operands])
  have hk:=hev k (by simp [Op.operands])
  have hx:=hev x (by simp [Op.operands])
  refine ⟨?_,by simp only [za8,hm]⟩
  simp only [za8] at hob
  simp only [aop,←hm,←hk,←hx]
  cases env.ty t with
  |none=>rfl
  |some ty=>
   cases hv:ev m with
   |map id=>
    rw [hv] at hob
    cases hkv:ev k with
    |pv q=>
     cases zr8 (ev x) with
     |none=>rfl
     |some v=>simp only [hob id (by simp)]
    |_=>rfl
   |_=>rfl
 |index t x i=>simp [aop,za8,hev x (by simp [Op.operands]),hev i (by simp [Op.operands])]
 |extract x k=>simp [aop,za8,hev x (by simp [Op.operands])]
 |slice t x lo hi mx=>
  have hx:=hev x (by simp [Op.operands])
  have hlo:∀ d,zcg ev lo d=zcg ev' lo d:=fun d=>by cases lo with
   |none=>rfl
   |some q=>simp only [zcg,hev q (by simp [Op.operands])]
  have hhi:∀ d,zcg ev hi d=zcg ev' hi d:=fun d=>by cases hi with
   |none=>rfl
   |some q=>simp only [zcg,hev q (by simp [Op.operands])]
  exact ⟨by simp only [aop,hx,hlo,hhi],rfl⟩
 |call c=>
  obtain ⟨cl,args,tys⟩:=c
  cases cl with
  |builtin b=>
   have hargs:∀ x,x ∈ args.toList→ev x=ev' x:=fun x hx=>hev x (by simp [Op.operands,Call.operands];exact Array.mem_toList_iff.1 hx)
   cases b with
   |len=>
    refine ⟨?_,rfl⟩
    simp only [aop]
    split
    ·rename_i x t h1 h2;rw [hargs x (by rw [h1];simp)]
    ·rfl
   |max=>
    refine ⟨?_,rfl⟩
    simp only [aop]
    split
    ·rename_i x r h1
     rw [hargs x (by rw [h1];simp),List.map_congr_left (fun y hy=>hargs y (by rw [h1];simp [hy]))]
    ·rfl
   |min=>
    refine ⟨?_,rfl⟩
    simp only [aop]
    split
    ·rename_i x r h1
     rw [hargs x (by rw [h1];simp),List.map_congr_left (fun y hy=>hargs y (by rw [h1];simp [hy]))]
    ·rfl
   |append=>
    have key:∀ x y,args.toList=[x,y]→ev x=ev' x∧ev y=ev' y:=fun x y h=>⟨hargs x (by rw [h];simp),hargs y (by rw [h];simp)⟩
    refine ⟨?_,?_⟩
    ·simp only [aop]
     simp only [za8] at hob
     split
     ·rename_i x y t t' d h1 h2
      obtain ⟨hx,hy⟩:=key x y h1
      rw [h1] at hob
      rw [←hx,←hy]
      have h3:=hob (env.site d) (by simp)
      have h4:zcb ob (ev y)=zcb ob' (ev y):=zjY (fun id n hv=>hob id (by simp [hv]))
      rw [h3,h4]
      split
      ·split
       ·split
        ·rfl
        ·rename_i id n hv;rw [hob id (by simp [hv])]
        ·rfl
        ·rfl
       ·rfl
      ·rfl
     ·rfl
    ·simp only [za8]
     split
     ·rename_i x y h1
      obtain ⟨hx,hy⟩:=key x y h1
      rw [hx,hy]
     ·rfl
   |_=>exact ⟨rfl,rfl⟩
  |value f=>exact ⟨rfl,rfl⟩
  |invoke r m=>exact ⟨rfl,rfl⟩
 |makeFunc fn first cap=>
  refine ⟨?_,rfl⟩
  cases fn with
  |func f=>
   simp only [aop]
   have:cap.toList.map ev=cap.toList.map ev':=List.map_congr_left fun x hx=>hev x (by simp [Op.operands];exact .inr (Array.mem_toList_iff.1 hx))
   rw [this]
  |_=>rfl
 |makeInterface t x=>simp [aop,za8,hev x (by simp [Op.operands])]
 |typeAssert x t0 t ok=>simp [aop,za8,hev x (by simp [Op.operands])]
 |_=>exact ⟨rfl,rfl⟩
theorem zmf {f:FuncId} {vals:List AVal} (h:calls env σ o.op f vals) (hev:∀ x,x ∈ o.op.operands→zaf env σ x=zaf env σ' x):calls env σ' o.op f vals:=by
 rcases h with ⟨args,tys,ho,rfl⟩|⟨t,args,tys,cs,ho,hs,rfl⟩
 ·refine .inl ⟨args,tys,ho,?_⟩
  exact List.map_congr_left fun x hx=>hev x (by simp [ho,Op.operands,Call.operands];exact .inr (Array.mem_toList_iff.1 hx))
 ·refine .inr ⟨t,args,tys,cs,ho,?_,?_⟩
  ·have:=hev (.tmp t) (by simp [ho,Op.operands,Call.operands])
   rw [←hs]
   exact this.symm
  ·congr 1
   exact List.map_congr_left fun x hx=>hev x (by simp [ho,Op.operands,Call.operands];exact .inr (Array.mem_toList_iff.1 hx))
theorem CallFits.local {f:FuncId} {vals cargs:List AVal} {cobjs:List (Option AObj)} {ids news:List Nat} {objs':List (Option AObj)} (hf:CallFits P env σ o f vals cargs cobjs ids news objs')
  (hev:∀ x,x ∈ o.op.operands→zaf env σ x=zaf env σ' x) (hob:∀ id,id ∈ ids++news→σ.obj id=σ'.obj id):CallFits P env σ' o f vals cargs cobjs ids news objs':=by
 obtain ⟨ho,hent,hargs,hobjs,hscA,hscO,hnd,hlt,hfr,hlen⟩:=hf
 refine ⟨zmf ho hev,hent,hargs,?_,hscA,hscO,hnd,hlt,fun id hid=>?_,hlen⟩
 ·rw [←hobjs]
  exact List.map_congr_left fun id hid=>(hob id (by simp [hid])).symm
 ·rw [←hob id (by simp [hid])];exact hfr id hid
theorem Step.local {T:List Nat} (h:Step P env o σ T e) (hev:∀ x,x ∈ o.op.operands→zaf env σ x=zaf env σ' x) (hob:∀ id,id ∈ T→σ.obj id=σ'.obj id):Step P env o σ' T e:=by
 cases h with
 |op _ h=>
  obtain ⟨h1,h2⟩:=zpY env o.dst o.op hev hob
  rw [h2]
  exact .op e (h1 ▸ h)
 |call f args cargs cobjs ids news res objs' hf hac=>
  refine .call f args cargs cobjs ids news res objs' ?_ hac
  exact hf.local hev hob
end
def zdc (ops:Array Oper) (σ:St) (o:Oper):Option Bool:=
 match o.guard with
 |none=>some true
 |some (j,want)=>match (ops[j]?).bind (·.dst) with
  |some t=>match σ.slot t with
   |.pv (.bool b)=>some (b==want)
   |.tup []=>some false
   |_=>none
  |none=>none
inductive GStep (P:Program) (env:Env) (ops:Array Oper) (o:Oper) (σ:St):List Nat→Eff→Prop
 |run (T:List Nat) (e:Eff):zdc ops σ o=some true→Step P env o σ T e→GStep P env ops o σ T e
 |skip:zdc ops σ o=some false→GStep P env ops o σ [] ⟨.tup [],[]⟩
section
variable {P:Program} {env:Env} {o:Oper} {E:Ent} {σ σ':St} {g:Gh} {M:Mem} {a:Act} {w:World} {e:Eff} {ops:Array Oper}
theorem zdd (hR:Rel E σ g M a w) {b:Bool} (h:zdc ops σ o=some b):Region.wanted o (yielded ops a.tmps)=b:=by
 unfold zdc at h
 unfold Region.wanted
 cases hg:o.guard with
 |none=>rw [hg] at h;cases h;rfl
 |some q=>
  obtain ⟨j,want⟩:=q
  rw [hg] at h
  simp only at h ⊢
  split at h
  ·rename_i t ht
   split at h
   ·rename_i c hc
    cases h
    have hlt:t<σ.slots.length:=by
     rcases Nat.lt_or_ge t σ.slots.length with h'|h'
     ·exact h'
     ·simp [St.slot,List.getElem?_eq_none h'] at hc
    have hv:=hR.slots t hlt
    rw [hc] at hv
    have hv':=hv.bool_inv
    have hget:a.tmps[t]?=some (.bool c):=by
     have hlt2:t<a.tmps.size:=by rw [hR.size];exact hlt
     rw [Array.getD_eq_getD_getElem?,Array.getElem?_eq_getElem hlt2] at hv'
     rw [Array.getElem?_eq_getElem hlt2]
     simpa using hv'
    have hy:yielded ops a.tmps j=some c:=by simp [yielded,ht,hget]
    rw [hy]
    cases c<;>cases want<;>rfl
   ·rename_i hc
    cases h
    have hlt:t<σ.slots.length:=by
     rcases Nat.lt_or_ge t σ.slots.length with h'|h'
     ·exact h'
     ·simp [St.slot,List.getElem?_eq_none h'] at hc
    have hv:=hR.slots t hlt
    rw [hc] at hv
    have hlt2:t<a.tmps.size:=by rw [hR.size];exact hlt
    rw [Array.getD_eq_getD_getElem?,Array.getElem?_eq_getElem hlt2] at hv
    simp only [Option.getD_some] at hv
    have hy:yielded ops a.tmps j=none:=by
     simp only [yielded,ht,Option.bind_some,Array.getElem?_eq_getElem hlt2]
     generalize a.tmps[t]=u at hv
     cases hv
     rfl
    rw [hy]
    rfl
   ·cases h
  ·cases h
theorem GStep.wp {T:List Nat} {i:Nat} (hi:ops[i]?=some o) (h:GStep P env ops o σ T e) (hR:Rel E σ g M a w) (hG:ziO env E M) (hE:zaO P env) (hl:σ.objs.length=env.nobj)
  {K:Act→World→Prop} {Q:Exit→Act→World→Prop}
  (hK:∀ v w' g' M',Rel E (σ.app o.dst e) g' M' (a.put o.dst v) w'→(∀ id,σ.dom id→g.agree g' id)→Mem.le M M'→K (a.put o.dst v) w'):wpOp P ops Q i K a w:=by
 unfold wpOp
 simp only [hi]
 cases h with
 |run _ _ hg hs=>
  rw [if_pos (zdd hR hg)]
  exact .inl (hs.does hR hG hE hl K Q hK)
 |skip hg=>
  rw [if_neg (by rw [zdd hR hg];simp)]
  exact hK undef w g M (hR.put o.dst (.tup [] [] rfl (fun i hi=>by simp at hi))) (fun _ _=>Gh.agree_refl _ _) (Mem.le_refl _)
theorem zhH {x:Operand} (h:∀ t,x=.tmp t→σ.slot t=σ'.slot t):zaf env σ x=zaf env σ' x:=by
 cases x with
 |tmp t=>exact h t rfl
 |_=>rfl
theorem GStep.local {T:List Nat} (h:GStep P env ops o σ T e) (hs:∀ t,t ∈ o.looksAt ops→σ.slot t=σ'.slot t) (hob:∀ id,id ∈ T→σ.obj id=σ'.obj id):GStep P env ops o σ' T e:=by
 have hg:zdc ops σ' o=zdc ops σ o:=by
  unfold zdc
  cases hg:o.guard with
  |none=>rfl
  |some q=>
   obtain ⟨j,want⟩:=q
   simp only
   cases ht:(ops[j]?).bind (·.dst) with
   |none=>rfl
   |some t=>
    have:=hs t (by simp [Oper.looksAt,hg,ht])
    simp only [this]
 cases h with
 |run _ _ h1 h2=>
  refine .run T e (by rw [hg];exact h1) (h2.local (fun x hx=>zhH (fun t ht=>hs t ?_)) hob)
  subst ht
  exact List.mem_append_left _ (List.mem_filterMap.2 ⟨.tmp t,by simpa using hx,rfl⟩)
 |skip h1=>exact .skip (by rw [hg];exact h1)
inductive PStep (P:Program) (env:Env) (o:Oper) (σ:St):Value→List (Nat × AObj)→Prop
 |call (f:FuncId) (vals:List AVal) (cargs:List AVal) (cobjs:List (Option AObj)) (ids news:List Nat) (x:Value) (objs':List (Option AObj)) :
   CallFits P env σ o f vals cargs cobjs ids news objs'→AP P env.gl f cargs cobjs x objs'→PStep P env o σ x (zaH (fun k=>(ids++news).getD k 0) (ids++news) 0 objs')
 |pan (x:Operand) (p:PVal) (v:Value):o.op=.panic x→zaf env σ x=.pv p→(∀ M u,Rd M p u→u=v∧∃ t y,v=.iface t y)→PStep P env o σ v []
structure GPStep (P:Program) (env:Env) (ops:Array Oper) (o:Oper) (σ:St) (x:Value) (upd:List (Nat × AObj)):Prop where
 guard:zdc ops σ o=some true
 step:PStep P env o σ x upd
theorem GPStep.wp {i:Nat} {x:Value} {upd:List (Nat × AObj)} (hi:ops[i]?=some o) (h:GPStep P env ops o σ x upd) (hR:Rel E σ g M a w) (hG:ziO env E M) (hl:σ.objs.length=env.nobj)
  {K:Act→World→Prop} {Q:Exit→Act→World→Prop}
  (hQ:∀ w' g' M',Rel E ⟨σ.slots,zaA σ.objs upd⟩ g' M' a w'→(∀ id,σ.dom id→g.agree g' id)→Mem.le M M'→Q (.panic (ziW x)) a w'):wpOp P ops Q i K a w:=by
 unfold wpOp
 simp only [hi]
 rw [if_pos (zdd hR h.guard)]
 cases h.step with
 |call f vals cargs cobjs ids news x objs' hf hac=>exact .inl (zme hR hG hl hf hac K Q hQ)
 |pan y p v ho hy hv=>
  refine .inl ?_
  have h1:=zax (env:=env) hR hG.1 y
  rw [hy] at h1
  obtain ⟨h2,t,z,h3⟩:=hv M _ h1.pv_inv
  have hrun:(execOp a.eval o).run P w=.halt (.panic x) w:=by
   simp only [execOp,ho,h2,h3,Instr.panic]
   rfl
  unfold Oper.wp
  rw [hrun]
  exact hQ w g M hR (fun _ _=>Gh.agree_refl _ _) (Mem.le_refl _)
theorem GPStep.local {x:Value} {upd:List (Nat × AObj)} (h:GPStep P env ops o σ x upd) (hs:∀ t,t ∈ o.looksAt ops→σ.slot t=σ'.slot t) (hob:∀ id,σ.obj id=σ'.obj id):GPStep P env ops o σ' x upd:=by
 have hg:zdc ops σ' o=zdc ops σ o:=by
  unfold zdc
  cases hg:o.guard with
  |none=>rfl
  |some q=>
   obtain ⟨j,want⟩:=q
   simp only
   cases ht:(ops[j]?).bind (·.dst) with
   |none=>rfl
   |some t=>
    have:=hs t (by simp [Oper.looksAt,hg,ht])
    simp only [this]
 have hev:∀ x,x ∈ o.op.operands→zaf env σ x=zaf env σ' x:=fun x hx=>zhH (fun t ht=>hs t (by
  subst ht
  exact List.mem_append_left _ (List.mem_filterMap.2 ⟨.tmp t,by simpa using hx,rfl⟩)))
 refine ⟨by rw [hg];exact h.guard,?_⟩
 cases h.step with
 |call f vals cargs cobjs ids news x objs' hf hac=>exact .call f vals cargs cobjs ids news x objs' (hf.local hev (fun id _=>hob id)) hac
 |pan y p v ho hy hv=>exact .pan y p _ ho (by rw [←hev y (by simp [ho,Op.operands])];exact hy) hv
end
end Go.Abs
namespace Go.Abs
open Go
structure Rec where
 T:List Nat
 e:Eff
def zfn (ops:Array Oper) (tr:Nat→Rec) (σ:St) (k:Nat):St:=
 match ops[k]? with
 |some o=>σ.app o.dst (tr k).e
 |none=>σ
def zbE (ops:Array Oper) (tr:Nat→Rec) (S:Nat→Bool) (σ:St):Nat→St
 |0=>σ
 |m+1=>if S m then zfn ops tr (zbE ops tr S σ m) m else zbE ops tr S σ m
def meets (x y:List Nat):Bool:=x.any fun i=>y.contains i
def zve (ops:Array Oper) (oi oj:Oper) (ri rj:Rec):Bool:=
 !(oi.apart ops oj) || (meets ri.T rj.T&&!(ri.e.upd.isEmpty&&rj.e.upd.isEmpty))
def anc (ops:Array Oper) (k:Nat):List Nat:=
 let b:=(Region.before ops).getD k 0
 (List.range k).filter fun j=>b.testBit j
def zk7 (ops:Array Oper) (A:Nat→List Nat) (tr:Nat→Rec):Bool:=
 (List.range ops.size).all fun k=>match ops[k]? with
  |none=>false
  |some o=>
   (o.after.all fun e=>!Region.binds .any e || decide (e.on<k)) &&
   ((tr k).e.upd.all fun q=>(tr k).T.contains q.1) &&
   ((A k).all fun j=>o.after.any fun e=>Region.binds .any e&&(e.on==j || (A e.on).contains j)) &&
   ((List.range k).all fun i=>(A k).contains i || match ops[i]? with|some oi=>!zve ops oi o (tr i) (tr k)|none=>false)
section
variable {P:Program} {env:Env} {E:Ent} {σ:St} {ops:Array Oper} {tr:Nat→Rec} {A:Nat→List Nat}
theorem zgX (σ:St) (d:Option Nat) (e:Eff):(σ.app d e).slots.length=σ.slots.length:=by cases d<;>simp [St.app]
theorem zer (σ:St) (d:Option Nat) (e:Eff):(σ.app d e).objs.length=σ.objs.length:=zc5 e.upd σ.objs
theorem zgn (σ:St) (k:Nat):(zfn ops tr σ k).slots.length=σ.slots.length:=by
 unfold zfn;split
 ·exact zgX _ _ _
 ·rfl
theorem zgY (σ:St) (k:Nat):(zfn ops tr σ k).objs.length=σ.objs.length:=by
 unfold zfn;split
 ·exact zer _ _ _
 ·rfl
theorem zcC (S:Nat→Bool):∀ m,(zbE ops tr S σ m).slots.length=σ.slots.length
 |0=>rfl
 |m+1=>by
  simp only [zbE];split
  ·rw [zgn];exact zcC S m
  ·exact zcC S m
theorem zaB (S:Nat→Bool):∀ m,(zbE ops tr S σ m).objs.length=σ.objs.length
 |0=>rfl
 |m+1=>by
  simp only [zbE];split
  ·rw [zgY];exact zaB S m
  ·exact zaB S m
theorem zcD {S S':Nat→Bool}:∀ m,(∀ k,k<m→S k=S' k)→zbE ops tr S σ m=zbE ops tr S' σ m
 |0,_=>rfl
 |m+1,h=>by simp only [zbE,h m (by omega),zcD m (fun k hk=>h k (by omega))]
theorem zjZ (σ:St) (d:Option Nat) (e:Eff) (t:Nat):(σ.app d e).slot t=if d=some t∧t<σ.slots.length then e.val else σ.slot t:=by
 cases d with
 |none=>simp [St.app,St.slot]
 |some d=>
  by_cases hd:d=t
  ·subst hd
   by_cases hl:d<σ.slots.length
   ·simp [St.app,St.slot,hl]
   ·simp [St.app,St.slot,hl]
  ·have:¬ (some d=some t∧t<σ.slots.length):=fun h=>hd (by simpa using h.1)
   rw [if_neg this]
   simp [St.app,St.slot,List.getElem?_set_ne hd]
theorem zfL (σ:St) (d:Option Nat) (e:Eff) (id:Nat) (h:∀ q,q ∈ e.upd→q.1≠id):(σ.app d e).obj id=σ.obj id:=zdu e.upd σ.objs id h
theorem zgH:∀ (upd:List (Nat × AObj)) (l l':List (Option AObj)) (id:Nat),l.length=l'.length→l.getD id none=l'.getD id none→(zaA l upd).getD id none=(zaA l' upd).getD id none
 |[],_,_,_,_,h=>h
 |q::r,l,l',id,hl,h=>by
  simp only [zaA,List.foldl_cons]
  refine zgH r _ _ id (by simp [hl]) ?_
  by_cases hq:q.1=id
  ·subst hq
   by_cases hlt:q.1<l.length
   ·simp [List.getD,hlt,(by omega:q.1<l'.length)]
   ·simp only [List.getD]
    rw [List.getElem?_eq_none (by simp;omega),List.getElem?_eq_none (by simp;omega)]
  ·simp only [List.getD,List.getElem?_set_ne hq];exact h
theorem zjg:∀ (upd:List (Nat × AObj)) (l:List (Option AObj)) (id:Nat) (x:Option AObj),(∀ q,q ∈ upd→q.1≠id)→zaA (l.set id x) upd=(zaA l upd).set id x
 |[],_,_,_,_=>rfl
 |q::r,l,id,x,h=>by
  simp only [zaA,List.foldl_cons]
  have h1:(l.set id x).set q.1 (some q.2)=(l.set q.1 (some q.2)).set id x:=List.set_comm _ _ (fun e=>h q (by simp) e.symm)
  rw [h1]
  exact zjg r (l.set q.1 (some q.2)) id x (fun p hp=>h p (by simp [hp]))
theorem zhI:∀ (u v:List (Nat × AObj)) (l:List (Option AObj)),(∀ p,p ∈ u→∀ q,q ∈ v→p.1≠q.1)→zaA (zaA l u) v=zaA (zaA l v) u
 |[],_,_,_=>rfl
 |p::u,v,l,h=>by
  have e1:zaA l (p::u)=zaA (l.set p.1 (some p.2)) u:=rfl
  have e2:zaA (zaA l v) (p::u)=zaA ((zaA l v).set p.1 (some p.2)) u:=rfl
  rw [e1,e2,zhI u v _ (fun a ha b hb=>h a (by simp [ha]) b hb),zjg v l p.1 _ (fun q hq e=>h p (by simp) q hq e.symm)]
theorem zsn {oi oj:Oper} {ei ej:Eff} (hd:∀ d,oi.dst=some d→oj.dst≠some d) (hu:∀ p,p ∈ ei.upd→∀ q,q ∈ ej.upd→p.1≠q.1) (σ:St) :
  (σ.app oi.dst ei).app oj.dst ej=(σ.app oj.dst ej).app oi.dst ei:=by
 have h1:zaA (zaA σ.objs ei.upd) ej.upd=zaA (zaA σ.objs ej.upd) ei.upd:=zhI _ _ _ hu
 unfold St.app
 congr 1
 cases hi:oi.dst with
 |none=>cases oj.dst<;>rfl
 |some d=>
  cases hj:oj.dst with
  |none=>rfl
  |some d'=>
   have:d≠d':=fun e=>hd d hi (by rw [hj,e])
   exact List.set_comm _ _ this
structure Free (ops:Array Oper) (tr:Nat→Rec) (i k:Nat):Prop where
 slot1:∀ oi ok d,ops[i]?=some oi→ops[k]?=some ok→oi.dst=some d→d ∉ ok.looksAt ops∧ok.dst≠some d
 slot2:∀ oi ok d,ops[i]?=some oi→ops[k]?=some ok→ok.dst=some d→d ∉ oi.looksAt ops∧oi.dst≠some d
 obj1:∀ q,q ∈ (tr i).e.upd→q.1 ∉ (tr k).T
 obj2:∀ q,q ∈ (tr k).e.upd→q.1 ∉ (tr i).T
 upd:∀ p,p ∈ (tr i).e.upd→∀ q,q ∈ (tr k).e.upd→p.1≠q.1
theorem Free.symm {i k:Nat} (h:Free ops tr i k):Free ops tr k i:=
 ⟨fun oi ok d h1 h2 h3=>h.slot2 ok oi d h2 h1 h3,fun oi ok d h1 h2 h3=>h.slot1 ok oi d h2 h1 h3,h.obj2,h.obj1,fun p hp q hq e=>h.upd q hq p hp e.symm⟩
theorem zeM (hok:zk7 ops A tr=true) {i k:Nat} (hik:i<k) (hk:k<ops.size) (hA:i ∉ A k):Free ops tr i k:=by
 have hall:=List.all_eq_true.1 hok
 have hsub:∀ m,m<ops.size→∀ q,q ∈ (tr m).e.upd→q.1 ∈ (tr m).T:=fun m hm q hq=>by
  have h1:=hall m (List.mem_range.2 hm)
  rw [Array.getElem?_eq_getElem hm] at h1
  simp only [Bool.and_eq_true] at h1
  have:=List.all_eq_true.1 h1.1.1.2 q hq
  simpa using this
 have h1:=hall k (List.mem_range.2 hk)
 rw [Array.getElem?_eq_getElem hk] at h1
 simp only [Bool.and_eq_true] at h1
 have h2:=List.all_eq_true.1 h1.2 i (List.mem_range.2 hik)
 have hi:i<ops.size:=by omega
 rw [Array.getElem?_eq_getElem hi] at h2
 have h3:(A k).contains i=false:=by simpa using hA
 rw [h3] at h2
 simp only [Bool.false_or,Bool.not_eq_true',zve,Bool.or_eq_false_iff,Bool.not_eq_false'] at h2
 obtain ⟨hap,hmeet⟩:=h2
 obtain ⟨a1,a2,a3⟩:=Oper.apart_spec hap
 have hno:∀ id,id ∈ (tr i).T→id ∈ (tr k).T→(tr i).e.upd=[]∧(tr k).e.upd=[]:=fun id h4 h5=>by
  have hm:meets (tr i).T (tr k).T=true:=List.any_eq_true.2 ⟨id,h4,by simpa using h5⟩
  rw [hm] at hmeet
  simp at hmeet
  exact hmeet
 refine ⟨fun oi ok d e1 e2 e3=>?_,fun oi ok d e1 e2 e3=>?_,fun q hq hT=>?_,fun q hq hT=>?_,fun p hp q hq e=>?_⟩
 ·rw [Array.getElem?_eq_getElem hi] at e1;cases e1
  rw [Array.getElem?_eq_getElem hk] at e2;cases e2
  exact ⟨a1 d e3,a2 d e3⟩
 ·rw [Array.getElem?_eq_getElem hi] at e1;cases e1
  rw [Array.getElem?_eq_getElem hk] at e2;cases e2
  exact ⟨a3 d e3,fun h=>a2 d h e3⟩
 ·have:=(hno q.1 (hsub i hi q hq) hT).1;rw [this] at hq;cases hq
 ·have:=(hno q.1 hT (hsub k hk q hq)).2;rw [this] at hq;cases hq
 ·have:=(hno p.1 (hsub i hi p hp) (e ▸ hsub k hk q hq)).1;rw [this] at hp;cases hp
theorem zpZ {i k:Nat} (h:Free ops tr i k) (σ:St):zfn ops tr (zfn ops tr σ i) k=zfn ops tr (zfn ops tr σ k) i:=by
 unfold zfn
 cases hi:ops[i]? with
 |none=>rfl
 |some oi=>
  cases hk:ops[k]? with
  |none=>rfl
  |some ok=>exact zsn (fun d hd=>(h.slot1 oi ok d hi hk hd).2) h.upd σ
theorem zfo {S:Nat→Bool} {k:Nat} (hk:S k=false):∀ m,k<m→(∀ j,k<j→j<m→S j=true→Free ops tr k j) →
  zfn ops tr (zbE ops tr S σ m) k=zbE ops tr (fun j=>j==k || S j) σ m
 |0,h,_=>by omega
 |m+1,h,hf=>by
  by_cases hm:k=m
  ·subst hm
   simp only [zbE,hk,Bool.false_eq_true,if_false,beq_self_eq_true,Bool.true_or,if_true]
   rw [zcD (S':=fun j=>j==k || S j) k (fun j hj=>by simp [Nat.ne_of_lt hj])]
  ·have ih:=zfo hk m (by omega) (fun j h1 h2 h3=>hf j h1 (by omega) h3)
   have hne:(m==k)=false:=by simp;omega
   simp only [zbE,hne,Bool.false_or]
   split
   ·rename_i hSm
    rw [←ih,zpZ (hf m (by omega) (by omega) hSm).symm]
   ·exact ih
theorem zhJ {S:Nat→Bool} {t:Nat}:∀ m,(∀ j oj,j<m→S j=false→ops[j]?=some oj→oj.dst≠some t) →
  (zbE ops tr S σ m).slot t=(zbE ops tr (fun _=>true) σ m).slot t
 |0,_=>rfl
 |m+1,h=>by
  have ih:=zhJ m (fun j oj hj=>h j oj (by omega))
  simp only [zbE,if_true]
  cases hm:ops[m]? with
  |none=>unfold zfn;simp only [hm];split<;>exact ih
  |some o=>
   split
   ·simp only [zfn,hm,zjZ,zcC,ih]
   ·rename_i hS
    simp only [zfn,hm,zjZ]
    rw [if_neg (fun hc=>h m o (by omega) (by simpa using hS) hm hc.1)]
    exact ih
theorem zdz {S:Nat→Bool} {t k:Nat}:∀ m,k≤m→(∀ j oj,k≤j→j<m→S j=true→ops[j]?=some oj→oj.dst≠some t) →
  (zbE ops tr S σ m).slot t=(zbE ops tr S σ k).slot t
 |0,hk,_=>by have:k=0:=(by omega);subst this;rfl
 |m+1,hk,h=>by
  by_cases hkm:k=m+1
  ·subst hkm;rfl
  ·have ih:=zdz m (by omega) (fun j oj h1 h2=>h j oj h1 (by omega))
   simp only [zbE]
   split
   ·rename_i hS
    unfold zfn
    cases hm:ops[m]? with
    |none=>exact ih
    |some o=>
     simp only [zjZ]
     rw [if_neg (fun hc=>h m o (by omega) (by omega) hS hm hc.1)]
     exact ih
   ·exact ih
theorem znm {S:Nat→Bool} {id:Nat}:∀ m,(∀ j,j<m→S j=false→∀ q,q ∈ (tr j).e.upd→q.1≠id) →
  (zbE ops tr S σ m).obj id=(zbE ops tr (fun _=>true) σ m).obj id
 |0,_=>rfl
 |m+1,h=>by
  have ih:=znm m (fun j hj=>h j (by omega))
  simp only [zbE,if_true]
  unfold zfn
  cases hm:ops[m]? with
  |none=>simp only [];split<;>exact ih
  |some o=>
   split
   ·exact zgH (tr m).e.upd _ _ id (by rw [zaB,zaB]) ih
   ·rename_i hS
    simp only []
    rw [zfL _ _ _ _ (h m (by omega) (by simpa using hS))]
    exact ih
theorem zfM {S:Nat→Bool} {id k:Nat}:∀ m,k≤m→(∀ j,k≤j→j<m→S j=true→∀ q,q ∈ (tr j).e.upd→q.1≠id) →
  (zbE ops tr S σ m).obj id=(zbE ops tr S σ k).obj id
 |0,hk,_=>by have:k=0:=(by omega);subst this;rfl
 |m+1,hk,h=>by
  by_cases hkm:k=m+1
  ·subst hkm;rfl
  ·have ih:=zfM m (by omega) (fun j h1 h2=>h j h1 (by omega))
   simp only [zbE]
   split
   ·rename_i hS
    unfold zfn
    cases hm:ops[m]? with
    |none=>exact ih
    |some o=>
     simp only []
     rw [zfL _ _ _ _ (h m (by omega) (by omega) hS)]
     exact ih
   ·exact ih
def zp0 (P:Program) (env:Env) (ops:Array Oper) (σ:St) (tr:Nat→Rec):Prop:=
 ∀ k o,ops[k]?=some o→GStep P env ops o (zbE ops tr (fun _=>true) σ k) (tr k).T (tr k).e
theorem zdE (hok:zk7 ops A tr=true) {S:Nat→Bool} (hcl:∀ k o,ops[k]?=some o→S k=true→∀ e,e ∈ o.after→Region.binds .any e=true→S e.on=true) :
  ∀ n k o,k<n→ops[k]?=some o→(∀ e,e ∈ o.after→Region.binds .any e=true→S e.on=true)→∀ j,j ∈ A k→S j=true
 |0,k,_,h,_,_,_,_=>by omega
 |n+1,k,o,hk,ho,hpre,j,hj=>by
  have hks:k<ops.size:=(Array.getElem?_eq_some_iff.1 ho).1
  have h1:=List.all_eq_true.1 hok k (List.mem_range.2 hks)
  rw [ho] at h1
  simp only [Bool.and_eq_true] at h1
  have h2:=List.all_eq_true.1 h1.1.2 j hj
  obtain ⟨e,he,hb⟩:=Array.any_eq_true'.1 h2
  simp only [Bool.and_eq_true,Bool.or_eq_true,beq_iff_eq] at hb
  obtain ⟨hb1,hb2⟩:=hb
  rcases hb2 with rfl|hb2
  ·exact hpre e he hb1
  ·have hSe:=hpre e he hb1
   have hlt:e.on<k:=by
    have:=Array.all_eq_true_iff_forall_mem.1 h1.1.1.1 e he
    simpa [hb1] using this
   have hes:e.on<ops.size:=by omega
   exact zdE hok hcl n e.on ops[e.on] (by omega) (Array.getElem?_eq_getElem hes) (fun e' he' hb'=>hcl e.on _ (Array.getElem?_eq_getElem hes) hSe e' he' hb') j (by simpa using hb2)
theorem zoL (hE:zaO P env) (hok:zk7 ops A tr=true) (htr:zp0 P env ops σ tr) (hlen:σ.objs.length=env.nobj) {Q:Exit→Act→World→Prop}
  {g0:Gh} {M0:Mem} (hG:ziO env E M0)
  (hQ:∀ g M a w,Rel E (zbE ops tr (fun _=>true) σ ops.size) g M a w→(∀ id,σ.dom id→g0.agree g id)→Mem.le M0 M→Q .normal a w) :
  ∀ (fuel:Nat) (listed:Array Bool) (g:Gh) (M:Mem) (a:Act) (w:World),listed.size=ops.size →
   (∀ k o,ops[k]?=some o→listed.getD k true=true→∀ e,e ∈ o.after→Region.binds .any e=true→listed.getD e.on true=true) →
   ((List.range ops.size).filter fun k=>!listed.getD k true).length≤fuel →
   Rel E (zbE ops tr (fun k=>listed.getD k true) σ ops.size) g M a w→(∀ id,σ.dom id→g0.agree g id)→Mem.le M0 M→wpAny P .any ops Q fuel listed a w:=by
 have hedge:∀ k o,ops[k]?=some o→∀ e,e ∈ o.after→Region.binds .any e=true→e.on<k:=fun k o ho e he hb=>by
  have hks:k<ops.size:=(Array.getElem?_eq_some_iff.1 ho).1
  have h1:=List.all_eq_true.1 hok k (List.mem_range.2 hks)
  rw [ho] at h1
  simp only [Bool.and_eq_true] at h1
  have:=Array.all_eq_true_iff_forall_mem.1 h1.1.1.1 e he
  simpa [hb] using this
 have hall:∀ listed:Array Bool,listed.size=ops.size→Region.ready .any ops listed=[]→∀ k,k<ops.size→listed.getD k true=true:=by
  intro listed hls hr k
  induction k using Nat.strongRecOn with
  |_ k ih=>
   intro hk
   cases hc:listed.getD k true with
   |true=>rfl
   |false=>
    exfalso
    have:k ∈ Region.ready .any ops listed:=mem_ready.2 ⟨hc,ops[k],Array.getElem?_eq_getElem hk,fun e he hb=>by
     have hlt:=hedge k _ (Array.getElem?_eq_getElem hk) e he hb
     have h1:=ih e.on hlt (by omega)
     have h2:e.on<listed.size:=by omega
     rw [Array.getD_eq_getD_getElem?,Array.getElem?_eq_getElem h2] at h1 ⊢
     exact h1⟩
    rw [hr] at this
    cases this
 have hdone:∀ (listed:Array Bool) g M a w,listed.size=ops.size→Region.ready .any ops listed=[]→Rel E (zbE ops tr (fun k=>listed.getD k true) σ ops.size) g M a w →
   (∀ id,σ.dom id→g0.agree g id)→Mem.le M0 M→Q .normal a w:=fun listed g M a w hls hr hR hag hM=>by
  rw [zcD (S':=fun _=>true) ops.size (fun k hk=>hall listed hls hr k hk)] at hR
  exact hQ g M a w hR hag hM
 intro fuel
 induction fuel with
 |zero=>
  intro listed g M a w hls hcl hcnt hR hag hM
  have hr:Region.ready .any ops listed=[]:=by
   cases hr:Region.ready .any ops listed with
   |nil=>rfl
   |cons i r=>
    exfalso
    have hi:i ∈ Region.ready .any ops listed:=by rw [hr];simp
    obtain ⟨h0,o,ho,_⟩:=mem_ready.1 hi
    have:i ∈ (List.range ops.size).filter fun k=>!listed.getD k true:=List.mem_filter.2 ⟨List.mem_range.2 (Array.getElem?_eq_some_iff.1 ho).1,by rw [h0];rfl⟩
    have hn:=List.length_pos_of_mem this
    omega
  exact ⟨hr,hdone listed g M a w hls hr hR hag hM⟩
 |succ fuel ih=>
  intro listed g M a w hls hcl hcnt hR hag hM
  refine ⟨fun hr=>hdone listed g M a w hls hr hR hag hM,fun k hk=>?_⟩
  obtain ⟨h0,o,ho,hpre⟩:=mem_ready.1 hk
  have hks:k<ops.size:=(Array.getElem?_eq_some_iff.1 ho).1
  have hpre':∀ e,e ∈ o.after→Region.binds .any e=true→listed.getD e.on true=true:=fun e he hb=>by
   have h1:=hpre e he hb
   have h2:e.on<listed.size:=by have:=hedge k o ho e he hb;omega
   rw [Array.getD_eq_getD_getElem?,Array.getElem?_eq_getElem h2] at h1 ⊢
   exact h1
  have hanc:∀ j,j ∈ A k→listed.getD j true=true:=zdE hok (S:=fun k=>listed.getD k true) hcl (k+1) k o (by omega) ho hpre'
  have hfree1:∀ j,j<k→listed.getD j true=false→Free ops tr j k:=fun j hj hS=>zeM hok hj hks (fun hA=>by rw [hanc j hA] at hS;cases hS)
  have hfree2:∀ j,k<j→j<ops.size→listed.getD j true=true→Free ops tr k j:=fun j hj hjs hS=>zeM hok hj hjs (fun hA=>by
   have:=zdE hok (S:=fun k=>listed.getD k true) hcl (j+1) j ops[j] (by omega) (Array.getElem?_eq_getElem hjs) (fun e he hb=>hcl j _ (Array.getElem?_eq_getElem hjs) hS e he hb) k hA
   rw [h0] at this;cases this)
  have hstep:=(htr k o ho).local (σ':=zbE ops tr (fun k=>listed.getD k true) σ ops.size) (fun t ht=>by
    rw [zdz (k:=k) ops.size (by omega) (fun j oj h1 h2 hS hoj hd=>by
     by_cases hjk:j=k
     ·subst hjk;rw [h0] at hS;cases hS
     ·exact ((hfree2 j (by omega) h2 hS).slot2 o oj t ho hoj hd).1 ht)]
    exact (zhJ k (fun j oj hj hS hoj hd=>((hfree1 j hj hS).slot1 oj o t hoj ho hd).1 ht)).symm) (fun id hid=>by
    rw [zfM (k:=k) ops.size (by omega) (fun j h1 h2 hS q hq e=>by
     by_cases hjk:j=k
     ·subst hjk;rw [h0] at hS;cases hS
     ·exact (hfree2 j (by omega) h2 hS).obj2 q hq (e ▸ hid))]
    exact (znm k (fun j hj hS q hq e=>(hfree1 j hj hS).obj1 q hq (e ▸ hid))).symm)
  have hins:=zfo (σ:=σ) (S:=fun j=>listed.getD j true) h0 ops.size hks (fun j h1 h2 h3=>hfree2 j h1 h2 h3)
  have hlisted:∀ j,(listed.setIfInBounds k true).getD j true=(j==k || listed.getD j true):=fun j=>by
   by_cases hjk:j=k
   ·subst hjk
    have:j<listed.size:=by omega
    simp [this]
   ·rw [getD_set_ne true (fun e=>hjk e.symm)]
    have:(j==k)=false:=by simpa using hjk
    rw [this];rfl
  refine hstep.wp ho hR (hG.mono hM) hE (by rw [zaB];exact hlen) (fun v w' g' M' hR' hag' hM'=>?_)
  have hdomS:∀ id,σ.dom id→(zbE ops tr (fun k=>listed.getD k true) σ ops.size).dom id:=by
   intro id hd
   have key:∀ m,(zbE ops tr (fun k=>listed.getD k true) σ m).dom id:=by
    intro m
    induction m with
    |zero=>exact hd
    |succ m ihm=>
     simp only [zbE]
     split
     ·unfold zfn
      split
      ·rename_i o' _
       have:∀ (u:List (Nat × AObj)) (l:List (Option AObj)),l.getD id none≠none→(zaA l u).getD id none≠none:=by
        intro u
        induction u with
        |nil=>intro l h;exact h
        |cons q r ihr=>
         intro l h
         refine ihr _ ?_
         by_cases hq:q.1=id
         ·subst hq
          have hlt:q.1<l.length:=by
           rcases Nat.lt_or_ge q.1 l.length with h'|h'
           ·exact h'
           ·exfalso;apply h;simp [List.getElem?_eq_none h']
          simp [List.getD,hlt]
         ·simp only [List.getD,List.getElem?_set_ne hq];exact h
       exact this _ _ ihm
      ·exact ihm
     ·exact ihm
   exact key _
  refine ih (listed.setIfInBounds k true) g' M' _ w' (by simpa using hls) ?_ ?_ ?_ ?_ (fun b i u hu=>hM' b i u (hM b i u hu))
  ·intro j oj hoj hS e he hb
   rw [hlisted] at hS ⊢
   simp only [Bool.or_eq_true,beq_iff_eq] at hS ⊢
   rcases hS with rfl|hS
   ·rw [ho] at hoj;cases hoj
    exact .inr (hpre' e he hb)
   ·exact .inr (hcl j oj hoj hS e he hb)
  ·have hsub:((List.range ops.size).filter fun j=>!(listed.setIfInBounds k true).getD j true)=((List.range ops.size).filter fun j=>!listed.getD j true).filter fun j=>!(j==k):=by
    rw [List.filter_filter]
    apply List.filter_congr
    intro j _
    rw [hlisted];simp [Bool.not_or]
   rw [hsub]
   have hmem:k ∈ (List.range ops.size).filter fun j=>!listed.getD j true:=List.mem_filter.2 ⟨List.mem_range.2 hks,by rw [h0];rfl⟩
   have hlt:(((List.range ops.size).filter fun j=>!listed.getD j true).filter fun j=>!(j==k)).length<((List.range ops.size).filter fun j=>!listed.getD j true).length:=by
    apply List.length_filter_lt_length_iff_exists.2
    exact ⟨k,hmem,by simp⟩
   omega
  ·have hR2:Rel E (zfn ops tr (zbE ops tr (fun k=>listed.getD k true) σ ops.size) k) g' M' (a.put o.dst v) w':=by
    have e1:zfn ops tr (zbE ops tr (fun k=>listed.getD k true) σ ops.size) k=(zbE ops tr (fun k=>listed.getD k true) σ ops.size).app o.dst (tr k).e:=by
     simp only [zfn,ho]
    rw [e1];exact hR'
   rw [hins] at hR2
   rw [zcD (S':=fun j=>j==k || listed.getD j true) ops.size (fun j _=>hlisted j)]
   exact hR2
  ·intro id hd
   obtain ⟨h1,h2,h3⟩:=hag id hd
   obtain ⟨h4,h5,h6⟩:=hag' id (hdomS id hd)
   exact ⟨h4.trans h1,h5.trans h2,h6.trans h3⟩
theorem zde (hp:∀ k,(tr k).e.upd=[]) (S:Nat→Bool):∀ m,(zbE ops tr S σ m).objs=σ.objs
 |0=>rfl
 |m+1=>by
  simp only [zbE]
  split
  ·unfold zfn
   split
   ·simp only [St.app,hp m,List.foldl_nil]
    exact zde hp S m
   ·exact zde hp S m
  ·exact zde hp S m
theorem zk8 (hE:zaO P env) (hok:zk7 ops A tr=true) (kp:Nat) {op:Oper} (hop:ops[kp]?=some op) {x:Value} {upd:List (Nat × AObj)}
  (htr:∀ k o,k<kp→ops[k]?=some o→GStep P env ops o (zbE ops tr (fun _=>true) σ k) (tr k).T (tr k).e)
  (hpure:∀ k,(tr k).e.upd=[]) (hlate:∀ j,kp<j→j<ops.size→kp ∈ A j)
  (hpan:GPStep P env ops op (zbE ops tr (fun _=>true) σ kp) x upd) (hlen:σ.objs.length=env.nobj) {Q:Exit→Act→World→Prop}
  {g0:Gh} {M0:Mem} (hG:ziO env E M0)
  (hQ:∀ slots g M a w,Rel E ⟨slots,zaA σ.objs upd⟩ g M a w→(∀ id,σ.dom id→g0.agree g id)→Mem.le M0 M→Q (.panic (ziW x)) a w) :
  ∀ (fuel:Nat) (listed:Array Bool) (g:Gh) (M:Mem) (a:Act) (w:World),listed.size=ops.size →
   (∀ k o,ops[k]?=some o→listed.getD k true=true→∀ e,e ∈ o.after→Region.binds .any e=true→listed.getD e.on true=true)→listed.getD kp true=false →
   ((List.range ops.size).filter fun k=>!listed.getD k true).length≤fuel →
   Rel E (zbE ops tr (fun k=>listed.getD k true) σ ops.size) g M a w→(∀ id,σ.dom id→g0.agree g id)→Mem.le M0 M→wpAny P .any ops Q fuel listed a w:=by
 have hkps:kp<ops.size:=(Array.getElem?_eq_some_iff.1 hop).1
 have hedge:∀ k o,ops[k]?=some o→∀ e,e ∈ o.after→Region.binds .any e=true→e.on<k:=fun k o ho e he hb=>by
  have hks:k<ops.size:=(Array.getElem?_eq_some_iff.1 ho).1
  have h1:=List.all_eq_true.1 hok k (List.mem_range.2 hks)
  rw [ho] at h1
  simp only [Bool.and_eq_true] at h1
  have:=Array.all_eq_true_iff_forall_mem.1 h1.1.1.1 e he
  simpa [hb] using this
 have hall:∀ listed:Array Bool,listed.size=ops.size→Region.ready .any ops listed=[]→∀ k,k<ops.size→listed.getD k true=true:=by
  intro listed hls hr k
  induction k using Nat.strongRecOn with
  |_ k ih=>
   intro hk
   cases hc:listed.getD k true with
   |true=>rfl
   |false=>
    exfalso
    have:k ∈ Region.ready .any ops listed:=mem_ready.2 ⟨hc,ops[k],Array.getElem?_eq_getElem hk,fun e he hb=>by
     have hlt:=hedge k _ (Array.getElem?_eq_getElem hk) e he hb
     have h1:=ih e.on hlt (by omega)
     have h2:e.on<listed.size:=by omega
     rw [Array.getD_eq_getD_getElem?,Array.getElem?_eq_getElem h2] at h1 ⊢
     exact h1⟩
    rw [hr] at this
    cases this
 have hdone:∀ (listed:Array Bool) (R:Prop),listed.size=ops.size→Region.ready .any ops listed=[]→listed.getD kp true=false→R:=fun listed R hls hr hkp=>by
  rw [hall listed hls hr kp hkps] at hkp
  cases hkp
 intro fuel
 induction fuel with
 |zero=>
  intro listed g M a w hls hcl hkp hcnt hR hag hM
  have hr:Region.ready .any ops listed=[]:=by
   cases hr:Region.ready .any ops listed with
   |nil=>rfl
   |cons i r=>
    exfalso
    have hi:i ∈ Region.ready .any ops listed:=by rw [hr];simp
    obtain ⟨h0,o,ho,_⟩:=mem_ready.1 hi
    have:i ∈ (List.range ops.size).filter fun k=>!listed.getD k true:=List.mem_filter.2 ⟨List.mem_range.2 (Array.getElem?_eq_some_iff.1 ho).1,by rw [h0];rfl⟩
    have hn:=List.length_pos_of_mem this
    omega
  exact hdone listed _ hls hr hkp
 |succ fuel ih=>
  intro listed g M a w hls hcl hkp hcnt hR hag hM
  refine ⟨fun hr=>hdone listed _ hls hr hkp,fun k hk=>?_⟩
  obtain ⟨h0,o,ho,hpre⟩:=mem_ready.1 hk
  have hks:k<ops.size:=(Array.getElem?_eq_some_iff.1 ho).1
  have hpre':∀ e,e ∈ o.after→Region.binds .any e=true→listed.getD e.on true=true:=fun e he hb=>by
   have h1:=hpre e he hb
   have h2:e.on<listed.size:=by have:=hedge k o ho e he hb;omega
   rw [Array.getD_eq_getD_getElem?,Array.getElem?_eq_getElem h2] at h1 ⊢
   exact h1
  have hanc:∀ j,j ∈ A k→listed.getD j true=true:=zdE hok (S:=fun k=>listed.getD k true) hcl (k+1) k o (by omega) ho hpre'
  have hnk:¬ kp<k:=fun h=>by
   have:=hanc kp (hlate k h hks)
   rw [hkp] at this
   cases this
  have hfree1:∀ j,j<k→listed.getD j true=false→Free ops tr j k:=fun j hj hS=>zeM hok hj hks (fun hA=>by rw [hanc j hA] at hS;cases hS)
  have hfree2:∀ j,k<j→j<ops.size→listed.getD j true=true→Free ops tr k j:=fun j hj hjs hS=>zeM hok hj hjs (fun hA=>by
   have:=zdE hok (S:=fun k=>listed.getD k true) hcl (j+1) j ops[j] (by omega) (Array.getElem?_eq_getElem hjs) (fun e he hb=>hcl j _ (Array.getElem?_eq_getElem hjs) hS e he hb) k hA
   rw [h0] at this;cases this)
  have hslot:∀ t,t ∈ o.looksAt ops→(zbE ops tr (fun _=>true) σ k).slot t=(zbE ops tr (fun k=>listed.getD k true) σ ops.size).slot t:=fun t ht=>by
   rw [zdz (k:=k) ops.size (by omega) (fun j oj h1 h2 hS hoj hd=>by
    by_cases hjk:j=k
    ·subst hjk;rw [h0] at hS;cases hS
    ·exact ((hfree2 j (by omega) h2 hS).slot2 o oj t ho hoj hd).1 ht)]
   exact (zhJ k (fun j oj hj hS hoj hd=>((hfree1 j hj hS).slot1 oj o t hoj ho hd).1 ht)).symm
  have hobj:∀ id,(zbE ops tr (fun _=>true) σ k).obj id=(zbE ops tr (fun k=>listed.getD k true) σ ops.size).obj id:=fun id=>by
   simp only [St.obj,zde hpure]
  by_cases hkk:k=kp
  ·subst hkk
   rw [ho] at hop
   cases hop
   refine (hpan.local hslot hobj).wp ho hR (hG.mono hM) (by rw [zaB];exact hlen) (fun w' g' M' hR' hag' hM'=>?_)
   rw [zde hpure] at hR'
   refine hQ _ g' M' a w' hR' (fun id hd=>?_) (fun b i u hu=>hM' b i u (hM b i u hu))
   obtain ⟨h1,h2,h3⟩:=hag id hd
   obtain ⟨h4,h5,h6⟩:=hag' id (by simp only [St.dom,St.obj,zde hpure];exact hd)
   exact ⟨h4.trans h1,h5.trans h2,h6.trans h3⟩
  have hstep:=(htr k o (by omega) ho).local hslot (fun id _=>hobj id)
  have hins:=zfo (σ:=σ) (S:=fun j=>listed.getD j true) h0 ops.size hks (fun j h1 h2 h3=>hfree2 j h1 h2 h3)
  have hlisted:∀ j,(listed.setIfInBounds k true).getD j true=(j==k || listed.getD j true):=fun j=>by
   by_cases hjk:j=k
   ·subst hjk
    have:j<listed.size:=by omega
    simp [this]
   ·rw [getD_set_ne true (fun e=>hjk e.symm)]
    have:(j==k)=false:=by simpa using hjk
    rw [this];rfl
  refine hstep.wp ho hR (hG.mono hM) hE (by rw [zaB];exact hlen) (fun v w' g' M' hR' hag' hM'=>?_)
  have hdomS:∀ id,σ.dom id→(zbE ops tr (fun k=>listed.getD k true) σ ops.size).dom id:=by
   intro id hd
   have key:∀ m,(zbE ops tr (fun k=>listed.getD k true) σ m).dom id:=by
    intro m
    induction m with
    |zero=>exact hd
    |succ m ihm=>
     simp only [zbE]
     split
     ·unfold zfn
      split
      ·rename_i o' _
       have:∀ (u:List (Nat × AObj)) (l:List (Option AObj)),l.getD id none≠none→(zaA l u).getD id none≠none:=by
        intro u
        induction u with
        |nil=>intro l h;exact h
        |cons q r ihr=>
         intro l h
         refine ihr _ ?_
         by_cases hq:q.1=id
         ·subst hq
          have hlt:q.1<l.length:=by
           rcases Nat.lt_or_ge q.1 l.length with h'|h'
           ·exact h'
           ·exfalso;apply h;simp [List.getElem?_eq_none h']
          simp [List.getD,hlt]
         ·simp only [List.getD,List.getElem?_set_ne hq];exact h
       exact this _ _ ihm
      ·exact ihm
     ·exact ihm
   exact key _
  refine ih (listed.setIfInBounds k true) g' M' _ w' (by simpa using hls) ?_ (by rw [hlisted];simp only [Bool.or_eq_false_iff,beq_eq_false_iff_ne];exact ⟨fun e=>hkk e.symm,hkp⟩) ?_ ?_ ?_ (fun b i u hu=>hM' b i u (hM b i u hu))
  ·intro j oj hoj hS e he hb
   rw [hlisted] at hS ⊢
   simp only [Bool.or_eq_true,beq_iff_eq] at hS ⊢
   rcases hS with rfl|hS
   ·rw [ho] at hoj;cases hoj
    exact .inr (hpre' e he hb)
   ·exact .inr (hcl j oj hoj hS e he hb)
  ·have hsub:((List.range ops.size).filter fun j=>!(listed.setIfInBounds k true).getD j true)=((List.range ops.size).filter fun j=>!listed.getD j true).filter fun j=>!(j==k):=by
    rw [List.filter_filter]
    apply List.filter_congr
    intro j _
    rw [hlisted];simp [Bool.not_or]
   rw [hsub]
   have hmem:k ∈ (List.range ops.size).filter fun j=>!listed.getD j true:=List.mem_filter.2 ⟨List.mem_range.2 hks,by rw [h0];rfl⟩
   have hlt:(((List.range ops.size).filter fun j=>!listed.getD j true).filter fun j=>!(j==k)).length<((List.range ops.size).filter fun j=>!listed.getD j true).length:=by
    apply List.length_filter_lt_length_iff_exists.2
    exact ⟨k,hmem,by simp⟩
   omega
  ·have hR2:Rel E (zfn ops tr (zbE ops tr (fun k=>listed.getD k true) σ ops.size) k) g' M' (a.put o.dst v) w':=by
    have e1:zfn ops tr (zbE ops tr (fun k=>listed.getD k true) σ ops.size) k=(zbE ops tr (fun k=>listed.getD k true) σ ops.size).app o.dst (tr k).e:=by
     simp only [zfn,ho]
    rw [e1];exact hR'
   rw [hins] at hR2
   rw [zcD (S':=fun j=>j==k || listed.getD j true) ops.size (fun j _=>hlisted j)]
   exact hR2
  ·intro id hd
   obtain ⟨h1,h2,h3⟩:=hag id hd
   obtain ⟨h4,h5,h6⟩:=hag' id (hdomS id hd)
   exact ⟨h4.trans h1,h5.trans h2,h6.trans h3⟩
end
end Go.Abs
namespace Go.Abs
open Go
def Agr (pin:Nat) (σ:St) (g:Gh) (σ':St) (g':Gh):Prop:=∀ id,id<pin→σ.dom id→g.agree g' id∧σ'.dom id
theorem Agr.refl (pin:Nat) (σ:St) (g:Gh):Agr pin σ g σ g:=fun _ _ h=>⟨Gh.agree_refl _ _,h⟩
theorem Agr.trans {pin:Nat} {σ σ' σ'':St} {g g' g'':Gh} (h:Agr pin σ g σ' g') (k:Agr pin σ' g' σ'' g''):Agr pin σ g σ'' g'':=fun id hid hd=>by
 obtain ⟨⟨a1,a2,a3⟩,hd'⟩:=h id hid hd
 obtain ⟨⟨b1,b2,b3⟩,hd''⟩:=k id hid hd'
 exact ⟨⟨b1.trans a1,b2.trans a2,b3.trans a3⟩,hd''⟩
def zxF (env:Env) (pin:Nat) (E:Ent) (σ:St) (g:Gh) (M:Mem) (Q:Exit→St→Prop):Exit→Act→World→Prop:=
 fun e a' w'=>∃ σ' g' M',Q e σ'∧Rel E σ' g' M' a' w'∧Mem.le M M'∧Agr pin σ g σ' g'∧σ'.objs.length=env.nobj
def SW (P:Program) (env:Env) (pin:Nat) (c:Code) (σ:St) (Q:Exit→St→Prop):Prop:=
 σ.objs.length=env.nobj→∀ E g M a w,Rel E σ g M a w→ziO env E M→c.wp P (zxF env pin E σ g M Q) a w
def zfN (N:St→Prop) (Q:Exit→St→Prop):Exit→St→Prop
 |.normal,σ=>N σ
 |e,σ=>Q e σ
def zes (id:Nat) (Q:Exit→St→Prop):Exit→St→Prop
 |.exit id',σ=>if id'=id then Q .normal σ else Q (.exit id') σ
 |e,σ=>Q e σ
def zbK (env:Env) (pin:Nat) (σ σ':St):Prop:=
 σ.objs.length=env.nobj→σ'.objs.length=env.nobj∧∀ E g M a w,Rel E σ g M a w→∃ g' M',Rel E σ' g' M' a w∧Mem.le M M'∧Agr pin σ g σ' g'
section
variable {P:Program} {env:Env} {pin:Nat} {σ σ':St} {Q:Exit→St→Prop}
theorem zbK.refl (σ:St):zbK env pin σ σ:=fun hl=>⟨hl,fun _ g M _ _ h=>⟨g,M,h,Mem.le_refl _,Agr.refl _ _ _⟩⟩
theorem Mem.le_trans {M M' M'':Mem} (h:Mem.le M M') (k:Mem.le M' M''):Mem.le M M'':=fun b i u hu=>k b i u (h b i u hu)
theorem zbK.trans {σ'':St} (h:zbK env pin σ σ') (k:zbK env pin σ' σ''):zbK env pin σ σ'':=fun hl=>
 let ⟨hl',h1⟩:=h hl
 let ⟨hl'',h2⟩:=k hl'
 ⟨hl'',fun E g M a w hR=>
  let ⟨g',M',hR',hM,hA⟩:=h1 E g M a w hR
  let ⟨g'',M'',hR'',hM',hA'⟩:=h2 E g' M' a w hR'
  ⟨g'',M'',hR'',Mem.le_trans hM hM',hA.trans hA'⟩⟩
theorem SW.mono {c:Code} {Q':Exit→St→Prop} (h:SW P env pin c σ Q) (hq:∀ e σ,Q e σ→Q' e σ):SW P env pin c σ Q':=fun hl E g M a w hR hG=>
 wp_mono (h hl E g M a w hR hG) fun e _ _ ⟨σ',g',M',q,r⟩=>⟨σ',g',M',hq e σ' q,r⟩
theorem SW.weak {c:Code} (hw:zbK env pin σ σ') (h:SW P env pin c σ' Q):SW P env pin c σ Q:=fun hl E g M a w hR hG=>by
 obtain ⟨hl',h1⟩:=hw hl
 obtain ⟨g',M',hR',hM,hA⟩:=h1 E g M a w hR
 exact wp_mono (h hl' E g' M' a w hR' (hG.mono hM)) fun e _ _ ⟨σ'',g'',M'',q,r,hM',hA',hl''⟩=>⟨σ'',g'',M'',q,r,Mem.le_trans hM hM',hA.trans hA',hl''⟩
theorem SW.skip (h:Q .normal σ):SW P env pin .skip σ Q:=fun hl _ g M _ _ hR _=>wp_skip ⟨σ,g,M,h,hR,Mem.le_refl _,Agr.refl _ _ _,hl⟩
theorem SW.ret (h:Q .ret σ):SW P env pin .ret σ Q:=fun hl _ g M _ _ hR _=>wp_ret ⟨σ,g,M,h,hR,Mem.le_refl _,Agr.refl _ _ _,hl⟩
theorem SW.exit {id:Nat} (h:Q (.exit id) σ):SW P env pin (.exit id) σ Q:=fun hl _ g M _ _ hR _=>wp_exit ⟨σ,g,M,h,hR,Mem.le_refl _,Agr.refl _ _ _,hl⟩
theorem SW.seq {x y:Code} (h:SW P env pin x σ (zfN (fun σ'=>SW P env pin y σ' Q) Q)):SW P env pin (.seq x y) σ Q:=fun hl E g M a w hR hG=>by
 refine wp_seq (wp_mono (h hl E g M a w hR hG) fun e a' w' ⟨σ',g',M',q,hR',hM,hA,hl'⟩=>?_)
 cases e with
 |normal=>
  refine wp_mono (q hl' E g' M' a' w' hR' (hG.mono hM)) fun e'' _ _ ⟨σ'',g'',M'',q',r',hM',hA',hl''⟩=>⟨σ'',g'',M'',q',r',Mem.le_trans hM hM',hA.trans hA',hl''⟩
 |_=>exact ⟨σ',g',M',q,hR',hM,hA,hl'⟩
theorem SW.cond {c:Operand} {x y:Code} {b:Bool} (hc:zaf env σ c=.pv (.bool b)) (ht:b=true→SW P env pin x σ Q) (hf:b=false→SW P env pin y σ Q):SW P env pin (.cond c x y) σ Q:=fun hl E g M a w hR hG=>by
 have hv:=zax (env:=env) hR hG.1 c
 rw [hc] at hv
 exact wp_cond_split hv.bool_inv (fun h=>ht h hl E g M a w hR hG) (fun h=>hf h hl E g M a w hR hG)
theorem SW.block {id:Nat} {c:Code} (h:SW P env pin c σ (zes id Q)):SW P env pin (.block id c) σ Q:=fun hl E g M a w hR hG=>
 wp_block (wp_mono (h hl E g M a w hR hG) fun e a' w' ⟨σ',g',M',q,r⟩=>by
  cases e with
  |exit id'=>
   simp only [Exit.inBlock,zes] at *
   by_cases hid:id'=id
   ·rw [if_pos hid] at q ⊢;exact ⟨σ',g',M',q,r⟩
   ·rw [if_neg hid] at q ⊢;exact ⟨σ',g',M',q,r⟩
  |_=>exact ⟨σ',g',M',q,r⟩)
theorem zj0 {ι:Type} {Q:Exit→Act→World→Prop} {a:Act} {w:World} {c:Code} (I:ι→Act→World→Prop) (μ:ι→Nat) (i0:ι) (h₀:I i0 a w)
  (round:∀ i a w,I i a w→c.wp P (Exit.then (fun a' w'=>∃ j,I j a' w'∧μ j<μ i) Q) a w):(Code.loop c).wp P Q a w:=by
 intro b k cs
 have key:∀ n i a w,μ i=n→I i a w →
   ∃ e a' w',Q e a' w'∧Arrives P (lone (b.at a (.code c::.inLoop c::k)) cs w) b k cs e a' w':=by
  intro n
  induction n using Nat.strongRecOn with
  |_ n ih=>
   intro i a w hn hI
   obtain ⟨e,a₁,w₁,hq,harr⟩:=round i a w hI b (.inLoop c::k) cs
   cases e with
   |normal=>
    obtain ⟨j,hI₁,hlt⟩:=hq
    obtain ⟨e₂,a₂,w₂,hq₂,harr₂⟩:=ih (μ j) (hn ▸ hlt) j a₁ w₁ rfl hI₁
    exact ⟨e₂,a₂,w₂,hq₂,.of_steps (Steps.trans harr (.one step_inLoop)) harr₂⟩
   |exit id=>exact ⟨_,a₁,w₁,hq,.pass (x:=.inLoop c) rfl (fun _ _=>.inl (by simp)) harr⟩
   |goto l=>exact ⟨_,a₁,w₁,hq,.pass (x:=.inLoop c) rfl (fun _ _=>.inl (by simp)) harr⟩
   |ret=>exact ⟨_,a₁,w₁,hq,.pass (x:=.inLoop c) rfl (fun _ _=>.inl (by simp)) harr⟩
   |panic ch=>exact ⟨_,a₁,w₁,hq,.pass (x:=.inLoop c) rfl (fun _ _=>.inl (by simp)) harr⟩
   |outgrown=>exact ⟨_,a₁,w₁,hq,.pass (x:=.inLoop c) rfl (fun _ _=>.inl (by simp)) harr⟩
 obtain ⟨e,a',w',hq,harr⟩:=key _ i0 a w rfl h₀
 exact ⟨e,a',w',hq,.of_steps (.one step_loop) harr⟩
theorem SW.loop {ι:Type} {c:Code} (I:ι→St) (μ:ι→Nat) (i0:ι) (h0:zbK env pin σ (I i0))
  (round:∀ i,SW P env pin c (I i) (zfN (fun σ'=>∃ j,zbK env pin σ' (I j)∧μ j<μ i) Q)):SW P env pin (.loop c) σ Q:=fun hl E g M a w hR hG=>by
 obtain ⟨hl0,hw0⟩:=h0 hl
 obtain ⟨g',M',hR',hM,hA⟩:=hw0 E g M a w hR
 refine zj0 (fun i a w=>∃ g1 M1,Rel E (I i) g1 M1 a w∧Mem.le M M1∧Agr pin σ g (I i) g1∧(I i).objs.length=env.nobj) μ i0 ⟨g',M',hR',hM,hA,hl0⟩ ?_
 rintro i a1 w1 ⟨g1,M1,hR1,hM1,hA1,hl1⟩
 refine wp_mono (round i hl1 E g1 M1 a1 w1 hR1 (hG.mono hM1)) fun e a2 w2 ⟨σ2,g2,M2,q,hR2,hM2,hA2,hl2⟩=>?_
 cases e with
 |normal=>
  obtain ⟨j,hw,hlt⟩:=q
  obtain ⟨hl3,hw3⟩:=hw hl2
  obtain ⟨g3,M3,hR3,hM3,hA3⟩:=hw3 E g2 M2 a2 w2 hR2
  exact ⟨j,⟨g3,M3,hR3,Mem.le_trans hM1 (Mem.le_trans hM2 hM3),hA1.trans (hA2.trans hA3),hl3⟩,hlt⟩
 |_=>exact ⟨σ2,g2,M2,q,hR2,Mem.le_trans hM1 hM2,hA1.trans hA2,hl2⟩
def RR (P:Program) (env:Env) (ops:Array Oper) (K:List Rec→St→Prop):List Oper→List Rec→St→Prop
 |[],acc,σ=>K acc σ
 |o::rest,acc,σ=>∃ T e,GStep P env ops o σ T e∧RR P env ops K rest (acc++[⟨T,e⟩]) (σ.app o.dst e)
def zbN (l:List Rec) (k:Nat):Rec:=l.getD k ⟨[],⟨.junk,[]⟩⟩
theorem zvf (d:Option Nat) (e:Eff) (id:Nat) (h:σ.dom id):(σ.app d e).dom id:=by
 have:∀ (u:List (Nat × AObj)) (l:List (Option AObj)),l.getD id none≠none→(zaA l u).getD id none≠none:=by
  intro u
  induction u with
  |nil=>intro l h;exact h
  |cons q r ihr=>
   intro l h
   refine ihr _ ?_
   by_cases hq:q.1=id
   ·subst hq
    have hlt:q.1<l.length:=by
     rcases Nat.lt_or_ge q.1 l.length with h'|h'
     ·exact h'
     ·exfalso;apply h;simp [List.getElem?_eq_none h']
    simp [List.getD,hlt]
   ·simp only [List.getD,List.getElem?_set_ne hq];exact h
 exact this _ _ h
theorem zdv {ops:Array Oper} {tr:Nat→Rec} {S:Nat→Bool} (id:Nat) (h:σ.dom id):∀ m,(zbE ops tr S σ m).dom id
 |0=>h
 |m+1=>by
  simp only [zbE]
  split
  ·unfold zfn
   split
   ·exact zvf _ _ _ (zdv id h m)
   ·exact zdv id h m
  ·exact zdv id h m
theorem zhK {ops:Array Oper} {tr:Nat→Rec} (hE:zaO P env) (htr:zp0 P env ops σ tr) (hl:σ.objs.length=env.nobj) {E:Ent} {g0:Gh} {M0:Mem} (hG:ziO env E M0) {Q:Exit→Act→World→Prop}
  (hQ:∀ g M a w,Rel E (zbE ops tr (fun _=>true) σ ops.size) g M a w→(∀ id,σ.dom id→g0.agree g id)→Mem.le M0 M→Q .normal a w) :
  ∀ n k,k+n=ops.size→∀ g M a w,Rel E (zbE ops tr (fun _=>true) σ k) g M a w→(∀ id,σ.dom id→g0.agree g id)→Mem.le M0 M→wpOps P ops Q (List.range' k n) a w
 |0,k,hk,g,M,a,w,hR,hag,hM=>by
  have:k=ops.size:=by omega
  subst this
  exact hQ g M a w hR hag hM
 |n+1,k,hk,g,M,a,w,hR,hag,hM=>by
  have hks:k<ops.size:=by omega
  have ho:ops[k]?=some ops[k]:=Array.getElem?_eq_getElem hks
  rw [List.range'_succ,wpOps_cons]
  refine (htr k _ ho).wp ho hR (hG.mono hM) hE (by rw [zaB];exact hl) (fun v w' g' M' hR' hag' hM'=>?_)
  refine zhK hE htr hl hG hQ n (k+1) (by omega) g' M' _ w' ?_ (fun id hd=>?_) (Mem.le_trans hM hM')
  ·simp only [zbE,if_true,zfn,ho];exact hR'
  ·obtain ⟨h1,h2,h3⟩:=hag id hd
   obtain ⟨h4,h5,h6⟩:=hag' id (zdv id hd _)
   exact ⟨h4.trans h1,h5.trans h2,h6.trans h3⟩
def steps (env:Env) (ops:Array Oper):Nat→List Oper→List Rec→St→Option (List Oper × List Rec × St)
 |0,l,acc,σ=>some (l,acc,σ)
 |_+1,[],acc,σ=>some ([],acc,σ)
 |n+1,o::rest,acc,σ=>
  match zdc ops σ o with
  |some true=>match aop env o.dst (zaf env σ) σ.obj o.op with
   |some e=>steps env ops n rest (acc++[⟨za8 env o.dst (zaf env σ) o.op,e⟩]) (σ.app o.dst e)
   |none=>none
  |some false=>steps env ops n rest (acc++[⟨[],⟨.tup [],[]⟩⟩]) (σ.app o.dst ⟨.tup [],[]⟩)
  |none=>none
def RRP (P:Program) (env:Env) (ops:Array Oper) (K:List Rec→St→Prop) (KP:List Rec→Value→List (Nat × AObj)→St→Prop):List Oper→List Rec→St→Prop
 |[],acc,σ=>K acc σ
 |o::rest,acc,σ=>(∃ T e,GStep P env ops o σ T e∧RRP P env ops K KP rest (acc++[⟨T,e⟩]) (σ.app o.dst e))∨∃ x upd,GPStep P env ops o σ x upd∧KP acc x upd σ
theorem RRP.traced {ops:Array Oper} {K:List Rec→St→Prop} {KP:List Rec→Value→List (Nat × AObj)→St→Prop}:∀ (rest:List Oper) (acc:List Rec) (pre:List Oper),ops.toList=pre++rest→acc.length=pre.length →
  (∀ k o,k<pre.length→ops[k]?=some o→GStep P env ops o (zbE ops (zbN acc) (fun _=>true) σ k) (zbN acc k).T (zbN acc k).e) →
  RRP P env ops K KP rest acc (zbE ops (zbN acc) (fun _=>true) σ pre.length) →
  (∃ tr:List Rec,zp0 P env ops σ (zbN tr)∧K tr (zbE ops (zbN tr) (fun _=>true) σ ops.size)) ∨
  ∃ (tr:List Rec) (op:Oper) (x:Value) (upd:List (Nat × AObj)),ops[tr.length]?=some op∧(∀ k o,k<tr.length→ops[k]?=some o→GStep P env ops o (zbE ops (zbN tr) (fun _=>true) σ k) (zbN tr k).T (zbN tr k).e) ∧
   GPStep P env ops op (zbE ops (zbN tr) (fun _=>true) σ tr.length) x upd∧KP tr x upd (zbE ops (zbN tr) (fun _=>true) σ tr.length)
 |[],acc,pre,hops,hlen,htr,h=>by
  have hsz:ops.size=pre.length:=by have:=congrArg List.length hops;simpa using this
  refine .inl ⟨acc,fun k o ho=>htr k o (by rw [←hsz];exact (Array.getElem?_eq_some_iff.1 ho).1) ho,?_⟩
  rw [hsz];exact h
 |o::rest,acc,pre,hops,hlen,htr,h=>by
  have hoK:ops[pre.length]?=some o:=by rw [←Array.getElem?_toList,hops];simp
  rcases h with ⟨T,e,hg,hr⟩|⟨x,upd,hg,hk⟩
  ·have hat:∀ k,k<pre.length→zbN (acc++[⟨T,e⟩]) k=zbN acc k:=fun k hk=>by
    simp [zbN,List.getD,List.getElem?_append_left (by omega:k<acc.length)]
   have hlast:zbN (acc++[⟨T,e⟩]) pre.length=⟨T,e⟩:=by
    simp [zbN,List.getD,←hlen]
   have hrun:∀ k,k≤pre.length→zbE ops (zbN (acc++[⟨T,e⟩])) (fun _=>true) σ k=zbE ops (zbN acc) (fun _=>true) σ k:=by
    intro k
    induction k with
    |zero=>intro _;rfl
    |succ k ih=>
     intro hk
     simp only [zbE,if_true,zfn,ih (by omega),hat k (by omega)]
   refine RRP.traced rest (acc++[⟨T,e⟩]) (pre++[o]) (by simp [hops]) (by simp [hlen]) (fun k o' hk ho'=>?_) ?_
   ·simp only [List.length_append,List.length_cons,List.length_nil] at hk
    by_cases hkp:k<pre.length
    ·rw [hrun k (by omega),hat k hkp];exact htr k o' hkp ho'
    ·have hke:k=pre.length:=by omega
     subst hke
     rw [hoK] at ho'
     cases ho'
     rw [hrun _ (Nat.le_refl _),hlast];exact hg
   ·have e1:(pre++[o]).length=pre.length+1:=by simp
    rw [e1]
    simp only [zbE,if_true,zfn,hoK,hrun _ (Nat.le_refl _),hlast]
    exact hr
  ·refine .inr ⟨acc,o,x,upd,by rw [hlen];exact hoK,fun k o' hk ho'=>htr k o' (by omega) ho',?_,?_⟩
   ·rw [hlen];exact hg
   ·rw [hlen];exact hk
theorem zjh (id:Nat):∀ (u:List (Nat × AObj)) (l:List (Option AObj)),l.getD id none≠none→(zaA l u).getD id none≠none:=by
 intro u
 induction u with
 |nil=>intro l h;exact h
 |cons q r ihr=>
  intro l h
  refine ihr _ ?_
  by_cases hq:q.1=id
  ·subst hq
   have hlt:q.1<l.length:=by
    rcases Nat.lt_or_ge q.1 l.length with h'|h'
    ·exact h'
    ·exfalso;apply h;simp [List.getElem?_eq_none h']
   simp [List.getD,hlt]
  ·simp only [List.getD,List.getElem?_set_ne hq];exact h
theorem zhL {ops:Array Oper} {tr:Nat→Rec} (hE:zaO P env) (kp:Nat) {op:Oper} (hop:ops[kp]?=some op) {x:Value} {upd:List (Nat × AObj)}
  (htr:∀ k o,k<kp→ops[k]?=some o→GStep P env ops o (zbE ops tr (fun _=>true) σ k) (tr k).T (tr k).e)
  (hpan:GPStep P env ops op (zbE ops tr (fun _=>true) σ kp) x upd) (hl:σ.objs.length=env.nobj) {E:Ent} {g0:Gh} {M0:Mem} (hG:ziO env E M0) {Q:Exit→Act→World→Prop}
  (hQ:∀ g M a w,Rel E ⟨(zbE ops tr (fun _=>true) σ kp).slots,zaA (zbE ops tr (fun _=>true) σ kp).objs upd⟩ g M a w→(∀ id,σ.dom id→g0.agree g id)→Mem.le M0 M→Q (.panic (ziW x)) a w) :
  ∀ n k,k+n=ops.size→k≤kp→∀ g M a w,Rel E (zbE ops tr (fun _=>true) σ k) g M a w→(∀ id,σ.dom id→g0.agree g id)→Mem.le M0 M→wpOps P ops Q (List.range' k n) a w
 |0,k,hk,hkp,g,M,a,w,hR,hag,hM=>by
  have:=(Array.getElem?_eq_some_iff.1 hop).1
  omega
 |n+1,k,hk,hkp,g,M,a,w,hR,hag,hM=>by
  have hks:k<ops.size:=by omega
  have ho:ops[k]?=some ops[k]:=Array.getElem?_eq_getElem hks
  rw [List.range'_succ,wpOps_cons]
  have hcomb:∀ {g':Gh},(∀ id,(zbE ops tr (fun _=>true) σ k).dom id→g.agree g' id)→∀ id,σ.dom id→g0.agree g' id:=fun hag' id hd=>by
   obtain ⟨h1,h2,h3⟩:=hag id hd
   obtain ⟨h4,h5,h6⟩:=hag' id (zdv id hd _)
   exact ⟨h4.trans h1,h5.trans h2,h6.trans h3⟩
  by_cases he:k=kp
  ·subst he
   exact hpan.wp hop hR (hG.mono hM) (by rw [zaB];exact hl) (fun w' g' M' hR' hag' hM'=>hQ g' M' a w' hR' (hcomb hag') (Mem.le_trans hM hM'))
  ·refine (htr k _ (by omega) ho).wp ho hR (hG.mono hM) hE (by rw [zaB];exact hl) (fun v w' g' M' hR' hag' hM'=>?_)
   refine zhL hE kp hop htr hpan hl hG hQ n (k+1) (by omega) (by omega) g' M' _ w' ?_ (hcomb hag') (Mem.le_trans hM hM')
   simp only [zbE,if_true,zfn,ho];exact hR'
theorem SW.regionP (hE:zaO P env) {id:Nat} {ops:Array Oper} (h:RRP P env ops (fun _ σ'=>Q .normal σ') (fun _ x upd σ'=>Q (.panic (ziW x)) ⟨σ'.slots,zaA σ'.objs upd⟩) ops.toList [] σ):SW P env pin (.region id ops false) σ Q:=fun hl E g M a w hR hG=>by
 rcases RRP.traced (σ:=σ) (ops:=ops) ops.toList [] [] (by simp) rfl (fun k o hk=>by simp at hk) h with ⟨tr,htr,hq⟩|⟨tr,op,x,upd,hop,htr,hpan,hq⟩
 ·refine wp_region ?_
  rw [List.range_eq_range']
  refine zhK hE htr hl hG (g0:=g) (fun g' M' a' w' hR' hag hM=>?_) ops.size 0 (by omega) g M a w hR (fun _ _=>Gh.agree_refl _ _) (Mem.le_refl _)
  exact ⟨_,g',M',hq,hR',hM,fun i hi hd=>⟨hag i hd,zdv i hd _⟩,by rw [zaB];exact hl⟩
 ·refine wp_region ?_
  rw [List.range_eq_range']
  refine zhL hE tr.length hop htr hpan hl hG (g0:=g) (fun g' M' a' w' hR' hag hM=>?_) ops.size 0 (by omega) (by omega) g M a w hR (fun _ _=>Gh.agree_refl _ _) (Mem.le_refl _)
  exact ⟨_,g',M',hq,hR',hM,fun i hi hd=>⟨hag i hd,zjh i _ _ (zdv i hd _)⟩,by show (zaA _ _).length=_;rw [zc5,zaB];exact hl⟩
def zp1 (ops:Array Oper) (kp:Nat):Bool:=(List.range ops.size).all fun j=>decide (j≤kp) || (anc ops j).contains kp
theorem SW.drawP (hE:zaO P env) (hm:P.follows .mixedOrders=true) {id:Nat} {ops:Array Oper}
  (h:RRP P env ops (fun tr σ'=>zk7 ops (anc ops) (zbN tr)=true∧Q .normal σ') (fun tr x upd σ'=>zk7 ops (anc ops) (zbN tr)=true∧zp1 ops tr.length=true∧(∀ r,r ∈ tr→r.e.upd=[])∧∀ slots,Q (.panic (ziW x)) ⟨slots,zaA σ'.objs upd⟩) ops.toList [] σ):SW P env pin (.region id ops true) σ Q:=fun hl E g M a w hR hG=>by
 rcases RRP.traced (σ:=σ) (ops:=ops) ops.toList [] [] (by simp) rfl (fun k o hk=>by simp at hk) h with ⟨tr,htr,hok,hq⟩|⟨tr,op,x,upd,hop,htr,hpan,hok,hlt,hpu,hq⟩
 ·refine wp_region_any hm (zoL (E:=E) hE hok htr hl hG (g0:=g) (fun g' M' a' w' hR' hag hM=>?_) ops.size _ g M a _ (by simp) ?_ ?_ ?_ (fun _ _=>Gh.agree_refl _ _) (Mem.le_refl _))
  ·exact ⟨_,g',M',hq,hR',hM,fun i hi hd=>⟨hag i hd,zdv i hd _⟩,by rw [zaB];exact hl⟩
  ·intro k o ho hk
   have hks:k<ops.size:=(Array.getElem?_eq_some_iff.1 ho).1
   simp [hks] at hk
  ·exact Nat.le_trans (List.length_filter_le _ _) (by simp)
  ·rw [zcD (S':=fun _=>false) ops.size (fun k hk=>by simp [hk])]
   have:∀ m,zbE ops (zbN tr) (fun _=>false) σ m=σ:=fun m=>by induction m with
    |zero=>rfl
    |succ m ih=>simp [zbE,ih]
   rw [this]
   exact hR.drew
 ·have hpure:∀ k,(zbN tr k).e.upd=[]:=fun k=>by
   unfold zbN
   by_cases hk:k<tr.length
   ·have:tr.getD k ⟨[],⟨.junk,[]⟩⟩=tr[k]:=by simp [List.getD,hk]
    rw [this];exact hpu _ (List.getElem_mem hk)
   ·have:tr.getD k ⟨[],⟨.junk,[]⟩⟩=⟨[],⟨.junk,[]⟩⟩:=by simp [List.getD,List.getElem?_eq_none (by omega:tr.length≤k)]
    rw [this]
  have hlate:∀ j,tr.length<j→j<ops.size→tr.length ∈ anc ops j:=fun j h1 h2=>by
   have:=List.all_eq_true.1 hlt j (List.mem_range.2 h2)
   have h3:¬ j≤tr.length:=by omega
   simpa [h3] using this
  rw [zde hpure] at hq
  have hkps:tr.length<ops.size:=(Array.getElem?_eq_some_iff.1 hop).1
  refine wp_region_any hm (zk8 (E:=E) hE hok tr.length hop htr hpure hlate hpan hl hG (g0:=g) (fun slots g' M' a' w' hR' hag hM=>?_) ops.size _ g M a _ (by simp) ?_ (by simp [hkps]) ?_ ?_ (fun _ _=>Gh.agree_refl _ _) (Mem.le_refl _))
  ·exact ⟨_,g',M',hq slots,hR',hM,fun i hi hd=>⟨hag i hd,zjh i _ _ hd⟩,by show (zaA _ _).length=_;rw [zc5];exact hl⟩
  ·intro k o ho hk
   have hks:k<ops.size:=(Array.getElem?_eq_some_iff.1 ho).1
   simp [hks] at hk
  ·exact Nat.le_trans (List.length_filter_le _ _) (by simp)
  ·rw [zcD (S':=fun _=>false) ops.size (fun k hk=>by simp [hk])]
   have:∀ m,zbE ops (zbN tr) (fun _=>false) σ m=σ:=fun m=>by induction m with
    |zero=>rfl
    |succ m ih=>simp [zbE,ih]
   rw [this]
   exact hR.drew
end
end Go.Abs
namespace Go.Abs
open Go
def zbY (τ:Nat→Nat) (n:Nat→Bool):List AVal→List AVal→Prop
 |[],[]=>True
 |a::r,b::s=>(b=.junk∨(a=ren τ b∧zap n b=true))∧zbY τ n r s
 |_,_=>False
def zaW (τ:Nat→Nat) (n:Nat→Bool) (σ:St):Nat→List (Option AObj)→Prop
 |_,[]=>True
 |k,o::r=>(match o with|none=>True|some .dead=>True|some ob=>σ.obj (τ k)=some (zfD τ ob)∧zbA n ob=true)∧zaW τ n σ (k+1) r
theorem zdf {τ:Nat→Nat} {n:Nat→Bool}:∀ {l l':List AVal},zbY τ n l l'→l.length=l'.length∧∀ i,l'.getD i .junk=.junk∨(l.getD i .junk=ren τ (l'.getD i .junk)∧zap n (l'.getD i .junk)=true)
 |[],[],_=>⟨rfl,fun i=>.inl (by simp [List.getD])⟩
 |a::r,b::s,h=>by
  obtain ⟨h1,h2⟩:=h
  obtain ⟨h3,h4⟩:=zdf h2
  refine ⟨by simp [h3],fun i=>?_⟩
  cases i with
  |zero=>simpa [List.getD] using h1
  |succ i=>simpa [List.getD] using h4 i
 |[],_::_,h=>h.elim
 |_::_,[],h=>h.elim
theorem zdF {τ:Nat→Nat} {n:Nat→Bool} {σ:St}:∀ {l:List (Option AObj)} {k:Nat},zaW τ n σ k l→∀ i ob,l.getD i none=some ob→ob=.dead∨(σ.obj (τ (k+i))=some (zfD τ ob)∧zbA n ob=true)
 |[],k,_,i,ob,h=>by simp [List.getD] at h
 |o::r,k,h,i,ob,hi=>by
  obtain ⟨h1,h2⟩:=h
  cases i with
  |zero=>
   simp only [List.getD_cons_zero] at hi
   subst hi
   cases ob with
   |dead=>exact .inl rfl
   |cells cs=>exact .inr h1
   |row sz xs=>exact .inr h1
   |map kd es=>exact .inr h1
   |bh T e B n=>exact .inr h1
   |bb e s=>exact .inr h1
  |succ i=>
   have:=zdF h2 i ob (by simpa [List.getD] using hi)
   rwa [show k+1+i=k+(i+1) by omega] at this
section
variable {P:Program} {env:Env} {pin:Nat} {σ σ':St} {Q:Exit→St→Prop}
theorem Rel.wk {E:Ent} {g:Gh} {M:Mem} {a a':Act} {w:World} (hR:Rel E σ g M a w) (τ:Nat→Nat) (hsize:a'.tmps.size=σ'.slots.length) (hdef:a'.defers=E.ds)
  (hs:∀ i,i<σ'.slots.length→σ'.slot i=.junk∨∃ x,V g σ.dom M x (a'.tmps.getD i undef)∧x=ren τ (σ'.slot i)∧zap (zak σ'.objs) (σ'.slot i)=true)
  (ho:zaW τ (zak σ'.objs) σ 0 σ'.objs) (hinj:∀ i j,i<σ'.objs.length→j<σ'.objs.length→τ i=τ j→i=j) :
  Rel E σ' ⟨fun k=>g.ρ (τ k),fun k=>g.κ (τ k),fun k=>g.ν (τ k)⟩ M a' w:=by
 have hdom:∀ k,zak σ'.objs k=true→σ'.dom k:=fun k hk h0=>by
  have h1:σ'.objs.getD k none=none:=h0
  simp only [zak] at hk
  rw [h1] at hk;cases hk
 have hsc:∀ k,zak σ'.objs k=true→σ'.dom k∧(⟨fun k=>g.ρ (τ k),fun k=>g.κ (τ k),fun k=>g.ν (τ k)⟩:Gh).ρ k=g.ρ (τ k)∧(⟨fun k=>g.ρ (τ k),fun k=>g.κ (τ k),fun k=>g.ν (τ k)⟩:Gh).κ k=g.κ (τ k)∧(⟨fun k=>g.ρ (τ k),fun k=>g.κ (τ k),fun k=>g.ν (τ k)⟩:Gh).ν k=g.ν (τ k):=
  fun k hk=>⟨hdom k hk,rfl,rfl,rfl⟩
 have hown:∀ k ob,za0 (⟨fun k=>g.ρ (τ k),fun k=>g.κ (τ k),fun k=>g.ν (τ k)⟩:Gh) k ob=za0 g (τ k) ob:=fun k ob=>by cases ob<;>rfl
 have hget:∀ k ob b,σ'.obj k=some ob→za0 (⟨fun k=>g.ρ (τ k),fun k=>g.κ (τ k),fun k=>g.ν (τ k)⟩:Gh) k ob=some b→σ.obj (τ k)=some (zfD τ ob)∧za0 g (τ k) (zfD τ ob)=some b∧k<σ'.objs.length:=fun k ob b hk hb=>by
  rcases zdF ho k ob hk with rfl|⟨h1,_⟩
  ·simp [za0] at hb
  ·rw [Nat.zero_add] at h1
   exact ⟨h1,by rw [zcm,←hown];exact hb,zcd hk⟩
 refine ⟨hsize,hdef,?_,?_,?_,?_,hR.sat,hR.M0,hR.Mnew,hR.size0,hR.same,?_,hR.os,hR.tape,hR.output⟩
 ·intro i hi
  rcases hs i hi with h1|⟨x,h1,h2,h3⟩
  ·rw [h1];exact .junk _
  ·exact zsm hsc h1 _ h2 h3
 ·intro k ob hk
  rcases zdF ho k ob hk with rfl|⟨h1,h2⟩
  ·trivial
  ·rw [Nat.zero_add] at h1
   have hor:=hR.objs _ _ h1
   cases ob with
   |cells cs=>
    obtain ⟨vals,T,hh,hsz,hv⟩:=hor
    refine ⟨vals,T,hh,by rw [hsz,zaz],fun j hj=>?_⟩
    exact zsm hsc (hv j (by rw [zaz];exact hj)) _ (zb7 τ cs j) (zby _ _ _ h2)
   |row sz xs=>exact hor
   |map kd es=>
    obtain ⟨ents,clock,hh,hsz,hv⟩:=hor
    refine ⟨ents,clock,hh,hsz,fun i e he=>?_⟩
    obtain ⟨en,q1,q2,q3,q4⟩:=hv i e he
    exact ⟨en,q1,q2,q3,zsm hsc q4 _ (zg6 _ _).symm (zeq _ _)⟩
   |bh T e B n=>
    obtain ⟨hd,hn,p,hh,hp⟩:=hor
    obtain ⟨k1,k2,k3,k4⟩:=hsc B h2
    exact ⟨k1,hn,p,hh,hp⟩
   |bb e s=>exact hor
   |dead=>trivial
 ·intro k k' ob ob' b hk hk' hb hb'
  obtain ⟨h1,h2,h3⟩:=hget k ob b hk hb
  obtain ⟨h4,h5,h6⟩:=hget k' ob' b hk' hb'
  exact hinj k k' h3 h6 (hR.apart _ _ _ _ b h1 h4 h2 h5)
 ·intro k ob b hk hb i
  obtain ⟨h1,h2,_⟩:=hget k ob b hk hb
  exact hR.offM _ _ b h1 h2 i
 ·intro k ob b hk hb
  obtain ⟨h1,h2,_⟩:=hget k ob b hk hb
  exact hR.own0 _ _ b h1 h2
def tau (l:List Nat) (k:Nat):Nat:=l.getD k 0
theorem zbK.wk (τ:List Nat) (hlen:σ'.objs.length=env.nobj) (hτ:τ.length=env.nobj) (hnd:τ.Nodup) (hpin:∀ k,k<pin→tau τ k=k∧(σ.dom k→σ'.dom k))
  (hs:zbY (tau τ) (zak σ'.objs) σ.slots σ'.slots) (ho:zaW (tau τ) (zak σ'.objs) σ 0 σ'.objs):zbK env pin σ σ':=fun _=>⟨hlen,fun E g M a w hR=>by
 obtain ⟨hl,hg⟩:=zdf hs
 refine ⟨_,M,hR.wk (tau τ) (by rw [hR.size,hl]) hR.defers (fun i hi=>?_) ho (fun i j hi hj e=>zcn hnd (by omega) (by omega) e),Mem.le_refl _,fun id hid hd=>?_⟩
 ·rcases hg i with h1|⟨h1,h2⟩
  ·exact .inl h1
  ·exact .inr ⟨σ.slot i,hR.slot i,h1,h2⟩
 ·obtain ⟨h1,h2⟩:=hpin id hid
  refine ⟨?_,h2 hd⟩
  simp [Gh.agree,h1]⟩
theorem zbK.forget (hlen:σ'.objs.length=env.nobj) (hpin:∀ k,k<pin→σ.dom k→σ'.dom k)
  (hs:zbY id (zak σ'.objs) σ.slots σ'.slots) (ho:zaW id (zak σ'.objs) σ 0 σ'.objs):zbK env pin σ σ':=fun _=>⟨hlen,fun E g M a w hR=>by
 obtain ⟨hl,hg⟩:=zdf hs
 refine ⟨_,M,hR.wk id (by rw [hR.size,hl]) hR.defers (fun i hi=>?_) ho (fun i j hi hj e=>e),Mem.le_refl _,fun k hk hd=>⟨⟨rfl,rfl,rfl⟩,hpin k hk hd⟩⟩
 rcases hg i with h1|⟨h1,h2⟩
 ·exact .inl h1
 ·exact .inr ⟨σ.slot i,hR.slot i,h1,h2⟩⟩
mutual
def frz (id:Nat) (xs:List (List PVal)):AVal→AVal
 |.row id' n=>if id'=id then (if n=xs.length then .pv (.slice xs) else .junk) else .row id' n
 |.eref id' i j sz=>if id'=id then .junk else .eref id' i j sz
 |.ref id' off=>if id'=id then .junk else .ref id' off
 |.map id'=>.map id'
 |.csl id' n sz=>.csl id' n sz
 |.agg cs=>.agg (zgI id xs cs)
 |.tup cs=>.tup (zgI id xs cs)
 |.clo f cs=>.clo f (zgI id xs cs)
 |.pv p=>.pv p
 |.snil=>.snil
 |.junk=>.junk
def zgI (id:Nat) (xs:List (List PVal)):List AVal→List AVal
 |[]=>[]
 |a::r=>frz id xs a::zgI id xs r
end
def zgJ (id:Nat) (xs:List (List PVal)):Option AObj→Option AObj
 |some (.cells cs)=>some (.cells (zgI id xs cs))
 |o=>o
def St.frz (σ:St) (id:Nat) (xs:List (List PVal)):St:=⟨zgI id xs σ.slots,(σ.objs.map (zgJ id xs)).set id (some .dead)⟩
theorem zbn (id:Nat) (xs:List (List PVal)):∀ cs:List AVal,(zgI id xs cs).length=cs.length
 |[]=>rfl
 |_::r=>by simp [zgI,zbn id xs r]
theorem zeN (id:Nat) (xs:List (List PVal)):∀ (cs:List AVal) (i:Nat),(zgI id xs cs).getD i .junk=Abs.frz id xs (cs.getD i .junk)
 |[],i=>by simp [zgI,List.getD,Abs.frz]
 |c::r,0=>by simp [zgI,List.getD]
 |c::r,i+1=>by have:=zeN id xs r i;simpa [zgI,List.getD] using this
theorem zp2 (id:Nat) (xs:List (List PVal)):∀ ps:List PVal,zgI id xs (ps.map .pv)=ps.map .pv
 |[]=>rfl
 |p::r=>by simp [zgI,Abs.frz,zp2 id xs r]
theorem zso (id:Nat) (xs:List (List PVal)) (q:Bool × List PVal):Abs.frz id xs (zfc q)=zfc q:=by
 unfold zfc
 cases q.1<;>simp [Abs.frz,zp2]
theorem zbK.freeze (id:Nat) {sz:Nat} {xs:List (List PVal)} (hob:σ.obj id=some (.row sz xs)):zbK env pin σ (σ.frz id xs):=fun hl=>⟨by simp [St.frz,hl],fun E g M a w hR=>by
 obtain ⟨r1,r2,r3⟩:=hR.objs id _ hob
 have hlt:=zcd hob
 let M':Mem:=fun b i=>if g.ν id=false∧b=g.ρ id∧i<xs.length * sz then w.cell? ⟨b,i,none⟩ else M b i
 have hMle:Mem.le M M':=fun b i u hu=>by
  simp only [M']
  split
  ·exact hR.sat b i u hu
  ·exact hu
 have hslice:V g σ.dom M (.row id xs.length) (if g.ν id then .slice none 0 0 else .slice (some ⟨g.ρ id,0,none⟩) xs.length (g.κ id))→True:=fun _=>trivial
 have hrd:∀ v n,V g σ.dom M (.row id n) v→n=xs.length→Rd M' (.slice xs) v:=fun v n hv hn=>by
  cases hv with
  |rown _ _ hnu=>rw [r2 hnu];exact .nils
  |row _ _ _ hnu=>
   subst hn
   obtain ⟨vals,T,hh,h4,h5,h6⟩:=r3 hnu
   refine .slice xs sz (g.ρ id) 0 (g.κ id) (fun i j=>vals.getD (i * sz+j) undef) r1 (fun i j hi hj=>?_) (fun i j hi hj=>(h6 i j hi hj).mono hMle) h4
   have hlt2:i * sz+j<xs.length * sz:=by
    have:(i+1) * sz≤xs.length * sz:=Nat.mul_le_mul_right _ hi
    rw [Nat.add_mul] at this;omega
   have hle:xs.length * sz≤g.κ id * sz:=Nat.mul_le_mul_right _ h4
   simp only [M',Nat.zero_add,hnu,hlt2,and_self,if_true]
   rw [cell_of_heap hh]
   have:i * sz+j<vals.size:=by omega
   simp [this]
 have hobj':∀ k ob,(σ.frz id xs).obj k=some ob→(k=id∧ob=.dead)∨(k≠id∧∃ ob0,σ.obj k=some ob0∧zgJ id xs (some ob0)=some ob):=fun k ob hk=>by
  by_cases hki:id=k
  ·subst hki
   have:(σ.frz id xs).obj id=some .dead:=by simp [St.frz,St.obj,hlt]
   rw [this] at hk;cases hk;exact .inl ⟨rfl,rfl⟩
  ·refine .inr ⟨fun e=>hki e.symm,?_⟩
   have e1:(σ.frz id xs).obj k=zgJ id xs (σ.obj k):=by
    simp only [St.frz,St.obj,List.getD,List.getElem?_set_ne hki,List.getElem?_map]
    cases σ.objs[k]?<;>rfl
   rw [e1] at hk
   cases ho:σ.obj k with
   |none=>rw [ho] at hk;cases hk
   |some ob0=>rw [ho] at hk;exact ⟨ob0,rfl,hk⟩
 have hdom':∀ k,σ.dom k→(σ.frz id xs).dom k:=fun k hd=>by
  by_cases hki:id=k
  ·subst hki;simp [St.dom,St.frz,St.obj,hlt]
  ·have e1:(σ.frz id xs).obj k=zgJ id xs (σ.obj k):=by
    simp only [St.frz,St.obj,List.getD,List.getElem?_set_ne hki,List.getElem?_map]
    cases σ.objs[k]?<;>rfl
   unfold St.dom
   rw [e1]
   cases ho:σ.obj k with
   |none=>exact absurd ho hd
   |some ob0=>cases ob0<;>simp [zgJ]
 have hV:∀ x v,V g σ.dom M x v→V g (σ.frz id xs).dom M' (Abs.frz id xs x) v:=by
  intro x v h
  induction h with
  |pv r=>exact .pv (r.mono hMle)
  |snil=>exact .snil
  |ref k off hd=>
   simp only [Abs.frz]
   split
   ·exact .junk _
   ·exact .ref _ _ (hdom' _ hd)
  |row k m hd hnu=>
   simp only [Abs.frz]
   split
   ·rename_i hk
    subst hk
    split
    ·rename_i hm;exact .pv (hrd _ m (.row _ _ hd hnu) hm)
    ·exact .junk _
   ·exact .row _ _ (hdom' _ hd) hnu
  |rown k hd hnu=>
   simp only [Abs.frz]
   split
   ·rename_i hk
    subst hk
    split
    ·rename_i hm;exact .pv (hrd _ 0 (.rown _ hd hnu) hm)
    ·exact .junk _
   ·exact .rown _ (hdom' _ hd) hnu
  |eref k i j s hd=>
   simp only [Abs.frz]
   split
   ·exact .junk _
   ·exact .eref _ _ _ _ (hdom' _ hd)
  |map k hd=>exact .map _ (hdom' _ hd)
  |csl k n sz hd=>exact .csl _ _ _ (hdom' _ hd)
  |agg cs vs hl _ ih=>exact .agg _ vs (by rw [zbn];exact hl) (fun i hi=>by rw [zbn] at hi;rw [zeN];exact ih i hi)
  |tup cs vs hl _ ih=>exact .tup _ vs (by rw [zbn];exact hl) (fun i hi=>by rw [zbn] at hi;rw [zeN];exact ih i hi)
  |clo f cs vs hl _ ih=>exact .clo f _ vs (by rw [zbn];exact hl) (fun i hi=>by rw [zbn] at hi;rw [zeN];exact ih i hi)
  |junk v=>exact .junk v
 have hownf:∀ k ob ob0,zgJ id xs (some ob0)=some ob→za0 g k ob=za0 g k ob0:=fun k ob ob0 h=>by cases ob0<;>simp [zgJ] at h<;>subst h<;>rfl
 refine ⟨g,M',⟨by simp [St.frz,zbn,hR.size],hR.defers,?_,?_,?_,?_,?_,Mem.le_trans hR.M0 hMle,?_,hR.size0,hR.same,?_,hR.os,hR.tape,hR.output⟩,hMle,fun k hk hd=>⟨Gh.agree_refl _ _,hdom' k hd⟩⟩
 ·intro i hi
  have e1:(σ.frz id xs).slot i=Abs.frz id xs (σ.slot i):=zeN id xs σ.slots i
  rw [e1];exact hV _ _ (hR.slot i)
 ·intro k ob hk
  rcases hobj' k ob hk with ⟨rfl,rfl⟩|⟨hne,ob0,h1,h2⟩
  ·trivial
  ·have hor:=hR.objs k ob0 h1
   cases ob0 with
   |cells cs=>
    simp only [zgJ,Option.some.injEq] at h2
    subst h2
    obtain ⟨vals,T,hh,hs,hv⟩:=hor
    exact ⟨vals,T,hh,by rw [hs,zbn],fun j hj=>by rw [zbn] at hj;rw [zeN];exact hV _ _ (hv j hj)⟩
   |row sz' xs'=>
    simp only [zgJ,Option.some.injEq] at h2
    subst h2
    obtain ⟨q1,q2,q3⟩:=hor
    exact ⟨q1,q2,fun hnu=>let ⟨vals,T,hh,q4,q5,q6⟩:=q3 hnu;⟨vals,T,hh,q4,q5,fun i j hi hj=>(q6 i j hi hj).mono hMle⟩⟩
   |map kd es=>
    simp only [zgJ,Option.some.injEq] at h2
    subst h2
    obtain ⟨ents,clock,hh,hs,hv⟩:=hor
    refine ⟨ents,clock,hh,hs,fun i e he=>?_⟩
    obtain ⟨en,q1,q2,q3,q4⟩:=hv i e he
    exact ⟨en,q1,q2,q3.mono hMle,zso id xs e.2 ▸ hV _ _ q4⟩
   |bh T e B n=>
    simp only [zgJ,Option.some.injEq] at h2
    subst h2
    obtain ⟨hd,hn,p,hh,hp⟩:=hor
    exact ⟨hdom' _ hd,hn,p,hh,hp⟩
   |bb e s=>simp only [zgJ,Option.some.injEq] at h2;subst h2;exact hor
   |dead=>simp only [zgJ,Option.some.injEq] at h2;subst h2;trivial
 ·intro k k' ob ob' b hk hk' hb hb'
  rcases hobj' k ob hk with ⟨rfl,rfl⟩|⟨hne,ob0,h1,h2⟩
  ·simp [za0] at hb
  ·rcases hobj' k' ob' hk' with ⟨rfl,rfl⟩|⟨hne',ob0',h1',h2'⟩
   ·simp [za0] at hb'
   ·exact hR.apart k k' ob0 ob0' b h1 h1' (by rw [←hownf k ob ob0 h2];exact hb) (by rw [←hownf k' ob' ob0' h2'];exact hb')
 ·intro k ob b hk hb i
  rcases hobj' k ob hk with ⟨rfl,rfl⟩|⟨hne,ob0,h1,h2⟩
  ·simp [za0] at hb
  ·have hb0:za0 g k ob0=some b:=by rw [←hownf k ob ob0 h2];exact hb
   simp only [M']
   rw [if_neg]
   ·exact hR.offM k ob0 b h1 hb0 i
   ·rintro ⟨hnu,hbe,_⟩
    exact hne (hR.apart k id ob0 _ b h1 hob hb0 (by simp [za0,hnu,hbe]))
 ·intro b i u hu
  simp only [M'] at hu
  split at hu
  ·exact hu
  ·exact hR.sat b i u hu
 ·intro b i hb hB
  simp only [M']
  rw [if_neg]
  ·exact hR.Mnew b i hb hB
  ·rintro ⟨hnu,hbe,_⟩
   rcases hR.own0 id _ b hob (by simp [za0,hnu,hbe]) with h1|h1
   ·exact hB h1
   ·omega
 ·intro k ob b hk hb
  rcases hobj' k ob hk with ⟨rfl,rfl⟩|⟨hne,ob0,h1,h2⟩
  ·simp [za0] at hb
  ·exact hR.own0 k ob0 b h1 (by rw [←hownf k ob ob0 h2];exact hb)⟩
theorem zbK.nilRow (t id sz:Nat) (hs:σ.slot t=.snil) (hn:σ.obj id=none) (hid:id<env.nobj):zbK env pin σ ⟨σ.slots.set t (.row id 0),σ.objs.set id (some (.row sz []))⟩:=fun hl=>⟨by simp [hl],fun E g M a w hR=>by
 have hne:∀ i,σ.dom i→i≠id:=fun i hi e=>hi (by rw [e];exact hn)
 have hag:∀ i,σ.dom i→g.agree (g.set id 0 0 true) i:=fun i hi=>Gh.set_agree (hne i hi)
 have hself:(σ.set id (.row sz [])).obj id=some (.row sz []):=St.obj_set_self (by omega)
 have hR':Rel E (σ.set id (.row sz [])) (g.set id 0 0 true) M a w:=by
  refine hR.update (fun i=>i=id) rfl (fun i hi=>St.obj_set_ne (fun e=>hi e.symm)) (fun i hi=>zbl i hi) hag ?_ (fun _ _ _=>rfl) ?_ ?_ (Nat.le_refl _) rfl rfl rfl
  ·rintro i ob rfl ho
   rw [hself] at ho
   cases ho
   exact ⟨by simp,fun _=>rfl,fun h=>by simp [Gh.set] at h⟩
  ·rintro i ob b rfl ho hb
   rw [hself] at ho
   cases ho
   simp [za0,Gh.set] at hb
  ·rintro i i' _ _ _ rfl rfl _ _ _ _;rfl
 refine ⟨_,M,?_,Mem.le_refl _,fun k hk hd=>⟨hag k hd,zbl k hd⟩⟩
 refine ⟨by simp [hR.size],hR.defers,?_,hR'.objs,hR'.apart,hR'.offM,hR'.sat,hR'.M0,hR'.Mnew,hR'.size0,hR'.same,hR'.own0,hR'.os,hR'.tape,hR'.output⟩
 intro i hi
 simp only [List.length_set] at hi
 by_cases hti:t=i
 ·subst hti
  have e1:St.slot ⟨σ.slots.set t (.row id 0),σ.objs.set id (some (.row sz []))⟩ t=.row id 0:=by simp [St.slot,hi]
  rw [e1]
  have hv:=hR.slots t hi
  rw [hs] at hv
  generalize a.tmps.getD t undef=v at hv
  cases hv
  exact .rown id (by show (σ.set id (.row sz [])).dom id;simp [St.dom,hself]) (by simp [Gh.set])
 ·have e1:St.slot ⟨σ.slots.set t (.row id 0),σ.objs.set id (some (.row sz []))⟩ i=σ.slot i:=by simp [St.slot,List.getElem?_set_ne hti]
  rw [e1]
  exact hR'.slots i hi⟩
end
end Go.Abs
namespace Go.Abs
open Go
def zgo (env:Env) (σ:St):ResultVar→Option AVal
 |.tmp t=>some (σ.slot t)
 |.cell a t=>match env.ty t,σ.slot a with
  |some ty,.ref id off=>match σ.obj id with
   |some (.cells cs)=>if off+ty.size≤cs.length∧0<ty.size then some (if ty.agg then .agg ((cs.drop off).take ty.size) else cs.getD off .junk) else none
   |_=>none
  |_,_=>none
def ziX (env:Env) (σ:St):List ResultVar→Option (List AVal)
 |[]=>some []
 |r::rs=>match zgo env σ r,ziX env σ rs with
  |some v,some vs=>some (v::vs)
  |_,_=>none
def zmg:List AVal→AVal
 |[v]=>v
 |vs=>.tup vs
section
variable {P:Program} {env:Env} {σ:St} {E:Ent} {g:Gh} {M:Mem} {a:Act} {w:World}
theorem zmh (hR:Rel E σ g M a w) (hE:zaO P env) {r:ResultVar} {x:AVal} (h:zgo env σ r=some x) :
  ∃ v,(match r with|.tmp t=>pure (a.tmps.getD t undef)|.cell b t=>do loadVar t (←asAddr (a.tmps.getD b undef)):Sem Value).run P w=.ok v w∧V g σ.dom M x v:=by
 cases r with
 |tmp t=>cases h;exact ⟨_,rfl,hR.slot t⟩
 |cell b t=>
  simp only [zgo] at h
  split at h
  ·rename_i ty id off ht hx
   have hv:=hR.slot b
   rw [hx] at hv
   obtain ⟨hp,hd⟩:=hv.ref_inv
   split at h
   ·rename_i cs hob
    split at h
    ·rename_i hc
     cases h
     obtain ⟨vals,T,hh,hs,hvv⟩:=hR.objs id _ hob
     refine ⟨if ty.agg then .agg ((List.range ty.size).map fun j=>vals.getD (off+j) undef).toArray else vals.getD off undef,?_,?_⟩
     ·have h1:=zdD (P:=P) hE ht w (g.ρ id) off (fun j=>vals.getD (off+j) undef) hc.2 (fun j hj=>by
       rw [cell_of_heap hh]
       have:off+j<vals.size:=by omega
       simp [this])
      simp only [hp,Sem.run_bind,asAddr,Sem.run_pure,Result.andThen]
      exact h1
     ·cases ty.agg
      ·exact hvv off (by omega)
      ·refine zpP (by simp;omega) (fun j hj=>?_)
       have:((cs.drop off).take ty.size).getD j .junk=cs.getD (off+j) .junk:=by
        simp [List.getD,List.getElem?_take,hj,List.getElem?_drop]
       rw [this];exact hvv (off+j) (by omega)
    ·cases h
   ·cases h
  ·cases h
theorem znn (hR:Rel E σ g M a w) (hE:zaO P env):∀ {rs:List ResultVar} {xs:List AVal},ziX env σ rs=some xs →
  ∃ vs:List Value,(rs.mapM (fun|.tmp t=>pure (a.tmps.getD t undef)|.cell b t=>do loadVar t (←asAddr (a.tmps.getD b undef)):ResultVar→Sem Value)).run P w=.ok vs w∧vs.length=xs.length∧∀ i,i<xs.length→V g σ.dom M (xs.getD i .junk) (vs.getD i undef)
 |[],xs,h=>by cases h;exact ⟨[],rfl,rfl,fun i hi=>by simp at hi⟩
 |r::rs,xs,h=>by
  simp only [ziX] at h
  split at h
  ·rename_i x xs' h1 h2
   cases h
   obtain ⟨v,hv,hvv⟩:=zmh (P:=P) hR hE h1
   obtain ⟨vs,hvs,hl,hvvs⟩:=znn hR hE h2
   refine ⟨v::vs,?_,by simp [hl],fun i hi=>?_⟩
   ·rw [List.mapM_cons,Sem.run_bind,hv]
    simp only [Result.andThen,Sem.run_bind,hvs,Sem.run_pure]
   ·cases i with
    |zero=>simpa [List.getD] using hvv
    |succ i=>simpa [List.getD] using hvvs i (by simpa using hi)
  ·cases h
theorem zfp (hR:Rel E σ g M a w) (hE:zaO P env) {fn:Func} {xs:List AVal} (h:ziX env σ fn.results.toList=some xs) :
  ∃ v,(results fn a.tmps).run P w=.ok v w∧V g σ.dom M (zmg xs) v:=by
 obtain ⟨vs,hvs,hl,hv⟩:=znn (P:=P) hR hE h
 have hm:(fn.results.mapM (fun|.tmp t=>pure (a.tmps.getD t undef)|.cell b t=>do loadVar t (←asAddr (a.tmps.getD b undef)):ResultVar→Sem Value)).run P w=.ok vs.toArray w:=by
  rw [Array.mapM_eq_mapM_toList,Sem.run_map,hvs];rfl
 refine ⟨if h:vs.toArray.size=1 then vs.toArray[0] else .tuple vs.toArray,?_,?_⟩
 ·have e:results fn a.tmps=((fn.results.mapM (fun|.tmp t=>pure (a.tmps.getD t undef)|.cell b t=>do loadVar t (←asAddr (a.tmps.getD b undef)):ResultVar→Sem Value)) >>= fun vs=>pure (if h:vs.size=1 then vs[0] else .tuple vs)):=by
   unfold results
   congr 1
  rw [e,Sem.run_bind,hm]
  simp only [Result.andThen,Sem.run_pure]
 ·match xs,vs,hl,hv with
  |[],[],_,hv=>exact .tup [] [] rfl (fun i hi=>by simp at hi)
  |[x],[v],_,hv=>have:=hv 0 (by simp);simpa [List.getD,zmg] using this
  |x::y::r,v::u::s,hl,hv=>
   have e1:¬ (v::u::s).toArray.size=1:=by simp
   rw [dif_neg e1]
   exact .tup _ _ hl hv
def zaJ (env:Env) (n:Nat) (rs:List ResultVar) (res:AVal) (objs':List (Option AObj)):Exit→St→Prop:=fun e σ=>
 (e=.ret∨e=.normal)∧∃ vs τ,ziX env σ rs=some vs∧zbY (tau τ) (zak objs') [zmg vs] [res]∧zaW (tau τ) (zak objs') σ 0 objs'∧(∀ k,k<n→tau τ k=k)∧τ.Nodup∧objs'.length≤τ.length
theorem AC.of_body (hE:zaO P env) {f:FuncId} {fn:Func} {code:Code} (hf:P.funcs[f]?=some fn) (hb:fn.body=some code) {args:List AVal} {objs:List (Option AObj)} {res:AVal} {objs':List (Option AObj)}
  (hargs:args.length≤fn.ntmps) (hobjs:objs.length≤env.nobj)
  (h:SW P env objs.length code ⟨args++List.replicate (fn.ntmps - args.length) .junk,objs++List.replicate (env.nobj - objs.length) none⟩ (zaJ env objs.length fn.results.toList res objs')) :
  AC P env.gl f args objs res objs':=by
 intro w M g vargs hR hG
 have hla:vargs.length=args.length:=by simpa using hR.size
 refine calls_of_wp hf hb ?_
 have hobj:∀ id,St.obj ⟨args++List.replicate (fn.ntmps - args.length) .junk,objs++List.replicate (env.nobj - objs.length) none⟩ id=St.obj ⟨args,objs⟩ id:=fun id=>by
  simp only [St.obj,List.getD]
  by_cases hid:id<objs.length
  ·rw [List.getElem?_append_left hid]
  ·rw [List.getElem?_append_right (by omega),List.getElem?_eq_none (by omega:objs.length≤id)]
   rw [List.getElem?_replicate]
   split<;>rfl
 have hdom:St.dom ⟨args++List.replicate (fn.ntmps - args.length) .junk,objs++List.replicate (env.nobj - objs.length) none⟩=St.dom ⟨args,objs⟩:=by
  funext id;simp only [St.dom,hobj]
 have hR0:Rel ⟨w,M,zaD g objs,[]⟩ ⟨args++List.replicate (fn.ntmps - args.length) .junk,objs++List.replicate (env.nobj - objs.length) none⟩ g M
   { tmps:=vargs.toArray++Array.replicate (fn.ntmps - vargs.toArray.size) undef,defers:=[] } w:=by
  refine ⟨by simp [hla],rfl,?_,?_,?_,?_,hR.sat,hR.M0,hR.Mnew,hR.size0,hR.same,?_,hR.os,hR.tape,hR.output⟩
  ·intro i hi
   rw [hdom]
   by_cases hia:i<args.length
   ·have e1:St.slot ⟨args++List.replicate (fn.ntmps - args.length) .junk,objs++List.replicate (env.nobj - objs.length) none⟩ i=St.slot ⟨args,objs⟩ i:=by
     simp [St.slot,List.getElem?_append_left hia]
    have e2:(vargs.toArray++Array.replicate (fn.ntmps - vargs.toArray.size) undef).getD i undef=vargs.toArray.getD i undef:=by
     simp only [Array.getD_eq_getD_getElem?]
     rw [Array.getElem?_append_left (by simp;omega)]
    rw [e1,e2];exact hR.slots i hia
   ·have e1:St.slot ⟨args++List.replicate (fn.ntmps - args.length) .junk,objs++List.replicate (env.nobj - objs.length) none⟩ i=.junk:=by
     simp only [St.slot,List.getD]
     rw [List.getElem?_append_right (by omega),List.getElem?_replicate]
     split<;>rfl
    rw [e1];exact .junk _
  ·intro id o ho;rw [hobj] at ho;rw [hdom];exact hR.objs id o ho
  ·intro id id' o o' b ho ho';rw [hobj] at ho ho';exact hR.apart id id' o o' b ho ho'
  ·intro id o b ho;rw [hobj] at ho;exact hR.offM id o b ho
  ·intro id o b ho;rw [hobj] at ho;exact hR.own0 id o b ho
 refine wp_mono (h (by simp;omega) _ g M _ w hR0 hG) fun e a' w' ⟨σ',g',M',⟨he,vs,τ,hvs,hws,hwo,hpin,hnd,hlen⟩,hR',hM,hA,hl'⟩=>?_
 have key:a'.defers=[]∧∃ v,(results fn a'.tmps).run P w'=.ok v w'∧∃ v' g' M',Ending.returned v=.returned v'∧Rel ⟨w,M,zaD g objs,[]⟩ ⟨[res],objs'⟩ g' M' ⟨#[v'],[]⟩ w'∧∀ id,zak objs id=true→g.agree g' id:=by
  obtain ⟨v,hrun,hV⟩:=zfp (P:=P) hR' hE hvs
  refine ⟨hR'.defers,v,hrun,v,_,M',rfl,hR'.wk (σ':=⟨[res],objs'⟩) (tau τ) (by simp) rfl (fun i hi=>?_) hwo (fun i j hi hj e=>zcn hnd (by simp at hi;omega) (by simp at hj;omega) e),fun id hid=>?_⟩
  ·have hi0:i=0:=by simpa using hi
   subst hi0
   obtain ⟨_,hg⟩:=zdf hws
   rcases hg 0 with h1|⟨h1,h2⟩
   ·exact .inl h1
   ·exact .inr ⟨zmg vs,hV,by simpa [List.getD,St.slot] using h1,by simpa [List.getD,St.slot] using h2⟩
  ·have hlt:id<objs.length:=by
    rcases Nat.lt_or_ge id objs.length with h|h
    ·exact h
    ·simp [zak,List.getD,List.getElem?_eq_none h] at hid
   have hd:St.dom ⟨args++List.replicate (fn.ntmps - args.length) .junk,objs++List.replicate (env.nobj - objs.length) none⟩ id:=by
    rw [hdom];intro h0
    have h1:objs.getD id none=none:=h0
    simp only [zak] at hid
    rw [h1] at hid;cases hid
   obtain ⟨⟨h1,h2,h3⟩,_⟩:=hA id hlt hd
   simp only [Gh.agree,hpin id hlt]
   exact ⟨h1,h2,h3⟩
 rcases he with rfl|rfl
 ·exact key
 ·exact key
def zbT (n:Nat) (x:Value) (objs':List (Option AObj)):Exit→St→Prop:=fun e σ=>
 e=.panic (ziW x)∧∃ τ,zaW (tau τ) (zak objs') σ 0 objs'∧(∀ k,k<n→tau τ k=k)∧τ.Nodup∧objs'.length≤τ.length
theorem AP.of_body (hE:zaO P env) {f:FuncId} {fn:Func} {code:Code} (hf:P.funcs[f]?=some fn) (hb:fn.body=some code) {args:List AVal} {objs:List (Option AObj)} {x:Value} {objs':List (Option AObj)}
  (hargs:args.length≤fn.ntmps) (hobjs:objs.length≤env.nobj)
  (h:SW P env objs.length code ⟨args++List.replicate (fn.ntmps - args.length) .junk,objs++List.replicate (env.nobj - objs.length) none⟩ (zbT objs.length x objs')) :
  AP P env.gl f args objs x objs':=by
 intro w M g vargs hR hG
 have hla:vargs.length=args.length:=by simpa using hR.size
 refine calls_of_wp hf hb ?_
 have hobj:∀ id,St.obj ⟨args++List.replicate (fn.ntmps - args.length) .junk,objs++List.replicate (env.nobj - objs.length) none⟩ id=St.obj ⟨args,objs⟩ id:=fun id=>by
  simp only [St.obj,List.getD]
  by_cases hid:id<objs.length
  ·rw [List.getElem?_append_left hid]
  ·rw [List.getElem?_append_right (by omega),List.getElem?_eq_none (by omega:objs.length≤id)]
   rw [List.getElem?_replicate]
   split<;>rfl
 have hdom:St.dom ⟨args++List.replicate (fn.ntmps - args.length) .junk,objs++List.replicate (env.nobj - objs.length) none⟩=St.dom ⟨args,objs⟩:=by
  funext id;simp only [St.dom,hobj]
 have hR0:Rel ⟨w,M,zaD g objs,[]⟩ ⟨args++List.replicate (fn.ntmps - args.length) .junk,objs++List.replicate (env.nobj - objs.length) none⟩ g M
   { tmps:=vargs.toArray++Array.replicate (fn.ntmps - vargs.toArray.size) undef,defers:=[] } w:=by
  refine ⟨by simp [hla],rfl,?_,?_,?_,?_,hR.sat,hR.M0,hR.Mnew,hR.size0,hR.same,?_,hR.os,hR.tape,hR.output⟩
  ·intro i hi
   rw [hdom]
   by_cases hia:i<args.length
   ·have e1:St.slot ⟨args++List.replicate (fn.ntmps - args.length) .junk,objs++List.replicate (env.nobj - objs.length) none⟩ i=St.slot ⟨args,objs⟩ i:=by
     simp [St.slot,List.getElem?_append_left hia]
    have e2:(vargs.toArray++Array.replicate (fn.ntmps - vargs.toArray.size) undef).getD i undef=vargs.toArray.getD i undef:=by
     simp only [Array.getD_eq_getD_getElem?]
     rw [Array.getElem?_append_left (by simp;omega)]
    rw [e1,e2];exact hR.slots i hia
   ·have e1:St.slot ⟨args++List.replicate (fn.ntmps - args.length) .junk,objs++List.replicate (env.nobj - objs.length) none⟩ i=.junk:=by
     simp only [St.slot,List.getD]
     rw [List.getElem?_append_right (by omega),List.getElem?_replicate]
     split<;>rfl
    rw [e1];exact .junk _
  ·intro id o ho;rw [hobj] at ho;rw [hdom];exact hR.objs id o ho
  ·intro id id' o o' b ho ho';rw [hobj] at ho ho';exact hR.apart id id' o o' b ho ho'
  ·intro id o b ho;rw [hobj] at ho;exact hR.offM id o b ho
  ·intro id o b ho;rw [hobj] at ho;exact hR.own0 id o b ho
 refine wp_mono (h (by simp;omega) _ g M _ w hR0 hG) fun e a' w' ⟨σ',g',M',⟨he,τ,hwo,hpin,hnd,hlen⟩,hR',hM,hA,hl'⟩=>?_
 subst he
 refine ⟨hR'.defers,undef,_,M',rfl,hR'.wk (σ':=⟨[.junk],objs'⟩) (tau τ) (by simp) rfl (fun i hi=>.inl ?_) hwo (fun i j hi hj e=>zcn hnd (by simp at hi;omega) (by simp at hj;omega) e),fun id hid=>?_⟩
 ·have hi0:i=0:=by simpa using hi
  subst hi0
  rfl
 ·have hlt:id<objs.length:=by
   rcases Nat.lt_or_ge id objs.length with h|h
   ·exact h
   ·simp [zak,List.getD,List.getElem?_eq_none h] at hid
  have hd:St.dom ⟨args++List.replicate (fn.ntmps - args.length) .junk,objs++List.replicate (env.nobj - objs.length) none⟩ id:=by
   rw [hdom];intro h0
   have h1:objs.getD id none=none:=h0
   simp only [zak] at hid
   rw [h1] at hid;cases hid
  obtain ⟨⟨h1,h2,h3⟩,_⟩:=hA id hlt hd
  simp only [Gh.agree,hpin id hlt]
  exact ⟨h1,h2,h3⟩
end
end Go.Abs
namespace Go.Abs
open Go
def zuI (ops:Array Oper) (oi oj:Oper) (ri rj:List Nat × List Nat):Bool:=
 !(oi.apart ops oj) || (meets ri.1 rj.1&&!(ri.2.isEmpty&&rj.2.isEmpty))
def zxp (ops:Array Oper) (A:Nat→List Nat) (tr:Nat→List Nat × List Nat):Bool:=
 (List.range ops.size).all fun k=>match ops[k]? with
  |none=>false
  |some o=>
   (o.after.all fun e=>!Region.binds .any e || decide (e.on<k)) &&
   ((tr k).2.all fun q=>(tr k).1.contains q) &&
   ((A k).all fun j=>o.after.any fun e=>Region.binds .any e&&(e.on==j || (A e.on).contains j)) &&
   ((List.range k).all fun i=>(A k).contains i || match ops[i]? with|some oi=>!zuI ops oi o (tr i) (tr k)|none=>false)
def zhM (l:List (List Nat × List Nat)) (k:Nat):List Nat × List Nat:=l.getD k ([],[])
def zfO (r:Rec):List Nat × List Nat:=(r.T,r.e.upd.map Prod.fst)
section
variable {P:Program} {env:Env} {pin:Nat} {σ:St} {Q:Exit→St→Prop}
theorem zp3 {ops:Array Oper} {A:Nat→List Nat} {tr:List Rec} (h:zxp ops A (zhM (tr.map zfO))=true):zk7 ops A (zbN tr)=true:=by
 have hp:∀ k,zhM (tr.map zfO) k=zfO (zbN tr k):=fun k=>by
  simp only [zhM,zbN,List.getD,List.getElem?_map]
  cases tr[k]?<;>rfl
 unfold zxp at h
 unfold zk7
 rw [List.all_eq_true] at h ⊢
 intro k hk
 have:=h k hk
 cases ho:ops[k]? with
 |none=>rw [ho] at this;cases this
 |some o=>
  rw [ho] at this
  simp only [Bool.and_eq_true] at this ⊢
  obtain ⟨⟨⟨h1,h2⟩,h3⟩,h4⟩:=this
  refine ⟨⟨⟨h1,?_⟩,h3⟩,?_⟩
  ·rw [hp] at h2
   simp only [zfO,List.all_map] at h2
   exact h2
  ·rw [List.all_eq_true] at h4 ⊢
   intro i hi
   have h5:=h4 i hi
   cases hoi:ops[i]? with
   |none=>rw [hoi] at h5;exact h5
   |some oi=>
    rw [hoi] at h5
    rw [hp,hp] at h5
    have e1:zuI ops oi o (zfO (zbN tr i)) (zfO (zbN tr k))=zve ops oi o (zbN tr i) (zbN tr k):=by
     unfold zuI zve zfO
     cases (zbN tr i).e.upd<;>cases (zbN tr k).e.upd<;>rfl
    have h6:((A k).contains i || !zuI ops oi o (zfO (zbN tr i)) (zfO (zbN tr k)))=true:=h5
    rw [e1] at h6
    exact h6
theorem on {N S:St→Prop} {σ:St} (h:∀ σ',S σ'→N σ') (k:S σ):N σ:=h σ k
theorem CallFits.pure {σ:St} {o:Oper} {f:FuncId} {vals cargs:List AVal} (ho:calls env σ o.op f vals) (hent:∀ vargs w,(callFunc f vargs).run P w=.ok (.enter f vargs) w)
  (hargs:vals=zep (fun k=>([]:List Nat).getD k 0) cargs) (hsc:zaw (zak []) cargs=true):CallFits P env σ o f vals cargs [] [] [] [] where
 op:=ho
 zag:=hent
 args:=hargs
 objs:=rfl
 scopeA:=hsc
 scopeO:=by simp
 nodup:=by simp
 lt:=by simp
 fresh:=by simp
 len:=by simp
end
end Go.Abs
namespace Go.Abs
open Go
mutual
theorem zno (τ:Nat→Nat):∀ (v:AVal),zap (zak []) v=true→ren τ v=v
 |.ref id off,h=>by simp [zap,zak] at h
 |.row id n,h=>by simp [zap,zak] at h
 |.eref id i j sz,h=>by simp [zap,zak] at h
 |.csl id n sz,h=>by simp [zap,zak] at h
 |.map id,h=>by simp [zap,zak] at h
 |.agg cs,h=>by simp only [ren];rw [zet τ cs (by simpa [zap] using h)]
 |.tup cs,h=>by simp only [ren];rw [zet τ cs (by simpa [zap] using h)]
 |.clo f cs,h=>by simp only [ren];rw [zet τ cs (by simpa [zap] using h)]
 |.pv p,_=>rfl
 |.snil,_=>rfl
 |.junk,_=>rfl
theorem zet (τ:Nat→Nat):∀ (l:List AVal),zaw (zak []) l=true→zep τ l=l
 |[],_=>rfl
 |a::r,h=>by
  simp [zaw] at h
  simp only [zep]
  rw [zno τ a h.1,zet τ r h.2]
end
mutual
def sub:AVal→AVal→Prop
 |.snil,.pv (.slice [])=>True
 |.agg cs,.agg ds=>zsp cs ds
 |a,b=>a=b
def zsp:List AVal→List AVal→Prop
 |[],[]=>True
 |a::r,b::s=>sub a b∧zsp r s
 |_,_=>False
end
theorem zj1:∀ {l m:List AVal},zsp l m→l.length=m.length∧∀ i,i<l.length→sub (l.getD i .junk) (m.getD i .junk)
 |[],[],_=>⟨rfl,fun i hi=>by simp at hi⟩
 |a::r,b::s,h=>by
  rw [zsp] at h
  obtain ⟨h1,h2⟩:=zj1 h.2
  refine ⟨by simp [h1],fun i hi=>?_⟩
  cases i with
  |zero=>simpa [List.getD] using h.1
  |succ i=>simpa [List.getD] using h2 i (by simpa using hi)
 |[],_::_,h=>by simp [zsp] at h
 |_::_,[],h=>by simp [zsp] at h
theorem V.sub {g:Gh} {D:Nat→Prop} {M:Mem} {a:AVal} {v:Value} (h:V g D M a v):∀ {b:AVal},Abs.sub a b→V g D M b v:=by
 induction h with
 |snil=>
  intro b hb
  unfold Abs.sub at hb
  split at hb
  ·exact .pv .nils
  ·rename_i h1;cases h1
  ·subst hb;exact .snil
 |agg cs vs hl hv ih=>
  intro b hb
  unfold Abs.sub at hb
  split at hb
  ·rename_i h1;cases h1
  ·rename_i h1
   cases h1
   rename_i ds
   obtain ⟨h2,h3⟩:=zj1 hb
   exact .agg ds vs (by omega) (fun i hi=>ih i (by omega) (h3 i (by omega)))
  ·subst hb;exact .agg cs vs hl hv
 |pv r=>
  intro b hb
  rename_i p _
  have:b=.pv p:=by cases b<;>simp_all [Abs.sub]
  subst this;exact .pv r
 |ref id off hd=>intro b hb;have:b=.ref id off:=(by cases b<;>simp_all [Abs.sub]);subst this;exact .ref id off hd
 |row id n hd hn=>intro b hb;have:b=.row id n:=(by cases b<;>simp_all [Abs.sub]);subst this;exact .row id n hd hn
 |rown id hd hn=>intro b hb;have:b=.row id 0:=(by cases b<;>simp_all [Abs.sub]);subst this;exact .rown id hd hn
 |eref id i j sz hd=>intro b hb;have:b=.eref id i j sz:=(by cases b<;>simp_all [Abs.sub]);subst this;exact .eref id i j sz hd
 |csl id n sz hd=>intro b hb;have:b=.csl id n sz:=(by cases b<;>simp_all [Abs.sub]);subst this;exact .csl id n sz hd
 |map id hd=>intro b hb;have:b=.map id:=(by cases b<;>simp_all [Abs.sub]);subst this;exact .map id hd
 |tup cs vs hl hv ih=>intro b hb;have:b=.tup cs:=(by cases b<;>simp_all [Abs.sub]);subst this;exact .tup cs vs hl hv
 |clo f cs vs hl hv ih=>intro b hb;have:b=.clo f cs:=(by cases b<;>simp_all [Abs.sub]);subst this;exact .clo f cs vs hl hv
 |junk v=>intro b hb;have:b=.junk:=(by cases b<;>simp_all [Abs.sub]);subst this;exact .junk v
theorem AC.sub {P:Program} {gl:Nat→Option (List PVal)} {f:FuncId} {args args':List AVal} {objs:List (Option AObj)} {res:AVal} {objs':List (Option AObj)} (h:AC P gl f args' objs res objs') (hs:zsp args args'):AC P gl f args objs res objs':=by
 intro w M g vargs hR hG
 obtain ⟨h1,h2⟩:=zj1 hs
 refine h w M g vargs ⟨by rw [hR.size];exact h1,hR.defers,fun i hi=>?_,hR.objs,hR.apart,hR.offM,hR.sat,hR.M0,hR.Mnew,hR.size0,hR.same,hR.own0,hR.os,hR.tape,hR.output⟩ hG
 have hi':i<args.length:=by rw [h1];exact hi
 exact (hR.slots i hi').sub (h2 i hi')
theorem zaN {α:Type} (enc:α→List PVal) (l:List α) (k:Nat) (h:k<l.length):(l.map enc).getD k []=enc l[k]:=by
 simp [List.getD,h]
theorem zat (n:Int) (h1:-9223372036854775808≤n) (h2:n≤9223372036854775807):IntKind.i64.wrap n=n:=IntWalk.i64_in n ⟨h1,h2⟩
section
variable {P:Program} {env:Env} {σ:St}
end
end Go.Abs
namespace Go.Abs
open Go
theorem zAO:((0:Nat):Int)=0:=by simp
structure COp where
 dst:Option Nat
 op:Op
 guard:Option (Option (Nat × Bool))
def zvg (all:List Oper):Option (Nat × Bool)→Option (Option (Nat × Bool))
 |none=>none
 |some (j,want)=>some (((all[j]?).bind (·.dst)).map fun t=>(t,want))
def zj2 (all:List Oper):List Oper→List COp
 |[]=>[]
 |o::r=>⟨o.dst,o.op,zvg all o.guard⟩::zj2 all r
def znp (σ:St):Option (Option (Nat × Bool))→Option Bool
 |none=>some true
 |some none=>none
 |some (some (t,want))=>match σ.slot t with
  |.pv (.bool b)=>some (b==want)
  |.tup []=>some false
  |_=>none
section
variable {P:Program} {env:Env} {pin:Nat} {σ:St} {Q:Exit→St→Prop}
theorem znq (ops:Array Oper) (o:Oper):zdc ops σ o=znp σ (zvg ops.toList o.guard):=by
 unfold zdc
 cases o.guard with
 |none=>rfl
 |some q=>
  obtain ⟨j,want⟩:=q
  simp only [zvg,Array.getElem?_toList]
  cases (ops[j]?).bind (·.dst)<;>rfl
theorem zvh {α β:Type} (f:α→β) (p:Prop) [Decidable p] (x:Option α):(if p then x else none).map f=if p then x.map f else none:=by split<;>rfl
theorem zsq {α β:Type} (f:α→β) (p:Prop) [Decidable p] (x:Option α):(if p then none else x).map f=if p then none else x.map f:=by split<;>rfl
end
end Go.Abs
namespace Go.Abs
open Go
theorem zvi {σ σ':St} {n:Nat} (h:(σ'.objs.take n).all Option.isSome=true) (hn:n≤σ'.objs.length):∀ k,k<n→σ.dom k→σ'.dom k:=fun k hk _ hno=>by
 have hkl:k<σ'.objs.length:=by omega
 rw [List.all_eq_true] at h
 have h1:=h σ'.objs[k] (by rw [List.mem_take_iff_getElem];exact ⟨k,by omega,rfl⟩)
 have h2:σ'.objs[k]=none:=by simpa [St.obj,List.getD,hkl] using hno
 rw [h2] at h1;cases h1
theorem zxG {σ σ':St} {n:Nat} {τ:List Nat} (ht:∀ k,k<n→tau τ k=k) (h:(σ'.objs.take n).all Option.isSome=true) (hn:n≤σ'.objs.length):∀ k,k<n→tau τ k=k∧(σ.dom k→σ'.dom k):=fun k hk=>⟨ht k hk,zvi h hn k hk⟩
variable {env:Env} {pin:Nat} {σ:St}
theorem Rel.nilRow1 {E:Ent} {g:Gh} {M:Mem} {a:Act} {w:World} (id sz:Nat) (hn:σ.obj id=none) (hlt:id<σ.objs.length) (hR:Rel E σ g M a w):Rel E (σ.set id (.row sz [])) (g.set id 0 0 true) M a w:=by
 have hne:∀ i,σ.dom i→i≠id:=fun i hi e=>hi (by rw [e];exact hn)
 have hag:∀ i,σ.dom i→g.agree (g.set id 0 0 true) i:=fun i hi=>Gh.set_agree (hne i hi)
 have hself:(σ.set id (.row sz [])).obj id=some (.row sz []):=St.obj_set_self hlt
 refine hR.update (fun i=>i=id) rfl (fun i hi=>St.obj_set_ne (fun e=>hi e.symm)) (fun i hi=>zbl i hi) hag ?_ (fun _ _ _=>rfl) ?_ ?_ (Nat.le_refl _) rfl rfl rfl
 ·rintro i ob rfl ho
  rw [hself] at ho
  cases ho
  exact ⟨by simp,fun _=>rfl,fun h=>by simp [Gh.set] at h⟩
 ·rintro i ob b rfl ho hb
  rw [hself] at ho
  cases ho
  simp [za0,Gh.set] at hb
 ·rintro i i' _ _ _ rfl rfl _ _ _ _;rfl
theorem zbK.nilRowC (b j id sz:Nat) {cs:List AVal} (hb:σ.obj b=some (.cells cs)) (hj:cs.getD j .junk=.snil) (hn:σ.obj id=none) (hid:id<env.nobj):zbK env pin σ ⟨σ.slots,(σ.objs.set id (some (.row sz []))).set b (some (.cells (cs.set j (.row id 0))))⟩:=fun hl=>⟨by simp [hl],fun E g M a w hR=>by
 have hne:∀ i,σ.dom i→i≠id:=fun i hi e=>hi (by rw [e];exact hn)
 have hag:∀ i,σ.dom i→g.agree (g.set id 0 0 true) i:=fun i hi=>Gh.set_agree (hne i hi)
 have hbd:σ.dom b:=by simp [St.dom,hb]
 have hbi:id≠b:=fun e=>hne b hbd e.symm
 have h1:=hR.nilRow1 id sz hn (by omega)
 generalize hσ:σ.set id (.row sz [])=σ1 at *
 have hl1:σ1.objs.length=σ.objs.length:=by rw [←hσ];simp [St.set]
 have hdid:σ1.dom id:=by rw [←hσ];simp [St.dom,St.obj_set_self (σ:=σ) (ob:=.row sz []) (by omega:id<σ.objs.length)]
 have hb1:σ1.obj b=some (.cells cs):=by rw [←hσ,St.obj_set_ne hbi];exact hb
 have hblt:b<σ1.objs.length:=by
  rcases Nat.lt_or_ge b σ1.objs.length with h|h
  ·exact h
  ·simp [St.obj,List.getElem?_eq_none h] at hb1
 have e0:(⟨σ.slots,(σ.objs.set id (some (.row sz []))).set b (some (.cells (cs.set j (.row id 0))))⟩:St)=σ1.set b (.cells (cs.set j (.row id 0))):=by rw [←hσ];rfl
 rw [e0]
 have hself:(σ1.set b (.cells (cs.set j (.row id 0)))).obj b=some (.cells (cs.set j (.row id 0))):=St.obj_set_self hblt
 refine ⟨g.set id 0 0 true,M,?_,Mem.le_refl _,fun k hk hd=>⟨hag k hd,zbl k (by rw [←hσ];exact zbl k hd)⟩⟩
 refine h1.update (fun i=>i=b) rfl (fun i hi=>St.obj_set_ne (fun e=>hi e.symm)) (fun i hi=>zbl i hi) (fun i _=>⟨rfl,rfl,rfl⟩) ?_ (fun _ _ _=>rfl) ?_ ?_ (Nat.le_refl _) rfl rfl rfl
 ·rintro i ob rfl ho
  rw [hself] at ho
  cases ho
  obtain ⟨vals,T,hh,hsz,hc⟩:=h1.objs _ _ hb1
  refine ⟨vals,T,hh,by simpa using hsz,fun k hk=>?_⟩
  simp only [List.length_set] at hk
  by_cases hkj:j=k
  ·subst hkj
   have hv:=hc j hk
   rw [hj] at hv
   generalize vals.getD j undef=v at hv
   cases hv
   have e2:(cs.set j (.row id 0)).getD j .junk=.row id 0:=by simp [List.getD,hk]
   rw [e2]
   exact .rown id (zbl id hdid) (by simp [Gh.set])
  ·have e2:(cs.set j (.row id 0)).getD k .junk=cs.getD k .junk:=by simp [List.getD,List.getElem?_set_ne hkj]
   rw [e2]
   exact (hc k hk).mono (fun _ _=>⟨rfl,rfl,rfl⟩) (fun i hi=>zbl i hi) (Mem.le_refl _)
 ·rintro i ob b' rfl ho hb'
  rw [hself] at ho
  cases ho
  exact .inr ⟨_,_,rfl,hb1,hb'⟩
 ·rintro i i' _ _ _ rfl rfl _ _ _ _;rfl⟩
end Go.Abs
namespace Go.Abs
open Go
variable {P:Program} {env:Env} {σ:St}
mutual
theorem zsr:∀ a:AVal,sub a a
 |.agg cs=>by simp only [sub];exact zhN cs
 |.snil=>by simp [sub]
 |.pv _=>by simp [sub]
 |.ref ..=>by simp [sub]
 |.row ..=>by simp [sub]
 |.eref ..=>by simp [sub]
 |.csl ..=>by simp [sub]
 |.map _=>by simp [sub]
 |.tup _=>by simp [sub]
 |.clo _ _=>by simp [sub]
 |.junk=>by simp [sub]
theorem zhN:∀ l:List AVal,zsp l l
 |[]=>trivial
 |a::r=>⟨zsr a,zhN r⟩
end
end Go.Abs
namespace Go.Abs
open Go
mutual
def nz:AVal→AVal
 |.snil=>.pv (.slice [])
 |.agg cs=>.agg (nzL cs)
 |.pv p=>.pv p
 |.ref i o=>.ref i o
 |.row i n=>.row i n
 |.eref i a b c=>.eref i a b c
 |.csl i a b=>.csl i a b
 |.map i=>.map i
 |.tup vs=>.tup vs
 |.clo f cs=>.clo f cs
 |.junk=>.junk
def nzL:List AVal→List AVal
 |[]=>[]
 |a::r=>nz a::nzL r
end
def nzO:Option AObj→Option AObj
 |some (.cells cs)=>some (.cells (nzL cs))
 |o=>o
def ziY:List (Option AObj)→List (Option AObj)
 |[]=>[]
 |o::r=>nzO o::ziY r
def St.nz (σ:St):St:=⟨nzL σ.slots,ziY σ.objs⟩
theorem zcE:∀ l:List AVal,(nzL l).length=l.length
 |[]=>rfl
 |_::r=>by simp [nzL,zcE r]
theorem zj3:∀ (l:List AVal) (i:Nat),(nzL l).getD i .junk=Abs.nz (l.getD i .junk)
 |[],i=>by simp [nzL,List.getD,Abs.nz]
 |a::r,0=>by simp [nzL,List.getD]
 |a::r,i+1=>by have:=zj3 r i;simpa [nzL,List.getD] using this
theorem zhO:∀ l:List (Option AObj),(ziY l).length=l.length
 |[]=>rfl
 |_::r=>by simp [ziY,zhO r]
theorem znr:∀ (l:List (Option AObj)) (i:Nat),(ziY l).getD i none=nzO (l.getD i none)
 |[],i=>by simp [ziY,List.getD,nzO]
 |a::r,0=>by simp [ziY,List.getD]
 |a::r,i+1=>by have:=znr r i;simpa [ziY,List.getD] using this
theorem V.nz {g:Gh} {D:Nat→Prop} {M:Mem} {a:AVal} {v:Value} (h:V g D M a v):V g D M (Abs.nz a) v:=by
 induction h with
 |snil=>exact .pv .nils
 |agg cs vs hl _ ih=>exact .agg _ vs (by rw [zcE];exact hl) (fun i hi=>by rw [zcE] at hi;rw [zj3];exact ih i hi)
 |pv r=>exact .pv r
 |ref id off hd=>exact .ref id off hd
 |row id n hd hn=>exact .row id n hd hn
 |rown id hd hn=>exact .rown id hd hn
 |eref id i j sz hd=>exact .eref id i j sz hd
 |csl id n sz hd=>exact .csl id n sz hd
 |map id hd=>exact .map id hd
 |tup cs vs hl h _=>exact .tup cs vs hl h
 |clo f cs vs hl h _=>exact .clo f cs vs hl h
 |junk v=>exact .junk v
variable {env:Env} {pin:Nat} {σ:St}
theorem zuJ (id:Nat):σ.nz.obj id=nzO (σ.obj id):=znr _ _
theorem zhP {id:Nat} {o:AObj} (h:σ.nz.obj id=some o):∃ o',σ.obj id=some o'∧nzO (some o')=some o:=by
 rw [zuJ] at h
 cases ho:σ.obj id with
 |none=>rw [ho] at h;simp [nzO] at h
 |some o'=>rw [ho] at h;exact ⟨o',rfl,h⟩
theorem zj4 {g:Gh} {id:Nat} {o o':AObj} (h:nzO (some o')=some o):za0 g id o=za0 g id o':=by
 cases o'<;>simp [nzO] at h<;>subst h<;>rfl
theorem zbK.nz:zbK env pin σ σ.nz:=fun hl=>⟨by simp [St.nz,zhO,hl],fun E g M a w hR=>by
 have hdom:∀ id,σ.dom id→σ.nz.dom id:=fun id h=>by
  unfold St.dom at *
  rw [zuJ]
  cases ho:σ.obj id with
  |none=>exact absurd ho h
  |some o=>cases o<;>simp [nzO]
 refine ⟨g,M,⟨by simp [St.nz,zcE,hR.size],hR.defers,?_,?_,?_,?_,hR.sat,hR.M0,hR.Mnew,hR.size0,hR.same,?_,hR.os,hR.tape,hR.output⟩,Mem.le_refl _,fun k hk hd=>⟨⟨rfl,rfl,rfl⟩,hdom k hd⟩⟩
 ·intro i hi
  have e:σ.nz.slot i=Abs.nz (σ.slot i):=zj3 _ _
  rw [e]
  exact ((hR.slots i (by simpa [St.nz,zcE] using hi)).nz).mono (fun _ _=>⟨rfl,rfl,rfl⟩) hdom (Mem.le_refl _)
 ·intro id o ho
  obtain ⟨o',ho',he⟩:=zhP ho
  have hor:=hR.objs id o' ho'
  cases o' with
  |cells cs=>
   simp [nzO] at he
   subst he
   obtain ⟨vals,T,h1,h2,h3⟩:=hor
   refine ⟨vals,T,h1,by rw [zcE];exact h2,fun j hj=>?_⟩
   rw [zcE] at hj
   rw [zj3]
   exact ((h3 j hj).nz).mono (fun _ _=>⟨rfl,rfl,rfl⟩) hdom (Mem.le_refl _)
  |row sz xs=>simp [nzO] at he;subst he;exact hor
  |map kd es=>
   simp [nzO] at he;subst he
   obtain ⟨ents,clock,h1,h2,h3⟩:=hor
   refine ⟨ents,clock,h1,h2,fun i e hi=>?_⟩
   obtain ⟨en,a1,a2,a3,a4⟩:=h3 i e hi
   exact ⟨en,a1,a2,a3,a4.mono (fun _ _=>⟨rfl,rfl,rfl⟩) hdom (Mem.le_refl _)⟩
  |bh T e B n=>
   simp [nzO] at he;subst he
   obtain ⟨hd,hn,p,hh,hp⟩:=hor
   exact ⟨hdom _ hd,hn,p,hh,hp⟩
  |bb e s=>simp [nzO] at he;subst he;exact hor
  |dead=>simp [nzO] at he;subst he;trivial
 ·intro id id' o o' b h1 h2 h3 h4
  obtain ⟨p,hp,hpe⟩:=zhP h1
  obtain ⟨q,hq,hqe⟩:=zhP h2
  exact hR.apart id id' p q b hp hq (by rw [←zj4 hpe];exact h3) (by rw [←zj4 hqe];exact h4)
 ·intro id o b h1 h2
  obtain ⟨p,hp,hpe⟩:=zhP h1
  exact hR.offM id p b hp (by rw [←zj4 hpe];exact h2)
 ·intro id o b h1 h2
  obtain ⟨p,hp,hpe⟩:=zhP h1
  exact hR.own0 id p b hp (by rw [←zj4 hpe];exact h2)⟩
end Go.Abs
namespace Go.Abs
open Go
variable {P:Program} {env:Env} {pin:Nat} {σ:St} {Q:Exit→St→Prop}
abbrev Tr:=List (List Nat × List Nat)
end Go.Abs
namespace Go.Abs
open Go
variable {P:Program} {env:Env} {σ:St}
def zj5 (ι:Nat→Nat):List (Option AObj)→List (Option AObj)
 |[]=>[]
 |o::r=>o.map (zfD ι)::zj5 ι r
theorem zk9 (ι:Nat→Nat):∀ l:List (Option AObj),zj5 ι l=l.map (Option.map (zfD ι))
 |[]=>rfl
 |o::r=>by simp [zj5,zk9 ι r]
def zr9 (n:Nat→Bool):List (Option AObj)→Bool
 |[]=>true
 |none::r=>zr9 n r
 |some o::r=>zbA n o&&zr9 n r
theorem zj6 (n:Nat→Bool):∀ (l:List (Option AObj)) (o:AObj),zr9 n l=true→some o ∈ l→zbA n o=true
 |[],o,_,h=>by simp at h
 |none::r,o,h,hm=>by simp at hm;exact zj6 n r o h hm
 |some x::r,o,h,hm=>by
  simp only [zr9,Bool.and_eq_true] at h
  rcases List.mem_cons.1 hm with e|hm
  ·cases e;exact h.1
  ·exact zj6 n r o h.2 hm
def zfP (σ:St):List Nat→Bool
 |[]=>true
 |i::r=>(σ.obj i).isNone&&zfP σ r
theorem zji:∀ (l:List Nat) (i:Nat),zfP σ l=true→i ∈ l→σ.obj i=none
 |[],i,_,h=>by simp at h
 |x::r,i,h,hm=>by
  simp only [zfP,Bool.and_eq_true,Option.isNone_iff_eq_none] at h
  rcases List.mem_cons.1 hm with rfl|hm
  ·exact h.1
  ·exact zji r i h.2 hm
theorem zxH {o:Oper} {f:FuncId} {A vals:List AVal} {O vobjs:List (Option AObj)} {objs':List (Option AObj)} (ids news:List Nat)
  (ho:calls env σ o.op f A) (hent:∀ vargs w,(callFunc f vargs).run P w=.ok (.enter f vargs) w) (hobjs:ids.map σ.obj=O)
  (hA:zep (tau (ids++news)) vals=A) (hO:zj5 (tau (ids++news)) vobjs=O) (hsA:zaw (zak vobjs) vals=true) (hsO:zr9 (zak vobjs) vobjs=true)
  (hn:((ids++news).Nodup∧∀ id ∈ ids++news,id<env.nobj)) (hf:zfP σ news=true) (hl:objs'.length≤(ids++news).length) :
  CallFits P env σ o f A vals vobjs ids news objs':=
 ⟨ho,hent,hA.symm,by rw [hobjs];rw [←hO,zk9];rfl,hsA,fun ob h=>zj6 _ _ ob hsO h,hn.1,hn.2,fun id h=>zji _ id hf h,hl⟩
end Go.Abs
namespace Go.Abs
open Go
variable {P:Program} {env:Env} {pin:Nat} {σ:St} {Q:Exit→St→Prop}
inductive Tg {α:Type} (a:α):Type
 |mk:Tg a
noncomputable def cw (p:Prop) (v:AVal):AVal:=@ite AVal p (Classical.propDecidable p) v (.tup [])
theorem zjj {p:Prop} (h:p) (v:AVal):cw p v=v:=if_pos h
theorem zp4 {p:Prop} (h:¬ p) (v:AVal):cw p v=.tup []:=if_neg h
theorem zp5 (v:AVal):cw True v=v:=zjj trivial v
theorem zns (v:AVal):cw False v=.tup []:=zp4 id v
theorem zvj (v:AVal):cw (true=true) v=v:=zjj rfl v
def gw (v:AVal) (w:Bool):Option Prop:=
 match v with
 |.pv (.bool b)=>some (b=w)
 |.tup []=>some False
 |_=>none
theorem zp6 (b w:Bool):gw (.pv (.bool b)) w=some (b=w):=rfl
theorem zuK (w:Bool):gw (.tup []) w=some False:=rfl
theorem zAP (p:Prop) (y w:Bool):gw (cw p (.pv (.bool y))) w=some (p∧y=w):=by
 by_cases h:p
 ·rw [zjj h,zp6];congr 1;simp [h]
 ·rw [zp4 h,zuK];congr 1;simp [h]
def gd (σ:St):Option (Option (Nat × Bool))→Option Prop
 |none=>some True
 |some none=>none
 |some (some (t,w))=>gw (σ.slot t) w
theorem zvk (t x:Bool):(if t=true then AVal.pv (.bool true) else cw (t=false) (.pv (.bool x)))=.pv (.bool (t || x)):=by
 cases t
 ·simp [zjj]
 ·rfl
theorem zss (t x:Bool):(if t=true then cw (t=true) (.pv (.bool x)) else AVal.pv (.bool false))=.pv (.bool (t&&x)):=by
 cases t
 ·rfl
 ·simp [zjj]
theorem zxI (t x:Bool):(if t=true then AVal.pv (.bool true) else .pv (.bool x))=.pv (.bool (t || x)):=by cases t<;>rfl
theorem zxJ (t x:Bool):(if t=true then AVal.pv (.bool x) else .pv (.bool false))=.pv (.bool (t&&x)):=by cases t<;>rfl
abbrev KT:=Option Tr→Option Value→St→Prop
def zhQ:Op→Option (FuncId × List Operand)
 |.call ⟨.value (.func f),args,_⟩=>some (f,args.toList)
 |_=>none
def zmi:Op→Option (Nat × List Operand)
 |.call ⟨.value (.tmp t),args,_⟩=>some (t,args.toList)
 |_=>none
def zmj:Op→Option Operand
 |.panic x=>some x
 |_=>none
def zhR:Op→Bool
 |.call ⟨.value _,_,_⟩=>false
 |.panic _=>false
 |_=>true
def zbF (acc:Option Tr) (x:List Nat × List Nat):Option Tr:=acc.map (·++[x])
theorem zmk (x:List Nat × List Nat):zbF none x=none:=rfl
theorem zml (l:Tr) (x:List Nat × List Nat):zbF (some l) x=some (l++[x]):=rfl
def zoM:PVal→Option Value
 |.int k n=>some (.int k n)
 |.bool b=>some (.bool b)
 |.str s=>some (.string ⟨s.toArray⟩)
 |_=>none
def zjk:List PVal→Option (List Value)
 |[]=>some []
 |p::r=>match zoM p,zjk r with
  |some v,some vs=>some (v::vs)
  |_,_=>none
def zsa:AVal→Option Value
 |.pv (.ifc t true cs)=>match zjk cs with
  |some vs=>some (.iface t (.agg vs.toArray))
  |none=>none
 |.pv (.ifc t false [c])=>match zoM c with
  |some v=>some (.iface t v)
  |none=>none
 |_=>none
theorem znt {p:PVal} {v u:Value} {M:Mem} (h:zoM p=some v) (r:Rd M p u):u=v:=by
 unfold zoM at h
 split at h<;>cases h
 all_goals cases r;rfl
theorem zla {M:Mem}:∀ {cs:List PVal} {vs us:List Value},zjk cs=some vs→us.length=cs.length→(∀ i,i<cs.length→Rd M (cs.getD i .nilptr) (us.getD i undef))→us=vs
 |[],vs,us,h,hl,_=>by cases h;simpa using hl
 |c::r,vs,us,h,hl,hr=>by
  unfold zjk at h
  split at h
  ·rename_i v ws h1 h2
   cases h
   match us,hl with
   |u::us',hl=>
    have e1:=znt h1 (hr 0 (by simp))
    have e2:=zla h2 (us:=us') (by simpa using hl) (fun i hi=>hr (i+1) (by simpa using hi))
    rw [e2]
    congr 1
  ·cases h
theorem zvl {x:AVal} {v:Value} (h:zsa x=some v):∃ p,x=.pv p∧∀ M u,Rd M p u→u=v∧∃ t y,v=.iface t y:=by
 unfold zsa at h
 split at h
 ·split at h
  ·rename_i t cs vs hs
   cases h
   refine ⟨_,rfl,fun M u r=>?_⟩
   cases r with
   |ifca t cs us hl hr=>rw [zla hs hl hr];exact ⟨rfl,_,_,rfl⟩
  ·cases h
 ·split at h
  ·rename_i t c v hs
   cases h
   refine ⟨_,rfl,fun M u r=>?_⟩
   cases r with
   |ifco t c u hr=>rw [znt hs hr];exact ⟨rfl,_,_,rfl⟩
  ·cases h
 ·cases h
def Ctr (P:Program) (env:Env) (f:FuncId) (vals:List AVal) (σ:St) (K:List Nat→Eff→Prop) (KP:Value→St→Prop):Prop:=
 (∃ cargs cobjs ids news res objs',AC P env.gl f cargs cobjs res objs' ∧
  (∀ (o:Oper),calls env σ o.op f vals→CallFits P env σ o f vals cargs cobjs ids news objs') ∧
  K (ids++news) ⟨ren (tau (ids++news)) res,zaH (tau (ids++news)) (ids++news) 0 objs'⟩) ∨
 (∃ cargs cobjs ids news x objs',AP P env.gl f cargs cobjs x objs' ∧
  (∀ (o:Oper),calls env σ o.op f vals→CallFits P env σ o f vals cargs cobjs ids news objs') ∧
  KP x ⟨σ.slots,zaA σ.objs (zaH (tau (ids++news)) (ids++news) 0 objs')⟩)
def VL (P:Program) (env:Env) (K:KT) (t:Tg K):List COp→Option Tr→St→Prop
 |[],acc,σ=>K acc none σ
 |c::rest,acc,σ=>match gd σ c.guard with
  |none=>False
  |some p=>(p→match zhQ c.op,zmi c.op,zmj c.op with
    |some (f,args),_,_=>Ctr P env f (args.map (zaf env σ)) σ (fun T e=>VL P env K t rest (zbF acc (T,e.upd.map Prod.fst)) (σ.app c.dst e)) fun x σ'=>K acc (some x) σ'
    |none,some (u,args),_=>match σ.slot u with
     |.clo f cs=>Ctr P env f (args.map (zaf env σ)++cs) σ (fun T e=>VL P env K t rest (zbF acc (T,e.upd.map Prod.fst)) (σ.app c.dst e)) fun x σ'=>K acc (some x) σ'
     |_=>False
    |none,none,some x=>match zsa (zaf env σ x) with
     |some v=>K acc (some v) σ
     |none=>False
    |none,none,none=>zhR c.op=true∧match aop env c.dst (zaf env σ) σ.obj c.op with
     |some e=>VL P env K t rest (zbF acc (za8 env c.dst (zaf env σ) c.op,e.upd.map Prod.fst)) (σ.app c.dst e)
     |none=>False) ∧
   (¬ p→VL P env K t rest (zbF acc ([],[])) (σ.app c.dst ⟨.tup [],[]⟩))
def VX (P:Program) (env:Env) (K:KT) (t:Tg K) (p:Prop) (r:Option Eff) (T:List Nat) (d:Option Nat) (rest:List COp) (acc:Option Tr) (σ:St):Prop:=
 (p→match r with
  |some e=>VL P env K t rest (zbF acc (T,e.upd.map Prod.fst)) (σ.app d e)
  |none=>False)∧(¬ p→VL P env K t rest (zbF acc ([],[])) (σ.app d ⟨.tup [],[]⟩))
def CK (P:Program) (env:Env) (K:KT) (t:Tg K) (p:Prop) (f:FuncId) (vals:List AVal) (d:Option Nat) (rest:List COp) (acc:Option Tr) (σ:St):Prop:=
 (p→Ctr P env f vals σ (fun T e=>VL P env K t rest (zbF acc (T,e.upd.map Prod.fst)) (σ.app d e)) fun x σ'=>K acc (some x) σ')∧(¬ p→VL P env K t rest (zbF acc ([],[])) (σ.app d ⟨.tup [],[]⟩))
def CL (P:Program) (env:Env) (K:KT) (t:Tg K) (p:Prop) (v:AVal) (vals:List AVal) (d:Option Nat) (rest:List COp) (acc:Option Tr) (σ:St):Prop:=
 (p→match v with
  |.clo f cs=>Ctr P env f (vals++cs) σ (fun T e=>VL P env K t rest (zbF acc (T,e.upd.map Prod.fst)) (σ.app d e)) fun x σ'=>K acc (some x) σ'
  |_=>False)∧(¬ p→VL P env K t rest (zbF acc ([],[])) (σ.app d ⟨.tup [],[]⟩))
def PX (P:Program) (env:Env) (K:KT) (t:Tg K) (p:Prop) (v:Option Value) (d:Option Nat) (rest:List COp) (acc:Option Tr) (σ:St):Prop:=
 (p→match v with
  |some v=>K acc (some v) σ
  |none=>False)∧(¬ p→VL P env K t rest (zbF acc ([],[])) (σ.app d ⟨.tup [],[]⟩))
def VG (P:Program) (env:Env) (K:KT) (t:Tg K) (g:Option Prop) (d:Option Nat) (op:Op) (rest:List COp) (acc:Option Tr) (σ:St):Prop:=
 match g with
 |none=>False
 |some p=>match zhQ op,zmi op,zmj op with
  |some (f,args),_,_=>CK P env K t p f (args.map (zaf env σ)) d rest acc σ
  |none,some (u,args),_=>CL P env K t p (σ.slot u) (args.map (zaf env σ)) d rest acc σ
  |none,none,some x=>PX P env K t p (zsa (zaf env σ x)) d rest acc σ
  |none,none,none=>(p→zhR op=true)∧VX P env K t p (aop env d (zaf env σ) σ.obj op) (za8 env d (zaf env σ) op) d rest acc σ
theorem zxK (K:KT) (t:Tg K) (acc:Option Tr) (σ:St):VL P env K t [] acc σ=K acc none σ:=rfl
theorem zvm (K:KT) (t:Tg K) (d:Option Nat) (op:Op) (g:Option (Option (Nat × Bool))) (rest:List COp) (acc:Option Tr) (σ:St):VL P env K t (⟨d,op,g⟩::rest) acc σ=VG P env K t (gd σ g) d op rest acc σ:=by
 unfold VL VG CK VX CL PX
 cases gd σ g with
 |none=>rfl
 |some p=>
  dsimp only
  cases zhQ op with
  |some q=>rfl
  |none=>
   cases zmi op with
   |some q=>rfl
   |none=>
    cases zmj op with
    |some q=>rfl
    |none=>
     apply propext
     constructor
     ·rintro ⟨h1,h2⟩;exact ⟨fun hp=>(h1 hp).1,fun hp=>(h1 hp).2,h2⟩
     ·rintro ⟨h0,h1,h2⟩;exact ⟨fun hp=>⟨h0 hp,h1 hp⟩,h2⟩
theorem zvn (K:KT) (t:Tg K) (p:Prop) (d:Option Nat) (f:FuncId) (args:Array Operand) (tys:Array TypeId) (rest:List COp) (acc:Option Tr) (σ:St) :
  VG P env K t (some p) d (.call ⟨.value (.func f),args,tys⟩) rest acc σ=CK P env K t p f (args.toList.map (zaf env σ)) d rest acc σ:=rfl
theorem zxL (K:KT) (t:Tg K) (p:Prop) (d:Option Nat) (u:Nat) (args:Array Operand) (tys:Array TypeId) (rest:List COp) (acc:Option Tr) (σ:St) :
  VG P env K t (some p) d (.call ⟨.value (.tmp u),args,tys⟩) rest acc σ=CL P env K t p (σ.slot u) (args.toList.map (zaf env σ)) d rest acc σ:=rfl
theorem zxM (K:KT) (t:Tg K) (p:Prop) (d:Option Nat) (x:Operand) (rest:List COp) (acc:Option Tr) (σ:St) :
  VG P env K t (some p) d (.panic x) rest acc σ=PX P env K t p (zsa (zaf env σ x)) d rest acc σ:=rfl
theorem zco (K:KT) (t:Tg K) (p:Prop) (d:Option Nat) (op:Op) (h:(zhQ op).isNone=true∧zhR op=true) (rest:List COp) (acc:Option Tr) (σ:St) :
  VG P env K t (some p) d op rest acc σ=VX P env K t p (aop env d (zaf env σ) σ.obj op) (za8 env d (zaf env σ) op) d rest acc σ:=by
 unfold VG
 dsimp only
 have h0:zhQ op=none:=by simpa using h.1
 have h1:zmi op=none:=by
  unfold zmi
  split
  ·simp [zhR] at h
  ·rfl
 have h2:zmj op=none:=by
  unfold zmj
  split
  ·simp [zhR] at h
  ·rfl
 rw [h0,h1,h2]
 simp [h.2]
theorem zxN (K:KT) (t:Tg K) (p:Prop) (f:Nat) (cs vals:List AVal) (d:Option Nat) (rest:List COp) (acc:Option Tr) (σ:St):CL P env K t p (.clo f cs) vals d rest acc σ=CK P env K t p f (vals++cs) d rest acc σ:=rfl
theorem zvo (K:KT) (t:Tg K) (v:Value) (d:Option Nat) (rest:List COp) (acc:Option Tr) (σ:St):PX P env K t True (some v) d rest acc σ=K acc (some v) σ:=by simp [PX]
theorem zvp (K:KT) (t:Tg K) (e:Eff) (T:List Nat) (d:Option Nat) (rest:List COp) (acc:Option Tr) (σ:St):VX P env K t True (some e) T d rest acc σ=VL P env K t rest (zbF acc (T,e.upd.map Prod.fst)) (σ.app d e):=by simp [VX]
theorem zst (K:KT) (t:Tg K) (r:Option Eff) (T:List Nat) (d:Option Nat) (rest:List COp) (acc:Option Tr) (σ:St):VX P env K t False r T d rest acc σ=VL P env K t rest (zbF acc ([],[])) (σ.app d ⟨.tup [],[]⟩):=by simp [VX]
theorem zvq (K:KT) (t:Tg K) (p:Prop) (v:AVal) (T:List Nat) (d:Option Nat) (rest:List COp) (σ:St):VX P env K t p (some ⟨v,[]⟩) T d rest none σ=VL P env K t rest none (σ.app d ⟨cw p v,[]⟩):=by
 by_cases h:p
 ·simp [VX,h,zp5,zbF]
 ·simp [VX,h,zns,zbF]
theorem zxO (K:KT) (t:Tg K) (p q:Prop) [Decidable q] (x:Option Eff) (T:List Nat) (d:Option Nat) (rest:List COp) (acc:Option Tr) (σ:St):VX P env K t p (if q then x else none) T d rest acc σ=((p→q)∧VX P env K t p x T d rest acc σ):=by
 by_cases h:p
 ·by_cases hq:q<;>simp [VX,h,hq]
 ·simp [VX,h]
theorem zvr (K:KT) (t:Tg K) (p q:Prop) [Decidable q] (x:Option Eff) (T:List Nat) (d:Option Nat) (rest:List COp) (acc:Option Tr) (σ:St):VX P env K t p (if q then none else x) T d rest acc σ=((p→¬ q)∧VX P env K t p x T d rest acc σ):=by
 by_cases h:p
 ·by_cases hq:q<;>simp [VX,h,hq]
 ·simp [VX,h]
theorem zsu (K:KT) (t:Tg K) (f:FuncId) (vals:List AVal) (d:Option Nat) (rest:List COp) (acc:Option Tr) (σ:St):CK P env K t False f vals d rest acc σ=VL P env K t rest (zbF acc ([],[])) (σ.app d ⟨.tup [],[]⟩):=by simp [CK]
@[congr] theorem zAe {K:KT} {t:Tg K} {l l':List COp} {acc acc':Option Tr} {σ σ':St} (h1:l=l') (h2:acc=acc') (h3:σ=σ'):VL P env K t l acc σ=VL P env K t l' acc' σ':=by rw [h1,h2,h3]
@[congr] theorem zAf {K:KT} {t:Tg K} {p p':Prop} {r r':Option Eff} {T T':List Nat} {d:Option Nat} {rest:List COp} {acc:Option Tr} {σ:St} (h1:p=p') (h2:p'→r=r') (h3:p'→T=T') :
  VX P env K t p r T d rest acc σ=VX P env K t p' r' T' d rest acc σ:=by
 subst h1
 by_cases h:p
 ·rw [h2 h,h3 h]
 ·simp [VX,h]
@[congr] theorem zAg {K:KT} {t:Tg K} {p p':Prop} {f:FuncId} {vals vals':List AVal} {d:Option Nat} {rest:List COp} {acc:Option Tr} {σ:St} (h1:p=p') (h2:p'→vals=vals') :
  CK P env K t p f vals d rest acc σ=CK P env K t p' f vals' d rest acc σ:=by
 subst h1
 by_cases h:p
 ·rw [h2 h]
 ·simp [CK,h]
@[congr] theorem zAh {K:KT} {t:Tg K} {p p':Prop} {v v':AVal} {vals vals':List AVal} {d:Option Nat} {rest:List COp} {acc:Option Tr} {σ:St} (h1:p=p') (h2:p'→vals=vals') (h3:p'→v=v') :
  CL P env K t p v vals d rest acc σ=CL P env K t p' v' vals' d rest acc σ:=by
 subst h1
 by_cases h:p
 ·rw [h2 h,h3 h]
 ·simp [CL,h]
@[congr] theorem zAi {K:KT} {t:Tg K} {p p':Prop} {v v':Option Value} {d:Option Nat} {rest:List COp} {acc:Option Tr} {σ:St} (h1:p=p') (h3:p'→v=v') :
  PX P env K t p v d rest acc σ=PX P env K t p' v' d rest acc σ:=by
 subst h1
 by_cases h:p
 ·rw [h3 h]
 ·simp [PX,h]
@[congr] theorem zAj {K:KT} {t:Tg K} {g g':Option Prop} {d:Option Nat} {op:Op} {rest:List COp} {acc:Option Tr} {σ:St} (h1:g=g'):VG P env K t g d op rest acc σ=VG P env K t g' d op rest acc σ:=by rw [h1]
def REG (ops:Array Oper) (t:Tg ops) (tr:Tr):Prop:=zxp ops (anc ops) (zhM tr)=true
def zvs (ops:Array Oper) (t:Tg ops) (tr:Tr):Prop:=(zxp ops (anc ops) (zhM tr)&&zp1 ops tr.length&&tr.all fun r=>r.2.isEmpty)=true
def KQ (ops:Array Oper) (Q:Exit→St→Prop) (t:Tg (ops,Q)):KT
 |none,none,σ=>Q .normal σ
 |some tr,none,σ=>REG ops .mk tr∧Q .normal σ
 |none,some x,σ=>Q (.panic (ziW x)) σ
 |some tr,some x,σ=>zvs ops .mk tr∧∀ slots,Q (.panic (ziW x)) ⟨slots,σ.objs⟩
theorem zvt (ops:Array Oper) (t:Tg (ops,Q)) (σ:St):KQ ops Q t none none σ=Q .normal σ:=rfl
theorem zvu (ops:Array Oper) (t:Tg (ops,Q)) (tr:Tr) (σ:St):KQ ops Q t (some tr) none σ=(REG ops .mk tr∧Q .normal σ):=rfl
theorem zAQ (ops:Array Oper) (t:Tg (ops,Q)) (x:Value) (σ:St):KQ ops Q t none (some x) σ=Q (.panic (ziW x)) σ:=rfl
theorem zAR (ops:Array Oper) (t:Tg (ops,Q)) (tr:Tr) (x:Value) (σ:St):KQ ops Q t (some tr) (some x) σ=(zvs ops .mk tr∧∀ slots,Q (.panic (ziW x)) ⟨slots,σ.objs⟩):=rfl
@[congr] theorem zAk {ops:Array Oper} {t:Tg (ops,Q)} {acc acc':Option Tr} {x x':Option Value} {σ σ':St} (h1:acc=acc') (h3:x=x') (h2:σ=σ'):KQ ops Q t acc x σ=KQ ops Q t acc' x' σ':=by rw [h1,h2,h3]
def SCd (v:AVal) (A B:Prop) (t:Tg (A,B)):Prop:=∃ b,v=.pv (.bool b)∧(b=true→A)∧(b=false→B)
def SB (b:Bool) (A B:Prop) (t:Tg (A,B)):Prop:=(b=true→A)∧(b=false→B)
@[congr] theorem zxP {v v':AVal} {A B:Prop} (h:v=v'):SCd v A B .mk=SCd v' A B .mk:=by rw [h]
theorem zj7 (b:Bool) (A B:Prop):SCd (.pv (.bool b)) A B .mk=SB b A B .mk:=by
 apply propext
 constructor
 ·rintro ⟨b',h,h1,h2⟩;cases h;exact ⟨h1,h2⟩
 ·rintro ⟨h1,h2⟩;exact ⟨b,rfl,h1,h2⟩
theorem zsv (A B:Prop):SCd (.pv (.bool true)) A B .mk=A:=by simp [zj7,SB]
theorem zp7 (A B:Prop):SCd (.pv (.bool false)) A B .mk=B:=by simp [zj7,SB]
theorem zvv (A B:Prop):SB true A B .mk=A:=by simp [SB]
theorem zsw (A B:Prop):SB false A B .mk=B:=by simp [SB]
@[congr] theorem zAl {b b':Bool} {A A' B B':Prop} (h:b=b') (h1:b'=true→A=A') (h2:b'=false→B=B'):SB b A B .mk=SB b' A' B' .mk:=by
 subst h
 cases b
 ·simp [SB,h2 rfl]
 ·simp [SB,h1 rfl]
theorem SW.label {l:Nat} (h:Q .normal σ):SW P env pin (.label l) σ Q:=fun hl _ g M _ _ hR _=>wp_label ⟨σ,g,M,h,hR,Mem.le_refl _,Agr.refl _ _ _,hl⟩
def zhS (Q:Exit→St→Prop):Exit→St→Prop
 |.goto _,_=>False
 |e,σ=>Q e σ
theorem SW.scope {c:Code} (h:SW P env pin c σ (zhS Q)):SW P env pin (.scope c) σ Q:=fun hl E g M a w hR hG=>
 wp_scope_straight (wp_mono (h hl E g M a w hR hG) fun e a' w' ⟨σ',g',M',q,r⟩=>by
  cases e with
  |goto l=>exact q.elim
  |_=>exact ⟨σ',g',M',q,r⟩)
def LW (P:Program) (env:Env) (pin:Nat) (c:Code) (σ:St) (Q:Exit→St→Prop) (t:Tg (c,Q)):Prop:=SW P env pin c σ Q
def VC (P:Program) (env:Env) (pin:Nat):Code→St→(Exit→St→Prop)→Prop
 |.skip,σ,Q=>Q .normal σ
 |.label _,σ,Q=>Q .normal σ
 |.ret,σ,Q=>Q .ret σ
 |.exit id,σ,Q=>Q (.exit id) σ
 |.seq x y,σ,Q=>VC P env pin x σ (zfN (fun σ'=>VC P env pin y σ' Q) Q)
 |.block id c,σ,Q=>VC P env pin c σ (zes id Q)
 |.scope c,σ,Q=>VC P env pin c σ (zhS Q)
 |.cond c x y,σ,Q=>SCd (zaf env σ c) (VC P env pin x σ Q) (VC P env pin y σ Q) .mk
 |.region _ ops dr,σ,Q=>VL P env (KQ ops Q .mk) .mk (zj2 ops.toList ops.toList) (if dr then some [] else none) σ
 |c,σ,Q=>LW P env pin c σ Q .mk
theorem zvw (σ:St):VC P env pin .skip σ Q=Q .normal σ:=rfl
theorem zsx (l:Nat) (σ:St):VC P env pin (.label l) σ Q=Q .normal σ:=rfl
theorem zsy (c:Code) (σ:St):VC P env pin (.scope c) σ Q=VC P env pin c σ (zhS Q):=rfl
theorem zsz (σ:St):zhS Q .normal σ=Q .normal σ:=rfl
theorem zsA (σ:St):zhS Q .ret σ=Q .ret σ:=rfl
theorem zsB (c:List PanicEntry) (σ:St):zhS Q (.panic c) σ=Q (.panic c) σ:=rfl
theorem zvx (N:St→Prop) (c:List PanicEntry) (σ:St):zfN N Q (.panic c) σ=Q (.panic c) σ:=rfl
theorem zsC (id:Nat) (c:List PanicEntry) (σ:St):zes id Q (.panic c) σ=Q (.panic c) σ:=rfl
theorem zsD (id:Nat) (σ:St):zhS Q (.exit id) σ=Q (.exit id) σ:=rfl
theorem zxQ (σ:St):VC P env pin .ret σ Q=Q .ret σ:=rfl
theorem zvy (id:Nat) (σ:St):VC P env pin (.exit id) σ Q=Q (.exit id) σ:=rfl
theorem zxR (x y:Code) (σ:St):VC P env pin (.seq x y) σ Q=VC P env pin x σ (zfN (fun σ'=>VC P env pin y σ' Q) Q):=rfl
theorem zsE (id:Nat) (c:Code) (σ:St):VC P env pin (.block id c) σ Q=VC P env pin c σ (zes id Q):=rfl
theorem zvz (c:Operand) (x y:Code) (σ:St):VC P env pin (.cond c x y) σ Q=SCd (zaf env σ c) (VC P env pin x σ Q) (VC P env pin y σ Q) .mk:=rfl
theorem zxS (id:Nat) (ops:Array Oper) (σ:St):VC P env pin (.region id ops false) σ Q=VL P env (KQ ops Q .mk) .mk (zj2 ops.toList ops.toList) none σ:=rfl
theorem zvA (id:Nat) (ops:Array Oper) (σ:St):VC P env pin (.region id ops true) σ Q=VL P env (KQ ops Q .mk) .mk (zj2 ops.toList ops.toList) (some []) σ:=rfl
theorem zvB (c:Code) (σ:St):VC P env pin (.loop c) σ Q=LW P env pin (.loop c) σ Q .mk:=rfl
theorem zvC (N:St→Prop) (σ:St):zfN N Q .normal σ=N σ:=rfl
theorem zvD (N:St→Prop) (σ:St):zfN N Q .ret σ=Q .ret σ:=rfl
theorem zvE (N:St→Prop) (id:Nat) (σ:St):zfN N Q (.exit id) σ=Q (.exit id) σ:=rfl
theorem zsF (id:Nat) (σ:St):zes id Q .normal σ=Q .normal σ:=rfl
theorem zsG (id:Nat) (σ:St):zes id Q .ret σ=Q .ret σ:=rfl
theorem zsH (id:Nat) (σ:St):zes id Q (.exit id) σ=Q .normal σ:=by simp [zes]
theorem zsI (id id':Nat) (h:id'≠id) (σ:St):zes id Q (.exit id') σ=Q (.exit id') σ:=by simp [zes,h]
theorem zAS {c:COp} {p:Prop} (h:gd σ c.guard=some p):(p→znp σ c.guard=some true)∧(¬ p→znp σ c.guard=some false):=by
 unfold gd at h
 unfold znp
 split at h
 ·rename_i e;cases h;(try rw [e]);simp
 ·cases h
 ·rename_i t w e
  (try rw [e])
  (try dsimp only)
  unfold gw at h
  split at h
  ·rename_i b eb
   cases h
   (try rw [eb])
   (try dsimp only)
   cases b<;>cases w<;>simp
  ·rename_i et;cases h;(try rw [et]);simp
  ·cases h
theorem zlb {op:Op} {f:FuncId} {args:List Operand} (h:zhQ op=some (f,args)):calls env σ op f (args.map (zaf env σ)):=by
 unfold zhQ at h
 split at h
 ·rename_i f' a t;cases h;exact .inl ⟨a,t,rfl,rfl⟩
 ·cases h
theorem znu {op:Op} {u:Nat} {args:List Operand} (h:zmi op=some (u,args)) {f:Nat} {cs:List AVal} (hs:σ.slot u=.clo f cs):calls env σ op f (args.map (zaf env σ)++cs):=by
 unfold zmi at h
 split at h
 ·rename_i u' a t;cases h;exact .inr ⟨_,a,t,cs,rfl,hs,rfl⟩
 ·cases h
theorem zsJ {op:Op} {x:Operand} (h:zmj op=some x):op=.panic x:=by
 unfold zmj at h
 split at h
 ·cases h;rfl
 ·cases h
theorem VL.step {K:KT} {t:Tg K} {ops:Array Oper} {o:Oper} {rest:List COp} {acc:Option Tr} (h:VL P env K t (⟨o.dst,o.op,zvg ops.toList o.guard⟩::rest) acc σ) :
  (∃ T e,GStep P env ops o σ T e∧VL P env K t rest (zbF acc (T,e.upd.map Prod.fst)) (σ.app o.dst e))∨∃ x upd,GPStep P env ops o σ x upd∧K acc (some x) ⟨σ.slots,zaA σ.objs upd⟩:=by
 unfold VL at h
 split at h
 ·exact h.elim
 ·rename_i p hp
  obtain ⟨g1,g2⟩:=zAS hp
  by_cases hq:p
  ·have hg:zdc ops σ o=some true:=by rw [znq];exact g1 hq
   have h1:=h.1 hq
   split at h1
   ·rename_i f args hcall
    rcases h1 with ⟨cargs,cobjs,ids,news,res,objs',hac,hfit,hk2⟩|⟨cargs,cobjs,ids,news,x,objs',hac,hfit,hk2⟩
    ·exact .inl ⟨_,_,.run _ _ hg (.call f _ cargs cobjs ids news res objs' (hfit o (zlb hcall)) hac),hk2⟩
    ·exact .inr ⟨x,_,⟨hg,.call f _ cargs cobjs ids news x objs' (hfit o (zlb hcall)) hac⟩,hk2⟩
   ·rename_i u args hcall0 hcall
    split at h1
    ·rename_i f cs hs
     rcases h1 with ⟨cargs,cobjs,ids,news,res,objs',hac,hfit,hk2⟩|⟨cargs,cobjs,ids,news,x,objs',hac,hfit,hk2⟩
     ·exact .inl ⟨_,_,.run _ _ hg (.call f _ cargs cobjs ids news res objs' (hfit o (znu hcall hs)) hac),hk2⟩
     ·exact .inr ⟨x,_,⟨hg,.call f _ cargs cobjs ids news x objs' (hfit o (znu hcall hs)) hac⟩,hk2⟩
    ·exact h1.elim
   ·rename_i x hc1 hc2 hpan
    split at h1
    ·rename_i v hv
     obtain ⟨q,hq1,hq2⟩:=zvl hv
     exact .inr ⟨v,[],⟨hg,.pan x q v (zsJ hpan) hq1 hq2⟩,h1⟩
    ·exact h1.elim
   ·obtain ⟨hn,h1⟩:=h1
    split at h1
    ·rename_i e he
     exact .inl ⟨_,e,.run _ e hg (.op e he),h1⟩
    ·exact h1.elim
  ·exact .inl ⟨_,_,.skip (by rw [znq];exact g2 hq),h.2 hq⟩
theorem VL.to0 {K:KT} {t:Tg K} {ops:Array Oper}:∀ (l:List Oper) (acc:List Rec) (σ:St),VL P env K t (zj2 ops.toList l) none σ→RRP P env ops (fun _ σ=>K none none σ) (fun _ x upd σ=>K none (some x) ⟨σ.slots,zaA σ.objs upd⟩) l acc σ
 |[],_,_,h=>h
 |o::rest,acc,σ,h=>by
  rcases VL.step h with ⟨T,e,h1,h2⟩|⟨x,upd,h1,h2⟩
  ·exact .inl ⟨T,e,h1,VL.to0 rest _ _ h2⟩
  ·exact .inr ⟨x,upd,h1,h2⟩
theorem VL.to1 {K:KT} {t:Tg K} {ops:Array Oper}:∀ (l:List Oper) (acc:List Rec) (σ:St),VL P env K t (zj2 ops.toList l) (some (acc.map zfO)) σ→RRP P env ops (fun tr σ=>K (some (tr.map zfO)) none σ) (fun tr x upd σ=>K (some (tr.map zfO)) (some x) ⟨σ.slots,zaA σ.objs upd⟩) l acc σ
 |[],_,_,h=>h
 |o::rest,acc,σ,h=>by
  rcases VL.step h with ⟨T,e,h1,h2⟩|⟨x,upd,h1,h2⟩
  ·exact .inl ⟨T,e,h1,VL.to1 rest (acc++[⟨T,e⟩]) _ (by simpa [zfO,zbF] using h2)⟩
  ·exact .inr ⟨x,upd,h1,h2⟩
theorem RRP.imp {ops:Array Oper} {K K':List Rec→St→Prop} {KP KP':List Rec→Value→List (Nat × AObj)→St→Prop} (hk:∀ tr σ,K tr σ→K' tr σ) (hp:∀ tr x u σ,KP tr x u σ→KP' tr x u σ) :
  ∀ (l:List Oper) (acc:List Rec) (σ:St),RRP P env ops K KP l acc σ→RRP P env ops K' KP' l acc σ
 |[],_,_,h=>hk _ _ h
 |_::rest,acc,σ,h=>by
  rcases h with ⟨T,e,h1,h2⟩|⟨x,upd,h1,h2⟩
  ·exact .inl ⟨T,e,h1,RRP.imp hk hp rest _ _ h2⟩
  ·exact .inr ⟨x,upd,h1,hp _ _ _ _ h2⟩
theorem zp8 {N N':St→Prop} (h:∀ σ,N σ→N' σ):∀ e σ,zfN N Q e σ→zfN N' Q e σ:=by
 intro e σ hh
 cases e<;>first|exact h _ hh|exact hh
theorem VC.to (hE:zaO P env) (hm:P.follows .mixedOrders=true):∀ (c:Code) {σ:St} {Q:Exit→St→Prop},VC P env pin c σ Q→SW P env pin c σ Q
 |.skip,_,_,h=>SW.skip h
 |.ret,_,_,h=>SW.ret h
 |.exit _,_,_,h=>SW.exit h
 |.seq x y,_,_,h=>SW.seq ((VC.to hE hm x h).mono (zp8 fun _ hh=>VC.to hE hm y hh))
 |.block _ c,_,_,h=>SW.block (VC.to hE hm c h)
 |.cond _ x y,_,_,h=>by
  obtain ⟨b,hb,h1,h2⟩:=h
  exact SW.cond hb (fun e=>VC.to hE hm x (h1 e)) (fun e=>VC.to hE hm y (h2 e))
 |.region _ ops dr,σ,Q,h=>by
  cases dr with
  |false=>exact SW.regionP hE (VL.to0 _ [] _ h)
  |true=>
   refine SW.drawP hE hm (RRP.imp (fun tr σ hh=>?_) (fun tr x u σ hh=>?_) _ _ _ (VL.to1 ops.toList [] σ h))
   ·exact ⟨zp3 hh.1,hh.2⟩
   ·obtain ⟨h1,h2⟩:=hh
    simp only [zvs,Bool.and_eq_true,List.length_map,List.all_map] at h1
    refine ⟨zp3 h1.1.1,h1.1.2,fun r hr=>?_,h2⟩
    have:=List.all_eq_true.1 h1.2 r hr
    simpa [zfO] using this
 |.loop _,_,_,h=>h
 |.rangeFunc ..,_,_,h=>h
 |.scope c,_,_,h=>SW.scope (VC.to hE hm c h)
 |.label _,_,_,h=>SW.label h
 |.goto _,_,_,h=>h
 |.refuse _,_,_,h=>h
end Go.Abs
namespace Go.Abs
open Go
variable {P:Program} {env:Env} {pin:Nat} {σ:St} {Q:Exit→St→Prop}
def ziZ (o:Option AObj) (n:Nat) (xs:List (List PVal)):Prop:=∃ sz,o=some (.row sz xs)∧n=xs.length
mutual
def rdV (ob:Nat→Option AObj):AVal→AVal→Prop
 |.pv p,b=>match b with|.pv q=>p=q|.junk=>True|_=>False
 |.snil,b=>match b with|.pv (.slice xs)=>xs=[]|.snil=>True|.junk=>True|_=>False
 |.row id n,b=>match b with|.pv (.slice xs)=>ziZ (ob id) n xs|.junk=>True|_=>False
 |.agg cs,b=>match b with|.agg ds=>rdL ob cs ds|.junk=>True|_=>False
 |.tup cs,b=>match b with|.tup ds=>rdL ob cs ds|.junk=>True|_=>False
 |.ref _ _,b=>match b with|.junk=>True|_=>False
 |.eref _ _ _ _,b=>match b with|.junk=>True|_=>False
 |.csl _ _ _,b=>match b with|.junk=>True|_=>False
 |.map _,b=>match b with|.junk=>True|_=>False
 |.clo _ _,b=>match b with|.junk=>True|_=>False
 |.junk,b=>match b with|.junk=>True|_=>False
def rdL (ob:Nat→Option AObj):List AVal→List AVal→Prop
 |[],l=>match l with|[]=>True|_=>False
 |a::r,l=>match l with|b::s=>rdV ob a b∧rdL ob r s|[]=>False
end
theorem zxT (ob:Nat→Option AObj) (p q:PVal):rdV ob (.pv p) (.pv q)=(p=q):=by simp [rdV]
theorem zvF (ob:Nat→Option AObj) (xs:List (List PVal)):rdV ob .snil (.pv (.slice xs))=(xs=[]):=by simp [rdV]
theorem zuL (ob:Nat→Option AObj) (id n:Nat) (xs:List (List PVal)):rdV ob (.row id n) (.pv (.slice xs))=ziZ (ob id) n xs:=by simp [rdV]
theorem zxU (ob:Nat→Option AObj) (cs ds:List AVal):rdV ob (.agg cs) (.agg ds)=rdL ob cs ds:=by simp [rdV]
theorem zxV (ob:Nat→Option AObj) (cs ds:List AVal):rdV ob (.tup cs) (.tup ds)=rdL ob cs ds:=by simp [rdV]
theorem zgp (ob:Nat→Option AObj) (v:AVal):rdV ob v .junk=True:=by cases v<;>simp [rdV]
theorem zxW (ob:Nat→Option AObj):rdL ob [] []=True:=by simp [rdL]
theorem zmm (ob:Nat→Option AObj) (a b:AVal) (r s:List AVal):rdL ob (a::r) (b::s)=(rdV ob a b∧rdL ob r s):=by simp [rdL]
theorem zoN (sz n:Nat) (ys xs:List (List PVal)):ziZ (some (.row sz ys)) n xs=(ys=xs∧n=xs.length):=by
 apply propext
 constructor
 ·rintro ⟨_,h,h2⟩;cases h;exact ⟨rfl,h2⟩
 ·rintro ⟨rfl,h2⟩;exact ⟨sz,rfl,h2⟩
theorem zsK {k:Nat} {xs:List (List PVal)} {o:Option AObj} {n:Nat} {ys:List (List PVal)} (h:ziZ o n ys):ziZ (zgJ k xs o) n ys:=by
 obtain ⟨sz,rfl,h2⟩:=h
 exact ⟨sz,rfl,h2⟩
mutual
theorem zuM {ob ob':Nat→Option AObj} {k sz:Nat} {xs:List (List PVal)} (hk:ob k=some (.row sz xs)) (ho:∀ i,i≠k→ob' i=zgJ k xs (ob i)):∀ (x b:AVal),rdV ob x b→rdV ob' (frz k xs x) b
 |.pv p,b,h=>by simp only [frz];cases b<;>simp only [rdV] at h ⊢<;>exact h
 |.snil,b,h=>by simp only [frz];simp only [rdV] at h ⊢;exact h
 |.junk,b,h=>by simp only [frz];simp only [rdV] at h ⊢;exact h
 |.map i,b,h=>by simp only [frz];simp only [rdV] at h ⊢;exact h
 |.clo f cs,b,h=>by
  cases b<;>simp only [rdV] at h
  rw [zgp];trivial
 |.ref i o,b,h=>by
  cases b<;>simp only [rdV] at h
  rw [zgp];trivial
 |.eref i a c d,b,h=>by
  cases b<;>simp only [rdV] at h
  rw [zgp];trivial
 |.csl i a c,b,h=>by
  cases b<;>simp only [rdV] at h
  rw [zgp];trivial
 |.row i n,b,h=>by
  by_cases hj:b=.junk
  ·subst hj;rw [zgp];trivial
  have:∃ ys,b=.pv (.slice ys)∧ziZ (ob i) n ys:=by
   unfold rdV at h
   split at h
   ·exact ⟨_,rfl,h⟩
   ·exact absurd rfl hj
   ·exact h.elim
  obtain ⟨ys,rfl,hr⟩:=this
  simp only [frz]
  by_cases hik:i=k
  ·subst hik
   obtain ⟨sz',h1,h2⟩:=hr
   rw [hk] at h1
   cases h1
   rw [if_pos rfl,if_pos h2,zxT]
  ·rw [if_neg hik,zuL,ho i hik]
   exact zsK hr
 |.agg cs,b,h=>by
  simp only [frz]
  cases b<;>simp only [rdV] at h ⊢
  exact zmn hk ho cs _ h
 |.tup cs,b,h=>by
  simp only [frz]
  cases b<;>simp only [rdV] at h ⊢
  exact zmn hk ho cs _ h
theorem zmn {ob ob':Nat→Option AObj} {k sz:Nat} {xs:List (List PVal)} (hk:ob k=some (.row sz xs)) (ho:∀ i,i≠k→ob' i=zgJ k xs (ob i)):∀ (x b:List AVal),rdL ob x b→rdL ob' (zgI k xs x) b
 |[],b,h=>by simp only [zgI];cases b<;>simp only [rdL] at h ⊢
 |a::r,b,h=>by
  simp only [zgI]
  cases b with
  |nil=>simp only [rdL] at h
  |cons c s=>
   rw [zmm] at h ⊢
   exact ⟨zuM hk ho a c h.1,zmn hk ho r s h.2⟩
end
theorem zmo {ob:Nat→Option AObj}:∀ {x b:List AVal},rdL ob x b→x.length=b.length∧∀ i,i<x.length→rdV ob (x.getD i .junk) (b.getD i .junk)
 |[],[],_=>⟨rfl,fun i hi=>by simp at hi⟩
 |[],_::_,h=>by simp [rdL] at h
 |_::_,[],h=>by simp [rdL] at h
 |a::r,c::s,h=>by
  rw [zmm] at h
  obtain ⟨h1,h2⟩:=zmo h.2
  refine ⟨by simp [h1],fun i hi=>?_⟩
  cases i with
  |zero=>simpa [List.getD] using h.1
  |succ i=>simpa [List.getD] using h2 i (by simpa using hi)
theorem V.read {g:Gh} {D D':Nat→Prop} {M:Mem} {ob:Nat→Option AObj} (hno:∀ i n ys,¬ ziZ (ob i) n ys) {x:AVal} {v:Value} (h:V g D M x v):∀ {b:AVal},rdV ob x b→V g D' M b v:=by
 induction h with
 |pv r=>intro b hb;cases b<;>simp only [rdV] at hb<;>first|(subst hb;exact .pv r)|exact .junk _
 |snil=>
  intro b hb
  unfold rdV at hb
  split at hb
  ·subst hb;exact .pv .nils
  ·exact .snil
  ·exact .junk _
  ·exact hb.elim
 |ref id off hd=>intro b hb;cases b<;>simp only [rdV] at hb;exact .junk _
 |row id n hd hn=>
  intro b hb
  unfold rdV at hb
  split at hb
  ·exact absurd hb (hno _ _ _)
  ·exact .junk _
  ·exact hb.elim
 |rown id hd hn=>
  intro b hb
  unfold rdV at hb
  split at hb
  ·exact absurd hb (hno _ _ _)
  ·exact .junk _
  ·exact hb.elim
 |eref id i j sz hd=>intro b hb;cases b<;>simp only [rdV] at hb;exact .junk _
 |csl id n sz hd=>intro b hb;cases b<;>simp only [rdV] at hb;exact .junk _
 |map id hd=>intro b hb;cases b<;>simp only [rdV] at hb;exact .junk _
 |agg cs vs hl _ ih=>
  intro b hb
  cases b<;>simp only [rdV] at hb
  ·obtain ⟨h1,h2⟩:=zmo hb
   exact .agg _ vs (by omega) (fun i hi=>ih i (by omega) (h2 i (by omega)))
  ·exact .junk _
 |tup cs vs hl _ ih=>
  intro b hb
  cases b<;>simp only [rdV] at hb
  ·obtain ⟨h1,h2⟩:=zmo hb
   exact .tup _ vs (by omega) (fun i hi=>ih i (by omega) (h2 i (by omega)))
  ·exact .junk _
 |clo f cs vs hl _ ih=>intro b hb;cases b<;>simp only [rdV] at hb;exact .junk _
 |junk v=>intro b hb;cases b<;>simp only [rdV] at hb;exact .junk _
theorem zp9 (id:Nat) (xs:List (List PVal)) (i:Nat) (h:i≠id):(σ.frz id xs).obj i=zgJ id xs (σ.obj i):=by
 simp only [St.frz,St.obj,List.getD]
 rw [List.getElem?_set_ne (fun e=>h e.symm),List.getElem?_map]
 cases σ.objs[i]?<;>rfl
theorem zsL (id:Nat) (xs:List (List PVal)) (h:id<σ.objs.length):(σ.frz id xs).obj id=some .dead:=by
 simp [St.frz,St.obj,List.getD,h]
theorem Rel.read1 {E:Ent} {g:Gh} {M:Mem} {w:World} {v:Value} {x b:AVal} (hR:Rel E ⟨[x],σ.objs⟩ g M ⟨#[v],[]⟩ w) (h:rdV σ.obj x b) :
  ∀ k,k≤σ.objs.length→∃ (σk:St) (xk:AVal) (gk:Gh) (Mk:Mem),σk.slots=[xk]∧σk.objs.length=σ.objs.length∧Rel E σk gk Mk ⟨#[v],[]⟩ w∧Mem.le M Mk∧rdV σk.obj xk b∧∀ i n ys,i<k→¬ ziZ (σk.obj i) n ys
 |0,_=>⟨⟨[x],σ.objs⟩,x,g,M,rfl,rfl,hR,Mem.le_refl _,h,fun i _ _ hi=>by omega⟩
 |k+1,hk=>by
  obtain ⟨σk,xk,gk,Mk,h1,h2,h3,h4,h5,h6⟩:=Rel.read1 hR h k (by omega)
  by_cases hr:∃ sz xs,σk.obj k=some (.row sz xs)
  ·obtain ⟨sz,xs,hr⟩:=hr
   obtain ⟨_,hw⟩:=zbK.freeze (env:=⟨fun _=>none,fun _=>none,fun _=>0,σk.objs.length⟩) (pin:=0) k hr rfl
   obtain ⟨g',M',hR',hM,_⟩:=hw E gk Mk _ w h3
   refine ⟨σk.frz k xs,frz k xs xk,g',M',by simp [St.frz,h1,zgI],by simp [St.frz,h2],hR',Mem.le_trans h4 hM,zuM hr (fun i hi=>zp9 k xs i hi) xk b h5,fun i n ys hi hh=>?_⟩
   by_cases hik:i=k
   ·subst hik
    rw [zsL i xs (by omega)] at hh
    obtain ⟨_,hh,_⟩:=hh
    cases hh
   ·rw [zp9 k xs i hik] at hh
    obtain ⟨sz',e,e2⟩:=hh
    refine h6 i n ys (by omega) ⟨sz',?_,e2⟩
    cases ho:σk.obj i with
    |none=>rw [ho] at e;cases e
    |some o=>
     rw [ho] at e
     cases o<;>simp only [zgJ,Option.some.injEq,reduceCtorEq] at e
     rw [e]
  ·refine ⟨σk,xk,gk,Mk,h1,h2,h3,h4,h5,fun i n ys hi hh=>?_⟩
   by_cases hik:i=k
   ·subst hik
    obtain ⟨sz,e,_⟩:=hh
    exact hr ⟨sz,ys,e⟩
   ·exact h6 i n ys (by omega) hh
def PK (ob:Nat→Option AObj) (r:Option (List AVal)) (res:AVal):Prop:=match r with|some vs=>rdV ob (zmg vs) res|none=>False
def RQ (env:Env) (rs:List ResultVar) (res:AVal):Exit→St→Prop
 |.ret,σ=>PK σ.obj (ziX env σ rs) res
 |.normal,σ=>PK σ.obj (ziX env σ rs) res
 |_,_=>False
theorem zxX (rs:List ResultVar) (res:AVal) (σ:St):RQ env rs res .ret σ=PK σ.obj (ziX env σ rs) res:=rfl
theorem zqa (rs:List ResultVar) (res:AVal) (σ:St):RQ env rs res .normal σ=PK σ.obj (ziX env σ rs) res:=rfl
theorem zmp (ob:Nat→Option AObj) (vs:List AVal) (res:AVal):PK ob (some vs) res=rdV ob (zmg vs) res:=rfl
theorem AC.of_vc (hE:zaO P env) (hm:P.follows .mixedOrders=true) {f:FuncId} {fn:Func} {code:Code} (hf:P.funcs[f]?=some fn) (hb:fn.body=some code) {args:List AVal} {res:AVal}
  (hargs:args.length≤fn.ntmps)
  (h:VC P env 0 code ⟨args++List.replicate (fn.ntmps - args.length) .junk,List.replicate env.nobj none⟩ (RQ env fn.results.toList res)) :
  AC P env.gl f args [] res []:=by
 intro w M g vargs hR hG
 have hla:vargs.length=args.length:=by simpa using hR.size
 refine calls_of_wp hf hb ?_
 have hobj:∀ id,St.obj ⟨args++List.replicate (fn.ntmps - args.length) .junk,List.replicate env.nobj none⟩ id=none:=fun id=>by
  simp only [St.obj,List.getD]
  rw [List.getElem?_replicate]
  split<;>rfl
 have hdom:St.dom ⟨args++List.replicate (fn.ntmps - args.length) .junk,List.replicate env.nobj none⟩=St.dom ⟨args,[]⟩:=by
  funext id;simp only [St.dom,hobj];simp [St.obj]
 have hR0:Rel ⟨w,M,zaD g [],[]⟩ ⟨args++List.replicate (fn.ntmps - args.length) .junk,List.replicate env.nobj none⟩ g M
   { tmps:=vargs.toArray++Array.replicate (fn.ntmps - vargs.toArray.size) undef,defers:=[] } w:=by
  refine ⟨by simp [hla],rfl,?_,?_,?_,?_,hR.sat,hR.M0,hR.Mnew,hR.size0,hR.same,?_,hR.os,hR.tape,hR.output⟩
  ·intro i hi
   rw [hdom]
   by_cases hia:i<args.length
   ·have e1:St.slot ⟨args++List.replicate (fn.ntmps - args.length) .junk,List.replicate env.nobj none⟩ i=St.slot ⟨args,[]⟩ i:=by
     simp [St.slot,List.getElem?_append_left hia]
    have e2:(vargs.toArray++Array.replicate (fn.ntmps - vargs.toArray.size) undef).getD i undef=vargs.toArray.getD i undef:=by
     simp only [Array.getD_eq_getD_getElem?]
     rw [Array.getElem?_append_left (by simp;omega)]
    rw [e1,e2];exact hR.slots i hia
   ·have e1:St.slot ⟨args++List.replicate (fn.ntmps - args.length) .junk,List.replicate env.nobj none⟩ i=.junk:=by
     simp only [St.slot,List.getD]
     rw [List.getElem?_append_right (by omega),List.getElem?_replicate]
     split<;>rfl
    rw [e1];exact .junk _
  ·intro id o ho;rw [hobj] at ho;cases ho
  ·intro id id' o o' b ho;rw [hobj] at ho;cases ho
  ·intro id o b ho;rw [hobj] at ho;cases ho
  ·intro id o b ho;rw [hobj] at ho;cases ho
 refine wp_mono (VC.to hE hm code h (by simp) _ g M _ w hR0 hG) fun e a' w' ⟨σ',g',M',hq,hR',hM,hA,hl'⟩=>?_
 have key:PK σ'.obj (ziX env σ' fn.results.toList) res→a'.defers=[]∧∃ v,(results fn a'.tmps).run P w'=.ok v w'∧∃ v' g' M',Ending.returned v=.returned v'∧Rel ⟨w,M,zaD g [],[]⟩ ⟨[res],[]⟩ g' M' ⟨#[v'],[]⟩ w'∧∀ id,zak [] id=true→g.agree g' id:=by
  intro hpk
  cases hvs:ziX env σ' fn.results.toList with
  |none=>rw [hvs] at hpk;exact hpk.elim
  |some vs=>
   rw [hvs,zmp] at hpk
   obtain ⟨v,hrun,hV⟩:=zfp (P:=P) hR' hE hvs
   have hR1:Rel ⟨w,M,zaD g [],[]⟩ ⟨[zmg vs],σ'.objs⟩ g' M' ⟨#[v],[]⟩ w':=by
    refine ⟨rfl,rfl,fun i hi=>?_,hR'.objs,hR'.apart,hR'.offM,hR'.sat,hR'.M0,hR'.Mnew,hR'.size0,hR'.same,hR'.own0,hR'.os,hR'.tape,hR'.output⟩
    have hi0:i=0:=by simpa using hi
    subst hi0
    exact hV
   obtain ⟨σk,xk,gk,Mk,h1,h2,h3,h4,h5,h6⟩:=hR1.read1 (σ:=σ') hpk σ'.objs.length (Nat.le_refl _)
   have hno:∀ i n ys,¬ ziZ (σk.obj i) n ys:=fun i n ys=>by
    by_cases hi:i<σ'.objs.length
    ·exact h6 i n ys hi
    ·rintro ⟨sz,e,_⟩
     simp [St.obj,List.getD,List.getElem?_eq_none (by omega:σk.objs.length≤i)] at e
   refine ⟨hR'.defers,v,hrun,v,gk,Mk,rfl,⟨rfl,rfl,fun i hi=>?_,fun id o ho=>by simp [St.obj] at ho,fun id id' o o' b ho=>by simp [St.obj] at ho,fun id o b ho=>by simp [St.obj] at ho,h3.sat,h3.M0,h3.Mnew,h3.size0,h3.same,fun id o b ho=>by simp [St.obj] at ho,h3.os,h3.tape,h3.output⟩,fun id hid=>by simp [zak] at hid⟩
   have hi0:i=0:=by simpa using hi
   subst hi0
   have h7:=h3.slot 0
   have e:σk.slot 0=xk:=by simp [St.slot,h1]
   rw [e] at h7
   exact V.read hno h7 h5
 cases e with
 |ret=>exact key hq
 |normal=>exact key hq
 |_=>exact hq.elim
end Go.Abs
namespace Go.Abs
open Go
def kw1:=And.intro @zxK<|And.intro @zvm<|And.intro @zvn<|And.intro @zxL<|And.intro @zxM<|And.intro @zxN<|And.intro @zvo<|And.intro @zsu<|And.intro @zvp<|And.intro @zst<|And.intro @zvq<|And.intro @zxO<|@zvr
def kw2:=And.intro @zvt<|And.intro @zvu<|And.intro @zAQ<|And.intro @zAR<|And.intro @zsv<|And.intro @zp7<|@zj7
def kw3:=And.intro @zvw<|And.intro @zsx<|And.intro @zsy<|And.intro @zxQ<|And.intro @zvy<|And.intro @zxR<|And.intro @zsE<|And.intro @zvz<|And.intro @zxS<|And.intro @zvA<|@zvB
def kw4:=And.intro @zvv<|And.intro @zsw<|And.intro @zsz<|And.intro @zsA<|And.intro @zsD<|And.intro @zsB<|And.intro @zvx<|And.intro @zsC<|And.intro @zvC<|And.intro @zvD<|And.intro @zvE<|And.intro @zsF<|And.intro @zsG<|And.intro @zsH<|@zsI
def kw5:=And.intro @zp5<|And.intro @zns<|And.intro @zvj<|And.intro @zp6<|And.intro @zuK<|And.intro @zAP<|And.intro @zvk<|And.intro @zss<|And.intro @zxI<|And.intro @zxJ<|And.intro @zmk<|@zml
def kw6:=And.intro @zxX<|And.intro @zqa<|And.intro @zmp<|And.intro @zxT<|And.intro @zvF<|And.intro @zuL<|And.intro @zxU<|And.intro @zxV<|And.intro @zgp<|And.intro @zxW<|And.intro @zmm<|@zoN
variable {P:Program} {env:Env} {pin:Nat} {σ:St} {Q:Exit→St→Prop}
abbrev jl (n:Nat) (l:List AVal):List AVal:=List.replicate n .junk++l
theorem zAT (env dst ev ob x):aop env dst ev ob (.move x)=(some ⟨ev x,[]⟩):=rfl
theorem zAU (env dst ev ob x):aop env dst ev ob (.assign x)=(some ⟨ev x,[]⟩):=rfl
theorem zAV (env dst ev ob c a b):aop env dst ev ob (.pick c a b)=(match ev c with
  |.pv (.bool t)=>some ⟨if t then ev a else ev b,[]⟩
  |_=>none):=rfl
theorem zAW (env dst ev ob t):aop env dst ev ob (.alloc t)=(match env.ty t,dst with
  |some ty,some d=>match ty.bld with
   |some e=>match ob (env.site d),ob (env.site d+1) with
    |none,none=>if env.site d+1<env.nobj then some ⟨.ref (env.site d) 0,[(env.site d+1,.bb e []),(env.site d,.bh t e (env.site d+1) 0)]⟩ else none
    |_,_=>none
   |none=>match ty.zero,ob (env.site d) with
    |some z,none=>if env.site d<env.nobj∧z.all AVal.isCell=true then some ⟨.ref (env.site d) 0,[(env.site d,.cells z)]⟩ else none
    |_,_=>none
  |_,_=>none):=rfl
theorem zAX (env dst ev ob z1 x):aop env dst ev ob (.box z1 x)=(match dst with
  |some d=>match ob (env.site d) with
   |none=>if env.site d<env.nobj∧(ev x).cells.all AVal.isCell=true then some ⟨.ref (env.site d) 0,[(env.site d,.cells (ev x).cells)]⟩ else none
   |_=>none
  |none=>none):=rfl
theorem zAY (env dst ev ob t parts):aop env dst ev ob (.build t parts)=(match env.ty t with
  |some ty=>match ty.zero,ty.kind with
   |some z,.struct=>if (ty.fields.all fun q=>decide (0<q.2))=false then none else (zgl (fun i=>ty.fields[i]?) z (parts.toList.map fun q=>(q.1,ev q.2))).map fun cs=>⟨.agg cs,[]⟩
   |some z,.array _=>if ty.eSize=0 then none else (zgl (fun i=>some (i * ty.eSize,ty.eSize)) z (parts.toList.map fun q=>(q.1,ev q.2))).map fun cs=>⟨.agg cs,[]⟩
   |_,_=>none
  |none=>none):=rfl
theorem zAZ (env dst ev ob t len parts):aop env dst ev ob (.buildSlice t len parts)=(match env.ty t with
  |some ty=>match ty.kind with
   |.slice=>if 0<ty.eSize∧parts.size=len∧len * ty.eSize≤65536∧ty.eZero=true then
     match zgV ty.eSize 0 (parts.toList.map fun q=>(q.1,ev q.2)) with
     |some xs=>some ⟨.pv (exSl (dst.elim 0 env.site) xs),[]⟩
     |none=>match dst with
      |some d=>match zfG ty.eSize 0 (parts.toList.map fun q=>(q.1,ev q.2)),ob (env.site d) with
       |some cs,none=>if env.site d<env.nobj then some ⟨.csl (env.site d) len ty.eSize,[(env.site d,.cells cs)]⟩ else none
       |_,_=>none
      |none=>none
    else none
   |_=>none
  |none=>none):=rfl
theorem zA0 (env dst ev ob t p):aop env dst ev ob (.load t p)=(match env.ty t,ev p with
  |some ty,.ref id off=>match ob id with
   |some (.cells cs)=>if off+ty.size≤cs.length∧0<ty.size then
     some ⟨if ty.agg then .agg ((cs.drop off).take ty.size) else cs.getD off .junk,[]⟩ else none
   |_=>none
  |some ty,.pv (.ptr cs)=>if ty.size≤cs.length∧0<ty.size then
     some ⟨if ty.agg then .agg ((cs.take ty.size).map .pv) else .pv (cs.getD 0 .nilptr),[]⟩ else none
  |some ty,.eref id i j sz=>match ob id with
   |some (.row sz' xs)=>if sz=sz'∧i<xs.length∧j+ty.size≤sz∧0<ty.size then
     some ⟨if ty.agg then .agg ((((xs.getD i []).drop j).take ty.size).map .pv) else .pv (zba xs i j),[]⟩ else none
   |_=>none
  |_,_=>none):=rfl
theorem zA1 (env dst ev ob t p x):aop env dst ev ob (.store t p x)=(match env.ty t,ev p with
  |some ty,.ref id off=>match ob id with
   |some (.cells cs)=>if (ev x).cells.length=ty.size∧off+ty.size≤cs.length∧(ev x).cells.all AVal.isCell=true then
     some ⟨.junk,[(id,.cells (zei cs off (ev x).cells))]⟩ else none
   |_=>none
  |some ty,.eref id i j sz=>match ob id,zef (ev x).cells with
   |some (.row sz' xs),some ps=>if sz=sz'∧i<xs.length∧j+ty.size≤sz∧ps.length=ty.size then
     some ⟨.junk,[(id,.row sz' (zb0 xs i j ps))]⟩ else none
   |_,_=>none
  |_,_=>none):=rfl
theorem zxY (env dst ev ob x):aop env dst ev ob (.nilCheck x)=(match ev x with
  |.ref id off=>some ⟨.ref id off,[]⟩
  |.eref id i j sz=>some ⟨.eref id i j sz,[]⟩
  |.pv (.ptr cs)=>some ⟨.pv (.ptr cs),[]⟩
  |_=>none):=rfl
theorem zxZ (env dst ev ob op t x y z1):aop env dst ev ob (.binOp op t x y z1)=(match ev x,ev y with
  |.pv p,.pv q=>(if zeh y=true then zuG op ((env.ty t).map Ty.kind) p else zfh op ((env.ty t).map Ty.kind) p q).map fun r=>⟨.pv r,[]⟩
  |.agg cs,.agg ds=>(zxn op ((env.ty t).bind Ty.eqs) cs ds).map fun b=>⟨.pv (.bool b),[]⟩
  |_,_=>none):=rfl
theorem zx0 (env dst ev ob op z1 x):aop env dst ev ob (.unOp op z1 x)=(match op,ev x with
  |.not,.pv (.bool b)=>some ⟨.pv (.bool !b),[]⟩
  |.neg,.pv (.int k n)=>some ⟨.pv (.int k (k.wrap (0 - n))),[]⟩
  |_,_=>none):=rfl
theorem zx1 (env dst ev ob st dt x):aop env dst ev ob (.convert st dt x)=(match env.ty st,env.ty dt,ev x with
  |some _,some ty,.pv (.int _ n)=>match ty.kind with
   |.int k=>some ⟨.pv (.int k (k.wrap n)),[]⟩
   |_=>none
  |some sty,some ty,.pv (.slice xs)=>match sty.kind,ty.kind,zdC xs with
   |.slice,.string,some ns=>if sty.kKind=.int .u8 then some ⟨.pv (.str (zfH ns)),[]⟩ else none
   |_,_,_=>none
  |some sty,some ty,.row id n=>match ob id with
   |some (.row _ xs)=>match sty.kind,ty.kind,zdC xs with
    |.slice,.string,some ns=>if sty.kKind=.int .u8∧xs.length=n then some ⟨.pv (.str (zfH ns)),[]⟩ else none
    |_,_,_=>none
   |_=>none
  |_,_,_=>none):=rfl
theorem zx2 (env dst ev ob s x k):aop env dst ev ob (.fieldAddr s x k)=(match env.ty s with
  |some ty=>match ty.kind,ty.fields[k]? with
   |.struct,some (fo,fs)=>if 0<fs then match ev x with
     |.ref id off=>some ⟨.ref id (off+fo),[]⟩
     |.pv (.ptr cs)=>if fo+fs≤cs.length then some ⟨.pv (.ptr ((cs.drop fo).take fs)),[]⟩ else none
     |.eref id i j sz=>some ⟨.eref id i (j+fo) sz,[]⟩
     |_=>none
    else none
   |_,_=>none
  |none=>none):=rfl
theorem zx3 (env dst ev ob t x ix):aop env dst ev ob (.indexAddr t x ix)=(match env.ty t,ev ix with
  |some ty,.pv (.int _ i)=>if ty.eSize=0 then none else match ty.kind,ev x with
   |.slice,.pv (.slice xs)=>if 0≤i∧i.toNat<xs.length∧(xs.getD i.toNat []).length=ty.eSize then some ⟨.pv (.ptr (xs.getD i.toNat [])),[]⟩ else none
   |.slice,.row id n=>match ob id with
    |some (.row sz _)=>if 0≤i∧i.toNat<n∧sz=ty.eSize then some ⟨.eref id i.toNat 0 sz,[]⟩ else none
    |_=>none
   |.slice,.csl id n sz=>if 0≤i∧i.toNat<n∧sz=ty.eSize then some ⟨.ref id (i.toNat * sz),[]⟩ else none
   |.array n,.ref id off=>if 0≤i∧i.toNat<n then some ⟨.ref id (off+i.toNat * ty.eSize),[]⟩ else none
   |.array n,.pv (.ptr cs)=>if 0≤i∧i.toNat<n∧i.toNat * ty.eSize<cs.length then some ⟨.pv (.ptr ((cs.drop (i.toNat * ty.eSize)).take ty.eSize)),[]⟩ else none
   |_,_=>none
  |_,_=>none):=rfl
theorem zx4 (env dst ev ob t x ix):aop env dst ev ob (.index t x ix)=(match env.ty t,ev ix with
  |some ty,.pv (.int _ i)=>match ty.kind,ev x with
   |.string,.pv (.str s)=>if 0≤i∧i.toNat<s.length then some ⟨.pv (.int .u8 ((s.getD i.toNat 0).toNat:Int)),[]⟩ else none
   |.array n,.agg cs=>if 0≤i∧i.toNat<n∧i.toNat<cs.length∧ty.kKind≠.other∧ty.eSize=1 then some ⟨cs.getD i.toNat .junk,[]⟩ else none
   |_,_=>none
  |_,_=>none):=rfl
theorem zx5 (env dst ev ob x k):aop env dst ev ob (.extract x k)=(match ev x with
  |.tup vs=>match vs[k]? with
   |some v=>some ⟨v,[]⟩
   |none=>none
  |_=>none):=rfl
theorem zx6 (env dst ev ob t x lo hi mx):aop env dst ev ob (.slice t x lo hi mx)=(match env.ty t,mx with
  |some ty,none=>
   match ty.kind,ev x with
   |.string,.pv (.str s)=>match zcg ev lo 0,zcg ev hi s.length with
    |some l,some h=>if 0≤l∧l≤h∧h≤s.length then some ⟨.pv (.str ((s.take h.toNat).drop l.toNat)),[]⟩ else none
    |_,_=>none
   |.slice,.pv (.slice xs)=>match zcg ev lo 0,zcg ev hi xs.length with
    |some l,some h=>if 0≤l∧l≤h∧h≤xs.length∧(l=0∨(xs.getD 0 []).length=ty.eSize)∧0<ty.eSize then some ⟨.pv (.slice ((xs.take h.toNat).drop l.toNat)),[]⟩ else none
    |_,_=>none
   |_,_=>none
  |_,_=>none):=rfl
theorem zx7 (env dst ev ob f first cap):aop env dst ev ob (.makeFunc (.func f) first cap)=(if first.size=0 then some ⟨.clo f (cap.toList.map ev),[]⟩ else none):=rfl
theorem zx8 (env dst ev ob t x):aop env dst ev ob (.makeInterface t x)=(match env.ty t with
  |some ty=>if ty.kind=.iface then none else match ev x with
   |.agg cs=>match zef cs with
    |some ps=>some ⟨.pv (.ifc t true ps),[]⟩
    |none=>none
   |.pv p=>some ⟨.pv (.ifc t false [p]),[]⟩
   |_=>none
  |none=>none):=rfl
theorem zx9 (env dst ev ob x z1 t ok):aop env dst ev ob (.typeAssert x z1 t ok)=(match env.ty t,ev x with
  |some ty,.pv (.ifc t' ag cs)=>if ty.kind≠.iface∧t'=t∧ok=true then some ⟨.tup [if ag then .agg (cs.map .pv) else .pv (cs.getD 0 .nilptr),.pv (.bool true)],[]⟩ else none
  |_,_=>none):=rfl
theorem zya (env dst ev ob t):aop env dst ev ob (.makeMap t none)=(match env.ty t,dst with
  |some ty,some d=>match ty.kind,ob (env.site d) with
   |.map,none=>if env.site d<env.nobj∧ty.kKind≠.other then some ⟨.map (env.site d),[(env.site d,.map ty.kKind [])]⟩ else none
   |_,_=>none
  |_,_=>none):=rfl
theorem zyb (env dst ev ob t len cap):aop env dst ev ob (.makeSlice t len cap)=(match env.ty t,dst with
  |some ty,some d=>match ty.kind,ev len,ev cap with
   |.slice,.pv (.int _ n),.pv (.int _ c)=>match ty.eZV,ob (env.site d) with
    |some z,none=>match zef (zfc z).cells with
     |some ps=>if env.site d<env.nobj∧0≤n∧n=c∧n * ty.eBytes≤140737488355328∧0<ty.eBytes∧0<ty.eSize∧ps.length=ty.eSize then
       some ⟨.row (env.site d) n.toNat,[(env.site d,.row ty.eSize (List.replicate n.toNat ps))]⟩ else none
     |none=>none
    |_,_=>none
   |_,_,_=>none
  |_,_=>none):=rfl
theorem zyc (env dst ev ob t x k ok):aop env dst ev ob (.lookup t x k ok)=(match env.ty t,ev x,ev k with
  |some ty,.map id,.pv key=>match ty.kind,ob id,ty.eZV with
   |.map,some (.map kd es),some z=>if kd=ty.kKind∧zcz kd key=true then
     some ⟨if ok then .tup [zfc ((ze6 key es).getD z),.pv (.bool (ze6 key es).isSome)] else zfc ((ze6 key es).getD z),[]⟩ else none
   |_,_,_=>none
  |_,_,_=>none):=rfl
theorem zyd (env dst ev ob t m k x):aop env dst ev ob (.mapUpdate t m k x)=(match env.ty t,ev m,ev k,zr8 (ev x) with
  |some ty,.map id,.pv key,some v=>match ty.kind,ob id with
   |.map,some (.map kd es)=>if kd=ty.kKind∧zcz kd key=true then some ⟨.junk,[(id,.map kd (zox key v es))]⟩ else none
   |_,_=>none
  |_,_,_,_=>none):=rfl
theorem zye (env dst ev ob args tys):aop env dst ev ob (.call ⟨.builtin .len,args,tys⟩)=(match args.toList,tys.toList with
  |[x],[t]=>match env.ty t with
   |some ty=>match ty.kind,ev x with
    |.string,.pv (.str s)=>some ⟨.pv (.int .i64 s.length),[]⟩
    |.slice,.pv (.slice xs)=>some ⟨.pv (.int .i64 xs.length),[]⟩
    |.slice,.snil=>some ⟨.pv (.int .i64 0),[]⟩
    |.slice,.row _ n=>some ⟨.pv (.int .i64 n),[]⟩
    |.slice,.csl _ n _=>some ⟨.pv (.int .i64 n),[]⟩
    |.array n,_=>some ⟨.pv (.int .i64 n),[]⟩
    |_,_=>none
   |none=>none
  |_,_=>none):=rfl
theorem zyf (env dst ev ob args z1):aop env dst ev ob (.call ⟨.builtin .max,args,z1⟩)=(match args.toList with
  |x::r=>match ev x with
   |.pv p=>(ze4 zu8 p (r.map ev)).map fun q=>⟨.pv q,[]⟩
   |_=>none
  |[]=>none):=rfl
theorem zyg (env dst ev ob args z1):aop env dst ev ob (.call ⟨.builtin .min,args,z1⟩)=(match args.toList with
  |x::r=>match ev x with
   |.pv p=>(ze4 zu9 p (r.map ev)).map fun q=>⟨.pv q,[]⟩
   |_=>none
  |[]=>none):=rfl
theorem zyh (env dst ev ob args tys):aop env dst ev ob (.call ⟨.builtin .append,args,tys⟩)=(match args.toList,tys.toList,dst with
  |[x,y],[t,t'],some d=>match env.ty t,env.ty t',ob (env.site d) with
   |some ty,some ty',none=>match ty.kind,zl7 ty'.kind,zcb ob (ev y) with
    |.slice,true,some ys=>match ev x with
     |.snil=>if env.site d<env.nobj∧0<ty.eBytes∧0<ty.eSize∧zd6 (ys.length) ty.eBytes=true∧(ys.all fun y=>y.length==ty.eSize)=true∧ty.eZero=true then
       some ⟨.row (env.site d) ys.length,[(env.site d,.row ty.eSize ys)]⟩ else none
     |.row id n=>match ob id with
      |some (.row sz xs)=>if env.site d<env.nobj∧env.site d≠id∧0<ty.eBytes∧xs.length=n∧sz=ty.eSize∧0<sz∧zd6 (xs.length+ys.length) ty.eBytes=true∧(ys.all fun y=>y.length==sz)=true∧ty.eZero=true then
        some ⟨.row (env.site d) (n+ys.length),[(id,.dead),(env.site d,.row sz (xs++ys))]⟩ else none
      |_=>none
     |.pv (.xsl xs)=>if 0<ty.eBytes∧0<ys.length∧0<ty.eSize∧zd6 (xs.length+ys.length) ty.eBytes=true∧(ys.all fun y=>y.length==ty.eSize)=true∧ty.eZero=true∧(xs.all fun y=>y.length==ty.eSize)=true then
       some ⟨.pv (.slice (xs++ys)),[]⟩ else none
     |_=>none
    |_,_,_=>none
   |_,_,_=>none
  |_,_,_=>none):=rfl
theorem zA2 (env dst ev t):za8 env dst ev (.alloc t)=(match dst with
  |some d=>match env.ty t with
   |some ty=>match ty.bld with
    |some _=>[env.site d,env.site d+1]
    |none=>[env.site d]
   |none=>[env.site d]
  |none=>[]):=rfl
theorem zA3 (env dst ev z1 z2):za8 env dst ev (.box z1 z2)=(match dst with|some d=>[env.site d]|none=>[]):=rfl
theorem zA4 (env dst ev t z1 parts):za8 env dst ev (.buildSlice t z1 parts)=(match env.ty t with
  |some ty=>match zgV ty.eSize 0 (parts.toList.map fun q=>(q.1,ev q.2)) with
   |some _=>[]
   |none=>match dst with|some d=>[env.site d]|none=>[]
  |none=>[]):=rfl
theorem zA5 (env dst ev z1 p):za8 env dst ev (.load z1 p)=(match ev p with|.ref id _=>[id]|.eref id _ _ _=>[id]|_=>[]):=rfl
theorem zA6 (env dst ev z1 p z2):za8 env dst ev (.store z1 p z2)=(match ev p with|.ref id _=>[id]|.eref id _ _ _=>[id]|_=>[]):=rfl
theorem zA7 (env dst ev z1 x z2):za8 env dst ev (.indexAddr z1 x z2)=(match ev x with|.row id _=>[id]|_=>[]):=rfl
theorem zA8 (env dst ev z1 z2 x):za8 env dst ev (.convert z1 z2 x)=(match ev x with|.row id _=>[id]|_=>[]):=rfl
theorem zA9 (env dst ev z1):za8 env dst ev (.makeMap z1 none)=(match dst with|some d=>[env.site d]|none=>[]):=rfl
theorem zBa (env dst ev z1 z2 z3):za8 env dst ev (.makeSlice z1 z2 z3)=(match dst with|some d=>[env.site d]|none=>[]):=rfl
theorem zyi (env dst ev z1 x z2 z3):za8 env dst ev (.lookup z1 x z2 z3)=(match ev x with|.map id=>[id]|_=>[]):=rfl
theorem zyj (env dst ev z1 m z2 z3):za8 env dst ev (.mapUpdate z1 m z2 z3)=(match ev m with|.map id=>[id]|_=>[]):=rfl
theorem zyk (env dst ev args z1):za8 env dst ev (.call ⟨.builtin .append,args,z1⟩)=(match args.toList with
  |[x,y]=>(match dst with|some d=>[env.site d]|none=>[])++(match ev x with|.row id _=>[id]|_=>[])++(match ev y with|.row id _=>[id]|_=>[])
  |_=>[]):=rfl
theorem zyl (env dst ev x):za8 env dst ev (.move x)=[]:=rfl
theorem zym (env dst ev x):za8 env dst ev (.assign x)=[]:=rfl
theorem zyn (env dst ev c a b):za8 env dst ev (.pick c a b)=[]:=rfl
theorem zyo (env dst ev t parts):za8 env dst ev (.build t parts)=[]:=rfl
theorem zyp (env dst ev x):za8 env dst ev (.nilCheck x)=[]:=rfl
theorem zyq (env dst ev op t x y z1):za8 env dst ev (.binOp op t x y z1)=[]:=rfl
theorem zyr (env dst ev op z1 x):za8 env dst ev (.unOp op z1 x)=[]:=rfl
theorem zys (env dst ev s x k):za8 env dst ev (.fieldAddr s x k)=[]:=rfl
theorem zyt (env dst ev t x ix):za8 env dst ev (.index t x ix)=[]:=rfl
theorem zyu (env dst ev x k):za8 env dst ev (.extract x k)=[]:=rfl
theorem zyv (env dst ev t x lo hi mx):za8 env dst ev (.slice t x lo hi mx)=[]:=rfl
theorem zyw (env dst ev f first cap):za8 env dst ev (.makeFunc (.func f) first cap)=[]:=rfl
theorem zyx (env dst ev t x):za8 env dst ev (.makeInterface t x)=[]:=rfl
theorem zyy (env dst ev x z1 t ok):za8 env dst ev (.typeAssert x z1 t ok)=[]:=rfl
theorem zyz (env dst ev args tys):za8 env dst ev (.call ⟨.builtin .len,args,tys⟩)=[]:=rfl
theorem zyA (env dst ev args z1):za8 env dst ev (.call ⟨.builtin .max,args,z1⟩)=[]:=rfl
theorem zyB (env dst ev args z1):za8 env dst ev (.call ⟨.builtin .min,args,z1⟩)=[]:=rfl
theorem zDU (K tg gp dd x rest acc σ):VG P env K tg (some gp) dd (.move x) rest acc σ=VX P env K tg gp (aop env dd (zaf env σ) σ.obj (.move x)) (za8 env dd (zaf env σ) (.move x)) dd rest acc σ:=zco _ _ _ _ _ ⟨rfl,rfl⟩ _ _ _
theorem zDV (K tg gp dd x rest acc σ):VG P env K tg (some gp) dd (.assign x) rest acc σ=VX P env K tg gp (aop env dd (zaf env σ) σ.obj (.assign x)) (za8 env dd (zaf env σ) (.assign x)) dd rest acc σ:=zco _ _ _ _ _ ⟨rfl,rfl⟩ _ _ _
theorem zDW (K tg gp dd c a b rest acc σ):VG P env K tg (some gp) dd (.pick c a b) rest acc σ=VX P env K tg gp (aop env dd (zaf env σ) σ.obj (.pick c a b)) (za8 env dd (zaf env σ) (.pick c a b)) dd rest acc σ:=zco _ _ _ _ _ ⟨rfl,rfl⟩ _ _ _
theorem zDX (K tg gp dd t rest acc σ):VG P env K tg (some gp) dd (.alloc t) rest acc σ=VX P env K tg gp (aop env dd (zaf env σ) σ.obj (.alloc t)) (za8 env dd (zaf env σ) (.alloc t)) dd rest acc σ:=zco _ _ _ _ _ ⟨rfl,rfl⟩ _ _ _
theorem zDY (K tg gp dd z1 x rest acc σ):VG P env K tg (some gp) dd (.box z1 x) rest acc σ=VX P env K tg gp (aop env dd (zaf env σ) σ.obj (.box z1 x)) (za8 env dd (zaf env σ) (.box z1 x)) dd rest acc σ:=zco _ _ _ _ _ ⟨rfl,rfl⟩ _ _ _
theorem zDZ (K tg gp dd t parts rest acc σ):VG P env K tg (some gp) dd (.build t parts) rest acc σ=VX P env K tg gp (aop env dd (zaf env σ) σ.obj (.build t parts)) (za8 env dd (zaf env σ) (.build t parts)) dd rest acc σ:=zco _ _ _ _ _ ⟨rfl,rfl⟩ _ _ _
theorem zD0 (K tg gp dd t len parts rest acc σ):VG P env K tg (some gp) dd (.buildSlice t len parts) rest acc σ=VX P env K tg gp (aop env dd (zaf env σ) σ.obj (.buildSlice t len parts)) (za8 env dd (zaf env σ) (.buildSlice t len parts)) dd rest acc σ:=zco _ _ _ _ _ ⟨rfl,rfl⟩ _ _ _
theorem zD1 (K tg gp dd t p rest acc σ):VG P env K tg (some gp) dd (.load t p) rest acc σ=VX P env K tg gp (aop env dd (zaf env σ) σ.obj (.load t p)) (za8 env dd (zaf env σ) (.load t p)) dd rest acc σ:=zco _ _ _ _ _ ⟨rfl,rfl⟩ _ _ _
theorem zD2 (K tg gp dd t p x rest acc σ):VG P env K tg (some gp) dd (.store t p x) rest acc σ=VX P env K tg gp (aop env dd (zaf env σ) σ.obj (.store t p x)) (za8 env dd (zaf env σ) (.store t p x)) dd rest acc σ:=zco _ _ _ _ _ ⟨rfl,rfl⟩ _ _ _
theorem zBb (K tg gp dd x rest acc σ):VG P env K tg (some gp) dd (.nilCheck x) rest acc σ=VX P env K tg gp (aop env dd (zaf env σ) σ.obj (.nilCheck x)) (za8 env dd (zaf env σ) (.nilCheck x)) dd rest acc σ:=zco _ _ _ _ _ ⟨rfl,rfl⟩ _ _ _
theorem zBc (K tg gp dd op t x y z1 rest acc σ):VG P env K tg (some gp) dd (.binOp op t x y z1) rest acc σ=VX P env K tg gp (aop env dd (zaf env σ) σ.obj (.binOp op t x y z1)) (za8 env dd (zaf env σ) (.binOp op t x y z1)) dd rest acc σ:=zco _ _ _ _ _ ⟨rfl,rfl⟩ _ _ _
theorem zBd (K tg gp dd op z1 x rest acc σ):VG P env K tg (some gp) dd (.unOp op z1 x) rest acc σ=VX P env K tg gp (aop env dd (zaf env σ) σ.obj (.unOp op z1 x)) (za8 env dd (zaf env σ) (.unOp op z1 x)) dd rest acc σ:=zco _ _ _ _ _ ⟨rfl,rfl⟩ _ _ _
theorem zBe (K tg gp dd st dt x rest acc σ):VG P env K tg (some gp) dd (.convert st dt x) rest acc σ=VX P env K tg gp (aop env dd (zaf env σ) σ.obj (.convert st dt x)) (za8 env dd (zaf env σ) (.convert st dt x)) dd rest acc σ:=zco _ _ _ _ _ ⟨rfl,rfl⟩ _ _ _
theorem zBf (K tg gp dd s x k rest acc σ):VG P env K tg (some gp) dd (.fieldAddr s x k) rest acc σ=VX P env K tg gp (aop env dd (zaf env σ) σ.obj (.fieldAddr s x k)) (za8 env dd (zaf env σ) (.fieldAddr s x k)) dd rest acc σ:=zco _ _ _ _ _ ⟨rfl,rfl⟩ _ _ _
theorem zBg (K tg gp dd t x ix rest acc σ):VG P env K tg (some gp) dd (.indexAddr t x ix) rest acc σ=VX P env K tg gp (aop env dd (zaf env σ) σ.obj (.indexAddr t x ix)) (za8 env dd (zaf env σ) (.indexAddr t x ix)) dd rest acc σ:=zco _ _ _ _ _ ⟨rfl,rfl⟩ _ _ _
theorem zBh (K tg gp dd t x ix rest acc σ):VG P env K tg (some gp) dd (.index t x ix) rest acc σ=VX P env K tg gp (aop env dd (zaf env σ) σ.obj (.index t x ix)) (za8 env dd (zaf env σ) (.index t x ix)) dd rest acc σ:=zco _ _ _ _ _ ⟨rfl,rfl⟩ _ _ _
theorem zBi (K tg gp dd x k rest acc σ):VG P env K tg (some gp) dd (.extract x k) rest acc σ=VX P env K tg gp (aop env dd (zaf env σ) σ.obj (.extract x k)) (za8 env dd (zaf env σ) (.extract x k)) dd rest acc σ:=zco _ _ _ _ _ ⟨rfl,rfl⟩ _ _ _
theorem zBj (K tg gp dd t x lo hi mx rest acc σ):VG P env K tg (some gp) dd (.slice t x lo hi mx) rest acc σ=VX P env K tg gp (aop env dd (zaf env σ) σ.obj (.slice t x lo hi mx)) (za8 env dd (zaf env σ) (.slice t x lo hi mx)) dd rest acc σ:=zco _ _ _ _ _ ⟨rfl,rfl⟩ _ _ _
theorem zBk (K tg gp dd f first cap rest acc σ):VG P env K tg (some gp) dd (.makeFunc (.func f) first cap) rest acc σ=VX P env K tg gp (aop env dd (zaf env σ) σ.obj (.makeFunc (.func f) first cap)) (za8 env dd (zaf env σ) (.makeFunc (.func f) first cap)) dd rest acc σ:=zco _ _ _ _ _ ⟨rfl,rfl⟩ _ _ _
theorem zBl (K tg gp dd t x rest acc σ):VG P env K tg (some gp) dd (.makeInterface t x) rest acc σ=VX P env K tg gp (aop env dd (zaf env σ) σ.obj (.makeInterface t x)) (za8 env dd (zaf env σ) (.makeInterface t x)) dd rest acc σ:=zco _ _ _ _ _ ⟨rfl,rfl⟩ _ _ _
theorem zBm (K tg gp dd x z1 t ok rest acc σ):VG P env K tg (some gp) dd (.typeAssert x z1 t ok) rest acc σ=VX P env K tg gp (aop env dd (zaf env σ) σ.obj (.typeAssert x z1 t ok)) (za8 env dd (zaf env σ) (.typeAssert x z1 t ok)) dd rest acc σ:=zco _ _ _ _ _ ⟨rfl,rfl⟩ _ _ _
theorem zBn (K tg gp dd t rest acc σ):VG P env K tg (some gp) dd (.makeMap t none) rest acc σ=VX P env K tg gp (aop env dd (zaf env σ) σ.obj (.makeMap t none)) (za8 env dd (zaf env σ) (.makeMap t none)) dd rest acc σ:=zco _ _ _ _ _ ⟨rfl,rfl⟩ _ _ _
theorem zBo (K tg gp dd t len cap rest acc σ):VG P env K tg (some gp) dd (.makeSlice t len cap) rest acc σ=VX P env K tg gp (aop env dd (zaf env σ) σ.obj (.makeSlice t len cap)) (za8 env dd (zaf env σ) (.makeSlice t len cap)) dd rest acc σ:=zco _ _ _ _ _ ⟨rfl,rfl⟩ _ _ _
theorem zBp (K tg gp dd t x k ok rest acc σ):VG P env K tg (some gp) dd (.lookup t x k ok) rest acc σ=VX P env K tg gp (aop env dd (zaf env σ) σ.obj (.lookup t x k ok)) (za8 env dd (zaf env σ) (.lookup t x k ok)) dd rest acc σ:=zco _ _ _ _ _ ⟨rfl,rfl⟩ _ _ _
theorem zBq (K tg gp dd t m k x rest acc σ):VG P env K tg (some gp) dd (.mapUpdate t m k x) rest acc σ=VX P env K tg gp (aop env dd (zaf env σ) σ.obj (.mapUpdate t m k x)) (za8 env dd (zaf env σ) (.mapUpdate t m k x)) dd rest acc σ:=zco _ _ _ _ _ ⟨rfl,rfl⟩ _ _ _
theorem zBr (K tg gp dd args tys rest acc σ):VG P env K tg (some gp) dd (.call ⟨.builtin .len,args,tys⟩) rest acc σ=VX P env K tg gp (aop env dd (zaf env σ) σ.obj (.call ⟨.builtin .len,args,tys⟩)) (za8 env dd (zaf env σ) (.call ⟨.builtin .len,args,tys⟩)) dd rest acc σ:=zco _ _ _ _ _ ⟨rfl,rfl⟩ _ _ _
theorem zBs (K tg gp dd args z1 rest acc σ):VG P env K tg (some gp) dd (.call ⟨.builtin .max,args,z1⟩) rest acc σ=VX P env K tg gp (aop env dd (zaf env σ) σ.obj (.call ⟨.builtin .max,args,z1⟩)) (za8 env dd (zaf env σ) (.call ⟨.builtin .max,args,z1⟩)) dd rest acc σ:=zco _ _ _ _ _ ⟨rfl,rfl⟩ _ _ _
theorem zBt (K tg gp dd args z1 rest acc σ):VG P env K tg (some gp) dd (.call ⟨.builtin .min,args,z1⟩) rest acc σ=VX P env K tg gp (aop env dd (zaf env σ) σ.obj (.call ⟨.builtin .min,args,z1⟩)) (za8 env dd (zaf env σ) (.call ⟨.builtin .min,args,z1⟩)) dd rest acc σ:=zco _ _ _ _ _ ⟨rfl,rfl⟩ _ _ _
theorem zBu (K tg gp dd args tys rest acc σ):VG P env K tg (some gp) dd (.call ⟨.builtin .append,args,tys⟩) rest acc σ=VX P env K tg gp (aop env dd (zaf env σ) σ.obj (.call ⟨.builtin .append,args,tys⟩)) (za8 env dd (zaf env σ) (.call ⟨.builtin .append,args,tys⟩)) dd rest acc σ:=zco _ _ _ _ _ ⟨rfl,rfl⟩ _ _ _
theorem zDt:∀ (n:Nat) (l:List AVal),jl n l=List.replicate n .junk++l:=fun _ _=>rfl
theorem zsM:∀ (t:Nat) (k:IntKind) (n:Int),zsa (.pv (.ifc t true [.int k n]))=some (.iface t (.agg #[.int k n])):=fun _ _ _=>rfl
theorem zsN:∀ (t:Nat),zsa (.pv (.ifc t true []))=some (.iface t (.agg #[])):=fun _=>rfl
theorem zqb:∀ (f:Nat) (cs:List AVal),AVal.cells (.clo f cs)=[.clo f cs]:=fun _ _=>rfl
theorem zvG:∀ (f:Nat) (cs:List AVal),AVal.isCell (.clo f cs)=true:=fun _ _=>rfl
theorem zvH:∀ (t:Nat) (ag:Bool) (cs:List PVal),zuG .eql (some .iface) (.ifc t ag cs)=some (.bool false):=fun _ _ _=>rfl
theorem zvI:∀ (t:Nat) (ag:Bool) (cs:List PVal),zuG .neq (some .iface) (.ifc t ag cs)=some (.bool true):=fun _ _ _=>rfl
theorem zqc:∀ (sl:List AVal) (ob:List (Option AObj)) (i:Nat),zaf env ⟨sl,ob⟩ (.tmp i)=sl.getD i .junk:=fun _ _ _=>rfl
theorem zqd:∀ (k:IntKind) (n:Int),zaf env σ (.const (.int k n))=.pv (.int k n):=fun _ _=>rfl
theorem zoO:∀ (b:Bool),zaf env σ (.const (.bool b))=.pv (.bool b):=fun _=>rfl
theorem zqe:∀ (l:List UInt8),zaf env σ (.const (.string ⟨l.toArray⟩))=.pv (.str l):=fun _=>rfl
theorem zoP:zaf env σ (.const (.slice none 0 0))=.snil:=rfl
theorem zoQ:zaf env σ (.const (.pointer none))=.pv .nilptr:=rfl
theorem zoR:zaf env σ (.const (.map none))=.pv .nilmap:=rfl
theorem zqf:∀ (l:List Value),zaf env σ (.const (.agg l.toArray))=.agg (l.map zaR):=fun _=>rfl
theorem zsO:∀ (k:IntKind) (n:Int),zaR (.int k n)=.pv (.int k n):=fun _ _=>rfl
theorem zqg:∀ (b:Bool),zaR (.bool b)=.pv (.bool b):=fun _=>rfl
theorem zsP:∀ (l:List UInt8),zaR (.string ⟨l.toArray⟩)=.pv (.str l):=fun _=>rfl
theorem zqh:zaR (.slice none 0 0)=.snil:=rfl
theorem zqi:zaR (.pointer none)=.pv .nilptr:=rfl
theorem zqj:zaR (.map none)=.pv .nilmap:=rfl
theorem zoS:∀ (b:Nat),zaf env σ (.global b)=(match env.gl b with|some cs=>.pv (.ptr cs)|none=>.junk):=fun _=>rfl
theorem zvJ:∀ (sl:List AVal) (ob:List (Option AObj)) (i:Nat),St.obj ⟨sl,ob⟩ i=ob.getD i none:=fun _ _ _=>rfl
theorem zsQ:∀ (sl:List AVal) (ob:List (Option AObj)) (i:Nat),St.slot ⟨sl,ob⟩ i=sl.getD i .junk:=fun _ _ _=>rfl
theorem zsR:∀ (σ:St) (d:Nat) (v:AVal),σ.app (some d) ⟨v,[]⟩=⟨σ.slots.set d v,σ.objs⟩:=fun _ _ _=>rfl
theorem zyC:∀ (σ:St) (v:AVal),σ.app none ⟨v,[]⟩=⟨σ.slots,σ.objs⟩:=fun _ _=>rfl
theorem zvK:∀ (σ:St) (d:Nat) (v:AVal) (q:Nat × AObj) (r:List (Nat × AObj)),σ.app (some d) ⟨v,q::r⟩=(⟨σ.slots,σ.objs.set q.1 (some q.2)⟩:St).app (some d) ⟨v,r⟩:=fun _ _ _ _ _=>rfl
theorem zsS:∀ (σ:St) (v:AVal) (q:Nat × AObj) (r:List (Nat × AObj)),σ.app none ⟨v,q::r⟩=(⟨σ.slots,σ.objs.set q.1 (some q.2)⟩:St).app none ⟨v,r⟩:=fun _ _ _ _=>rfl
theorem zvL:gd σ none=some True:=rfl
theorem zvM:∀ (i:Nat) (w:Bool),gd σ (some (some (i,w)))=gw (σ.slot i) w:=fun _ _=>rfl
theorem zqk:∀ (cs:List AVal),AVal.cells (.agg cs)=cs:=fun _=>rfl
theorem zsT:∀ (p:PVal),AVal.cells (.pv p)=[.pv p]:=fun _=>rfl
theorem zoT:AVal.cells .snil=[.snil]:=rfl
theorem zql:∀ (i o:Nat),AVal.cells (.ref i o)=[.ref i o]:=fun _ _=>rfl
theorem zqm:∀ (i o:Nat),AVal.cells (.row i o)=[.row i o]:=fun _ _=>rfl
theorem zqn:∀ (i:Nat),AVal.cells (.map i)=[.map i]:=fun _=>rfl
theorem zyD:∀ (p:PVal),AVal.isCell (.pv p)=true:=fun _=>rfl
theorem zsU:AVal.isCell .snil=true:=rfl
theorem zvN:∀ (i o:Nat),AVal.isCell (.ref i o)=true:=fun _ _=>rfl
theorem zvO:∀ (i o:Nat),AVal.isCell (.row i o)=true:=fun _ _=>rfl
theorem zvP:∀ (i:Nat),AVal.isCell (.map i)=true:=fun _=>rfl
theorem zsV:zef []=some []:=rfl
theorem zvQ:∀ (p:PVal) (r:List AVal),zef (.pv p::r)=(zef r).map (p::·):=fun p r=>by simp only [zef,AVal.toP];cases zef r<;>rfl
theorem zqo:∀ (r:List AVal),zef (.snil::r)=(zef r).map (.slice []::·):=fun r=>by simp only [zef,AVal.toP];cases zef r<;>rfl
theorem zsW:∀ (i o:Nat) (r:List AVal),zef (.ref i o::r)=none:=fun _ _ r=>by simp only [zef,AVal.toP]
theorem zqp:∀ (i o j z:Nat) (r:List AVal),zef (.eref i o j z::r)=none:=fun _ _ _ _ r=>by simp only [zef,AVal.toP]
theorem zoU:∀ (sz k:Nat),zfG sz k []=some []:=fun _ _=>rfl
theorem zmq:∀ (sz k i:Nat) (v:AVal) (r:List (Nat × AVal)),zfG sz k ((i,v)::r)=(if i=k∧v.cells.length=sz∧v.cells.all AVal.isCell=true then (zfG sz (k+1) r).map (v.cells++·) else none):=fun _ _ _ _ _=>rfl
theorem zqq:∀ (sz k:Nat),zgV sz k []=some []:=fun _ _=>rfl
theorem zoV:∀ (sz k i:Nat) (v:AVal) (r:List (Nat × AVal)),zgV sz k ((i,v)::r)=(if i=k∧v.cells.length=sz then (match zef v.cells,zgV sz (k+1) r with|some ps,some r=>some (ps::r)|_,_=>none) else none):=fun _ _ _ _ _=>rfl
theorem zqr:∀ (pl:Nat→Option (Nat × Nat)) (cs:List AVal),zgl pl cs []=some cs:=fun _ _=>rfl
theorem zoW:∀ (pl:Nat→Option (Nat × Nat)) (cs:List AVal) (i:Nat) (v:AVal) (r:List (Nat × AVal)),zgl pl cs ((i,v)::r)=(match pl i with|none=>none|some (off,size)=>if v.cells.length=size∧off+size≤cs.length∧v.cells.all AVal.isCell=true then zgl pl (zei cs off v.cells) r else none):=fun _ _ _ _ _=>rfl
theorem zsX:∀ (cs:List AVal) (off:Nat) (v:List AVal),zei cs off v=cs.take off++v++cs.drop (off+v.length):=fun _ _ _=>rfl
theorem zsY:∀ (ob:Nat→Option AObj),zcb ob .snil=some []:=fun _=>rfl
theorem zyE:∀ (ob:Nat→Option AObj) (xs:List (List PVal)),zcb ob (.pv (.slice xs))=some xs:=fun _ _=>rfl
theorem zvR:∀ (ob:Nat→Option AObj) (s:List UInt8),zcb ob (.pv (.str s))=some (s.map zl2):=fun _ _=>rfl
theorem zvS:zl7 .slice=true:=rfl
theorem zvT:zl7 .string=true:=rfl
theorem zsZ:∀ (s:List UInt8),((s.map zl2).all fun y=>y.length==1)=true:=fun s=>by simp [zl2]
theorem zqs:∀ (s:List UInt8),zdC (s.map zl2)=some (s.map fun c=>(c.toNat:Int)):=fun s=>by induction s with|nil=>rfl|cons c r ih=>simp only [List.map_cons,zl2,zdC] at *;rw [ih];rfl
theorem zqt:∀ (s:List UInt8),zfH (s.map fun c=>(c.toNat:Int))=s:=fun s=>by induction s with|nil=>rfl|cons c r ih=>simp only [zfH,List.map_cons] at *;rw [ih];simp
theorem zvU:∀ (ob:Nat→Option AObj) (id n:Nat),zcb ob (.row id n)=(match ob id with|some (.row _ xs)=>if xs.length=n then some xs else none|_=>none):=fun _ _ _=>rfl
theorem zs0:∀ (ev:Operand→AVal) (n:Nat),zcg ev none n=some (n:Int):=fun _ _=>rfl
theorem zs1:∀ (ev:Operand→AVal) (q:Operand) (n:Nat),zcg ev (some q) n=(match ev q with|.pv (.int _ i)=>some i|_=>none):=fun _ _ _=>rfl
theorem zs2:∀ (f:PVal→PVal→Option PVal) (p:PVal),ze4 f p []=some p:=fun _ _=>rfl
theorem zqu:∀ (f:PVal→PVal→Option PVal) (p q:PVal) (r:List AVal),ze4 f p (.pv q::r)=(match f p q with|some x=>ze4 f x r|none=>none):=fun _ _ _ _=>rfl
theorem zyF:∀ (k k2:IntKind) (x y:Int),zu8 (.int k x) (.int k2 y)=some (.int k (zi8 x y)):=fun _ _ _ _=>rfl
theorem zyG:∀ (k k2:IntKind) (x y:Int),zu9 (.int k x) (.int k2 y)=some (.int k (zDs x y)):=fun _ _ _ _=>rfl
theorem zs3:∀ (l:List Oper),zj2 l []=[]:=fun _=>rfl
theorem zqv:∀ (l:List Oper) (d:Option Nat) (op:Op) (ty:TypeId) (ps:String) (af:Array Edge) (g:Option (Nat × Bool)) (r:List Oper),zj2 l (⟨d,op,ty,ps,af,g⟩::r)=⟨d,op,zvg l g⟩::zj2 l r:=fun _ _ _ _ _ _ _ _=>rfl
theorem zqw:∀ (l:List Oper),zvg l none=none:=fun _=>rfl
theorem zqx:∀ (l:List Oper) (j:Nat) (w:Bool),zvg l (some (j,w))=some (((l[j]?).bind (·.dst)).map fun t=>(t,w)):=fun _ _ _=>rfl
theorem zs4:ziX env σ []=some []:=rfl
theorem zs5:∀ (i:Nat) (r:List ResultVar),ziX env σ (.tmp i::r)=(ziX env σ r).map (σ.slot i::·):=fun i r=>by simp only [ziX,zgo];cases ziX env σ r<;>rfl
theorem zqy:∀ (i t:Nat) (r:List ResultVar),ziX env σ (.cell i t::r)=(match zgo env σ (.cell i t),ziX env σ r with|some v,some vs=>some (v::vs)|_,_=>none):=fun _ _ _=>rfl
theorem zoX:∀ (i t:Nat),zgo env σ (.cell i t)=(match env.ty t,σ.slot i with|some ty,.ref id off=>(match σ.obj id with|some (.cells cs)=>if off+ty.size≤cs.length∧0<ty.size then some (if ty.agg then .agg ((cs.drop off).take ty.size) else cs.getD off .junk) else none|_=>none)|_,_=>none):=fun _ _=>rfl
theorem zs6:∀ (v:AVal),zmg [v]=v:=fun _=>rfl
theorem zs7:zmg []=.tup []:=rfl
theorem zs8:∀ (a b:AVal) (r:List AVal),zmg (a::b::r)=.tup (a::b::r):=fun _ _ _=>rfl
theorem zs9:∀ (cs:List AVal),zr8 (.agg cs)=(zef cs).map fun ps=>(true,ps):=fun _=>rfl
theorem zta:∀ (i:Nat),zeh (.tmp i)=false:=fun _=>rfl
theorem ztb:∀ (k:IntKind) (n:Int),zeh (.const (.int k n))=false:=fun _ _=>rfl
theorem zqz:∀ (b:Bool),zeh (.const (.bool b))=false:=fun _=>rfl
theorem ztc:∀ (s:ByteArray),zeh (.const (.string s))=false:=fun _=>rfl
theorem ztd:zeh (.const .nilIface)=true:=rfl
theorem zvV:∀ (b:Bool),zuG .eql (some .iface) (.err b)=some (.bool b):=fun _=>rfl
theorem zvW:∀ (b:Bool),zuG .neq (some .iface) (.err b)=some (.bool (!b)):=fun _=>rfl
theorem zoY:zaf env σ (.const .nilIface)=.pv (.err true):=rfl
theorem zqA:zaR .nilIface=.pv (.err true):=rfl
theorem zte:zdC []=some []:=rfl
theorem zqB:∀ (n:Int) (r:List (List PVal)),zdC ([.int .u8 n]::r)=(zdC r).map (n::·):=fun _ _=>rfl
theorem zyH:∀ (l:List PVal),zfc (true,l)=.agg (l.map .pv):=fun _=>rfl
theorem zyI:∀ (l:List PVal),zfc (false,l)=.pv (l.getD 0 .nilptr):=fun _=>rfl
theorem zvX:∀ (p:PVal),zr8 (.pv p)=some (false,[p]):=fun _=>rfl
theorem ztf:zl1 [] [] []=some true:=rfl
theorem zqC:∀ (k:Kd) (ks:List Kd) (c d:AVal) (cs ds:List AVal),zl1 (k::ks) (c::cs) (d::ds)=(match zuF k c d,zl1 ks cs ds with|some a,some b=>some (a&&b)|_,_=>none):=fun _ _ _ _ _ _=>rfl
theorem ztg:∀ (k:IntKind) (a b:Int),zuF (.int k) (.pv (.int k a)) (.pv (.int k b))=some (a==b):=fun _ _ _=>by simp [zuF]
theorem zqD:∀ (a b:Bool),zuF .bool (.pv (.bool a)) (.pv (.bool b))=some (a==b):=fun _ _=>rfl
theorem zth:∀ (a b:List UInt8),zuF .string (.pv (.str a)) (.pv (.str b))=some (a==b):=fun _ _=>rfl
theorem zvY:∀ (ks:List Kd) (cs ds:List AVal),zxn .eql (some ks) cs ds=zl1 ks cs ds:=fun _ _ _=>rfl
theorem zvZ:∀ (ks:List Kd) (cs ds:List AVal),zxn .neq (some ks) cs ds=(zl1 ks cs ds).map (!·):=fun _ _ _=>rfl
theorem zyJ:∀ (s:Nat) (xs:List (List PVal)),exSl s xs=zxz (s==999) xs:=fun _ _=>rfl
theorem zyK:∀ (x:List PVal) (r:List (List PVal)),zxz true (x::r)=.xsl (x::r):=fun _ _=>rfl
theorem zyL:∀ (xs:List (List PVal)),zxz false xs=.slice xs:=fun xs=>rfl
theorem zyM:∀ (b:Bool),zxz b []=.slice []:=fun b=>by cases b<;>rfl
theorem zyN:∀ (d:Nat) (f:Nat→Nat),(some d).elim 0 f=f d:=fun _ _=>rfl
theorem zyO:∀ (f:Nat→Nat),(none:Option Nat).elim 0 f=0:=fun _=>rfl
theorem zyP:∀ (kd:Option Kd) (k:IntKind) (a b:Int),zfh .add kd (.int k a) (.int k b)=some (.int k (k.wrap (a+b))):=fun _ _ _ _=>by simp [zfh]
theorem zyQ:∀ (kd:Option Kd) (k:IntKind) (a b:Int),zfh .sub kd (.int k a) (.int k b)=some (.int k (k.wrap (a - b))):=fun _ _ _ _=>by simp [zfh]
theorem zyR:∀ (kd:Option Kd) (k:IntKind) (a b:Int),zfh .mul kd (.int k a) (.int k b)=some (.int k (k.wrap (a * b))):=fun _ _ _ _=>by simp [zfh]
theorem zyS:∀ (kd:Option Kd) (k:IntKind) (a b:Int),zfh .quo kd (.int k a) (.int k b)=if b=0 then none else some (.int k (k.wrap (a.tdiv b))):=fun _ _ _ _=>by simp [zfh]
theorem zyT:∀ (kd:Option Kd) (k:IntKind) (a b:Int),zfh .rem kd (.int k a) (.int k b)=if b=0 then none else some (.int k (a.tmod b)):=fun _ _ _ _=>by simp [zfh]
theorem zyU:∀ (kd:Option Kd) (k:IntKind) (a b:Int),zfh .eql kd (.int k a) (.int k b)=some (.bool (a==b)):=fun _ _ _ _=>by simp [zfh]
theorem zyV:∀ (kd:Option Kd) (k:IntKind) (a b:Int),zfh .neq kd (.int k a) (.int k b)=some (.bool (a != b)):=fun _ _ _ _=>by simp [zfh]
theorem zyW:∀ (kd:Option Kd) (k:IntKind) (a b:Int),zfh .lss kd (.int k a) (.int k b)=some (.bool (decide (a<b))):=fun _ _ _ _=>by simp [zfh]
theorem zyX:∀ (kd:Option Kd) (k:IntKind) (a b:Int),zfh .leq kd (.int k a) (.int k b)=some (.bool (decide (a≤b))):=fun _ _ _ _=>by simp [zfh]
theorem zv0:∀ (kd:Option Kd) (k:IntKind) (a b:Int),zfh .gtr kd (.int k a) (.int k b)=some (.bool (decide (a > b))):=fun _ _ _ _=>by simp [zfh]
theorem zv1:∀ (kd:Option Kd) (k:IntKind) (a b:Int),zfh .geq kd (.int k a) (.int k b)=some (.bool (decide (a≥b))):=fun _ _ _ _=>by simp [zfh]
theorem zv2:∀ (kd:Option Kd) (a b:List UInt8),zfh .eql kd (.str a) (.str b)=some (.bool (a==b)):=fun _ _ _=>rfl
theorem zv3:∀ (kd:Option Kd) (a b:List UInt8),zfh .neq kd (.str a) (.str b)=some (.bool (!(a==b))):=fun _ _ _=>rfl
theorem zv4:∀ (kd:Option Kd) (a b:List UInt8),zfh .add kd (.str a) (.str b)=if a.length+b.length≤4611686018427387904 then some (.str (a++b)) else none:=fun _ _ _=>rfl
theorem zv5:∀ (a b:Bool),zfh .eql (some .bool) (.bool a) (.bool b)=some (.bool (a==b)):=fun _ _=>rfl
theorem zv6:∀ (a b:Bool),zfh .neq (some .bool) (.bool a) (.bool b)=some (.bool (!(a==b))):=fun _ _=>rfl
theorem zD3:∀ {α:Type} (a0:α) (l:List α) (x:α),(a0::l).getD 0 x=a0:=fun _ _ _=>rfl
theorem zD4:∀ {α:Type} (a0:α) (l:List α) (x:α),(a0::l).set 0 x=x::l:=fun _ _ _=>rfl
theorem zD5:∀ {α:Type} (a0 a1:α) (l:List α) (x:α),(a0::a1::l).getD 1 x=a1:=fun _ _ _ _=>rfl
theorem zD6:∀ {α:Type} (a0 a1:α) (l:List α) (x:α),(a0::a1::l).set 1 x=a0::x::l:=fun _ _ _ _=>rfl
theorem zD7:∀ {α:Type} (a0 a1 a2:α) (l:List α) (x:α),(a0::a1::a2::l).getD 2 x=a2:=fun _ _ _ _ _=>rfl
theorem zD8:∀ {α:Type} (a0 a1 a2:α) (l:List α) (x:α),(a0::a1::a2::l).set 2 x=a0::a1::x::l:=fun _ _ _ _ _=>rfl
theorem zD9:∀ {α:Type} (a0 a1 a2 a3:α) (l:List α) (x:α),(a0::a1::a2::a3::l).getD 3 x=a3:=fun _ _ _ _ _ _=>rfl
theorem zEa:∀ {α:Type} (a0 a1 a2 a3:α) (l:List α) (x:α),(a0::a1::a2::a3::l).set 3 x=a0::a1::a2::x::l:=fun _ _ _ _ _ _=>rfl
theorem zEb:∀ {α:Type} (a0 a1 a2 a3 a4:α) (l:List α) (x:α),(a0::a1::a2::a3::a4::l).getD 4 x=a4:=fun _ _ _ _ _ _ _=>rfl
theorem zEc:∀ {α:Type} (a0 a1 a2 a3 a4:α) (l:List α) (x:α),(a0::a1::a2::a3::a4::l).set 4 x=a0::a1::a2::a3::x::l:=fun _ _ _ _ _ _ _=>rfl
theorem zEd:∀ {α:Type} (a0 a1 a2 a3 a4 a5:α) (l:List α) (x:α),(a0::a1::a2::a3::a4::a5::l).getD 5 x=a5:=fun _ _ _ _ _ _ _ _=>rfl
theorem zEe:∀ {α:Type} (a0 a1 a2 a3 a4 a5:α) (l:List α) (x:α),(a0::a1::a2::a3::a4::a5::l).set 5 x=a0::a1::a2::a3::a4::x::l:=fun _ _ _ _ _ _ _ _=>rfl
theorem zEf:∀ {α:Type} (a0 a1 a2 a3 a4 a5 a6:α) (l:List α) (x:α),(a0::a1::a2::a3::a4::a5::a6::l).getD 6 x=a6:=fun _ _ _ _ _ _ _ _ _=>rfl
theorem zEg:∀ {α:Type} (a0 a1 a2 a3 a4 a5 a6:α) (l:List α) (x:α),(a0::a1::a2::a3::a4::a5::a6::l).set 6 x=a0::a1::a2::a3::a4::a5::x::l:=fun _ _ _ _ _ _ _ _ _=>rfl
theorem zEh:∀ {α:Type} (a0 a1 a2 a3 a4 a5 a6 a7:α) (l:List α) (x:α),(a0::a1::a2::a3::a4::a5::a6::a7::l).getD 7 x=a7:=fun _ _ _ _ _ _ _ _ _ _=>rfl
theorem zEi:∀ {α:Type} (a0 a1 a2 a3 a4 a5 a6 a7:α) (l:List α) (x:α),(a0::a1::a2::a3::a4::a5::a6::a7::l).set 7 x=a0::a1::a2::a3::a4::a5::a6::x::l:=fun _ _ _ _ _ _ _ _ _ _=>rfl
theorem zEj:∀ {α:Type} (a0 a1 a2 a3 a4 a5 a6 a7:α) (l:List α) (n:Nat) (x:α),(a0::a1::a2::a3::a4::a5::a6::a7::l).getD (n+8) x=l.getD n x:=fun _ _ _ _ _ _ _ _ _ _ _=>rfl
theorem zEk:∀ {α:Type} (a0 a1 a2 a3 a4 a5 a6 a7:α) (l:List α) (n:Nat) (x:α),(a0::a1::a2::a3::a4::a5::a6::a7::l).set (n+8) x=a0::a1::a2::a3::a4::a5::a6::a7::l.set n x:=fun _ _ _ _ _ _ _ _ _ _ _=>rfl
def zEl:=And.intro @zAT<|And.intro @zAU<|And.intro @zAV<|And.intro @zAW<|And.intro @zAX<|And.intro @zAY<|And.intro @zAZ<|And.intro @zA0<|And.intro @zA1<|@zxY
def zEm:=And.intro @zxZ<|And.intro @zx0<|And.intro @zx1<|And.intro @zx2<|And.intro @zx3<|And.intro @zx4<|And.intro @zx5<|And.intro @zx6<|And.intro @zx7<|@zx8
def zEn:=And.intro @zx9<|And.intro @zya<|And.intro @zyb<|And.intro @zyc<|And.intro @zyd<|And.intro @zye<|And.intro @zyf<|And.intro @zyg<|And.intro @zyh<|@zA2
def zEo:=And.intro @zA3<|And.intro @zA4<|And.intro @zA5<|And.intro @zA6<|And.intro @zA7<|And.intro @zA8<|And.intro @zA9<|And.intro @zBa<|And.intro @zyi<|@zyj
def zEp:=And.intro @zyk<|And.intro @zyl<|And.intro @zym<|And.intro @zyn<|And.intro @zyo<|And.intro @zyp<|And.intro @zyq<|And.intro @zyr<|And.intro @zys<|@zyt
def zEq:=And.intro @zyu<|And.intro @zyv<|And.intro @zyw<|And.intro @zyx<|And.intro @zyy<|And.intro @zyz<|And.intro @zyA<|@zyB
def zEr:=And.intro @zDU<|And.intro @zDV<|And.intro @zDW<|And.intro @zDX<|And.intro @zDY<|And.intro @zDZ<|And.intro @zD0<|And.intro @zD1<|And.intro @zD2<|@zBb
def zEs:=And.intro @zBc<|And.intro @zBd<|And.intro @zBe<|And.intro @zBf<|And.intro @zBg<|And.intro @zBh<|And.intro @zBi<|And.intro @zBj<|And.intro @zBk<|@zBl
def zEt:=And.intro @zBm<|And.intro @zBn<|And.intro @zBo<|And.intro @zBp<|And.intro @zBq<|And.intro @zBr<|And.intro @zBs<|And.intro @zBt<|@zBu
def zEu:=And.intro @zDt<|And.intro @zsM<|And.intro @zsN<|And.intro @zqb<|And.intro @zvG<|And.intro @zvH<|And.intro @zvI<|And.intro @zqc<|And.intro @zqd<|@zoO
def zEv:=And.intro @zqe<|And.intro @zoP<|And.intro @zoQ<|And.intro @zoR<|And.intro @zqf<|And.intro @zsO<|And.intro @zqg<|And.intro @zsP<|And.intro @zqh<|@zqi
def zEw:=And.intro @zqj<|And.intro @zoS<|And.intro @zvJ<|And.intro @zsQ<|And.intro @zsR<|And.intro @zyC<|And.intro @zvK<|And.intro @zsS<|And.intro @zvL<|@zvM
def zEx:=And.intro @zqk<|And.intro @zsT<|And.intro @zoT<|And.intro @zql<|And.intro @zqm<|And.intro @zqn<|And.intro @zyD<|And.intro @zsU<|And.intro @zvN<|@zvO
def zEy:=And.intro @zvP<|And.intro @zsV<|And.intro @zvQ<|And.intro @zqo<|And.intro @zsW<|And.intro @zqp<|And.intro @zoU<|And.intro @zmq<|And.intro @zqq<|@zoV
def zEz:=And.intro @zqr<|And.intro @zoW<|And.intro @zsX<|And.intro @zsY<|And.intro @zyE<|And.intro @zvR<|And.intro @zvS<|And.intro @zvT<|And.intro @zsZ<|@zqs
def zEA:=And.intro @zqt<|And.intro @zvU<|And.intro @zs0<|And.intro @zs1<|And.intro @zs2<|And.intro @zqu<|And.intro @zyF<|And.intro @zyG<|And.intro @zs3<|@zqv
def zEB:=And.intro @zqw<|And.intro @zqx<|And.intro @zs4<|And.intro @zs5<|And.intro @zqy<|And.intro @zoX<|And.intro @zs6<|And.intro @zs7<|And.intro @zs8<|@zs9
def zEC:=And.intro @zta<|And.intro @ztb<|And.intro @zqz<|And.intro @ztc<|And.intro @ztd<|And.intro @zvV<|And.intro @zvW<|And.intro @zoY<|And.intro @zqA<|@zte
def zED:=And.intro @zqB<|And.intro @zyH<|And.intro @zyI<|And.intro @zvX<|And.intro @ztf<|And.intro @zqC<|And.intro @ztg<|And.intro @zqD<|And.intro @zth<|@zvY
def zBv:=And.intro @zvZ<|And.intro @zyJ<|And.intro @zyK<|And.intro @zyL<|And.intro @zyM<|And.intro @zyN<|And.intro @zyO<|And.intro @zyP<|And.intro @zyQ<|@zyR
def zBw:=And.intro @zyS<|And.intro @zyT<|And.intro @zyU<|And.intro @zyV<|And.intro @zyW<|And.intro @zyX<|And.intro @zv0<|And.intro @zv1<|And.intro @zv2<|@zv3
def zBx:=And.intro @zv4<|And.intro @zv5<|And.intro @zv6<|And.intro @zD3<|And.intro @zD4<|And.intro @zD5<|And.intro @zD6<|And.intro @zD7<|And.intro @zD8<|@zD9
def zBy:=And.intro @zEa<|And.intro @zEb<|And.intro @zEc<|And.intro @zEd<|And.intro @zEe<|And.intro @zEf<|And.intro @zEg<|And.intro @zEh<|And.intro @zEi<|@zEj
def zBz:=@zEk
def zEE:=And.intro @List.map_cons.{0,0}<|And.intro @List.map_nil.{0,0}<|And.intro @List.all_cons.{0}<|And.intro @List.all_nil.{0}<|And.intro @List.take_succ_cons.{0}<|And.intro @List.take_zero.{0}<|And.intro @List.drop_succ_cons.{0}<|And.intro @List.drop_zero.{0}<|And.intro @List.length_cons.{0}<|@List.length_nil.{0}
def zEF:=And.intro @List.length_map.{0,0}<|And.intro @List.nil_append.{0}<|And.intro @List.cons_append.{0}<|And.intro @List.append_nil.{0}<|And.intro @List.getElem?_cons_zero.{0}<|And.intro @List.getElem?_cons_succ.{0}<|And.intro @List.size_toArray.{0}<|And.intro @List.toList_toArray.{0}<|And.intro @Option.bind_some.{0,0}<|@Option.map_some.{0,0}
def zEG:=And.intro @Option.map_none.{0,0}<|And.intro @Option.getD_some.{0}<|And.intro @Bool.and_self<|And.intro @Bool.and_true<|And.intro @Bool.true_and<|And.intro @Bool.not_true<|And.intro @Bool.not_false<|And.intro @Int.toNat_natCast<|And.intro @Nat.zero_add<|@Nat.add_zero
def zEH:=And.intro @Nat.zero_mul<|And.intro @Nat.one_mul<|And.intro @zAO<|And.intro @Int.cast_ofNat_Int<|And.intro @beq_true<|And.intro @beq_false<|And.intro and_self<|And.intro and_true<|And.intro true_and<|true_or
def zEI:=And.intro or_true<|And.intro @if_true.{1}<|And.intro @if_false.{1}<|And.intro @ite_self.{1}<|And.intro Bool.false_eq_true<|And.intro @eq_self.{1}<|And.intro @beq_self_eq_true.{0}<|And.intro Nat.lt_irrefl<|And.intro @ne_eq.{1}<|not_true_eq_false
def zEJ:=And.intro not_false_eq_true<|And.intro @decide_true<|And.intro @decide_false<|And.intro Nat.succ_ne_self<|And.intro Int.natCast_nonneg<|And.intro @implies_true.{1}<|And.intro @true_implies<|And.intro @zvh<|And.intro @zsq<|@List.replicate_zero.{0}
def zEK:=And.intro @List.replicate_succ.{0}<|And.intro @Bool.true_eq_false<|And.intro @PVal.int.injEq<|And.intro @PVal.bool.injEq<|And.intro @PVal.str.injEq<|@PVal.slice.injEq
def kx:=And.intro @zEl<|And.intro @zEm<|And.intro @zEn<|And.intro @zEo<|And.intro @zEp<|And.intro @zEq<|And.intro @zEr<|And.intro @zEs<|And.intro @zEt<|And.intro @zEu<|And.intro @zEv<|And.intro @zEw<|And.intro @zEx<|And.intro @zEy<|And.intro @zEz<|And.intro @zEA<|And.intro @zEB<|And.intro @zEC<|And.intro @zED<|And.intro @zBv<|And.intro @zBw<|And.intro @zBx<|And.intro @zBy<|And.intro @zBz<|And.intro @zEE<|And.intro @zEF<|And.intro @zEG<|And.intro @zEH<|And.intro @zEI<|And.intro @zEJ<|And.intro @zEK<|And.intro @kw1<|And.intro @kw2<|And.intro @kw5<|@kw6
def ky:=And.intro @kw3<|@kw4
end Go.Abs
namespace Go.Abs
open Go
variable {P:Program} {env:Env} {pin:Nat} {σ:St} {Q:Exit→St→Prop}
section
variable {K:KT} {t:Tg K} {p:Prop} {f:FuncId} {vals cargs:List AVal} {res:AVal} {d:Option Nat} {rest:List COp} {acc:Option Tr}
theorem Ctr.pure (hent:∀ vargs w,(callFunc f vargs).run P w=.ok (.enter f vargs) w) (hac:AC P env.gl f cargs [] res []) (hs:zsp vals cargs) (hsc:zaw (zak []) vals=true) (hres:zap (zak []) res=true)
  {K':List Nat→Eff→Prop} {KP:Value→St→Prop} (h:K' [] ⟨res,[]⟩):Ctr P env f vals σ K' KP:=by
 refine .inl ⟨vals,[],[],[],res,[],hac.sub hs,fun o ho=>CallFits.pure ho hent (by rw [zet _ _ hsc]) hsc,?_⟩
 rw [zno _ _ hres]
 exact h
theorem CK.cp (hent:∀ vargs w,(callFunc f vargs).run P w=.ok (.enter f vargs) w) (hac:p→AC P env.gl f vals [] res []) (hsc:zaw (zak []) vals=true) (hres:zap (zak []) res=true)
  (h:VL P env K t rest (zbF acc ([],[])) (σ.app d ⟨cw p res,[]⟩)):CK P env K t p f vals d rest acc σ:=
 ⟨fun hp=>Ctr.pure hent (hac hp) (zhN _) hsc hres (by rw [zjj hp] at h;exact h),fun hp=>by rw [zp4 hp] at h;exact h⟩
theorem CK.co {A:List AVal} {O vobjs:List (Option AObj)} {objs':List (Option AObj)} (ids news:List Nat) (hent:∀ vargs w,(callFunc f vargs).run P w=.ok (.enter f vargs) w)
  (hac:AC P env.gl f A vobjs res objs') (hobjs:ids.map σ.obj=O)
  (hA:zep (tau (ids++news)) A=vals) (hO:zj5 (tau (ids++news)) vobjs=O) (hsA:zaw (zak vobjs) A=true) (hsO:zr9 (zak vobjs) vobjs=true)
  (hn:((ids++news).Nodup∧∀ id ∈ ids++news,id<env.nobj)) (hf:zfP σ news=true) (hl:objs'.length≤(ids++news).length)
  (h:VL P env K t rest (zbF acc (ids++news,(zaH (tau (ids++news)) (ids++news) 0 objs').map Prod.fst)) (σ.app d ⟨ren (tau (ids++news)) res,zaH (tau (ids++news)) (ids++news) 0 objs'⟩)):CK P env K t True f vals d rest acc σ:=
 ⟨fun _=>.inl ⟨A,vobjs,ids,news,res,objs',hac,fun _ ho=>zxH ids news ho hent hobjs hA hO hsA hsO hn hf hl,h⟩,fun h=>(h trivial).elim⟩
theorem CK.po {A:List AVal} {O vobjs:List (Option AObj)} {objs':List (Option AObj)} {x:Value} (ids news:List Nat) (hent:∀ vargs w,(callFunc f vargs).run P w=.ok (.enter f vargs) w)
  (hac:AP P env.gl f A vobjs x objs') (hobjs:ids.map σ.obj=O)
  (hA:zep (tau (ids++news)) A=vals) (hO:zj5 (tau (ids++news)) vobjs=O) (hsA:zaw (zak vobjs) A=true) (hsO:zr9 (zak vobjs) vobjs=true)
  (hn:((ids++news).Nodup∧∀ id ∈ ids++news,id<env.nobj)) (hf:zfP σ news=true) (hl:objs'.length≤(ids++news).length)
  (h:K acc (some x) ⟨σ.slots,zaA σ.objs (zaH (tau (ids++news)) (ids++news) 0 objs')⟩):CK P env K t True f vals d rest acc σ:=
 ⟨fun _=>.inr ⟨A,vobjs,ids,news,x,objs',hac,fun _ ho=>zxH ids news ho hent hobjs hA hO hsA hsO hn hf hl,h⟩,fun h=>(h trivial).elim⟩
end
theorem zbc (k:Nat) (h:k<9223372036854775807):IntKind.i64.wrap ((k:Int)+1)=((k+1:Nat):Int):=by rw [zat _ (by omega) (by omega)];rfl
theorem zti {α:Type} (f:α→List PVal) (l:List α) (k:Nat) (d:α) (h:k<l.length):(l.map f).getD k []=f (l.getD k d):=by simp [List.getD,h]
theorem zyY (ι:Nat→Nat) (i o:Nat):ren ι (.ref i o)=.ref (ι i) o:=by simp [ren]
theorem zyZ (ι:Nat→Nat) (i o:Nat):ren ι (.row i o)=.row (ι i) o:=by simp [ren]
theorem zy0 (ι:Nat→Nat) (i:Nat):ren ι (.map i)=.map (ι i):=by simp [ren]
theorem zy1 (ι:Nat→Nat) (p:PVal):ren ι (.pv p)=.pv p:=by simp [ren]
theorem zy2 (ι:Nat→Nat):ren ι .snil=.snil:=by simp [ren]
theorem zy3 (ι:Nat→Nat) (l:List AVal):ren ι (.agg l)=.agg (zep ι l):=by simp [ren]
theorem zy4 (ι:Nat→Nat) (l:List AVal):ren ι (.tup l)=.tup (zep ι l):=by simp [ren]
theorem zy5 (ι:Nat→Nat):ren ι .junk=.junk:=by simp [ren]
theorem zy6 (ι:Nat→Nat) (f:Nat) (l:List AVal):ren ι (.clo f l)=.clo f (zep ι l):=by simp [ren]
theorem zy7 (ι:Nat→Nat) (i n z:Nat):ren ι (.csl i n z)=.csl (ι i) n z:=by simp [ren]
theorem zv7 (ι:Nat→Nat):zep ι []=[]:=by simp [zep]
theorem zv8 (ι:Nat→Nat) (a:AVal) (r:List AVal):zep ι (a::r)=ren ι a::zep ι r:=by simp [zep]
theorem zqE (ι:Nat→Nat) (l:List AVal):zfD ι (.cells l)=.cells (zep ι l):=rfl
theorem zqF (ι:Nat→Nat) (sz:Nat) (xs:List (List PVal)):zfD ι (.row sz xs)=.row sz xs:=rfl
theorem zqG (ι:Nat→Nat) (kd:Kd) (es:List (PVal × Bool × List PVal)):zfD ι (.map kd es)=.map kd es:=rfl
theorem zv9 (ι:Nat→Nat):zfD ι .dead=.dead:=rfl
theorem zwa (ι:Nat→Nat) (T e B n:Nat):zfD ι (.bh T e B n)=.bh T e (ι B) n:=rfl
theorem zwb (ι:Nat→Nat) (e:Nat) (s:List UInt8):zfD ι (.bb e s)=.bb e s:=rfl
theorem zBA (ι:Nat→Nat) (k:Nat) (o:List (Option AObj)):zaH ι [] k o=[]:=rfl
theorem zBB (ι:Nat→Nat) (i:Nat) (l:List Nat) (k:Nat) (o:List (Option AObj)):zaH ι (i::l) k o=(i,zfD ι ((o.getD k none).getD .dead))::zaH ι l (k+1) o:=rfl
theorem ztj (o:List (Option AObj)):zaA o []=o:=rfl
theorem ztk (o:List (Option AObj)) (q:Nat × AObj) (r:List (Nat × AObj)):zaA o (q::r)=zaA (o.set q.1 (some q.2)) r:=rfl
theorem zBC (l:List Nat) (k:Nat):tau l k=l.getD k 0:=rfl
def kz1:=And.intro @zy7<|And.intro @zyY<|And.intro @zyZ<|And.intro @zy0<|And.intro @zy1<|And.intro @zy2<|And.intro @zy3<|And.intro @zy4<|And.intro @zy5<|And.intro @zy6<|And.intro @zv7<|@zv8
def kz2:=And.intro @zwa<|And.intro @zwb<|And.intro @zqE<|And.intro @zqF<|And.intro @zqG<|And.intro @zv9<|And.intro @zBA<|And.intro @zBB<|And.intro @ztj<|And.intro @ztk<|@zBC
def kz:=And.intro @kz1 @kz2
def zwc (env:Env) (pin:Nat) (Q:Exit→St→Prop):Exit→St→Prop:=fun e σ=>∃ σ',zbK env pin σ σ'∧Q e σ'
theorem SW.weakEnd {c:Code} (h:SW P env pin c σ (zwc env pin Q)):SW P env pin c σ Q:=fun hl E g M a w hR hG=>
 wp_mono (h hl E g M a w hR hG) fun e a' w' ⟨σ',g',M',⟨σ'',hw,hq⟩,hR',hM,hA,hl'⟩=>by
  obtain ⟨hl2,hw2⟩:=hw hl'
  obtain ⟨g2,M2,hR2,hM2,hA2⟩:=hw2 _ _ _ _ _ hR'
  exact ⟨σ'',g2,M2,hq,hR2,Mem.le_trans hM hM2,hA.trans hA2,hl2⟩
def NX {ι:Type} (env:Env) (pin:Nat) (I:ι→St) (μ:ι→Nat) (t:Tg (I,μ)) (m:Nat) (σ:St):Prop:=∃ j,zbK env pin σ (I j)∧μ j<m
theorem LW.loop {ι:Type} {c:Code} {t:Tg (Code.loop c,Q)} (hE:zaO P env) (hm:P.follows .mixedOrders=true) (I:ι→St) (μ:ι→Nat) (i0:ι) (h0:zbK env pin σ (I i0))
  (round:∀ i,VC P env pin c (I i) (zfN (NX env pin I μ .mk (μ i)) Q)):LW P env pin (.loop c) σ Q t:=
 SW.loop I μ i0 h0 fun i=>VC.to hE hm c (round i)
theorem LW.weak {c:Code} {σ':St} {t:Tg (c,Q)} (hw:zbK env pin σ σ') (h:LW P env pin c σ' Q .mk):LW P env pin c σ Q t:=SW.weak hw h
end Go.Abs
namespace Go.Abs
open Go
variable {P:Program} {env:Env} {pin:Nat} {σ:St} {Q:Exit→St→Prop}
def AD (P:Program) (gl:Nat→Option (List PVal)) (f:FuncId) (args:List AVal) (objs:List (Option AObj)) (u u':FrameMode) (objs':List (Option AObj)):Prop:=
 ∀ (w:World) (M:Mem) (g:Gh) (vargs:List Value),Rel ⟨w,M,zaD g objs,[]⟩ ⟨args,objs⟩ g M ⟨vargs.toArray,[]⟩ w→ziO ⟨fun _=>none,gl,fun _=>0,0⟩ ⟨w,M,zaD g objs,[]⟩ M →
  CallsD P f vargs.toArray u w fun e u2 w'=>∃ v g' M',e=.returned v∧u2=u'∧Rel ⟨w,M,zaD g objs,[]⟩ ⟨[.junk],objs'⟩ g' M' ⟨#[v],[]⟩ w'∧∀ id,zak objs id=true→g.agree g' id
inductive Rec':FrameMode→AVal→FrameMode→Prop
 |idle:Rec' .returning (.pv (.err true)) .returning
 |found (x:Value) (rv:AVal) (h:zsa rv=some x):Rec' (.panicking (ziW x)) rv (.panicking [{ v:=x,recovered:=true }])
theorem znv {p:PVal} {v:Value} {M:Mem} (h:zoM p=some v):Rd M p v:=by
 unfold zoM at h
 split at h<;>cases h<;>constructor
theorem zlc {M:Mem}:∀ {cs:List PVal} {vs:List Value},zjk cs=some vs→vs.length=cs.length∧∀ i,i<cs.length→Rd M (cs.getD i .nilptr) (vs.getD i undef)
 |[],vs,h=>by cases h;exact ⟨rfl,fun i hi=>by simp at hi⟩
 |c::r,vs,h=>by
  unfold zjk at h
  split at h
  ·rename_i v ws h1 h2
   cases h
   obtain ⟨h3,h4⟩:=zlc (M:=M) h2
   refine ⟨by simp [h3],fun i hi=>?_⟩
   cases i with
   |zero=>exact znv h1
   |succ i=>exact h4 i (by simpa using hi)
  ·cases h
theorem zy8 {rv:AVal} {x:Value} (h:zsa rv=some x) (g:Gh) (D:Nat→Prop) (M:Mem):V g D M rv x:=by
 unfold zsa at h
 split at h
 ·split at h
  ·rename_i t cs vs hs
   cases h
   obtain ⟨h1,h2⟩:=zlc (M:=M) hs
   exact .pv (.ifca _ _ vs h1 h2)
  ·cases h
 ·split at h
  ·rename_i t c v hs
   cases h
   exact .pv (.ifco _ _ _ (znv hs))
  ·cases h
 ·cases h
theorem Rel.enter {E:Ent} {args:List AVal} {objs:List (Option AObj)} {g:Gh} {M:Mem} {vargs:List Value} {w:World} (hR:Rel E ⟨args,objs⟩ g M ⟨vargs.toArray,[]⟩ w) (m nobj:Nat) :
  Rel E ⟨args++List.replicate m .junk,objs++List.replicate (nobj - objs.length) none⟩ g M ⟨vargs.toArray++Array.replicate m undef,[]⟩ w:=by
 have hla:vargs.length=args.length:=by simpa using hR.size
 have hobj:∀ id,St.obj ⟨args++List.replicate m .junk,objs++List.replicate (nobj - objs.length) none⟩ id=St.obj ⟨args,objs⟩ id:=fun id=>by
  simp only [St.obj,List.getD]
  by_cases hid:id<objs.length
  ·rw [List.getElem?_append_left hid]
  ·rw [List.getElem?_append_right (by omega),List.getElem?_eq_none (by omega:objs.length≤id)]
   rw [List.getElem?_replicate]
   split<;>rfl
 have hdom:St.dom ⟨args++List.replicate m .junk,objs++List.replicate (nobj - objs.length) none⟩=St.dom ⟨args,objs⟩:=by
  funext id;simp only [St.dom,hobj]
 refine ⟨by simp [hla],hR.defers,?_,?_,?_,?_,hR.sat,hR.M0,hR.Mnew,hR.size0,hR.same,?_,hR.os,hR.tape,hR.output⟩
 ·intro i hi
  rw [hdom]
  by_cases hia:i<args.length
  ·have e1:St.slot ⟨args++List.replicate m .junk,objs++List.replicate (nobj - objs.length) none⟩ i=St.slot ⟨args,objs⟩ i:=by
    simp [St.slot,List.getElem?_append_left hia]
   have e2:(vargs.toArray++Array.replicate m undef).getD i undef=vargs.toArray.getD i undef:=by
    simp only [Array.getD_eq_getD_getElem?]
    rw [Array.getElem?_append_left (by simp;omega)]
   show V g _ M _ ((vargs.toArray++Array.replicate m undef).getD i undef)
   rw [e1,e2];exact hR.slots i hia
  ·have e1:St.slot ⟨args++List.replicate m .junk,objs++List.replicate (nobj - objs.length) none⟩ i=.junk:=by
    simp only [St.slot,List.getD]
    rw [List.getElem?_append_right (by omega),List.getElem?_replicate]
    split<;>rfl
   rw [e1];exact .junk _
 ·intro id o ho;rw [hobj] at ho;rw [hdom];exact hR.objs id o ho
 ·intro id id' o o' b ho ho';rw [hobj] at ho ho';exact hR.apart id id' o o' b ho ho'
 ·intro id o b ho;rw [hobj] at ho;exact hR.offM id o b ho
 ·intro id o b ho;rw [hobj] at ho;exact hR.own0 id o b ho
theorem AD.of_body (hE:zaO P env) (hm:P.follows .mixedOrders=true) {f:FuncId} {fn:Func} {id0 t t':Nat} {ty1 ty2:TypeId} {p1 p2:String} {a1 a2:Array Edge} {tys:Array TypeId} {rest:Code} (hf:P.funcs[f]?=some fn)
  (hb:fn.body=some (.seq (.region id0 #[⟨some t,.call ⟨.builtin .recover,#[],tys⟩,ty1,p1,a1,none⟩,⟨some t',.assign (.tmp t),ty2,p2,a2,none⟩] false) rest)) {args:List AVal} {objs objs':List (Option AObj)} {u u':FrameMode} {rv:AVal}
  (hres:fn.results=#[]) (hrec:Rec' u rv u') (hargs:args.length≤fn.ntmps) (hobjs:objs.length≤env.nobj) (ht:t<fn.ntmps)
  (h:VC P env objs.length rest ((⟨args++List.replicate (fn.ntmps - args.length) .junk,objs++List.replicate (env.nobj - objs.length) none⟩:St).app (some t) ⟨rv,[]⟩ |>.app (some t') ⟨rv,[]⟩) (zaJ env objs.length [] (.tup []) objs')) :
  AD P env.gl f args objs u u' objs':=by
 intro w M g vargs hR hG
 have hla:vargs.length=args.length:=by simpa using hR.size
 refine callsD_of_wpS hf hb fun c₀ cs hu=>?_
 have esz:fn.ntmps - vargs.toArray.size=fn.ntmps - args.length:=by simp [hla]
 rw [esz]
 have hR0:=hR.enter (fn.ntmps - args.length) env.nobj
 obtain ⟨x,hx,hrv,hV⟩:∃ x:Value,(recoverD (c₀::cs)=some (x,{ c₀ with mode:=u' }::cs)∨(recoverD (c₀::cs)=none∧x=.nilIface∧u'=u))∧True∧∀ (g:Gh) (D:Nat→Prop) (M:Mem),V g D M rv x:=by
  cases hrec with
  |idle=>exact ⟨.nilIface,.inr ⟨by simp [recoverD,hu],rfl,rfl⟩,trivial,fun _ _ _=>.pv .errn⟩
  |found x _ hp=>exact ⟨x,.inl (by simp [recoverD,hu,ziW]),trivial,fun g D M=>zy8 hp g D M⟩
 apply wpS_seq
 apply wpS_region
 have hsz:((#[⟨some t,.call ⟨.builtin .recover,#[],tys⟩,ty1,p1,a1,none⟩,⟨some t',.assign (.tmp t),ty2,p2,a2,none⟩]:Array Oper)).size=2:=rfl
 rw [hsz]
 show wpOpsS P _ _ [0,1] _ _ _
 have hmain:∀ cs',((∃ v,v=x∧cs'={ c₀ with mode:=u' }::cs))→wpOpsS P #[⟨some t,.call ⟨.builtin .recover,#[],tys⟩,ty1,p1,a1,none⟩,⟨some t',.assign (.tmp t),ty2,p2,a2,none⟩] (Exit.thenS (rest.wpS P (bodyPostS P fn c₀ cs fun e u2 w'=>∃ v g' M',e=.returned v∧u2=u'∧Rel ⟨w,M,zaD g objs,[]⟩ ⟨[.junk],objs'⟩ g' M' ⟨#[v],[]⟩ w'∧∀ id,zak objs id=true→g.agree g' id)) (bodyPostS P fn c₀ cs fun e u2 w'=>∃ v g' M',e=.returned v∧u2=u'∧Rel ⟨w,M,zaD g objs,[]⟩ ⟨[.junk],objs'⟩ g' M' ⟨#[v],[]⟩ w'∧∀ id,zak objs id=true→g.agree g' id)) [1]
   (Act.put { tmps:=vargs.toArray++Array.replicate (fn.ntmps - args.length) undef,defers:=[] } (some t) x) cs' w:=by
  rintro cs' ⟨v,rfl,rfl⟩
  have h1:=hR0.put (some t) (x:=rv) (hV _ _ _)
  have hev:(Act.put { tmps:=vargs.toArray++Array.replicate (fn.ntmps - args.length) undef,defers:=[] } (some t) v).eval (.tmp t)=v:=by
   have hlt:t<(vargs.toArray++Array.replicate (fn.ntmps - args.length) undef).size:=by simp;omega
   simp only [Act.put,Act.eval]
   rw [Array.getD_eq_getD_getElem?,Array.getElem?_setIfInBounds_self_of_lt hlt]
   rfl
  have h2:=h1.put (some t') (x:=rv) (hV _ _ _)
  simp only [wpOpsS,List.getElem?_toArray,List.getElem?_cons_succ,List.getElem?_cons_zero,Region.wanted,if_true,execOp,hev,Sem.run_pure,Oper.upon,Exit.thenS]
  refine wpS_of_wp ?_
  refine wp_mono (VC.to hE hm rest h (by simp [St.app];omega) _ g M _ w h2 hG) fun e a' w' ⟨σ',g',M',hq,hR',hM,hA,hl'⟩=>?_
  obtain ⟨he,vs,τ,hvs,hws,hwo,hpin,hnd,hlen⟩:=hq
  have key:a'.defers=[]∧∃ u2,({ c₀ with mode:=u' }::cs:List Frame)={ c₀ with mode:=u2 }::cs∧∃ v,(results fn a'.tmps).run P w'=.ok v w'∧(∃ v0 g' M',Ending.returned v=.returned v0∧u2=u'∧Rel ⟨w,M,zaD g objs,[]⟩ ⟨[.junk],objs'⟩ g' M' ⟨#[v0],[]⟩ w'∧∀ id,zak objs id=true→g.agree g' id):=by
   refine ⟨hR'.defers,u',rfl,.tuple #[],by simp [results,hres],.tuple #[],_,M',rfl,rfl,hR'.wk (σ':=⟨[.junk],objs'⟩) (tau τ) (by simp) rfl (fun i hi=>.inl ?_) hwo (fun i j hi hj e=>zcn hnd (by simp at hi;omega) (by simp at hj;omega) e),fun id hid=>?_⟩
   ·have hi0:i=0:=by simpa using hi
    subst hi0
    rfl
   ·have hlt:id<objs.length:=by
     rcases Nat.lt_or_ge id objs.length with h|h
     ·exact h
     ·simp [zak,List.getD,List.getElem?_eq_none h] at hid
    have hd:St.dom ((⟨args++List.replicate (fn.ntmps - args.length) .junk,objs++List.replicate (env.nobj - objs.length) none⟩:St).app (some t) ⟨rv,[]⟩ |>.app (some t') ⟨rv,[]⟩) id:=by
     intro h0
     have h1:(objs++List.replicate (env.nobj - objs.length) none).getD id none=none:=h0
     rw [List.getD_eq_getElem?_getD,List.getElem?_append_left hlt,←List.getD_eq_getElem?_getD] at h1
     simp only [zak] at hid
     rw [h1] at hid;cases hid
    obtain ⟨⟨h1,h2,h3⟩,_⟩:=hA id hlt hd
    simp only [Gh.agree,hpin id hlt]
    exact ⟨h1,h2,h3⟩
  rcases he with rfl|rfl
  ·exact key
  ·exact key
 have hrun0:(execOp (Act.eval { tmps:=vargs.toArray++Array.replicate (fn.ntmps - args.length) undef,defers:=[] }) ⟨some t,.call ⟨.builtin .recover,#[],tys⟩,ty1,p1,a1,none⟩).run P w=.ok .recover w:=by
  simp [execOp,resolve,invoke,builtin,Sem.run_bind,Result.andThen]
 unfold wpOpsS
 simp only [List.getElem?_toArray,List.getElem?_cons_zero,Region.wanted,if_true,hrun0]
 rcases hx with hx|⟨hx,rfl,rfl⟩
 ·rw [hx]
  exact hmain _ ⟨x,rfl,rfl⟩
 ·rw [hx]
  exact hmain _ ⟨_,rfl,by cases c₀;simp_all⟩
def zDu (P:Program) (env:Env) (fc:FuncId) (cs:List AVal) (rs:List ResultVar) (res:AVal):Exit→St→Prop:=fun e σ=>
 ∃ (u u':FrameMode) (cargs:List AVal) (cobjs:List (Option AObj)) (ids:List Nat) (objs':List (Option AObj)),
  (((e=.ret∨e=.normal)∧u=.returning)∨∃ x,e=.panic (ziW x)∧u=.panicking (ziW x))∧settle u'=.returning∧AD P env.gl fc cargs cobjs u u' objs' ∧
  cs=zep (tau (ids++[])) cargs∧ids.map σ.obj=cobjs.map (Option.map (zfD (tau (ids++[]))))∧zaw (zak cobjs) cargs=true∧(∀ ob,some ob ∈ cobjs→zbA (zak cobjs) ob=true) ∧
  (ids++[]).Nodup∧(∀ id,id ∈ ids++[]→id<env.nobj)∧objs'.length≤(ids++[]).length ∧
  PK (St.obj ⟨σ.slots,zaA σ.objs (zaH (tau (ids++[])) (ids++[]) 0 objs')⟩) (ziX env ⟨σ.slots,zaA σ.objs (zaH (tau (ids++[])) (ids++[]) 0 objs')⟩ rs) res
theorem Rel.value1 {E:Ent} {g:Gh} {M:Mem} {w:World} {v:Value} {x res:AVal} (hR:Rel E ⟨[x],σ.objs⟩ g M ⟨#[v],[]⟩ w) (h:rdV σ.obj x res):∃ gk Mk,Rel E ⟨[res],[]⟩ gk Mk ⟨#[v],[]⟩ w:=by
 obtain ⟨σk,xk,gk,Mk,h1,h2,h3,h4,h5,h6⟩:=hR.read1 (σ:=σ) h σ.objs.length (Nat.le_refl _)
 have hno:∀ i n ys,¬ ziZ (σk.obj i) n ys:=fun i n ys=>by
  by_cases hi:i<σ.objs.length
  ·exact h6 i n ys hi
  ·rintro ⟨sz,e,_⟩
   simp [St.obj,List.getD,List.getElem?_eq_none (by omega:σk.objs.length≤i)] at e
 refine ⟨gk,Mk,rfl,h3.defers,fun i hi=>?_,fun id o ho=>by simp [St.obj] at ho,fun id id' o o' b ho=>by simp [St.obj] at ho,fun id o b ho=>by simp [St.obj] at ho,h3.sat,h3.M0,h3.Mnew,h3.size0,h3.same,fun id o b ho=>by simp [St.obj] at ho,h3.os,h3.tape,h3.output⟩
 have hi0:i=0:=by simpa using hi
 subst hi0
 have h7:=h3.slot 0
 have e:σk.slot 0=xk:=by simp [St.slot,h1]
 rw [e] at h7
 exact V.read hno h7 h5
theorem AC.of_defer (hE:zaO P env) (hm:P.follows .mixedOrders=true) {f fc:FuncId} {fn:Func} {r0 rest:Code} {i1 t9:Nat} {ty1 ty2:TypeId} {p1 p2:String} {a1 a2:Array Edge} {tys:Array TypeId} {caps:Array Operand} (hf:P.funcs[f]?=some fn)
  (hb:fn.body=some (.seq r0 (.seq (.region i1 #[⟨some t9,.makeFunc (.func fc) #[] caps,ty1,p1,a1,none⟩,⟨none,.defer ⟨.value (.tmp t9),#[],tys⟩,ty2,p2,a2,none⟩] false) rest))) {args:List AVal} {res:AVal}
  (hargs:args.length≤fn.ntmps) {cs:List AVal} {σ1:St} (hent:∀ vargs w,(callFunc fc vargs).run P w=.ok (.enter fc vargs) w)
  (h0:VC P env pin r0 ⟨args++List.replicate (fn.ntmps - args.length) .junk,List.replicate env.nobj none⟩ (fun e σ=>e=.normal∧σ=σ1))
  (hcap:caps.toList.map (zaf env σ1)=cs) (hcs:∀ c,c ∈ cs→∃ id off,c=.ref id off∧id<pin) (ht9:t9<σ1.slots.length)
  (h1:VC P env pin rest (σ1.app (some t9) ⟨.clo fc cs,[]⟩) (zDu P env fc cs fn.results.toList res)):AC P env.gl f args [] res []:=by
 intro w M g vargs hR hG
 have hla:vargs.length=args.length:=by simpa using hR.size
 refine calls_of_wp_defers hf hb ?_
 have esz:fn.ntmps - vargs.toArray.size=fn.ntmps - args.length:=by simp [hla]
 rw [esz]
 have hR0:=hR.enter (fn.ntmps - args.length) env.nobj
 refine wp_seq (wp_mono (VC.to hE hm r0 h0 (by simp) _ g M _ w hR0 hG) fun e b1 w1 ⟨σ1',g1,M1,⟨he,hs1⟩,hR1,hM1,hA1,hl1⟩=>?_)
 subst he hs1
 refine wp_seq (wp_region ?_)
 show wpOps P _ _ [0,1] b1 w1
 have hop0:aop env (some t9) (zaf env σ1') σ1'.obj (.makeFunc (.func fc) #[] caps)=some ⟨.clo fc cs,[]⟩:=by
  simp only [aop,hcap]
  rfl
 have hG0:ziO env ⟨w,M,zaD g [],[]⟩ M:=hG
 have hG1:=hG0.mono hM1
 have hd0:=(znl (P:=P) (o:=⟨some t9,.makeFunc (.func fc) #[] caps,ty1,p1,a1,none⟩) hR1 hG1.1 hE hl1 hop0).toW
 unfold wpOps
 simp only [List.getElem?_toArray,List.getElem?_cons_zero,Region.wanted,if_true]
 refine .inl (hd0 _ _ fun v w2 g2 M2 hR2 hag2 hM2=>?_)
 replace hR2:Rel _ (σ1'.app (some t9) ⟨.clo fc cs,[]⟩) g2 M2 (b1.put (some t9) v) w2:=hR2
 show wpOps P _ _ [1] (b1.put (some t9) v) w2
 have hsl:(σ1'.app (some t9) ⟨.clo fc cs,[]⟩).slot t9=.clo fc cs:=by simp [St.app,St.slot,ht9]
 have hV:=hR2.slot t9
 rw [hsl] at hV
 generalize hb2:b1.put (some t9) v=b2 at hR2 hV
 generalize hu0:b2.tmps.getD t9 undef=u0 at hV
 cases hV with
 |clo _ _ vs hvl hvV=>
  have hrun1:(execOp b2.eval ⟨none,.defer ⟨.value (.tmp t9),#[],tys⟩,ty2,p2,a2,none⟩).run P w2=.ok (.defer ⟨.fn (.func fc) vs.toArray,#[]⟩) w2:=by
   have hv1:b2.eval (.tmp t9)=.func (.func fc) #[] vs.toArray:=hu0
   simp [execOp,resolve,hv1,Deferred.ofValue,Sem.run_bind,Result.andThen]
  unfold wpOps
  simp only [List.getElem?_toArray,List.getElem?_cons_succ,List.getElem?_cons_zero,Region.wanted,if_true]
  refine .inl ?_
  unfold Oper.wp
  rw [hrun1,Oper.upon_defer]
  show wpOps P _ _ [] { b2 with defers:=⟨.fn (.func fc) vs.toArray,#[]⟩::b2.defers } w2
  have hdef:b2.defers=[]:=hR2.defers
  rw [hdef]
  show rest.wp P _ _ w2
  have hR3:Rel ⟨w,M,zaD g [],[⟨.fn (.func fc) vs.toArray,#[]⟩]⟩ (σ1'.app (some t9) ⟨.clo fc cs,[]⟩) g2 M2 { b2 with defers:=[⟨.fn (.func fc) vs.toArray,#[]⟩] } w2:=
   ⟨hR2.size,rfl,hR2.slots,hR2.objs,hR2.apart,hR2.offM,hR2.sat,hR2.M0,hR2.Mnew,hR2.size0,hR2.same,hR2.own0,hR2.os,hR2.tape,hR2.output⟩
  have hG3:ziO env ⟨w,M,zaD g [],[⟨.fn (.func fc) vs.toArray,#[]⟩]⟩ M2:=⟨(hG1.mono hM2).1,hG.2⟩
  refine wp_mono (VC.to hE hm rest h1 (by rw [zer];exact hl1) _ g2 M2 _ w2 hR3 hG3) fun e b4 w4 ⟨σ4,g4,M4,hq,hR4,hM4,hA4,hl4⟩=>?_
  obtain ⟨u,u',cargs,cobjs,ids,objs',hmode,hset,hAD,f1,f2,f3,f4,f5,f6,f7,hpk⟩:=hq
  have hG4:=hG3.mono hM4
  have hvV4:∀ i,i<cs.length→V g4 σ4.dom M4 (cs.getD i .junk) (vs.getD i undef):=fun i hi=>by
   obtain ⟨id,off,hc,hid⟩:=hcs (cs.getD i .junk) (by rw [zjX _ _ _ hi];exact List.getElem_mem hi)
   have hv:=hvV i hi
   rw [hc] at hv ⊢
   generalize vs.getD i undef=y at hv ⊢
   cases hv with
   |ref id off hd=>
    obtain ⟨⟨q1,_,_⟩,q2⟩:=hA4 id hid hd
    rw [←q1]
    exact .ref id off q2
  obtain ⟨gc,k1,k2,k3⟩:=zjf (res:=.junk) (objs':=objs') hR4 hG4 hl4 hvl hvV4 f1 f2 f3 f4 f5 f6 (fun id h=>by cases h) f7
  have hcallsD:=hAD w4 M4 gc vs k1 k2
  have hinv:(invoke (.fn (.func fc) vs.toArray) #[]).run P w4=.ok (.enter fc vs.toArray) w4:=by
   have:=hent vs.toArray w4
   simpa [invoke] using this
  have hds:b4.defers=[⟨.fn (.func fc) vs.toArray,#[]⟩]:=hR4.defers
  have main:∀ hu:u≠.run,Leaves P fn b4.tmps (fun e w'=>∃ v g' M',e=.returned v∧Rel ⟨w,M,zaD g [],[]⟩ ⟨[res],[]⟩ g' M' ⟨#[v],[]⟩ w'∧∀ id,zak [] id=true→g.agree g' id) b4.defers u w4:=fun hu=>by
   rw [hds]
   refine leaves_cons hu hinv (hcallsD.mono ?_)
   rintro e u2 w5 ⟨v,g5,M5,rfl,rfl,hR5,hag5⟩
   obtain ⟨g6,hR6,_,_,_⟩:=k3 w5 v g5 M5 hR5 hag5
   show Leaves P fn b4.tmps _ [] (settle u2) w5
   rw [hset]
   cases hvs:ziX env ⟨σ4.slots,zaA σ4.objs (zaH (tau (ids++[])) (ids++[]) 0 objs')⟩ fn.results.toList with
   |none=>rw [hvs] at hpk;exact hpk.elim
   |some vs2=>
    rw [hvs,zmp] at hpk
    obtain ⟨v2,hrun,hV2⟩:=zfp (P:=P) hR6 hE hvs
    refine ⟨v2,hrun,v2,?_⟩
    have hR7:Rel ⟨w,M,zaD g [],[]⟩ ⟨[zmg vs2],zaA σ4.objs (zaH (tau (ids++[])) (ids++[]) 0 objs')⟩ g6 M5 ⟨#[v2],[]⟩ w5:=by
     refine ⟨rfl,rfl,fun i hi=>?_,hR6.objs,hR6.apart,hR6.offM,hR6.sat,hR6.M0,hR6.Mnew,hR6.size0,hR6.same,hR6.own0,hR6.os,hR6.tape,hR6.output⟩
     have hi0:i=0:=by simpa using hi
     subst hi0
     exact hV2
    obtain ⟨gk,Mk,hk⟩:=Rel.value1 (σ:=⟨σ4.slots,zaA σ4.objs (zaH (tau (ids++[])) (ids++[]) 0 objs')⟩) hR7 hpk
    exact ⟨gk,Mk,rfl,hk,fun id hid=>by simp [zak] at hid⟩
  rcases hmode with ⟨he,rfl⟩|⟨x,rfl,rfl⟩
  ·rcases he with rfl|rfl
   ·exact main (by simp)
   ·exact main (by simp)
  ·exact main (by simp)
end Go.Abs
namespace Go.Abs
open Go
variable {P:Program} {env:Env} {pin:Nat} {σ σ':St} {Q:Exit→St→Prop}
def FI (P:Program) (f:FuncId) (code:Code) (n:Nat) (rs:List ResultVar):Prop:=∃ fn,P.funcs[f]?=some fn∧fn.body=some code∧fn.ntmps=n∧fn.results=rs.toArray
theorem FI.of {P:Program} {f:FuncId} {fn:Func} {code:Code} {n:Nat} {rs:List ResultVar} (hf:P.funcs[f]?=some fn) (hb:fn.body=some code) (hn:fn.ntmps=n) (hrs:fn.results=rs.toArray):FI P f code n rs:=⟨fn,hf,hb,hn,hrs⟩
class SBC (b:Bool) (p q:outParam Prop):Prop where
 h1:b=true→p
 h2:b=false→q
instance (priority:=low) (b:Bool):SBC b (b=true) (b=false):=⟨id,id⟩
instance (p:Prop) [Decidable p]:SBC (decide p) p (¬ p):=⟨fun h=>by simpa using h,fun h=>by simpa using h⟩
instance {α:Type} [BEq α] [LawfulBEq α] (a b:α):SBC (a==b) (a=b) (a≠b):=⟨fun h=>by simpa using h,fun h=>by simpa using h⟩
instance {α:Type} [BEq α] [LawfulBEq α] (a b:α):SBC (a != b) (a≠b) (a=b):=⟨fun h=>by simpa using h,fun h=>by simpa using h⟩
theorem SB.c {b:Bool} {p q:Prop} [SBC b p q] {A B:Prop} {t:Tg (A,B)} (h1:p→A) (h2:q→B):SB b A B t:=⟨fun h=>h1 (SBC.h1 h),fun h=>h2 (SBC.h2 h)⟩
theorem REG.j {ops:Array Oper} {t:Tg ops} {tr:Tr} (h:zxp ops (anc ops) (zhM tr)=true:=by kernel_rfl):REG ops t tr:=h
theorem zvs.j {ops:Array Oper} {t:Tg ops} {tr:Tr} (h:(zxp ops (anc ops) (zhM tr)&&zp1 ops tr.length&&tr.all fun r=>r.2.isEmpty)=true:=by kernel_rfl):zvs ops t tr:=h
theorem zab {a b:Prop} (hb:b) (ha:a:=by first|with_reducible exact REG.j|with_reducible exact zvs.j|(intros;(try simp only [decide_eq_true_eq,decide_eq_false_iff_not,beq_iff_eq,bne_iff_ne,Bool.and_eq_true,Bool.or_eq_true] at *);omega)):a∧b:=⟨ha,hb⟩
theorem zac {a:Prop} (ha:a:=by with_reducible first|exact trivial|exact REG.j|exact zvs.j):a:=ha
inductive NE (p q:Prop):Prop|mk
theorem NE.same {p:Prop}:NE p p:=.mk
/-! Several facts as one. -/
section
variable {A B C D E F G H I J K L M N O R:Prop}
theorem fA2 (a:A) (b:B):A∧B:=⟨a,b⟩
theorem fA3 (a:A) (b:B) (c:C):A∧B∧C:=⟨a,b,c⟩
theorem fA4 (a:A) (b:B) (c:C) (d:D):A∧B∧C∧D:=⟨a,b,c,d⟩
theorem fA5 (a:A) (b:B) (c:C) (d:D) (e:E):A∧B∧C∧D∧E:=⟨a,b,c,d,e⟩
theorem fA6 (a:A) (b:B) (c:C) (d:D) (e:E) (f:F):A∧B∧C∧D∧E∧F:=⟨a,b,c,d,e,f⟩
theorem fA7 (a:A) (b:B) (c:C) (d:D) (e:E) (f:F) (g:G):A∧B∧C∧D∧E∧F∧G:=⟨a,b,c,d,e,f,g⟩
theorem fA8 (a:A) (b:B) (c:C) (d:D) (e:E) (f:F) (g:G) (h:H):A∧B∧C∧D∧E∧F∧G∧H:=⟨a,b,c,d,e,f,g,h⟩
theorem fA9 (a:A) (b:B) (c:C) (d:D) (e:E) (f:F) (g:G) (h:H) (i:I):A∧B∧C∧D∧E∧F∧G∧H∧I:=⟨a,b,c,d,e,f,g,h,i⟩
theorem zpB (a:A) (b:B) (c:C) (d:D) (e:E) (f:F) (g:G) (h:H) (i:I) (j:J):A∧B∧C∧D∧E∧F∧G∧H∧I∧J:=⟨a,b,c,d,e,f,g,h,i,j⟩
theorem zhT (a:A) (b:B) (c:C) (d:D) (e:E) (f:F) (g:G) (h:H) (i:I) (j:J) (k:K):A∧B∧C∧D∧E∧F∧G∧H∧I∧J∧K:=⟨a,b,c,d,e,f,g,h,i,j,k⟩
theorem zmr (a:A) (b:B) (c:C) (d:D) (e:E) (f:F) (g:G) (h:H) (i:I) (j:J) (k:K) (l:L):A∧B∧C∧D∧E∧F∧G∧H∧I∧J∧K∧L:=⟨a,b,c,d,e,f,g,h,i,j,k,l⟩
theorem zoZ (a:A) (b:B) (c:C) (d:D) (e:E) (f:F) (g:G) (h:H) (i:I) (j:J) (k:K) (l:L) (m:M):A∧B∧C∧D∧E∧F∧G∧H∧I∧J∧K∧L∧M:=⟨a,b,c,d,e,f,g,h,i,j,k,l,m⟩
theorem zy9 (a:A) (b:B) (c:C) (d:D) (e:E) (f:F) (g:G) (h:H) (i:I) (j:J) (k:K) (l:L) (m:M) (n:N):A∧B∧C∧D∧E∧F∧G∧H∧I∧J∧K∧L∧M∧N:=⟨a,b,c,d,e,f,g,h,i,j,k,l,m,n⟩
theorem zDv (a:A) (b:B) (c:C) (d:D) (e:E) (f:F) (g:G) (h:H) (i:I) (j:J) (k:K) (l:L) (m:M) (n:N) (o:O):A∧B∧C∧D∧E∧F∧G∧H∧I∧J∧K∧L∧M∧N∧O:=⟨a,b,c,d,e,f,g,h,i,j,k,l,m,n,o⟩
end
theorem Va {P Q A:Prop} (a:A) (h:Q) (e:A→P=Q:=by
 intro t;conv=>lhs;simp -implicitDefEqProofs +contextual (maxSteps:=9000000) only [kx,↓ky,t,simprocAttr]) (_:NE P Q:=by (fail_if_success with_reducible exact NE.same);exact .mk):P:=(e a).mpr h
section
variable {K:KT} {t:Tg K} {p:Prop} {f:FuncId} {vals cargs:List AVal} {res:AVal} {d:Option Nat} {rest:List COp} {acc:Option Tr}
theorem CK.d0 (hent:∀ vargs w,(callFunc f vargs).run P w=.ok (.enter f vargs) w) (hac:AC P env.gl f vals [] res [])
  (h:VL P env K t rest (zbF acc ([],[])) (σ.app d ⟨cw p res,[]⟩)) (hsc:zaw (zak []) vals=true:=by rfl) (hres:zap (zak []) res=true:=by rfl):CK P env K t p f vals d rest acc σ:=
 CK.cp hent (fun _=>hac) hsc hres h
theorem CK.dx {A:List AVal} {O vobjs:List (Option AObj)} {objs':List (Option AObj)} (ids news:List Nat) (hent:∀ vargs w,(callFunc f vargs).run P w=.ok (.enter f vargs) w)
  (hac:AC P env.gl f A vobjs res objs')
  (h:VL P env K t rest (zbF acc (ids++news,(zaH (tau (ids++news)) (ids++news) 0 objs').map Prod.fst)) (σ.app d ⟨ren (tau (ids++news)) res,zaH (tau (ids++news)) (ids++news) 0 objs'⟩))
  (hobjs:ids.map σ.obj=O:=by rfl)
  (hA:zep (tau (ids++news)) A=vals:=by rfl) (hO:zj5 (tau (ids++news)) vobjs=O:=by rfl) (hsA:zaw (zak vobjs) A=true:=by rfl) (hsO:zr9 (zak vobjs) vobjs=true:=by rfl)
  (hn:((ids++news).Nodup∧∀ id ∈ ids++news,id<env.nobj):=by decide) (hf:zfP σ news=true:=by rfl) (hl:objs'.length≤(ids++news).length:=by simp):CK P env K t True f vals d rest acc σ:=
 CK.co ids news hent hac hobjs hA hO hsA hsO hn hf hl h
theorem dC1 {A:List AVal} {O vobjs:List (Option AObj)} {objs':List (Option AObj)} (hent:∀ vargs w,(callFunc f vargs).run P w=.ok (.enter f vargs) w)
  (hac:AC P env.gl f A vobjs res objs')
  (h:VL P env K t rest (zbF acc (([0]++[]:List Nat),(zaH (tau ([0]++[]:List Nat)) ([0]++[]:List Nat) 0 objs').map Prod.fst)) (σ.app d ⟨ren (tau ([0]++[]:List Nat)) res,zaH (tau ([0]++[]:List Nat)) ([0]++[]:List Nat) 0 objs'⟩))
  (hobjs:([0]:List Nat).map σ.obj=O:=by rfl)
  (hA:zep (tau ([0]++[]:List Nat)) A=vals:=by rfl) (hO:zj5 (tau ([0]++[]:List Nat)) vobjs=O:=by rfl) (hsA:zaw (zak vobjs) A=true:=by rfl) (hsO:zr9 (zak vobjs) vobjs=true:=by rfl)
  (hn:(([0]++[]:List Nat).Nodup∧∀ id ∈ ([0]++[]:List Nat),id<env.nobj):=by decide) (hf:zfP σ []=true:=by rfl) (hl:objs'.length≤([0]++[]:List Nat).length:=by simp):CK P env K t True f vals d rest acc σ:=
 CK.dx [0] [] hent hac h hobjs hA hO hsA hsO hn hf hl
theorem CK.dp {A:List AVal} {O vobjs:List (Option AObj)} {objs':List (Option AObj)} {x:Value} (ids news:List Nat) (hent:∀ vargs w,(callFunc f vargs).run P w=.ok (.enter f vargs) w)
  (hac:AP P env.gl f A vobjs x objs')
  (h:K acc (some x) ⟨σ.slots,zaA σ.objs (zaH (tau (ids++news)) (ids++news) 0 objs')⟩)
  (hobjs:ids.map σ.obj=O:=by rfl)
  (hA:zep (tau (ids++news)) A=vals:=by rfl) (hO:zj5 (tau (ids++news)) vobjs=O:=by rfl) (hsA:zaw (zak vobjs) A=true:=by rfl) (hsO:zr9 (zak vobjs) vobjs=true:=by rfl)
  (hn:((ids++news).Nodup∧∀ id ∈ ids++news,id<env.nobj):=by decide) (hf:zfP σ news=true:=by rfl) (hl:objs'.length≤(ids++news).length:=by simp):CK P env K t True f vals d rest acc σ:=
 CK.po ids news hent hac hobjs hA hO hsA hsO hn hf hl h
end
theorem zwd (τ:Nat→Nat) (n:Nat→Bool):zbY τ n [] []=True:=by simp [zbY]
theorem ztl (τ:Nat→Nat) (n:Nat→Bool) (a b:AVal) (r s:List AVal):zbY τ n (a::r) (b::s)=((b=.junk∨(a=ren τ b∧zap n b=true))∧zbY τ n r s):=by simp [zbY]
theorem zwe (τ:Nat→Nat) (n:Nat→Bool) (σ:St) (k:Nat):zaW τ n σ k []=True:=by simp [zaW]
theorem ztm (τ:Nat→Nat) (n:Nat→Bool) (σ:St) (k:Nat) (r:List (Option AObj)):zaW τ n σ k (none::r)=zaW τ n σ (k+1) r:=by simp [zaW]
theorem ztn (τ:Nat→Nat) (n:Nat→Bool) (σ:St) (k:Nat) (r:List (Option AObj)):zaW τ n σ k (some .dead::r)=zaW τ n σ (k+1) r:=by simp [zaW]
theorem zqH (τ:Nat→Nat) (n:Nat→Bool) (σ:St) (k:Nat) (cs:List AVal) (r:List (Option AObj)):zaW τ n σ k (some (.cells cs)::r)=((σ.obj (τ k)=some (.cells (zep τ cs))∧zaw n cs=true)∧zaW τ n σ (k+1) r):=by simp [zaW,zfD,zbA]
theorem zwf (τ:Nat→Nat) (n:Nat→Bool) (σ:St) (k:Nat) (sz:Nat) (xs:List (List PVal)) (r:List (Option AObj)):zaW τ n σ k (some (.row sz xs)::r)=(σ.obj (τ k)=some (.row sz xs)∧zaW τ n σ (k+1) r):=by simp [zaW,zfD,zbA]
theorem zwg (τ:Nat→Nat) (n:Nat→Bool) (σ:St) (k:Nat) (kd:Kd) (es:List (PVal × Bool × List PVal)) (r:List (Option AObj)):zaW τ n σ k (some (.map kd es)::r)=(σ.obj (τ k)=some (.map kd es)∧zaW τ n σ (k+1) r):=by simp [zaW,zfD,zbA]
theorem zza (τ:Nat→Nat) (n:Nat→Bool) (σ:St) (k:Nat) (T e B m:Nat) (r:List (Option AObj)):zaW τ n σ k (some (.bh T e B m)::r)=((σ.obj (τ k)=some (.bh T e (τ B) m)∧n B=true)∧zaW τ n σ (k+1) r):=by simp [zaW,zfD,zbA]
theorem zzb (τ:Nat→Nat) (n:Nat→Bool) (σ:St) (k:Nat) (e:Nat) (s:List UInt8) (r:List (Option AObj)):zaW τ n σ k (some (.bb e s)::r)=(σ.obj (τ k)=some (.bb e s)∧zaW τ n σ (k+1) r):=by simp [zaW,zfD,zbA]
theorem zEL (n:Nat→Bool) (i o:Nat):zap n (.ref i o)=n i:=by simp [zap]
theorem zEM (n:Nat→Bool) (i o:Nat):zap n (.row i o)=n i:=by simp [zap]
theorem zEN (n:Nat→Bool) (i a b c:Nat):zap n (.eref i a b c)=n i:=by simp [zap]
theorem zEO (n:Nat→Bool) (i:Nat):zap n (.map i)=n i:=by simp [zap]
theorem zEP (n:Nat→Bool) (cs:List AVal):zap n (.agg cs)=zaw n cs:=by simp [zap]
theorem zEQ (n:Nat→Bool) (cs:List AVal):zap n (.tup cs)=zaw n cs:=by simp [zap]
theorem zER (n:Nat→Bool) (f:Nat) (cs:List AVal):zap n (.clo f cs)=zaw n cs:=by simp [zap]
theorem zES (n:Nat→Bool) (p:PVal):zap n (.pv p)=true:=by simp [zap]
theorem zET (n:Nat→Bool):zap n .snil=true:=by simp [zap]
theorem zEU (n:Nat→Bool) (i a b:Nat):zap n (.csl i a b)=n i:=by simp [zap]
theorem zEV (n:Nat→Bool):zap n .junk=true:=by simp [zap]
theorem zBD (n:Nat→Bool):zaw n []=true:=by simp [zaw]
theorem zBE (n:Nat→Bool) (a:AVal) (r:List AVal):zaw n (a::r)=(zap n a&&zaw n r):=by simp [zaw]
theorem zzc (ι:Nat→Nat) (i a b c:Nat):ren ι (.eref i a b c)=.eref (ι i) a b c:=by simp [ren]
theorem zto (o:List (Option AObj)) (i:Nat):zak o i=(o.getD i none).isSome:=rfl
theorem zBF (σ:St) (i:Nat):σ.obj i=σ.objs.getD i none:=rfl
theorem zzd {α:Type} (l:List α) (i:Nat) (d:α):l.getD i d=l[i]?.getD d:=rfl
def zEW:=And.intro @zza<|And.intro @zzb<|And.intro @zwd<|And.intro @ztl<|And.intro @zwe<|And.intro @ztm<|And.intro @ztn<|And.intro @zqH<|And.intro @zwf<|And.intro @zwg<|And.intro @zBD<|@zBE
def zEX:=And.intro @zEU<|And.intro @zEL<|And.intro @zEM<|And.intro @zEN<|And.intro @zEO<|And.intro @zEP<|And.intro @zEQ<|And.intro @zER<|And.intro @zES<|And.intro @zET<|@zEV
def zEY:=And.intro @zDt<|And.intro @kz1<|And.intro @zzc<|And.intro @zto<|And.intro @zBF<|And.intro @zzd<|And.intro @zqE<|And.intro @zqF<|@zqG
def kwf:=And.intro @zEW<|And.intro @zEX @zEY
theorem zze (l:List Nat) (k:Nat):tau l k=l[k]?.getD 0:=rfl
theorem zzf (σ:St) (i:Nat):σ.slot i=σ.slots[i]?.getD .junk:=rfl
theorem zzg (v:AVal):zmg [v]=v:=rfl
theorem zzh:zmg []=.tup []:=rfl
theorem zzi (a b:AVal) (r:List AVal):zmg (a::b::r)=.tup (a::b::r):=rfl
def kwt:=And.intro @kwf @zze
def kwr:=And.intro @kwt<|And.intro @zzf<|And.intro @zzg<|And.intro @zzh @zzi
theorem WFn (hs:zbY id (zak σ'.objs) σ.slots σ'.slots:=by simp [kwf]) (ho:zaW id (zak σ'.objs) σ 0 σ'.objs:=by simp [kwf]) (hlen:σ'.objs.length=env.nobj:=by rfl) (h1:(σ'.objs.take pin).all Option.isSome=true:=by simp) (h2:pin≤σ'.objs.length:=by simp):zbK env pin σ σ':=
 zbK.forget hlen (zvi h1 h2) hs ho
theorem WFe (hs:zbY id (zak σ'.objs) σ.slots σ'.slots) (ho:zaW id (zak σ'.objs) σ 0 σ'.objs) (hlen:σ'.objs.length=env.nobj:=by rfl) (h1:(σ'.objs.take pin).all Option.isSome=true:=by simp) (h2:pin≤σ'.objs.length:=by simp):zbK env pin σ σ':=
 zbK.forget hlen (zvi h1 h2) hs ho
theorem WTe (τ:List Nat) (hs:zbY (tau τ) (zak σ'.objs) σ.slots σ'.slots) (ho:zaW (tau τ) (zak σ'.objs) σ 0 σ'.objs) (hlen:σ'.objs.length=env.nobj:=by rfl) (hτ:τ.length=env.nobj:=by rfl) (hnd:τ.Nodup:=by decide) (hp:∀ k,k<pin→tau τ k=k:=by first|decide|(simp only [List.length_cons,List.length_nil];decide)) (h1:(σ'.objs.take pin).all Option.isSome=true:=by simp) (h2:pin≤σ'.objs.length:=by simp):zbK env pin σ σ':=
 zbK.wk τ hlen hτ hnd (zxG hp h1 h2) hs ho
theorem zaJ.mk {n:Nat} {rs:List ResultVar} {res:AVal} {objs':List (Option AObj)} {e:Exit} {vs:List AVal} (τ:List Nat) (h1:zbY (tau τ) (zak objs') [zmg vs] [res]) (h2:zaW (tau τ) (zak objs') σ 0 objs') (hv:ziX env σ rs=some vs:=by rfl) (he:e=.ret∨e=.normal:=by first|exact .inl rfl|exact .inr rfl)
  (hp:∀ k,k<n→tau τ k=k:=by first|decide|(simp only [List.length_cons,List.length_nil];decide)) (hd:τ.Nodup:=by decide) (hl:objs'.length≤τ.length:=by simp):zaJ env n rs res objs' e σ:=⟨he,vs,τ,hv,h1,h2,hp,hd,hl⟩
theorem zbT.mk {n:Nat} {x:Value} {objs':List (Option AObj)} {e:Exit} (τ:List Nat) (h2:zaW (tau τ) (zak objs') σ 0 objs') (he:e=.panic (ziW x):=by rfl)
  (hp:∀ k,k<n→tau τ k=k:=by first|decide|(simp only [List.length_cons,List.length_nil];decide)) (hd:τ.Nodup:=by decide) (hl:objs'.length≤τ.length:=by simp):zbT n x objs' e σ:=⟨he,τ,h2,hp,hd,hl⟩
end Go.Abs
namespace Go.Abs
open Go
abbrev Ext (w w':World):Prop:=Go.RowKit.Below w.heap.size w w'
theorem znw {w w':World} (h:Ext w w') {b i:Nat} {u:Value} (hc:w.cell? ⟨b,i,none⟩=some u):w'.cell? ⟨b,i,none⟩=some u:=by
 have hb:b<w.heap.size:=by
  unfold World.cell? at hc
  rcases Nat.lt_or_ge b w.heap.size with h'|h'
  ·exact h'
  ·simp [Array.getElem?_eq_none h'] at hc
 unfold World.cell? at hc ⊢
 simp only [h.block b hb] at *
 exact hc
theorem AC.ofCalls {P:Program} {gl:Nat→Option (List PVal)} {f:FuncId} {ps:List PVal} {res:AVal}
  (h:∀ (w:World) (M:Mem) (vs:List Value),vs.length=ps.length→(∀ i,i<ps.length→Rd M (ps.getD i .nilptr) (vs.getD i undef))→(∀ b i u,M b i=some u→w.cell? ⟨b,i,none⟩=some u) →
   GOK ⟨fun _=>none,gl,fun _=>0,0⟩ M→(∀ b cs,gl b=some cs→cs≠[]→∃ vals T l,w.heap[b]?=some (.cells vals T l)∧vals.size=cs.length)→Calls P f vs.toArray w fun e w'=>∃ v,e=.returned v∧(∀ g D M',V g D M' res v)∧Ext w w') :
  AC P gl f (ps.map .pv) [] res []:=by
 intro w M g vargs hR hG
 have hl:vargs.length=ps.length:=by simpa using hR.size
 refine Calls.mono (h w M vargs hl (fun i hi=>?_) hR.sat hG.1 (fun b cs hb hne=>(hG.2 b cs hb hne).2)) ?_
 ·have:=hR.slots i (by simpa using hi)
  have e1:St.slot ⟨ps.map .pv,[]⟩ i=.pv (ps.getD i .nilptr):=by simp [St.slot,List.getD,hi]
  rw [e1] at this
  have e2:vargs.toArray.getD i undef=vargs.getD i undef:=by simp [List.getD]
  rw [←e2]
  exact this.pv_inv
 ·rintro e w' ⟨v,rfl,hv,hx⟩
  refine ⟨v,g,M,rfl,⟨rfl,rfl,fun i hi=>?_,fun id o ho=>by simp [St.obj] at ho,fun id id' o o' b ho=>by simp [St.obj] at ho,fun id o b ho=>by simp [St.obj] at ho,fun b i u hu=>znw hx (hR.sat b i u hu),Mem.le_refl _,fun _ _ _ _=>rfl,hx.size,fun b hb _=>hx.block b hb,fun id o b ho=>by simp [St.obj] at ho,hx.os,hx.tape,hx.output⟩,fun id hid=>by simp [zak] at hid⟩
  have hi0:i=0:=by simpa using hi
  subst hi0
  exact hv _ _ _
theorem zzj (g:Gh) (D:Nat→Prop) (M:Mem) (k:IntKind) (n:Int):V g D M (.pv (.int k n)) (.int k n):=.pv (.int k n)
theorem zwh (g:Gh) (D:Nat→Prop) (M:Mem) (s:List UInt8):V g D M (.pv (.str s)) (.string ⟨s.toArray⟩):=.pv (.str s)
theorem zjl {g:Gh} {D:Nat→Prop} {M:Mem} {a b:AVal} {x y:Value} (h1:V g D M a x) (h2:V g D M b y):V g D M (.tup [a,b]) (.tuple #[x,y]):=
 .tup [a,b] [x,y] rfl (fun i hi=>by
  match i,hi with
  |0,_=>exact h1
  |1,_=>exact h2)
end Go.Abs
