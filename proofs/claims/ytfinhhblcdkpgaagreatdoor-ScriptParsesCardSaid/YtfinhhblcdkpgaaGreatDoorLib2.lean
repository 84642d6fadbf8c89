/- A sound walk of the program by abstract states, part 2: its theorems have no condition beyond what they state. -/
import Derived.Test.YtfinhhblcdkpgaaGreatDoorLib1
import Derived.IntWalk
import Derived.Scope
import Derived.Defers
import Derived.Recover
import Derived.KernelRfl
import Derived.Below
set_option maxRecDepth 100000
set_option maxHeartbeats 64000000
set_option linter.unusedSimpArgs false
set_option linter.unusedVariables false
set_option linter.defProp false
namespace Go.Abs
open Go
inductive Step (P:Program) (env:Env) (o:Oper) (σ:St):List Nat→Eff→Prop
 |op (e:Eff):aop env o.dst (zai env σ) σ.obj o.op=some e→Step P env o σ (zbC env o.dst (zai env σ) o.op) e
 |call (f:FuncId) (args:List AVal) (cargs:List AVal) (cobjs:List (Option AObj)) (ids news:List Nat) (res:AVal) (objs':List (Option AObj)) :
   CallFits P env σ o f args cargs cobjs ids news objs'→AC P env.gl f cargs cobjs res objs' →
   Step P env o σ (ids++news) ⟨ren (fun k=>(ids++news).getD k 0) res,zaT (fun k=>(ids++news).getD k 0) (ids++news) 0 objs'⟩
section
variable {P:Program} {env:Env} {o:Oper} {E:Ent} {σ σ':St} {g:Gh} {M:Mem} {a:Act} {w:World} {e:Eff}
theorem Step.does {T:List Nat} (h:Step P env o σ T e) (hR:Rel E σ g M a w) (hG:zkE env E M) (hE:za1 P env) (hl:σ.objs.length=env.nobj):zyJ P o E σ g M a w e:=by
 cases h with
 |op _ h=>exact (zpM hR hG.1 hE hl h).toW
 |call f args cargs cobjs ids news res objs' hf hac=>exact zsU hR hG hl hf hac
theorem zlL {ob ob':Nat→Option AObj} {v:AVal} (h:∀ id n,v=.row id n→ob id=ob' id):zcS ob v=zcS ob' v:=by
 cases v with
 |row id n=>simp only [zcS,h id n rfl]
 |pv p=>cases p<;>rfl
 |_=>rfl
theorem zsV (env:Env) (dst:Option Nat) {ev ev':Operand→AVal} {ob ob':Nat→Option AObj} (op:Op) (hev:∀ x,x ∈ op.operands→ev x=ev' x)
  (hob:∀ id,id ∈ zbC env dst ev op→ob id=ob' id):aop env dst ev ob op=aop env dst ev' ob' op∧zbC env dst ev op=zbC env dst ev' op:=by
 cases op with
 |move x=>simp [aop,zbC,hev x (by simp [Op.operands])]
 |assign x=>simp [aop,zbC,hev x (by simp [Op.operands])]
 |pick c x y=>simp [aop,zbC,hev c (by simp [Op.operands]),hev x (by simp [Op.operands]),hev y (by simp [Op.operands])]
 |alloc t=>
  refine ⟨?_,rfl⟩
  simp only [zbC] at hob
  simp only [aop]
  cases hty:env.ty t with
  |none=>rfl
  |some ty=>
   cases dst with
   |none=>rfl
   |some d=>
    rw [hty] at hob
    simp only at hob ⊢
    cases hb:ty.bld with
    |none=>
     rw [hb] at hob
     simp only at hob ⊢
     simp only [hob (env.site d) (by simp)]
    |some e=>
     rw [hb] at hob
     simp only at hob ⊢
     simp only [hob (env.site d) (by simp),hob (env.site d+1) (by simp)]
 |box t x=>
  refine ⟨?_,rfl⟩
  cases dst with
  |none=>rfl
  |some d=>simp only [aop,hob (env.site d) (by simp [zbC]),hev x (by simp [Op.operands])]
 |build t ps=>
  have:(ps.toList.map fun q=>(q.1,ev q.2))=(ps.toList.map fun q=>(q.1,ev' q.2)):=List.map_congr_left fun q hq=>by
   rw [hev q.2 (by simp only [Op.operands,List.mem_toArray,List.mem_map];exact ⟨q,hq,rfl⟩)]
  exact ⟨by simp only [aop,this],rfl⟩
 |buildSlice t n ps=>
  have this:(ps.toList.map fun q=>(q.1,ev q.2))=(ps.toList.map fun q=>(q.1,ev' q.2)):=List.map_congr_left fun q hq=>by
   rw [hev q.2 (by simp only [Op.operands,List.mem_toArray,List.mem_map];exact ⟨q,hq,rfl⟩)]
  refine ⟨?_,by simp only [zbC,this]⟩
  simp only [zbC] at hob
  simp only [aop,←this]
  cases hty:env.ty t with
  |none=>rfl
  |some ty=>
   rw [hty] at hob
   simp only at hob ⊢
   cases har:ziE ty.eSize 0 (ps.toList.map fun q=>(q.1,ev q.2)) with
   |some xs=>rfl
   |none=>
    rw [har] at hob
    cases dst with
    |none=>rfl
    |some d=>simp only at hob ⊢;simp only [hob (env.site d) (by simp)]
 |load t p=>
  have hp:=hev p (by simp [Op.operands])
  refine ⟨?_,by simp only [zbC,hp]⟩
  simp only [zbC] at hob
  simp only [aop,←hp]
  cases env.ty t with
  |none=>rfl
  |some ty=>
   cases hv:ev p with
   |ref id off=>rw [hv] at hob;simp only [hob id (by simp)]
   |eref id i j sz=>rw [hv] at hob;simp only [hob id (by simp)]
   |pv q=>cases q<;>rfl
   |_=>rfl
 |store t p x=>
  have hp:=hev p (by simp [Op.operands])
  have hx:=hev x (by simp [Op.operands])
  refine ⟨?_,by simp only [zbC,hp]⟩
  simp only [zbC] at hob
  simp only [aop,←hp,←hx]
  cases env.ty t with
  |none=>rfl
  |some ty=>
   cases hv:ev p with
   |ref id off=>rw [hv] at hob;simp only [hob id (by simp)]
   |eref id i j sz=>rw [hv] at hob;simp only [hob id (by simp)]
   |_=>rfl
 |nilCheck x=>simp [aop,zbC,hev x (by simp [Op.operands])]
 |binOp op t x y t'=>simp [aop,zbC,hev x (by simp [Op.operands]),hev y (by simp [Op.operands])]
 |unOp op t x=>simp [aop,zbC,hev x (by simp [Op.operands])]
 |convert s d x=>
  have hx:=hev x (by simp [Op.operands])
  refine ⟨?_,by simp only [zbC,hx]⟩
  simp only [zbC] at hob
  simp only [aop,←hx]
  cases env.ty s<;>cases env.ty d<;>cases hv:ev x
  all_goals first
   |rfl
   |(rw [hv] at hob;simp only [hob _ (List.mem_singleton.2 rfl)])
   |(rename_i q;cases q<;>rfl)
 |fieldAddr s x k=>simp [aop,zbC,hev x (by simp [Op.operands])]
 |indexAddr t x i=>
  have hx:=hev x (by simp [Op.operands])
  have hi:=hev i (by simp [Op.operands])
  refine ⟨?_,by simp only [zbC,hx]⟩
  simp only [zbC] at hob
  simp only [aop,←hx,←hi]
  split
  ·split
   ·rfl
   ·rename_i ty _ _ _ _ _
    cases ty.kind with
    |slice=>
     cases hv:ev x with
     |row id n=>rw [hv] at hob;simp only [hob id (by simp)]
     |pv q=>cases q<;>rfl
     |_=>rfl
    |array n=>
     cases hv:ev x with
     |pv q=>cases q<;>rfl
     |_=>rfl
    |_=>rfl
  ·rfl
 |makeSlice t n c=>
  refine ⟨?_,rfl⟩
  simp only [aop,hev n (by simp [Op.operands]),hev c (by simp [Op.operands])]
  cases env.ty t with
  |none=>rfl
  |some ty=>
   cases dst with
   |none=>rfl
   |some d=>simp only [hob (env.site d) (by simp [zbC])]
 |makeMap t r=>
  cases r with
  |some r=>exact ⟨rfl,rfl⟩
  |none=>
   refine ⟨?_,rfl⟩
   simp only [aop]
   cases env.ty t with
   |none=>rfl
   |some ty=>
    cases dst with
    |none=>rfl
    |some d=>simp only [hob (env.site d) (by simp [zbC])]
 |lookup t x k ok=>
  have hx:=hev x (by simp [Op.operands])
  have hk:=hev k (by simp [Op.operands])
  refine ⟨?_,by simp only [zbC,hx]⟩
  simp only [zbC] at hob
  simp only [aop,←hx,←hk]
  cases env.ty t with
  |none=>rfl
  |some ty=>
   cases hv:ev x with
   |map id=>
    rw [hv] at hob
    cases hkv:ev k with
    |pv q=>simp only [hob id (by simp)]
    |_=>rfl
   |_=>rfl
 |mapUpdate t m k x=>
  have hm:=hev m (by simp [Op.operands])
  have hk:=hev k (by simp [Op.operands])
  have hx:=hev x (by simp [Op.operands])
  refine ⟨?_,by simp only [zbC,hm]⟩
  simp only [zbC] at hob
  simp only [aop,←hm,←hk,←hx]
  cases env.ty t with
  |none=>rfl
  |some ty=>
   cases hv:ev m with
   |map id=>
    rw [hv] at hob
    cases hkv:ev k with
    |pv q=>
     cases zvp (ev x) with
     |none=>rfl
     |some v=>simp only [hob id (by simp)]
    |_=>rfl
   |_=>rfl
 |index t x i=>simp [aop,zbC,hev x (by simp [Op.operands]),hev i (by simp [Op.operands])]
 |extract x k=>simp [aop,zbC,hev x (by simp [Op.operands])]
 |slice t x lo hi mx=>
  have hx:=hev x (by simp [Op.operands])
  have hlo:∀ d,zcY ev lo d=zcY ev' lo d:=fun d=>by cases lo with
   |none=>rfl
   |some q=>simp only [zcY,hev q (by simp [Op.operands])]
  have hhi:∀ d,zcY ev hi d=zcY ev' hi d:=fun d=>by cases hi with
   |none=>rfl
   |some q=>simp only [zcY,hev q (by simp [Op.operands])]
  exact ⟨by simp only [aop,hx,hlo,hhi],rfl⟩
 |call c=>
  obtain ⟨cl,args,tys⟩:=c
  cases cl with
  |builtin b=>
   have hargs:∀ x,x ∈ args.toList→ev x=ev' x:=fun x hx=>hev x (by simp [Op.operands,Call.operands];exact Array.mem_toList_iff.1 hx)
   cases b with
   |len=>
    refine ⟨?_,rfl⟩
    simp only [aop]
    split
    ·rename_i x t h1 h2;rw [hargs x (by rw [h1];simp)]
    ·rfl
   |max=>
    refine ⟨?_,rfl⟩
    simp only [aop]
    split
    ·rename_i x r h1
     rw [hargs x (by rw [h1];simp),List.map_congr_left (fun y hy=>hargs y (by rw [h1];simp [hy]))]
    ·rfl
   |min=>
    refine ⟨?_,rfl⟩
    simp only [aop]
    split
    ·rename_i x r h1
     rw [hargs x (by rw [h1];simp),List.map_congr_left (fun y hy=>hargs y (by rw [h1];simp [hy]))]
    ·rfl
   |append=>
    have key:∀ x y,args.toList=[x,y]→ev x=ev' x∧ev y=ev' y:=fun x y h=>⟨hargs x (by rw [h];simp),hargs y (by rw [h];simp)⟩
    refine ⟨?_,?_⟩
    ·simp only [aop]
     simp only [zbC] at hob
     split
     ·rename_i x y t t' d h1 h2
      obtain ⟨hx,hy⟩:=key x y h1
      rw [h1] at hob
      rw [←hx,←hy]
      have h3:=hob (env.site d) (by simp)
      have h4:zcS ob (ev y)=zcS ob' (ev y):=zlL (fun id n hv=>hob id (by simp [hv]))
      rw [h3,h4]
      split
      ·split
       ·split
        ·rfl
        ·rename_i id n hv;rw [hob id (by simp [hv])]
        ·rfl
        ·rfl
       ·rfl
      ·rfl
     ·rfl
    ·simp only [zbC]
     split
     ·rename_i x y h1
      obtain ⟨hx,hy⟩:=key x y h1
      rw [hx,hy]
     ·rfl
   |_=>exact ⟨rfl,rfl⟩
  |value f=>exact ⟨rfl,rfl⟩
  |invoke r m=>exact ⟨rfl,rfl⟩
 |makeFunc fn first cap=>
  refine ⟨?_,rfl⟩
  cases fn with
  |func f=>
   simp only [aop]
   have:cap.toList.map ev=cap.toList.map ev':=List.map_congr_left fun x hx=>hev x (by simp [Op.operands];exact .inr (Array.mem_toList_iff.1 hx))
   rw [this]
  |_=>rfl
 |makeInterface t x=>simp [aop,zbC,hev x (by simp [Op.operands])]
 |typeAssert x t0 t ok=>simp [aop,zbC,hev x (by simp [Op.operands])]
 |_=>exact ⟨rfl,rfl⟩
theorem zox {f:FuncId} {vals:List AVal} (h:calls env σ o.op f vals) (hev:∀ x,x ∈ o.op.operands→zai env σ x=zai env σ' x):calls env σ' o.op f vals:=by
 rcases h with ⟨args,tys,ho,rfl⟩|⟨t,args,tys,cs,ho,hs,rfl⟩
 ·refine .inl ⟨args,tys,ho,?_⟩
  exact List.map_congr_left fun x hx=>hev x (by simp [ho,Op.operands,Call.operands];exact .inr (Array.mem_toList_iff.1 hx))
 ·refine .inr ⟨t,args,tys,cs,ho,?_,?_⟩
  ·have:=hev (.tmp t) (by simp [ho,Op.operands,Call.operands])
   rw [←hs]
   exact this.symm
  ·congr 1
   exact List.map_congr_left fun x hx=>hev x (by simp [ho,Op.operands,Call.operands];exact .inr (Array.mem_toList_iff.1 hx))
theorem CallFits.local {f:FuncId} {vals cargs:List AVal} {cobjs:List (Option AObj)} {ids news:List Nat} {objs':List (Option AObj)} (hf:CallFits P env σ o f vals cargs cobjs ids news objs')
  (hev:∀ x,x ∈ o.op.operands→zai env σ x=zai env σ' x) (hob:∀ id,id ∈ ids++news→σ.obj id=σ'.obj id):CallFits P env σ' o f vals cargs cobjs ids news objs':=by
 obtain ⟨ho,hent,hargs,hobjs,hscA,hscO,hnd,hlt,hfr,hlen⟩:=hf
 refine ⟨zox ho hev,hent,hargs,?_,hscA,hscO,hnd,hlt,fun id hid=>?_,hlen⟩
 ·rw [←hobjs]
  exact List.map_congr_left fun id hid=>(hob id (by simp [hid])).symm
 ·rw [←hob id (by simp [hid])];exact hfr id hid
theorem Step.local {T:List Nat} (h:Step P env o σ T e) (hev:∀ x,x ∈ o.op.operands→zai env σ x=zai env σ' x) (hob:∀ id,id ∈ T→σ.obj id=σ'.obj id):Step P env o σ' T e:=by
 cases h with
 |op _ h=>
  obtain ⟨h1,h2⟩:=zsV env o.dst o.op hev hob
  rw [h2]
  exact .op e (h1 ▸ h)
 |call f args cargs cobjs ids news res objs' hf hac=>
  refine .call f args cargs cobjs ids news res objs' ?_ hac
  exact hf.local hev hob
end
def zd2 (ops:Array Oper) (σ:St) (o:Oper):Option Bool:=
 match o.guard with
 |none=>some true
 |some (j,want)=>match (ops[j]?).bind (·.dst) with
  |some t=>match σ.slot t with
   |.pv (.bool b)=>some (b==want)
   |.tup []=>some false
   |_=>none
  |none=>none
inductive GStep (P:Program) (env:Env) (ops:Array Oper) (o:Oper) (σ:St):List Nat→Eff→Prop
 |run (T:List Nat) (e:Eff):zd2 ops σ o=some true→Step P env o σ T e→GStep P env ops o σ T e
 |skip:zd2 ops σ o=some false→GStep P env ops o σ [] ⟨.tup [],[]⟩
section
variable {P:Program} {env:Env} {o:Oper} {E:Ent} {σ σ':St} {g:Gh} {M:Mem} {a:Act} {w:World} {e:Eff} {ops:Array Oper}
theorem zd3 (hR:Rel E σ g M a w) {b:Bool} (h:zd2 ops σ o=some b):Region.wanted o (yielded ops a.tmps)=b:=by
 unfold zd2 at h
 unfold Region.wanted
 cases hg:o.guard with
 |none=>rw [hg] at h;cases h;rfl
 |some q=>
  obtain ⟨j,want⟩:=q
  rw [hg] at h
  simp only at h ⊢
  split at h
  ·rename_i t ht
   split at h
   ·rename_i c hc
    cases h
    have hlt:t<σ.slots.length:=by
     rcases Nat.lt_or_ge t σ.slots.length with h'|h'
     ·exact h'
     ·simp [St.slot,List.getElem?_eq_none h'] at hc
    have hv:=hR.slots t hlt
    rw [hc] at hv
    have hv':=hv.bool_inv
    have hget:a.tmps[t]?=some (.bool c):=by
     have hlt2:t<a.tmps.size:=by rw [hR.size];exact hlt
     rw [Array.getD_eq_getD_getElem?,Array.getElem?_eq_getElem hlt2] at hv'
     rw [Array.getElem?_eq_getElem hlt2]
     simpa using hv'
    have hy:yielded ops a.tmps j=some c:=by simp [yielded,ht,hget]
    rw [hy]
    cases c<;>cases want<;>rfl
   ·rename_i hc
    cases h
    have hlt:t<σ.slots.length:=by
     rcases Nat.lt_or_ge t σ.slots.length with h'|h'
     ·exact h'
     ·simp [St.slot,List.getElem?_eq_none h'] at hc
    have hv:=hR.slots t hlt
    rw [hc] at hv
    have hlt2:t<a.tmps.size:=by rw [hR.size];exact hlt
    rw [Array.getD_eq_getD_getElem?,Array.getElem?_eq_getElem hlt2] at hv
    simp only [Option.getD_some] at hv
    have hy:yielded ops a.tmps j=none:=by
     simp only [yielded,ht,Option.bind_some,Array.getElem?_eq_getElem hlt2]
     generalize a.tmps[t]=u at hv
     cases hv
     rfl
    rw [hy]
    rfl
   ·cases h
  ·cases h
theorem GStep.wp {T:List Nat} {i:Nat} (hi:ops[i]?=some o) (h:GStep P env ops o σ T e) (hR:Rel E σ g M a w) (hG:zkE env E M) (hE:za1 P env) (hl:σ.objs.length=env.nobj)
  {K:Act→World→Prop} {Q:Exit→Act→World→Prop}
  (hK:∀ v w' g' M',Rel E (σ.app o.dst e) g' M' (a.put o.dst v) w'→(∀ id,σ.dom id→g.agree g' id)→Mem.le M M'→K (a.put o.dst v) w'):wpOp P ops Q i K a w:=by
 unfold wpOp
 simp only [hi]
 cases h with
 |run _ _ hg hs=>
  rw [if_pos (zd3 hR hg)]
  exact .inl (hs.does hR hG hE hl K Q hK)
 |skip hg=>
  rw [if_neg (by rw [zd3 hR hg];simp)]
  exact hK undef w g M (hR.put o.dst (.tup [] [] rfl (fun i hi=>by simp at hi))) (fun _ _=>Gh.agree_refl _ _) (Mem.le_refl _)
theorem zjt {x:Operand} (h:∀ t,x=.tmp t→σ.slot t=σ'.slot t):zai env σ x=zai env σ' x:=by
 cases x with
 |tmp t=>exact h t rfl
 |_=>rfl
theorem GStep.local {T:List Nat} (h:GStep P env ops o σ T e) (hs:∀ t,t ∈ o.looksAt ops→σ.slot t=σ'.slot t) (hob:∀ id,id ∈ T→σ.obj id=σ'.obj id):GStep P env ops o σ' T e:=by
 have hg:zd2 ops σ' o=zd2 ops σ o:=by
  unfold zd2
  cases hg:o.guard with
  |none=>rfl
  |some q=>
   obtain ⟨j,want⟩:=q
   simp only
   cases ht:(ops[j]?).bind (·.dst) with
   |none=>rfl
   |some t=>
    have:=hs t (by simp [Oper.looksAt,hg,ht])
    simp only [this]
 cases h with
 |run _ _ h1 h2=>
  refine .run T e (by rw [hg];exact h1) (h2.local (fun x hx=>zjt (fun t ht=>hs t ?_)) hob)
  subst ht
  exact List.mem_append_left _ (List.mem_filterMap.2 ⟨.tmp t,by simpa using hx,rfl⟩)
 |skip h1=>exact .skip (by rw [hg];exact h1)
inductive PStep (P:Program) (env:Env) (o:Oper) (σ:St):Value→List (Nat × AObj)→Prop
 |call (f:FuncId) (vals:List AVal) (cargs:List AVal) (cobjs:List (Option AObj)) (ids news:List Nat) (x:Value) (objs':List (Option AObj)) :
   CallFits P env σ o f vals cargs cobjs ids news objs'→AP P env.gl f cargs cobjs x objs'→PStep P env o σ x (zaT (fun k=>(ids++news).getD k 0) (ids++news) 0 objs')
 |pan (x:Operand) (p:PVal) (v:Value):o.op=.panic x→zai env σ x=.pv p→(∀ M u,Rd M p u→u=v∧∃ t y,v=.iface t y)→PStep P env o σ v []
structure GPStep (P:Program) (env:Env) (ops:Array Oper) (o:Oper) (σ:St) (x:Value) (upd:List (Nat × AObj)):Prop where
 guard:zd2 ops σ o=some true
 step:PStep P env o σ x upd
theorem GPStep.wp {i:Nat} {x:Value} {upd:List (Nat × AObj)} (hi:ops[i]?=some o) (h:GPStep P env ops o σ x upd) (hR:Rel E σ g M a w) (hG:zkE env E M) (hl:σ.objs.length=env.nobj)
  {K:Act→World→Prop} {Q:Exit→Act→World→Prop}
  (hQ:∀ w' g' M',Rel E ⟨σ.slots,zaN σ.objs upd⟩ g' M' a w'→(∀ id,σ.dom id→g.agree g' id)→Mem.le M M'→Q (.panic (zkM x)) a w'):wpOp P ops Q i K a w:=by
 unfold wpOp
 simp only [hi]
 rw [if_pos (zd3 hR h.guard)]
 cases h.step with
 |call f vals cargs cobjs ids news x objs' hf hac=>exact .inl (zow hR hG hl hf hac K Q hQ)
 |pan y p v ho hy hv=>
  refine .inl ?_
  have h1:=zaJ (env:=env) hR hG.1 y
  rw [hy] at h1
  obtain ⟨h2,t,z,h3⟩:=hv M _ h1.pv_inv
  have hrun:(execOp a.eval o).run P w=.halt (.panic x) w:=by
   simp only [execOp,ho,h2,h3,Instr.panic]
   rfl
  unfold Oper.wp
  rw [hrun]
  exact hQ w g M hR (fun _ _=>Gh.agree_refl _ _) (Mem.le_refl _)
theorem GPStep.local {x:Value} {upd:List (Nat × AObj)} (h:GPStep P env ops o σ x upd) (hs:∀ t,t ∈ o.looksAt ops→σ.slot t=σ'.slot t) (hob:∀ id,σ.obj id=σ'.obj id):GPStep P env ops o σ' x upd:=by
 have hg:zd2 ops σ' o=zd2 ops σ o:=by
  unfold zd2
  cases hg:o.guard with
  |none=>rfl
  |some q=>
   obtain ⟨j,want⟩:=q
   simp only
   cases ht:(ops[j]?).bind (·.dst) with
   |none=>rfl
   |some t=>
    have:=hs t (by simp [Oper.looksAt,hg,ht])
    simp only [this]
 have hev:∀ x,x ∈ o.op.operands→zai env σ x=zai env σ' x:=fun x hx=>zjt (fun t ht=>hs t (by
  subst ht
  exact List.mem_append_left _ (List.mem_filterMap.2 ⟨.tmp t,by simpa using hx,rfl⟩)))
 refine ⟨by rw [hg];exact h.guard,?_⟩
 cases h.step with
 |call f vals cargs cobjs ids news x objs' hf hac=>exact .call f vals cargs cobjs ids news x objs' (hf.local hev (fun id _=>hob id)) hac
 |pan y p v ho hy hv=>exact .pan y p _ ho (by rw [←hev y (by simp [ho,Op.operands])];exact hy) hv
end
end Go.Abs
namespace Go.Abs
open Go
structure Rec where
 T:List Nat
 e:Eff
def zgE (ops:Array Oper) (tr:Nat→Rec) (σ:St) (k:Nat):St:=
 match ops[k]? with
 |some o=>σ.app o.dst (tr k).e
 |none=>σ
def zb9 (ops:Array Oper) (tr:Nat→Rec) (S:Nat→Bool) (σ:St):Nat→St
 |0=>σ
 |m+1=>if S m then zgE ops tr (zb9 ops tr S σ m) m else zb9 ops tr S σ m
def meets (x y:List Nat):Bool:=x.any fun i=>y.contains i
def zyK (ops:Array Oper) (oi oj:Oper) (ri rj:Rec):Bool:=
 !(oi.apart ops oj) || (meets ri.T rj.T&&!(ri.e.upd.isEmpty&&rj.e.upd.isEmpty))
def anc (ops:Array Oper) (k:Nat):List Nat:=
 let b:=(Region.before ops).getD k 0
 (List.range k).filter fun j=>b.testBit j
def zm5 (ops:Array Oper) (A:Nat→List Nat) (tr:Nat→Rec):Bool:=
 (List.range ops.size).all fun k=>match ops[k]? with
  |none=>false
  |some o=>
   (o.after.all fun e=>!Region.binds .any e || decide (e.on<k)) &&
   ((tr k).e.upd.all fun q=>(tr k).T.contains q.1) &&
   ((A k).all fun j=>o.after.any fun e=>Region.binds .any e&&(e.on==j || (A e.on).contains j)) &&
   ((List.range k).all fun i=>(A k).contains i || match ops[i]? with|some oi=>!zyK ops oi o (tr i) (tr k)|none=>false)
section
variable {P:Program} {env:Env} {E:Ent} {σ:St} {ops:Array Oper} {tr:Nat→Rec} {A:Nat→List Nat}
theorem ziG (σ:St) (d:Option Nat) (e:Eff):(σ.app d e).slots.length=σ.slots.length:=by cases d<;>simp [St.app]
theorem zfr (σ:St) (d:Option Nat) (e:Eff):(σ.app d e).objs.length=σ.objs.length:=zdS e.upd σ.objs
theorem zhV (σ:St) (k:Nat):(zgE ops tr σ k).slots.length=σ.slots.length:=by
 unfold zgE;split
 ·exact ziG _ _ _
 ·rfl
theorem ziH (σ:St) (k:Nat):(zgE ops tr σ k).objs.length=σ.objs.length:=by
 unfold zgE;split
 ·exact zfr _ _ _
 ·rfl
theorem zdq (S:Nat→Bool):∀ m,(zb9 ops tr S σ m).slots.length=σ.slots.length
 |0=>rfl
 |m+1=>by
  simp only [zb9];split
  ·rw [zhV];exact zdq S m
  ·exact zdq S m
theorem zaO (S:Nat→Bool):∀ m,(zb9 ops tr S σ m).objs.length=σ.objs.length
 |0=>rfl
 |m+1=>by
  simp only [zb9];split
  ·rw [ziH];exact zaO S m
  ·exact zaO S m
theorem zdr {S S':Nat→Bool}:∀ m,(∀ k,k<m→S k=S' k)→zb9 ops tr S σ m=zb9 ops tr S' σ m
 |0,_=>rfl
 |m+1,h=>by simp only [zb9,h m (by omega),zdr m (fun k hk=>h k (by omega))]
theorem zlM (σ:St) (d:Option Nat) (e:Eff) (t:Nat):(σ.app d e).slot t=if d=some t∧t<σ.slots.length then e.val else σ.slot t:=by
 cases d with
 |none=>simp [St.app,St.slot]
 |some d=>
  by_cases hd:d=t
  ·subst hd
   by_cases hl:d<σ.slots.length
   ·simp [St.app,St.slot,hl]
   ·simp [St.app,St.slot,hl]
  ·have:¬ (some d=some t∧t<σ.slots.length):=fun h=>hd (by simpa using h.1)
   rw [if_neg this]
   simp [St.app,St.slot,List.getElem?_set_ne hd]
theorem zg3 (σ:St) (d:Option Nat) (e:Eff) (id:Nat) (h:∀ q,q ∈ e.upd→q.1≠id):(σ.app d e).obj id=σ.obj id:=zeo e.upd σ.objs id h
theorem zip:∀ (upd:List (Nat × AObj)) (l l':List (Option AObj)) (id:Nat),l.length=l'.length→l.getD id none=l'.getD id none→(zaN l upd).getD id none=(zaN l' upd).getD id none
 |[],_,_,_,_,h=>h
 |q::r,l,l',id,hl,h=>by
  simp only [zaN,List.foldl_cons]
  refine zip r _ _ id (by simp [hl]) ?_
  by_cases hq:q.1=id
  ·subst hq
   by_cases hlt:q.1<l.length
   ·simp [List.getD,hlt,(by omega:q.1<l'.length)]
   ·simp only [List.getD]
    rw [List.getElem?_eq_none (by simp;omega),List.getElem?_eq_none (by simp;omega)]
  ·simp only [List.getD,List.getElem?_set_ne hq];exact h
theorem zk3:∀ (upd:List (Nat × AObj)) (l:List (Option AObj)) (id:Nat) (x:Option AObj),(∀ q,q ∈ upd→q.1≠id)→zaN (l.set id x) upd=(zaN l upd).set id x
 |[],_,_,_,_=>rfl
 |q::r,l,id,x,h=>by
  simp only [zaN,List.foldl_cons]
  have h1:(l.set id x).set q.1 (some q.2)=(l.set q.1 (some q.2)).set id x:=List.set_comm _ _ (fun e=>h q (by simp) e.symm)
  rw [h1]
  exact zk3 r (l.set q.1 (some q.2)) id x (fun p hp=>h p (by simp [hp]))
theorem zju:∀ (u v:List (Nat × AObj)) (l:List (Option AObj)),(∀ p,p ∈ u→∀ q,q ∈ v→p.1≠q.1)→zaN (zaN l u) v=zaN (zaN l v) u
 |[],_,_,_=>rfl
 |p::u,v,l,h=>by
  have e1:zaN l (p::u)=zaN (l.set p.1 (some p.2)) u:=rfl
  have e2:zaN (zaN l v) (p::u)=zaN ((zaN l v).set p.1 (some p.2)) u:=rfl
  rw [e1,e2,zju u v _ (fun a ha b hb=>h a (by simp [ha]) b hb),zk3 v l p.1 _ (fun q hq e=>h p (by simp) q hq e.symm)]
theorem zvB {oi oj:Oper} {ei ej:Eff} (hd:∀ d,oi.dst=some d→oj.dst≠some d) (hu:∀ p,p ∈ ei.upd→∀ q,q ∈ ej.upd→p.1≠q.1) (σ:St) :
  (σ.app oi.dst ei).app oj.dst ej=(σ.app oj.dst ej).app oi.dst ei:=by
 have h1:zaN (zaN σ.objs ei.upd) ej.upd=zaN (zaN σ.objs ej.upd) ei.upd:=zju _ _ _ hu
 unfold St.app
 congr 1
 cases hi:oi.dst with
 |none=>cases oj.dst<;>rfl
 |some d=>
  cases hj:oj.dst with
  |none=>rfl
  |some d'=>
   have:d≠d':=fun e=>hd d hi (by rw [hj,e])
   exact List.set_comm _ _ this
structure Free (ops:Array Oper) (tr:Nat→Rec) (i k:Nat):Prop where
 slot1:∀ oi ok d,ops[i]?=some oi→ops[k]?=some ok→oi.dst=some d→d ∉ ok.looksAt ops∧ok.dst≠some d
 slot2:∀ oi ok d,ops[i]?=some oi→ops[k]?=some ok→ok.dst=some d→d ∉ oi.looksAt ops∧oi.dst≠some d
 obj1:∀ q,q ∈ (tr i).e.upd→q.1 ∉ (tr k).T
 obj2:∀ q,q ∈ (tr k).e.upd→q.1 ∉ (tr i).T
 upd:∀ p,p ∈ (tr i).e.upd→∀ q,q ∈ (tr k).e.upd→p.1≠q.1
theorem Free.symm {i k:Nat} (h:Free ops tr i k):Free ops tr k i:=
 ⟨fun oi ok d h1 h2 h3=>h.slot2 ok oi d h2 h1 h3,fun oi ok d h1 h2 h3=>h.slot1 ok oi d h2 h1 h3,h.obj2,h.obj1,fun p hp q hq e=>h.upd q hq p hp e.symm⟩
theorem zfP (hok:zm5 ops A tr=true) {i k:Nat} (hik:i<k) (hk:k<ops.size) (hA:i ∉ A k):Free ops tr i k:=by
 have hall:=List.all_eq_true.1 hok
 have hsub:∀ m,m<ops.size→∀ q,q ∈ (tr m).e.upd→q.1 ∈ (tr m).T:=fun m hm q hq=>by
  have h1:=hall m (List.mem_range.2 hm)
  rw [Array.getElem?_eq_getElem hm] at h1
  simp only [Bool.and_eq_true] at h1
  have:=List.all_eq_true.1 h1.1.1.2 q hq
  simpa using this
 have h1:=hall k (List.mem_range.2 hk)
 rw [Array.getElem?_eq_getElem hk] at h1
 simp only [Bool.and_eq_true] at h1
 have h2:=List.all_eq_true.1 h1.2 i (List.mem_range.2 hik)
 have hi:i<ops.size:=by omega
 rw [Array.getElem?_eq_getElem hi] at h2
 have h3:(A k).contains i=false:=by simpa using hA
 rw [h3] at h2
 simp only [Bool.false_or,Bool.not_eq_true',zyK,Bool.or_eq_false_iff,Bool.not_eq_false'] at h2
 obtain ⟨hap,hmeet⟩:=h2
 obtain ⟨a1,a2,a3⟩:=Oper.apart_spec hap
 have hno:∀ id,id ∈ (tr i).T→id ∈ (tr k).T→(tr i).e.upd=[]∧(tr k).e.upd=[]:=fun id h4 h5=>by
  have hm:meets (tr i).T (tr k).T=true:=List.any_eq_true.2 ⟨id,h4,by simpa using h5⟩
  rw [hm] at hmeet
  simp at hmeet
  exact hmeet
 refine ⟨fun oi ok d e1 e2 e3=>?_,fun oi ok d e1 e2 e3=>?_,fun q hq hT=>?_,fun q hq hT=>?_,fun p hp q hq e=>?_⟩
 ·rw [Array.getElem?_eq_getElem hi] at e1;cases e1
  rw [Array.getElem?_eq_getElem hk] at e2;cases e2
  exact ⟨a1 d e3,a2 d e3⟩
 ·rw [Array.getElem?_eq_getElem hi] at e1;cases e1
  rw [Array.getElem?_eq_getElem hk] at e2;cases e2
  exact ⟨a3 d e3,fun h=>a2 d h e3⟩
 ·have:=(hno q.1 (hsub i hi q hq) hT).1;rw [this] at hq;cases hq
 ·have:=(hno q.1 hT (hsub k hk q hq)).2;rw [this] at hq;cases hq
 ·have:=(hno p.1 (hsub i hi p hp) (e ▸ hsub k hk q hq)).1;rw [this] at hp;cases hp
theorem zsW {i k:Nat} (h:Free ops tr i k) (σ:St):zgE ops tr (zgE ops tr σ i) k=zgE ops tr (zgE ops tr σ k) i:=by
 unfold zgE
 cases hi:ops[i]? with
 |none=>rfl
 |some oi=>
  cases hk:ops[k]? with
  |none=>rfl
  |some ok=>exact zvB (fun d hd=>(h.slot1 oi ok d hi hk hd).2) h.upd σ
theorem zgF {S:Nat→Bool} {k:Nat} (hk:S k=false):∀ m,k<m→(∀ j,k<j→j<m→S j=true→Free ops tr k j) →
  zgE ops tr (zb9 ops tr S σ m) k=zb9 ops tr (fun j=>j==k || S j) σ m
 |0,h,_=>by omega
 |m+1,h,hf=>by
  by_cases hm:k=m
  ·subst hm
   simp only [zb9,hk,Bool.false_eq_true,if_false,beq_self_eq_true,Bool.true_or,if_true]
   rw [zdr (S':=fun j=>j==k || S j) k (fun j hj=>by simp [Nat.ne_of_lt hj])]
  ·have ih:=zgF hk m (by omega) (fun j h1 h2 h3=>hf j h1 (by omega) h3)
   have hne:(m==k)=false:=by simp;omega
   simp only [zb9,hne,Bool.false_or]
   split
   ·rename_i hSm
    rw [←ih,zsW (hf m (by omega) (by omega) hSm).symm]
   ·exact ih
theorem zjv {S:Nat→Bool} {t:Nat}:∀ m,(∀ j oj,j<m→S j=false→ops[j]?=some oj→oj.dst≠some t) →
  (zb9 ops tr S σ m).slot t=(zb9 ops tr (fun _=>true) σ m).slot t
 |0,_=>rfl
 |m+1,h=>by
  have ih:=zjv m (fun j oj hj=>h j oj (by omega))
  simp only [zb9,if_true]
  cases hm:ops[m]? with
  |none=>unfold zgE;simp only [hm];split<;>exact ih
  |some o=>
   split
   ·simp only [zgE,hm,zlM,zdq,ih]
   ·rename_i hS
    simp only [zgE,hm,zlM]
    rw [if_neg (fun hc=>h m o (by omega) (by simpa using hS) hm hc.1)]
    exact ih
theorem zex {S:Nat→Bool} {t k:Nat}:∀ m,k≤m→(∀ j oj,k≤j→j<m→S j=true→ops[j]?=some oj→oj.dst≠some t) →
  (zb9 ops tr S σ m).slot t=(zb9 ops tr S σ k).slot t
 |0,hk,_=>by have:k=0:=(by omega);subst this;rfl
 |m+1,hk,h=>by
  by_cases hkm:k=m+1
  ·subst hkm;rfl
  ·have ih:=zex m (by omega) (fun j oj h1 h2=>h j oj h1 (by omega))
   simp only [zb9]
   split
   ·rename_i hS
    unfold zgE
    cases hm:ops[m]? with
    |none=>exact ih
    |some o=>
     simp only [zlM]
     rw [if_neg (fun hc=>h m o (by omega) (by omega) hS hm hc.1)]
     exact ih
   ·exact ih
theorem zpN {S:Nat→Bool} {id:Nat}:∀ m,(∀ j,j<m→S j=false→∀ q,q ∈ (tr j).e.upd→q.1≠id) →
  (zb9 ops tr S σ m).obj id=(zb9 ops tr (fun _=>true) σ m).obj id
 |0,_=>rfl
 |m+1,h=>by
  have ih:=zpN m (fun j hj=>h j (by omega))
  simp only [zb9,if_true]
  unfold zgE
  cases hm:ops[m]? with
  |none=>simp only [];split<;>exact ih
  |some o=>
   split
   ·exact zip (tr m).e.upd _ _ id (by rw [zaO,zaO]) ih
   ·rename_i hS
    simp only []
    rw [zg3 _ _ _ _ (h m (by omega) (by simpa using hS))]
    exact ih
theorem zg4 {S:Nat→Bool} {id k:Nat}:∀ m,k≤m→(∀ j,k≤j→j<m→S j=true→∀ q,q ∈ (tr j).e.upd→q.1≠id) →
  (zb9 ops tr S σ m).obj id=(zb9 ops tr S σ k).obj id
 |0,hk,_=>by have:k=0:=(by omega);subst this;rfl
 |m+1,hk,h=>by
  by_cases hkm:k=m+1
  ·subst hkm;rfl
  ·have ih:=zg4 m (by omega) (fun j h1 h2=>h j h1 (by omega))
   simp only [zb9]
   split
   ·rename_i hS
    unfold zgE
    cases hm:ops[m]? with
    |none=>exact ih
    |some o=>
     simp only []
     rw [zg3 _ _ _ _ (h m (by omega) (by omega) hS)]
     exact ih
   ·exact ih
def zsX (P:Program) (env:Env) (ops:Array Oper) (σ:St) (tr:Nat→Rec):Prop:=
 ∀ k o,ops[k]?=some o→GStep P env ops o (zb9 ops tr (fun _=>true) σ k) (tr k).T (tr k).e
theorem zeF (hok:zm5 ops A tr=true) {S:Nat→Bool} (hcl:∀ k o,ops[k]?=some o→S k=true→∀ e,e ∈ o.after→Region.binds .any e=true→S e.on=true) :
  ∀ n k o,k<n→ops[k]?=some o→(∀ e,e ∈ o.after→Region.binds .any e=true→S e.on=true)→∀ j,j ∈ A k→S j=true
 |0,k,_,h,_,_,_,_=>by omega
 |n+1,k,o,hk,ho,hpre,j,hj=>by
  have hks:k<ops.size:=(Array.getElem?_eq_some_iff.1 ho).1
  have h1:=List.all_eq_true.1 hok k (List.mem_range.2 hks)
  rw [ho] at h1
  simp only [Bool.and_eq_true] at h1
  have h2:=List.all_eq_true.1 h1.1.2 j hj
  obtain ⟨e,he,hb⟩:=Array.any_eq_true'.1 h2
  simp only [Bool.and_eq_true,Bool.or_eq_true,beq_iff_eq] at hb
  obtain ⟨hb1,hb2⟩:=hb
  rcases hb2 with rfl|hb2
  ·exact hpre e he hb1
  ·have hSe:=hpre e he hb1
   have hlt:e.on<k:=by
    have:=Array.all_eq_true_iff_forall_mem.1 h1.1.1.1 e he
    simpa [hb1] using this
   have hes:e.on<ops.size:=by omega
   exact zeF hok hcl n e.on ops[e.on] (by omega) (Array.getElem?_eq_getElem hes) (fun e' he' hb'=>hcl e.on _ (Array.getElem?_eq_getElem hes) hSe e' he' hb') j (by simpa using hb2)
theorem zrn (hE:za1 P env) (hok:zm5 ops A tr=true) (htr:zsX P env ops σ tr) (hlen:σ.objs.length=env.nobj) {Q:Exit→Act→World→Prop}
  {g0:Gh} {M0:Mem} (hG:zkE env E M0)
  (hQ:∀ g M a w,Rel E (zb9 ops tr (fun _=>true) σ ops.size) g M a w→(∀ id,σ.dom id→g0.agree g id)→Mem.le M0 M→Q .normal a w) :
  ∀ (fuel:Nat) (listed:Array Bool) (g:Gh) (M:Mem) (a:Act) (w:World),listed.size=ops.size →
   (∀ k o,ops[k]?=some o→listed.getD k true=true→∀ e,e ∈ o.after→Region.binds .any e=true→listed.getD e.on true=true) →
   ((List.range ops.size).filter fun k=>!listed.getD k true).length≤fuel →
   Rel E (zb9 ops tr (fun k=>listed.getD k true) σ ops.size) g M a w→(∀ id,σ.dom id→g0.agree g id)→Mem.le M0 M→wpAny P .any ops Q fuel listed a w:=by
 have hedge:∀ k o,ops[k]?=some o→∀ e,e ∈ o.after→Region.binds .any e=true→e.on<k:=fun k o ho e he hb=>by
  have hks:k<ops.size:=(Array.getElem?_eq_some_iff.1 ho).1
  have h1:=List.all_eq_true.1 hok k (List.mem_range.2 hks)
  rw [ho] at h1
  simp only [Bool.and_eq_true] at h1
  have:=Array.all_eq_true_iff_forall_mem.1 h1.1.1.1 e he
  simpa [hb] using this
 have hall:∀ listed:Array Bool,listed.size=ops.size→Region.ready .any ops listed=[]→∀ k,k<ops.size→listed.getD k true=true:=by
  intro listed hls hr k
  induction k using Nat.strongRecOn with
  |_ k ih=>
   intro hk
   cases hc:listed.getD k true with
   |true=>rfl
   |false=>
    exfalso
    have:k ∈ Region.ready .any ops listed:=mem_ready.2 ⟨hc,ops[k],Array.getElem?_eq_getElem hk,fun e he hb=>by
     have hlt:=hedge k _ (Array.getElem?_eq_getElem hk) e he hb
     have h1:=ih e.on hlt (by omega)
     have h2:e.on<listed.size:=by omega
     rw [Array.getD_eq_getD_getElem?,Array.getElem?_eq_getElem h2] at h1 ⊢
     exact h1⟩
    rw [hr] at this
    cases this
 have hdone:∀ (listed:Array Bool) g M a w,listed.size=ops.size→Region.ready .any ops listed=[]→Rel E (zb9 ops tr (fun k=>listed.getD k true) σ ops.size) g M a w →
   (∀ id,σ.dom id→g0.agree g id)→Mem.le M0 M→Q .normal a w:=fun listed g M a w hls hr hR hag hM=>by
  rw [zdr (S':=fun _=>true) ops.size (fun k hk=>hall listed hls hr k hk)] at hR
  exact hQ g M a w hR hag hM
 intro fuel
 induction fuel with
 |zero=>
  intro listed g M a w hls hcl hcnt hR hag hM
  have hr:Region.ready .any ops listed=[]:=by
   cases hr:Region.ready .any ops listed with
   |nil=>rfl
   |cons i r=>
    exfalso
    have hi:i ∈ Region.ready .any ops listed:=by rw [hr];simp
    obtain ⟨h0,o,ho,_⟩:=mem_ready.1 hi
    have:i ∈ (List.range ops.size).filter fun k=>!listed.getD k true:=List.mem_filter.2 ⟨List.mem_range.2 (Array.getElem?_eq_some_iff.1 ho).1,by rw [h0];rfl⟩
    have hn:=List.length_pos_of_mem this
    omega
  exact ⟨hr,hdone listed g M a w hls hr hR hag hM⟩
 |succ fuel ih=>
  intro listed g M a w hls hcl hcnt hR hag hM
  refine ⟨fun hr=>hdone listed g M a w hls hr hR hag hM,fun k hk=>?_⟩
  obtain ⟨h0,o,ho,hpre⟩:=mem_ready.1 hk
  have hks:k<ops.size:=(Array.getElem?_eq_some_iff.1 ho).1
  have hpre':∀ e,e ∈ o.after→Region.binds .any e=true→listed.getD e.on true=true:=fun e he hb=>by
   have h1:=hpre e he hb
   have h2:e.on<listed.size:=by have:=hedge k o ho e he hb;omega
   rw [Array.getD_eq_getD_getElem?,Array.getElem?_eq_getElem h2] at h1 ⊢
   exact h1
  have hanc:∀ j,j ∈ A k→listed.getD j true=true:=zeF hok (S:=fun k=>listed.getD k true) hcl (k+1) k o (by omega) ho hpre'
  have hfree1:∀ j,j<k→listed.getD j true=false→Free ops tr j k:=fun j hj hS=>zfP hok hj hks (fun hA=>by rw [hanc j hA] at hS;cases hS)
  have hfree2:∀ j,k<j→j<ops.size→listed.getD j true=true→Free ops tr k j:=fun j hj hjs hS=>zfP hok hj hjs (fun hA=>by
   have:=zeF hok (S:=fun k=>listed.getD k true) hcl (j+1) j ops[j] (by omega) (Array.getElem?_eq_getElem hjs) (fun e he hb=>hcl j _ (Array.getElem?_eq_getElem hjs) hS e he hb) k hA
   rw [h0] at this;cases this)
  have hstep:=(htr k o ho).local (σ':=zb9 ops tr (fun k=>listed.getD k true) σ ops.size) (fun t ht=>by
    rw [zex (k:=k) ops.size (by omega) (fun j oj h1 h2 hS hoj hd=>by
     by_cases hjk:j=k
     ·subst hjk;rw [h0] at hS;cases hS
     ·exact ((hfree2 j (by omega) h2 hS).slot2 o oj t ho hoj hd).1 ht)]
    exact (zjv k (fun j oj hj hS hoj hd=>((hfree1 j hj hS).slot1 oj o t hoj ho hd).1 ht)).symm) (fun id hid=>by
    rw [zg4 (k:=k) ops.size (by omega) (fun j h1 h2 hS q hq e=>by
     by_cases hjk:j=k
     ·subst hjk;rw [h0] at hS;cases hS
     ·exact (hfree2 j (by omega) h2 hS).obj2 q hq (e ▸ hid))]
    exact (zpN k (fun j hj hS q hq e=>(hfree1 j hj hS).obj1 q hq (e ▸ hid))).symm)
  have hins:=zgF (σ:=σ) (S:=fun j=>listed.getD j true) h0 ops.size hks (fun j h1 h2 h3=>hfree2 j h1 h2 h3)
  have hlisted:∀ j,(listed.setIfInBounds k true).getD j true=(j==k || listed.getD j true):=fun j=>by
   by_cases hjk:j=k
   ·subst hjk
    have:j<listed.size:=by omega
    simp [this]
   ·rw [getD_set_ne true (fun e=>hjk e.symm)]
    have:(j==k)=false:=by simpa using hjk
    rw [this];rfl
  refine hstep.wp ho hR (hG.mono hM) hE (by rw [zaO];exact hlen) (fun v w' g' M' hR' hag' hM'=>?_)
  have hdomS:∀ id,σ.dom id→(zb9 ops tr (fun k=>listed.getD k true) σ ops.size).dom id:=by
   intro id hd
   have key:∀ m,(zb9 ops tr (fun k=>listed.getD k true) σ m).dom id:=by
    intro m
    induction m with
    |zero=>exact hd
    |succ m ihm=>
     simp only [zb9]
     split
     ·unfold zgE
      split
      ·rename_i o' _
       have:∀ (u:List (Nat × AObj)) (l:List (Option AObj)),l.getD id none≠none→(zaN l u).getD id none≠none:=by
        intro u
        induction u with
        |nil=>intro l h;exact h
        |cons q r ihr=>
         intro l h
         refine ihr _ ?_
         by_cases hq:q.1=id
         ·subst hq
          have hlt:q.1<l.length:=by
           rcases Nat.lt_or_ge q.1 l.length with h'|h'
           ·exact h'
           ·exfalso;apply h;simp [List.getElem?_eq_none h']
          simp [List.getD,hlt]
         ·simp only [List.getD,List.getElem?_set_ne hq];exact h
       exact this _ _ ihm
      ·exact ihm
     ·exact ihm
   exact key _
  refine ih (listed.setIfInBounds k true) g' M' _ w' (by simpa using hls) ?_ ?_ ?_ ?_ (fun b i u hu=>hM' b i u (hM b i u hu))
  ·intro j oj hoj hS e he hb
   rw [hlisted] at hS ⊢
   simp only [Bool.or_eq_true,beq_iff_eq] at hS ⊢
   rcases hS with rfl|hS
   ·rw [ho] at hoj;cases hoj
    exact .inr (hpre' e he hb)
   ·exact .inr (hcl j oj hoj hS e he hb)
  ·have hsub:((List.range ops.size).filter fun j=>!(listed.setIfInBounds k true).getD j true)=((List.range ops.size).filter fun j=>!listed.getD j true).filter fun j=>!(j==k):=by
    rw [List.filter_filter]
    apply List.filter_congr
    intro j _
    rw [hlisted];simp [Bool.not_or]
   rw [hsub]
   have hmem:k ∈ (List.range ops.size).filter fun j=>!listed.getD j true:=List.mem_filter.2 ⟨List.mem_range.2 hks,by rw [h0];rfl⟩
   have hlt:(((List.range ops.size).filter fun j=>!listed.getD j true).filter fun j=>!(j==k)).length<((List.range ops.size).filter fun j=>!listed.getD j true).length:=by
    apply List.length_filter_lt_length_iff_exists.2
    exact ⟨k,hmem,by simp⟩
   omega
  ·have hR2:Rel E (zgE ops tr (zb9 ops tr (fun k=>listed.getD k true) σ ops.size) k) g' M' (a.put o.dst v) w':=by
    have e1:zgE ops tr (zb9 ops tr (fun k=>listed.getD k true) σ ops.size) k=(zb9 ops tr (fun k=>listed.getD k true) σ ops.size).app o.dst (tr k).e:=by
     simp only [zgE,ho]
    rw [e1];exact hR'
   rw [hins] at hR2
   rw [zdr (S':=fun j=>j==k || listed.getD j true) ops.size (fun j _=>hlisted j)]
   exact hR2
  ·intro id hd
   obtain ⟨h1,h2,h3⟩:=hag id hd
   obtain ⟨h4,h5,h6⟩:=hag' id (hdomS id hd)
   exact ⟨h4.trans h1,h5.trans h2,h6.trans h3⟩
theorem zd4 (hp:∀ k,(tr k).e.upd=[]) (S:Nat→Bool):∀ m,(zb9 ops tr S σ m).objs=σ.objs
 |0=>rfl
 |m+1=>by
  simp only [zb9]
  split
  ·unfold zgE
   split
   ·simp only [St.app,hp m,List.foldl_nil]
    exact zd4 hp S m
   ·exact zd4 hp S m
  ·exact zd4 hp S m
theorem zm6 (hE:za1 P env) (hok:zm5 ops A tr=true) (kp:Nat) {op:Oper} (hop:ops[kp]?=some op) {x:Value} {upd:List (Nat × AObj)}
  (htr:∀ k o,k<kp→ops[k]?=some o→GStep P env ops o (zb9 ops tr (fun _=>true) σ k) (tr k).T (tr k).e)
  (hpure:∀ k,(tr k).e.upd=[]) (hlate:∀ j,kp<j→j<ops.size→kp ∈ A j)
  (hpan:GPStep P env ops op (zb9 ops tr (fun _=>true) σ kp) x upd) (hlen:σ.objs.length=env.nobj) {Q:Exit→Act→World→Prop}
  {g0:Gh} {M0:Mem} (hG:zkE env E M0)
  (hQ:∀ slots g M a w,Rel E ⟨slots,zaN σ.objs upd⟩ g M a w→(∀ id,σ.dom id→g0.agree g id)→Mem.le M0 M→Q (.panic (zkM x)) a w) :
  ∀ (fuel:Nat) (listed:Array Bool) (g:Gh) (M:Mem) (a:Act) (w:World),listed.size=ops.size →
   (∀ k o,ops[k]?=some o→listed.getD k true=true→∀ e,e ∈ o.after→Region.binds .any e=true→listed.getD e.on true=true)→listed.getD kp true=false →
   ((List.range ops.size).filter fun k=>!listed.getD k true).length≤fuel →
   Rel E (zb9 ops tr (fun k=>listed.getD k true) σ ops.size) g M a w→(∀ id,σ.dom id→g0.agree g id)→Mem.le M0 M→wpAny P .any ops Q fuel listed a w:=by
 have hkps:kp<ops.size:=(Array.getElem?_eq_some_iff.1 hop).1
 have hedge:∀ k o,ops[k]?=some o→∀ e,e ∈ o.after→Region.binds .any e=true→e.on<k:=fun k o ho e he hb=>by
  have hks:k<ops.size:=(Array.getElem?_eq_some_iff.1 ho).1
  have h1:=List.all_eq_true.1 hok k (List.mem_range.2 hks)
  rw [ho] at h1
  simp only [Bool.and_eq_true] at h1
  have:=Array.all_eq_true_iff_forall_mem.1 h1.1.1.1 e he
  simpa [hb] using this
 have hall:∀ listed:Array Bool,listed.size=ops.size→Region.ready .any ops listed=[]→∀ k,k<ops.size→listed.getD k true=true:=by
  intro listed hls hr k
  induction k using Nat.strongRecOn with
  |_ k ih=>
   intro hk
   cases hc:listed.getD k true with
   |true=>rfl
   |false=>
    exfalso
    have:k ∈ Region.ready .any ops listed:=mem_ready.2 ⟨hc,ops[k],Array.getElem?_eq_getElem hk,fun e he hb=>by
     have hlt:=hedge k _ (Array.getElem?_eq_getElem hk) e he hb
     have h1:=ih e.on hlt (by omega)
     have h2:e.on<listed.size:=by omega
     rw [Array.getD_eq_getD_getElem?,Array.getElem?_eq_getElem h2] at h1 ⊢
     exact h1⟩
    rw [hr] at this
    cases this
 have hdone:∀ (listed:Array Bool) (R:Prop),listed.size=ops.size→Region.ready .any ops listed=[]→listed.getD kp true=false→R:=fun listed R hls hr hkp=>by
  rw [hall listed hls hr kp hkps] at hkp
  cases hkp
 intro fuel
 induction fuel with
 |zero=>
  intro listed g M a w hls hcl hkp hcnt hR hag hM
  have hr:Region.ready .any ops listed=[]:=by
   cases hr:Region.ready .any ops listed with
   |nil=>rfl
   |cons i r=>
    exfalso
    have hi:i ∈ Region.ready .any ops listed:=by rw [hr];simp
    obtain ⟨h0,o,ho,_⟩:=mem_ready.1 hi
    have:i ∈ (List.range ops.size).filter fun k=>!listed.getD k true:=List.mem_filter.2 ⟨List.mem_range.2 (Array.getElem?_eq_some_iff.1 ho).1,by rw [h0];rfl⟩
    have hn:=List.length_pos_of_mem this
    omega
  exact hdone listed _ hls hr hkp
 |succ fuel ih=>
  intro listed g M a w hls hcl hkp hcnt hR hag hM
  refine ⟨fun hr=>hdone listed _ hls hr hkp,fun k hk=>?_⟩
  obtain ⟨h0,o,ho,hpre⟩:=mem_ready.1 hk
  have hks:k<ops.size:=(Array.getElem?_eq_some_iff.1 ho).1
  have hpre':∀ e,e ∈ o.after→Region.binds .any e=true→listed.getD e.on true=true:=fun e he hb=>by
   have h1:=hpre e he hb
   have h2:e.on<listed.size:=by have:=hedge k o ho e he hb;omega
   rw [Array.getD_eq_getD_getElem?,Array.getElem?_eq_getElem h2] at h1 ⊢
   exact h1
  have hanc:∀ j,j ∈ A k→listed.getD j true=true:=zeF hok (S:=fun k=>listed.getD k true) hcl (k+1) k o (by omega) ho hpre'
  have hnk:¬ kp<k:=fun h=>by
   have:=hanc kp (hlate k h hks)
   rw [hkp] at this
   cases this
  have hfree1:∀ j,j<k→listed.getD j true=false→Free ops tr j k:=fun j hj hS=>zfP hok hj hks (fun hA=>by rw [hanc j hA] at hS;cases hS)
  have hfree2:∀ j,k<j→j<ops.size→listed.getD j true=true→Free ops tr k j:=fun j hj hjs hS=>zfP hok hj hjs (fun hA=>by
   have:=zeF hok (S:=fun k=>listed.getD k true) hcl (j+1) j ops[j] (by omega) (Array.getElem?_eq_getElem hjs) (fun e he hb=>hcl j _ (Array.getElem?_eq_getElem hjs) hS e he hb) k hA
   rw [h0] at this;cases this)
  have hslot:∀ t,t ∈ o.looksAt ops→(zb9 ops tr (fun _=>true) σ k).slot t=(zb9 ops tr (fun k=>listed.getD k true) σ ops.size).slot t:=fun t ht=>by
   rw [zex (k:=k) ops.size (by omega) (fun j oj h1 h2 hS hoj hd=>by
    by_cases hjk:j=k
    ·subst hjk;rw [h0] at hS;cases hS
    ·exact ((hfree2 j (by omega) h2 hS).slot2 o oj t ho hoj hd).1 ht)]
   exact (zjv k (fun j oj hj hS hoj hd=>((hfree1 j hj hS).slot1 oj o t hoj ho hd).1 ht)).symm
  have hobj:∀ id,(zb9 ops tr (fun _=>true) σ k).obj id=(zb9 ops tr (fun k=>listed.getD k true) σ ops.size).obj id:=fun id=>by
   simp only [St.obj,zd4 hpure]
  by_cases hkk:k=kp
  ·subst hkk
   rw [ho] at hop
   cases hop
   refine (hpan.local hslot hobj).wp ho hR (hG.mono hM) (by rw [zaO];exact hlen) (fun w' g' M' hR' hag' hM'=>?_)
   rw [zd4 hpure] at hR'
   refine hQ _ g' M' a w' hR' (fun id hd=>?_) (fun b i u hu=>hM' b i u (hM b i u hu))
   obtain ⟨h1,h2,h3⟩:=hag id hd
   obtain ⟨h4,h5,h6⟩:=hag' id (by simp only [St.dom,St.obj,zd4 hpure];exact hd)
   exact ⟨h4.trans h1,h5.trans h2,h6.trans h3⟩
  have hstep:=(htr k o (by omega) ho).local hslot (fun id _=>hobj id)
  have hins:=zgF (σ:=σ) (S:=fun j=>listed.getD j true) h0 ops.size hks (fun j h1 h2 h3=>hfree2 j h1 h2 h3)
  have hlisted:∀ j,(listed.setIfInBounds k true).getD j true=(j==k || listed.getD j true):=fun j=>by
   by_cases hjk:j=k
   ·subst hjk
    have:j<listed.size:=by omega
    simp [this]
   ·rw [getD_set_ne true (fun e=>hjk e.symm)]
    have:(j==k)=false:=by simpa using hjk
    rw [this];rfl
  refine hstep.wp ho hR (hG.mono hM) hE (by rw [zaO];exact hlen) (fun v w' g' M' hR' hag' hM'=>?_)
  have hdomS:∀ id,σ.dom id→(zb9 ops tr (fun k=>listed.getD k true) σ ops.size).dom id:=by
   intro id hd
   have key:∀ m,(zb9 ops tr (fun k=>listed.getD k true) σ m).dom id:=by
    intro m
    induction m with
    |zero=>exact hd
    |succ m ihm=>
     simp only [zb9]
     split
     ·unfold zgE
      split
      ·rename_i o' _
       have:∀ (u:List (Nat × AObj)) (l:List (Option AObj)),l.getD id none≠none→(zaN l u).getD id none≠none:=by
        intro u
        induction u with
        |nil=>intro l h;exact h
        |cons q r ihr=>
         intro l h
         refine ihr _ ?_
         by_cases hq:q.1=id
         ·subst hq
          have hlt:q.1<l.length:=by
           rcases Nat.lt_or_ge q.1 l.length with h'|h'
           ·exact h'
           ·exfalso;apply h;simp [List.getElem?_eq_none h']
          simp [List.getD,hlt]
         ·simp only [List.getD,List.getElem?_set_ne hq];exact h
       exact this _ _ ihm
      ·exact ihm
     ·exact ihm
   exact key _
  refine ih (listed.setIfInBounds k true) g' M' _ w' (by simpa using hls) ?_ (by rw [hlisted];simp only [Bool.or_eq_false_iff,beq_eq_false_iff_ne];exact ⟨fun e=>hkk e.symm,hkp⟩) ?_ ?_ ?_ (fun b i u hu=>hM' b i u (hM b i u hu))
  ·intro j oj hoj hS e he hb
   rw [hlisted] at hS ⊢
   simp only [Bool.or_eq_true,beq_iff_eq] at hS ⊢
   rcases hS with rfl|hS
   ·rw [ho] at hoj;cases hoj
    exact .inr (hpre' e he hb)
   ·exact .inr (hcl j oj hoj hS e he hb)
  ·have hsub:((List.range ops.size).filter fun j=>!(listed.setIfInBounds k true).getD j true)=((List.range ops.size).filter fun j=>!listed.getD j true).filter fun j=>!(j==k):=by
    rw [List.filter_filter]
    apply List.filter_congr
    intro j _
    rw [hlisted];simp [Bool.not_or]
   rw [hsub]
   have hmem:k ∈ (List.range ops.size).filter fun j=>!listed.getD j true:=List.mem_filter.2 ⟨List.mem_range.2 hks,by rw [h0];rfl⟩
   have hlt:(((List.range ops.size).filter fun j=>!listed.getD j true).filter fun j=>!(j==k)).length<((List.range ops.size).filter fun j=>!listed.getD j true).length:=by
    apply List.length_filter_lt_length_iff_exists.2
    exact ⟨k,hmem,by simp⟩
   omega
  ·have hR2:Rel E (zgE ops tr (zb9 ops tr (fun k=>listed.getD k true) σ ops.size) k) g' M' (a.put o.dst v) w':=by
    have e1:zgE ops tr (zb9 ops tr (fun k=>listed.getD k true) σ ops.size) k=(zb9 ops tr (fun k=>listed.getD k true) σ ops.size).app o.dst (tr k).e:=by
     simp only [zgE,ho]
    rw [e1];exact hR'
   rw [hins] at hR2
   rw [zdr (S':=fun j=>j==k || listed.getD j true) ops.size (fun j _=>hlisted j)]
   exact hR2
  ·intro id hd
   obtain ⟨h1,h2,h3⟩:=hag id hd
   obtain ⟨h4,h5,h6⟩:=hag' id (hdomS id hd)
   exact ⟨h4.trans h1,h5.trans h2,h6.trans h3⟩
end
end Go.Abs
namespace Go.Abs
open Go
def Agr (pin:Nat) (σ:St) (g:Gh) (σ':St) (g':Gh):Prop:=∀ id,id<pin→σ.dom id→g.agree g' id∧σ'.dom id
theorem Agr.refl (pin:Nat) (σ:St) (g:Gh):Agr pin σ g σ g:=fun _ _ h=>⟨Gh.agree_refl _ _,h⟩
theorem Agr.trans {pin:Nat} {σ σ' σ'':St} {g g' g'':Gh} (h:Agr pin σ g σ' g') (k:Agr pin σ' g' σ'' g''):Agr pin σ g σ'' g'':=fun id hid hd=>by
 obtain ⟨⟨a1,a2,a3⟩,hd'⟩:=h id hid hd
 obtain ⟨⟨b1,b2,b3⟩,hd''⟩:=k id hid hd'
 exact ⟨⟨b1.trans a1,b2.trans a2,b3.trans a3⟩,hd''⟩
def zBv (env:Env) (pin:Nat) (E:Ent) (σ:St) (g:Gh) (M:Mem) (Q:Exit→St→Prop):Exit→Act→World→Prop:=
 fun e a' w'=>∃ σ' g' M',Q e σ'∧Rel E σ' g' M' a' w'∧Mem.le M M'∧Agr pin σ g σ' g'∧σ'.objs.length=env.nobj
def SW (P:Program) (env:Env) (pin:Nat) (c:Code) (σ:St) (Q:Exit→St→Prop):Prop:=
 σ.objs.length=env.nobj→∀ E g M a w,Rel E σ g M a w→zkE env E M→c.wp P (zBv env pin E σ g M Q) a w
def zg5 (N:St→Prop) (Q:Exit→St→Prop):Exit→St→Prop
 |.normal,σ=>N σ
 |e,σ=>Q e σ
def zfs (id:Nat) (Q:Exit→St→Prop):Exit→St→Prop
 |.exit id',σ=>if id'=id then Q .normal σ else Q (.exit id') σ
 |e,σ=>Q e σ
def zaY (env:Env) (pin:Nat) (σ σ':St):Prop:=
 σ.objs.length=env.nobj→σ'.objs.length=env.nobj∧∀ E g M a w,Rel E σ g M a w→∃ g' M',Rel E σ' g' M' a w∧Mem.le M M'∧Agr pin σ g σ' g'
section
variable {P:Program} {env:Env} {pin:Nat} {σ σ':St} {Q:Exit→St→Prop}
theorem zaY.refl (σ:St):zaY env pin σ σ:=fun hl=>⟨hl,fun _ g M _ _ h=>⟨g,M,h,Mem.le_refl _,Agr.refl _ _ _⟩⟩
theorem Mem.le_trans {M M' M'':Mem} (h:Mem.le M M') (k:Mem.le M' M''):Mem.le M M'':=fun b i u hu=>k b i u (h b i u hu)
theorem zaY.trans {σ'':St} (h:zaY env pin σ σ') (k:zaY env pin σ' σ''):zaY env pin σ σ'':=fun hl=>
 let ⟨hl',h1⟩:=h hl
 let ⟨hl'',h2⟩:=k hl'
 ⟨hl'',fun E g M a w hR=>
  let ⟨g',M',hR',hM,hA⟩:=h1 E g M a w hR
  let ⟨g'',M'',hR'',hM',hA'⟩:=h2 E g' M' a w hR'
  ⟨g'',M'',hR'',Mem.le_trans hM hM',hA.trans hA'⟩⟩
theorem SW.mono {c:Code} {Q':Exit→St→Prop} (h:SW P env pin c σ Q) (hq:∀ e σ,Q e σ→Q' e σ):SW P env pin c σ Q':=fun hl E g M a w hR hG=>
 wp_mono (h hl E g M a w hR hG) fun e _ _ ⟨σ',g',M',q,r⟩=>⟨σ',g',M',hq e σ' q,r⟩
theorem SW.weak {c:Code} (hw:zaY env pin σ σ') (h:SW P env pin c σ' Q):SW P env pin c σ Q:=fun hl E g M a w hR hG=>by
 obtain ⟨hl',h1⟩:=hw hl
 obtain ⟨g',M',hR',hM,hA⟩:=h1 E g M a w hR
 exact wp_mono (h hl' E g' M' a w hR' (hG.mono hM)) fun e _ _ ⟨σ'',g'',M'',q,r,hM',hA',hl''⟩=>⟨σ'',g'',M'',q,r,Mem.le_trans hM hM',hA.trans hA',hl''⟩
theorem SW.skip (h:Q .normal σ):SW P env pin .skip σ Q:=fun hl _ g M _ _ hR _=>wp_skip ⟨σ,g,M,h,hR,Mem.le_refl _,Agr.refl _ _ _,hl⟩
theorem SW.ret (h:Q .ret σ):SW P env pin .ret σ Q:=fun hl _ g M _ _ hR _=>wp_ret ⟨σ,g,M,h,hR,Mem.le_refl _,Agr.refl _ _ _,hl⟩
theorem SW.exit {id:Nat} (h:Q (.exit id) σ):SW P env pin (.exit id) σ Q:=fun hl _ g M _ _ hR _=>wp_exit ⟨σ,g,M,h,hR,Mem.le_refl _,Agr.refl _ _ _,hl⟩
theorem SW.seq {x y:Code} (h:SW P env pin x σ (zg5 (fun σ'=>SW P env pin y σ' Q) Q)):SW P env pin (.seq x y) σ Q:=fun hl E g M a w hR hG=>by
 refine wp_seq (wp_mono (h hl E g M a w hR hG) fun e a' w' ⟨σ',g',M',q,hR',hM,hA,hl'⟩=>?_)
 cases e with
 |normal=>
  refine wp_mono (q hl' E g' M' a' w' hR' (hG.mono hM)) fun e'' _ _ ⟨σ'',g'',M'',q',r',hM',hA',hl''⟩=>⟨σ'',g'',M'',q',r',Mem.le_trans hM hM',hA.trans hA',hl''⟩
 |_=>exact ⟨σ',g',M',q,hR',hM,hA,hl'⟩
theorem SW.cond {c:Operand} {x y:Code} {b:Bool} (hc:zai env σ c=.pv (.bool b)) (ht:b=true→SW P env pin x σ Q) (hf:b=false→SW P env pin y σ Q):SW P env pin (.cond c x y) σ Q:=fun hl E g M a w hR hG=>by
 have hv:=zaJ (env:=env) hR hG.1 c
 rw [hc] at hv
 exact wp_cond_split hv.bool_inv (fun h=>ht h hl E g M a w hR hG) (fun h=>hf h hl E g M a w hR hG)
theorem SW.block {id:Nat} {c:Code} (h:SW P env pin c σ (zfs id Q)):SW P env pin (.block id c) σ Q:=fun hl E g M a w hR hG=>
 wp_block (wp_mono (h hl E g M a w hR hG) fun e a' w' ⟨σ',g',M',q,r⟩=>by
  cases e with
  |exit id'=>
   simp only [Exit.inBlock,zfs] at *
   by_cases hid:id'=id
   ·rw [if_pos hid] at q ⊢;exact ⟨σ',g',M',q,r⟩
   ·rw [if_neg hid] at q ⊢;exact ⟨σ',g',M',q,r⟩
  |_=>exact ⟨σ',g',M',q,r⟩)
theorem zlN {ι:Type} {Q:Exit→Act→World→Prop} {a:Act} {w:World} {c:Code} (I:ι→Act→World→Prop) (μ:ι→Nat) (i0:ι) (h₀:I i0 a w)
  (round:∀ i a w,I i a w→c.wp P (Exit.then (fun a' w'=>∃ j,I j a' w'∧μ j<μ i) Q) a w):(Code.loop c).wp P Q a w:=by
 intro b k cs
 have key:∀ n i a w,μ i=n→I i a w →
   ∃ e a' w',Q e a' w'∧Arrives P (lone (b.at a (.code c::.inLoop c::k)) cs w) b k cs e a' w':=by
  intro n
  induction n using Nat.strongRecOn with
  |_ n ih=>
   intro i a w hn hI
   obtain ⟨e,a₁,w₁,hq,harr⟩:=round i a w hI b (.inLoop c::k) cs
   cases e with
   |normal=>
    obtain ⟨j,hI₁,hlt⟩:=hq
    obtain ⟨e₂,a₂,w₂,hq₂,harr₂⟩:=ih (μ j) (hn ▸ hlt) j a₁ w₁ rfl hI₁
    exact ⟨e₂,a₂,w₂,hq₂,.of_steps (Steps.trans harr (.one step_inLoop)) harr₂⟩
   |exit id=>exact ⟨_,a₁,w₁,hq,.pass (x:=.inLoop c) rfl (fun _ _=>.inl (by simp)) harr⟩
   |goto l=>exact ⟨_,a₁,w₁,hq,.pass (x:=.inLoop c) rfl (fun _ _=>.inl (by simp)) harr⟩
   |ret=>exact ⟨_,a₁,w₁,hq,.pass (x:=.inLoop c) rfl (fun _ _=>.inl (by simp)) harr⟩
   |panic ch=>exact ⟨_,a₁,w₁,hq,.pass (x:=.inLoop c) rfl (fun _ _=>.inl (by simp)) harr⟩
   |outgrown=>exact ⟨_,a₁,w₁,hq,.pass (x:=.inLoop c) rfl (fun _ _=>.inl (by simp)) harr⟩
 obtain ⟨e,a',w',hq,harr⟩:=key _ i0 a w rfl h₀
 exact ⟨e,a',w',hq,.of_steps (.one step_loop) harr⟩
theorem SW.loop {ι:Type} {c:Code} (I:ι→St) (μ:ι→Nat) (i0:ι) (h0:zaY env pin σ (I i0))
  (round:∀ i,SW P env pin c (I i) (zg5 (fun σ'=>∃ j,zaY env pin σ' (I j)∧μ j<μ i) Q)):SW P env pin (.loop c) σ Q:=fun hl E g M a w hR hG=>by
 obtain ⟨hl0,hw0⟩:=h0 hl
 obtain ⟨g',M',hR',hM,hA⟩:=hw0 E g M a w hR
 refine zlN (fun i a w=>∃ g1 M1,Rel E (I i) g1 M1 a w∧Mem.le M M1∧Agr pin σ g (I i) g1∧(I i).objs.length=env.nobj) μ i0 ⟨g',M',hR',hM,hA,hl0⟩ ?_
 rintro i a1 w1 ⟨g1,M1,hR1,hM1,hA1,hl1⟩
 refine wp_mono (round i hl1 E g1 M1 a1 w1 hR1 (hG.mono hM1)) fun e a2 w2 ⟨σ2,g2,M2,q,hR2,hM2,hA2,hl2⟩=>?_
 cases e with
 |normal=>
  obtain ⟨j,hw,hlt⟩:=q
  obtain ⟨hl3,hw3⟩:=hw hl2
  obtain ⟨g3,M3,hR3,hM3,hA3⟩:=hw3 E g2 M2 a2 w2 hR2
  exact ⟨j,⟨g3,M3,hR3,Mem.le_trans hM1 (Mem.le_trans hM2 hM3),hA1.trans (hA2.trans hA3),hl3⟩,hlt⟩
 |_=>exact ⟨σ2,g2,M2,q,hR2,Mem.le_trans hM1 hM2,hA1.trans hA2,hl2⟩
def RR (P:Program) (env:Env) (ops:Array Oper) (K:List Rec→St→Prop):List Oper→List Rec→St→Prop
 |[],acc,σ=>K acc σ
 |o::rest,acc,σ=>∃ T e,GStep P env ops o σ T e∧RR P env ops K rest (acc++[⟨T,e⟩]) (σ.app o.dst e)
def zcl (l:List Rec) (k:Nat):Rec:=l.getD k ⟨[],⟨.junk,[]⟩⟩
theorem zyL (d:Option Nat) (e:Eff) (id:Nat) (h:σ.dom id):(σ.app d e).dom id:=by
 have:∀ (u:List (Nat × AObj)) (l:List (Option AObj)),l.getD id none≠none→(zaN l u).getD id none≠none:=by
  intro u
  induction u with
  |nil=>intro l h;exact h
  |cons q r ihr=>
   intro l h
   refine ihr _ ?_
   by_cases hq:q.1=id
   ·subst hq
    have hlt:q.1<l.length:=by
     rcases Nat.lt_or_ge q.1 l.length with h'|h'
     ·exact h'
     ·exfalso;apply h;simp [List.getElem?_eq_none h']
    simp [List.getD,hlt]
   ·simp only [List.getD,List.getElem?_set_ne hq];exact h
 exact this _ _ h
theorem zep {ops:Array Oper} {tr:Nat→Rec} {S:Nat→Bool} (id:Nat) (h:σ.dom id):∀ m,(zb9 ops tr S σ m).dom id
 |0=>h
 |m+1=>by
  simp only [zb9]
  split
  ·unfold zgE
   split
   ·exact zyL _ _ _ (zep id h m)
   ·exact zep id h m
  ·exact zep id h m
theorem zjw {ops:Array Oper} {tr:Nat→Rec} (hE:za1 P env) (htr:zsX P env ops σ tr) (hl:σ.objs.length=env.nobj) {E:Ent} {g0:Gh} {M0:Mem} (hG:zkE env E M0) {Q:Exit→Act→World→Prop}
  (hQ:∀ g M a w,Rel E (zb9 ops tr (fun _=>true) σ ops.size) g M a w→(∀ id,σ.dom id→g0.agree g id)→Mem.le M0 M→Q .normal a w) :
  ∀ n k,k+n=ops.size→∀ g M a w,Rel E (zb9 ops tr (fun _=>true) σ k) g M a w→(∀ id,σ.dom id→g0.agree g id)→Mem.le M0 M→wpOps P ops Q (List.range' k n) a w
 |0,k,hk,g,M,a,w,hR,hag,hM=>by
  have:k=ops.size:=by omega
  subst this
  exact hQ g M a w hR hag hM
 |n+1,k,hk,g,M,a,w,hR,hag,hM=>by
  have hks:k<ops.size:=by omega
  have ho:ops[k]?=some ops[k]:=Array.getElem?_eq_getElem hks
  rw [List.range'_succ,wpOps_cons]
  refine (htr k _ ho).wp ho hR (hG.mono hM) hE (by rw [zaO];exact hl) (fun v w' g' M' hR' hag' hM'=>?_)
  refine zjw hE htr hl hG hQ n (k+1) (by omega) g' M' _ w' ?_ (fun id hd=>?_) (Mem.le_trans hM hM')
  ·simp only [zb9,if_true,zgE,ho];exact hR'
  ·obtain ⟨h1,h2,h3⟩:=hag id hd
   obtain ⟨h4,h5,h6⟩:=hag' id (zep id hd _)
   exact ⟨h4.trans h1,h5.trans h2,h6.trans h3⟩
def steps (env:Env) (ops:Array Oper):Nat→List Oper→List Rec→St→Option (List Oper × List Rec × St)
 |0,l,acc,σ=>some (l,acc,σ)
 |_+1,[],acc,σ=>some ([],acc,σ)
 |n+1,o::rest,acc,σ=>
  match zd2 ops σ o with
  |some true=>match aop env o.dst (zai env σ) σ.obj o.op with
   |some e=>steps env ops n rest (acc++[⟨zbC env o.dst (zai env σ) o.op,e⟩]) (σ.app o.dst e)
   |none=>none
  |some false=>steps env ops n rest (acc++[⟨[],⟨.tup [],[]⟩⟩]) (σ.app o.dst ⟨.tup [],[]⟩)
  |none=>none
def RRP (P:Program) (env:Env) (ops:Array Oper) (K:List Rec→St→Prop) (KP:List Rec→Value→List (Nat × AObj)→St→Prop):List Oper→List Rec→St→Prop
 |[],acc,σ=>K acc σ
 |o::rest,acc,σ=>(∃ T e,GStep P env ops o σ T e∧RRP P env ops K KP rest (acc++[⟨T,e⟩]) (σ.app o.dst e))∨∃ x upd,GPStep P env ops o σ x upd∧KP acc x upd σ
theorem RRP.traced {ops:Array Oper} {K:List Rec→St→Prop} {KP:List Rec→Value→List (Nat × AObj)→St→Prop}:∀ (rest:List Oper) (acc:List Rec) (pre:List Oper),ops.toList=pre++rest→acc.length=pre.length →
  (∀ k o,k<pre.length→ops[k]?=some o→GStep P env ops o (zb9 ops (zcl acc) (fun _=>true) σ k) (zcl acc k).T (zcl acc k).e) →
  RRP P env ops K KP rest acc (zb9 ops (zcl acc) (fun _=>true) σ pre.length) →
  (∃ tr:List Rec,zsX P env ops σ (zcl tr)∧K tr (zb9 ops (zcl tr) (fun _=>true) σ ops.size)) ∨
  ∃ (tr:List Rec) (op:Oper) (x:Value) (upd:List (Nat × AObj)),ops[tr.length]?=some op∧(∀ k o,k<tr.length→ops[k]?=some o→GStep P env ops o (zb9 ops (zcl tr) (fun _=>true) σ k) (zcl tr k).T (zcl tr k).e) ∧
   GPStep P env ops op (zb9 ops (zcl tr) (fun _=>true) σ tr.length) x upd∧KP tr x upd (zb9 ops (zcl tr) (fun _=>true) σ tr.length)
 |[],acc,pre,hops,hlen,htr,h=>by
  have hsz:ops.size=pre.length:=by have:=congrArg List.length hops;simpa using this
  refine .inl ⟨acc,fun k o ho=>htr k o (by rw [←hsz];exact (Array.getElem?_eq_some_iff.1 ho).1) ho,?_⟩
  rw [hsz];exact h
 |o::rest,acc,pre,hops,hlen,htr,h=>by
  have hoK:ops[pre.length]?=some o:=by rw [←Array.getElem?_toList,hops];simp
  rcases h with ⟨T,e,hg,hr⟩|⟨x,upd,hg,hk⟩
  ·have hat:∀ k,k<pre.length→zcl (acc++[⟨T,e⟩]) k=zcl acc k:=fun k hk=>by
    simp [zcl,List.getD,List.getElem?_append_left (by omega:k<acc.length)]
   have hlast:zcl (acc++[⟨T,e⟩]) pre.length=⟨T,e⟩:=by
    simp [zcl,List.getD,←hlen]
   have hrun:∀ k,k≤pre.length→zb9 ops (zcl (acc++[⟨T,e⟩])) (fun _=>true) σ k=zb9 ops (zcl acc) (fun _=>true) σ k:=by
    intro k
    induction k with
    |zero=>intro _;rfl
    |succ k ih=>
     intro hk
     simp only [zb9,if_true,zgE,ih (by omega),hat k (by omega)]
   refine RRP.traced rest (acc++[⟨T,e⟩]) (pre++[o]) (by simp [hops]) (by simp [hlen]) (fun k o' hk ho'=>?_) ?_
   ·simp only [List.length_append,List.length_cons,List.length_nil] at hk
    by_cases hkp:k<pre.length
    ·rw [hrun k (by omega),hat k hkp];exact htr k o' hkp ho'
    ·have hke:k=pre.length:=by omega
     subst hke
     rw [hoK] at ho'
     cases ho'
     rw [hrun _ (Nat.le_refl _),hlast];exact hg
   ·have e1:(pre++[o]).length=pre.length+1:=by simp
    rw [e1]
    simp only [zb9,if_true,zgE,hoK,hrun _ (Nat.le_refl _),hlast]
    exact hr
  ·refine .inr ⟨acc,o,x,upd,by rw [hlen];exact hoK,fun k o' hk ho'=>htr k o' (by omega) ho',?_,?_⟩
   ·rw [hlen];exact hg
   ·rw [hlen];exact hk
theorem zk4 (id:Nat):∀ (u:List (Nat × AObj)) (l:List (Option AObj)),l.getD id none≠none→(zaN l u).getD id none≠none:=by
 intro u
 induction u with
 |nil=>intro l h;exact h
 |cons q r ihr=>
  intro l h
  refine ihr _ ?_
  by_cases hq:q.1=id
  ·subst hq
   have hlt:q.1<l.length:=by
    rcases Nat.lt_or_ge q.1 l.length with h'|h'
    ·exact h'
    ·exfalso;apply h;simp [List.getElem?_eq_none h']
   simp [List.getD,hlt]
  ·simp only [List.getD,List.getElem?_set_ne hq];exact h
theorem zjx {ops:Array Oper} {tr:Nat→Rec} (hE:za1 P env) (kp:Nat) {op:Oper} (hop:ops[kp]?=some op) {x:Value} {upd:List (Nat × AObj)}
  (htr:∀ k o,k<kp→ops[k]?=some o→GStep P env ops o (zb9 ops tr (fun _=>true) σ k) (tr k).T (tr k).e)
  (hpan:GPStep P env ops op (zb9 ops tr (fun _=>true) σ kp) x upd) (hl:σ.objs.length=env.nobj) {E:Ent} {g0:Gh} {M0:Mem} (hG:zkE env E M0) {Q:Exit→Act→World→Prop}
  (hQ:∀ g M a w,Rel E ⟨(zb9 ops tr (fun _=>true) σ kp).slots,zaN (zb9 ops tr (fun _=>true) σ kp).objs upd⟩ g M a w→(∀ id,σ.dom id→g0.agree g id)→Mem.le M0 M→Q (.panic (zkM x)) a w) :
  ∀ n k,k+n=ops.size→k≤kp→∀ g M a w,Rel E (zb9 ops tr (fun _=>true) σ k) g M a w→(∀ id,σ.dom id→g0.agree g id)→Mem.le M0 M→wpOps P ops Q (List.range' k n) a w
 |0,k,hk,hkp,g,M,a,w,hR,hag,hM=>by
  have:=(Array.getElem?_eq_some_iff.1 hop).1
  omega
 |n+1,k,hk,hkp,g,M,a,w,hR,hag,hM=>by
  have hks:k<ops.size:=by omega
  have ho:ops[k]?=some ops[k]:=Array.getElem?_eq_getElem hks
  rw [List.range'_succ,wpOps_cons]
  have hcomb:∀ {g':Gh},(∀ id,(zb9 ops tr (fun _=>true) σ k).dom id→g.agree g' id)→∀ id,σ.dom id→g0.agree g' id:=fun hag' id hd=>by
   obtain ⟨h1,h2,h3⟩:=hag id hd
   obtain ⟨h4,h5,h6⟩:=hag' id (zep id hd _)
   exact ⟨h4.trans h1,h5.trans h2,h6.trans h3⟩
  by_cases he:k=kp
  ·subst he
   exact hpan.wp hop hR (hG.mono hM) (by rw [zaO];exact hl) (fun w' g' M' hR' hag' hM'=>hQ g' M' a w' hR' (hcomb hag') (Mem.le_trans hM hM'))
  ·refine (htr k _ (by omega) ho).wp ho hR (hG.mono hM) hE (by rw [zaO];exact hl) (fun v w' g' M' hR' hag' hM'=>?_)
   refine zjx hE kp hop htr hpan hl hG hQ n (k+1) (by omega) (by omega) g' M' _ w' ?_ (hcomb hag') (Mem.le_trans hM hM')
   simp only [zb9,if_true,zgE,ho];exact hR'
theorem SW.regionP (hE:za1 P env) {id:Nat} {ops:Array Oper} (h:RRP P env ops (fun _ σ'=>Q .normal σ') (fun _ x upd σ'=>Q (.panic (zkM x)) ⟨σ'.slots,zaN σ'.objs upd⟩) ops.toList [] σ):SW P env pin (.region id ops false) σ Q:=fun hl E g M a w hR hG=>by
 rcases RRP.traced (σ:=σ) (ops:=ops) ops.toList [] [] (by simp) rfl (fun k o hk=>by simp at hk) h with ⟨tr,htr,hq⟩|⟨tr,op,x,upd,hop,htr,hpan,hq⟩
 ·refine wp_region ?_
  rw [List.range_eq_range']
  refine zjw hE htr hl hG (g0:=g) (fun g' M' a' w' hR' hag hM=>?_) ops.size 0 (by omega) g M a w hR (fun _ _=>Gh.agree_refl _ _) (Mem.le_refl _)
  exact ⟨_,g',M',hq,hR',hM,fun i hi hd=>⟨hag i hd,zep i hd _⟩,by rw [zaO];exact hl⟩
 ·refine wp_region ?_
  rw [List.range_eq_range']
  refine zjx hE tr.length hop htr hpan hl hG (g0:=g) (fun g' M' a' w' hR' hag hM=>?_) ops.size 0 (by omega) (by omega) g M a w hR (fun _ _=>Gh.agree_refl _ _) (Mem.le_refl _)
  exact ⟨_,g',M',hq,hR',hM,fun i hi hd=>⟨hag i hd,zk4 i _ _ (zep i hd _)⟩,by show (zaN _ _).length=_;rw [zdS,zaO];exact hl⟩
def zsY (ops:Array Oper) (kp:Nat):Bool:=(List.range ops.size).all fun j=>decide (j≤kp) || (anc ops j).contains kp
theorem SW.drawP (hE:za1 P env) (hm:P.follows .mixedOrders=true) {id:Nat} {ops:Array Oper}
  (h:RRP P env ops (fun tr σ'=>zm5 ops (anc ops) (zcl tr)=true∧Q .normal σ') (fun tr x upd σ'=>zm5 ops (anc ops) (zcl tr)=true∧zsY ops tr.length=true∧(∀ r,r ∈ tr→r.e.upd=[])∧∀ slots,Q (.panic (zkM x)) ⟨slots,zaN σ'.objs upd⟩) ops.toList [] σ):SW P env pin (.region id ops true) σ Q:=fun hl E g M a w hR hG=>by
 rcases RRP.traced (σ:=σ) (ops:=ops) ops.toList [] [] (by simp) rfl (fun k o hk=>by simp at hk) h with ⟨tr,htr,hok,hq⟩|⟨tr,op,x,upd,hop,htr,hpan,hok,hlt,hpu,hq⟩
 ·refine wp_region_any hm (zrn (E:=E) hE hok htr hl hG (g0:=g) (fun g' M' a' w' hR' hag hM=>?_) ops.size _ g M a _ (by simp) ?_ ?_ ?_ (fun _ _=>Gh.agree_refl _ _) (Mem.le_refl _))
  ·exact ⟨_,g',M',hq,hR',hM,fun i hi hd=>⟨hag i hd,zep i hd _⟩,by rw [zaO];exact hl⟩
  ·intro k o ho hk
   have hks:k<ops.size:=(Array.getElem?_eq_some_iff.1 ho).1
   simp [hks] at hk
  ·exact Nat.le_trans (List.length_filter_le _ _) (by simp)
  ·rw [zdr (S':=fun _=>false) ops.size (fun k hk=>by simp [hk])]
   have:∀ m,zb9 ops (zcl tr) (fun _=>false) σ m=σ:=fun m=>by induction m with
    |zero=>rfl
    |succ m ih=>simp [zb9,ih]
   rw [this]
   exact hR.drew
 ·have hpure:∀ k,(zcl tr k).e.upd=[]:=fun k=>by
   unfold zcl
   by_cases hk:k<tr.length
   ·have:tr.getD k ⟨[],⟨.junk,[]⟩⟩=tr[k]:=by simp [List.getD,hk]
    rw [this];exact hpu _ (List.getElem_mem hk)
   ·have:tr.getD k ⟨[],⟨.junk,[]⟩⟩=⟨[],⟨.junk,[]⟩⟩:=by simp [List.getD,List.getElem?_eq_none (by omega:tr.length≤k)]
    rw [this]
  have hlate:∀ j,tr.length<j→j<ops.size→tr.length ∈ anc ops j:=fun j h1 h2=>by
   have:=List.all_eq_true.1 hlt j (List.mem_range.2 h2)
   have h3:¬ j≤tr.length:=by omega
   simpa [h3] using this
  rw [zd4 hpure] at hq
  have hkps:tr.length<ops.size:=(Array.getElem?_eq_some_iff.1 hop).1
  refine wp_region_any hm (zm6 (E:=E) hE hok tr.length hop htr hpure hlate hpan hl hG (g0:=g) (fun slots g' M' a' w' hR' hag hM=>?_) ops.size _ g M a _ (by simp) ?_ (by simp [hkps]) ?_ ?_ (fun _ _=>Gh.agree_refl _ _) (Mem.le_refl _))
  ·exact ⟨_,g',M',hq slots,hR',hM,fun i hi hd=>⟨hag i hd,zk4 i _ _ hd⟩,by show (zaN _ _).length=_;rw [zdS];exact hl⟩
  ·intro k o ho hk
   have hks:k<ops.size:=(Array.getElem?_eq_some_iff.1 ho).1
   simp [hks] at hk
  ·exact Nat.le_trans (List.length_filter_le _ _) (by simp)
  ·rw [zdr (S':=fun _=>false) ops.size (fun k hk=>by simp [hk])]
   have:∀ m,zb9 ops (zcl tr) (fun _=>false) σ m=σ:=fun m=>by induction m with
    |zero=>rfl
    |succ m ih=>simp [zb9,ih]
   rw [this]
   exact hR.drew
end
end Go.Abs
namespace Go.Abs
open Go
def zcB (τ:Nat→Nat) (n:Nat→Bool):List AVal→List AVal→Prop
 |[],[]=>True
 |a::r,b::s=>(b=.junk∨(a=ren τ b∧zaB n b=true))∧zcB τ n r s
 |_,_=>False
def zbe (τ:Nat→Nat) (n:Nat→Bool) (σ:St):Nat→List (Option AObj)→Prop
 |_,[]=>True
 |k,o::r=>(match o with|none=>True|some .dead=>True|some ob=>σ.obj (τ k)=some (zgW τ ob)∧zb6 n ob=true)∧zbe τ n σ (k+1) r
theorem zd5 {τ:Nat→Nat} {n:Nat→Bool}:∀ {l l':List AVal},zcB τ n l l'→l.length=l'.length∧∀ i,l'.getD i .junk=.junk∨(l.getD i .junk=ren τ (l'.getD i .junk)∧zaB n (l'.getD i .junk)=true)
 |[],[],_=>⟨rfl,fun i=>.inl (by simp [List.getD])⟩
 |a::r,b::s,h=>by
  obtain ⟨h1,h2⟩:=h
  obtain ⟨h3,h4⟩:=zd5 h2
  refine ⟨by simp [h3],fun i=>?_⟩
  cases i with
  |zero=>simpa [List.getD] using h1
  |succ i=>simpa [List.getD] using h4 i
 |[],_::_,h=>h.elim
 |_::_,[],h=>h.elim
theorem zeG {τ:Nat→Nat} {n:Nat→Bool} {σ:St}:∀ {l:List (Option AObj)} {k:Nat},zbe τ n σ k l→∀ i ob,l.getD i none=some ob→ob=.dead∨(σ.obj (τ (k+i))=some (zgW τ ob)∧zb6 n ob=true)
 |[],k,_,i,ob,h=>by simp [List.getD] at h
 |o::r,k,h,i,ob,hi=>by
  obtain ⟨h1,h2⟩:=h
  cases i with
  |zero=>
   simp only [List.getD_cons_zero] at hi
   subst hi
   cases ob with
   |dead=>exact .inl rfl
   |cells cs=>exact .inr h1
   |row sz xs=>exact .inr h1
   |map kd es=>exact .inr h1
   |bh T e B n=>exact .inr h1
   |bb e s=>exact .inr h1
  |succ i=>
   have:=zeG h2 i ob (by simpa [List.getD] using hi)
   rwa [show k+1+i=k+(i+1) by omega] at this
section
variable {P:Program} {env:Env} {pin:Nat} {σ σ':St} {Q:Exit→St→Prop}
theorem Rel.wk {E:Ent} {g:Gh} {M:Mem} {a a':Act} {w:World} (hR:Rel E σ g M a w) (τ:Nat→Nat) (hsize:a'.tmps.size=σ'.slots.length) (hdef:a'.defers=E.ds)
  (hs:∀ i,i<σ'.slots.length→σ'.slot i=.junk∨∃ x,V g σ.dom M x (a'.tmps.getD i undef)∧x=ren τ (σ'.slot i)∧zaB (zaq σ'.objs) (σ'.slot i)=true)
  (ho:zbe τ (zaq σ'.objs) σ 0 σ'.objs) (hinj:∀ i j,i<σ'.objs.length→j<σ'.objs.length→τ i=τ j→i=j) :
  Rel E σ' ⟨fun k=>g.ρ (τ k),fun k=>g.κ (τ k),fun k=>g.ν (τ k)⟩ M a' w:=by
 have hdom:∀ k,zaq σ'.objs k=true→σ'.dom k:=fun k hk h0=>by
  have h1:σ'.objs.getD k none=none:=h0
  simp only [zaq] at hk
  rw [h1] at hk;cases hk
 have hsc:∀ k,zaq σ'.objs k=true→σ'.dom k∧(⟨fun k=>g.ρ (τ k),fun k=>g.κ (τ k),fun k=>g.ν (τ k)⟩:Gh).ρ k=g.ρ (τ k)∧(⟨fun k=>g.ρ (τ k),fun k=>g.κ (τ k),fun k=>g.ν (τ k)⟩:Gh).κ k=g.κ (τ k)∧(⟨fun k=>g.ρ (τ k),fun k=>g.κ (τ k),fun k=>g.ν (τ k)⟩:Gh).ν k=g.ν (τ k):=
  fun k hk=>⟨hdom k hk,rfl,rfl,rfl⟩
 have hown:∀ k ob,zbp (⟨fun k=>g.ρ (τ k),fun k=>g.κ (τ k),fun k=>g.ν (τ k)⟩:Gh) k ob=zbp g (τ k) ob:=fun k ob=>by cases ob<;>rfl
 have hget:∀ k ob b,σ'.obj k=some ob→zbp (⟨fun k=>g.ρ (τ k),fun k=>g.κ (τ k),fun k=>g.ν (τ k)⟩:Gh) k ob=some b→σ.obj (τ k)=some (zgW τ ob)∧zbp g (τ k) (zgW τ ob)=some b∧k<σ'.objs.length:=fun k ob b hk hb=>by
  rcases zeG ho k ob hk with rfl|⟨h1,_⟩
  ·simp [zbp] at hb
  ·rw [Nat.zero_add] at h1
   exact ⟨h1,by rw [zc6,←hown];exact hb,zcU hk⟩
 refine ⟨hsize,hdef,?_,?_,?_,?_,hR.sat,hR.M0,hR.Mnew,hR.size0,hR.same,?_,hR.os,hR.tape,hR.output⟩
 ·intro i hi
  rcases hs i hi with h1|⟨x,h1,h2,h3⟩
  ·rw [h1];exact .junk _
  ·exact zvA hsc h1 _ h2 h3
 ·intro k ob hk
  rcases zeG ho k ob hk with rfl|⟨h1,h2⟩
  ·trivial
  ·rw [Nat.zero_add] at h1
   have hor:=hR.objs _ _ h1
   cases ob with
   |cells cs=>
    obtain ⟨vals,T,hh,hsz,hv⟩:=hor
    refine ⟨vals,T,hh,by rw [hsz,zaL],fun j hj=>?_⟩
    exact zvA hsc (hv j (by rw [zaL];exact hj)) _ (zcN τ cs j) (zb5 _ _ _ h2)
   |row sz xs=>exact hor
   |map kd es=>
    obtain ⟨ents,clock,hh,hsz,hv⟩:=hor
    refine ⟨ents,clock,hh,hsz,fun i e he=>?_⟩
    obtain ⟨en,q1,q2,q3,q4⟩:=hv i e he
    exact ⟨en,q1,q2,q3,zvA hsc q4 _ (ziM _ _).symm (zfq _ _)⟩
   |bh T e B n=>
    obtain ⟨hd,hn,p,hh,hp⟩:=hor
    obtain ⟨k1,k2,k3,k4⟩:=hsc B h2
    exact ⟨k1,hn,p,hh,hp⟩
   |bb e s=>exact hor
   |dead=>trivial
 ·intro k k' ob ob' b hk hk' hb hb'
  obtain ⟨h1,h2,h3⟩:=hget k ob b hk hb
  obtain ⟨h4,h5,h6⟩:=hget k' ob' b hk' hb'
  exact hinj k k' h3 h6 (hR.apart _ _ _ _ b h1 h4 h2 h5)
 ·intro k ob b hk hb i
  obtain ⟨h1,h2,_⟩:=hget k ob b hk hb
  exact hR.offM _ _ b h1 h2 i
 ·intro k ob b hk hb
  obtain ⟨h1,h2,_⟩:=hget k ob b hk hb
  exact hR.own0 _ _ b h1 h2
def tau (l:List Nat) (k:Nat):Nat:=l.getD k 0
theorem zaY.wk (τ:List Nat) (hlen:σ'.objs.length=env.nobj) (hτ:τ.length=env.nobj) (hnd:τ.Nodup) (hpin:∀ k,k<pin→tau τ k=k∧(σ.dom k→σ'.dom k))
  (hs:zcB (tau τ) (zaq σ'.objs) σ.slots σ'.slots) (ho:zbe (tau τ) (zaq σ'.objs) σ 0 σ'.objs):zaY env pin σ σ':=fun _=>⟨hlen,fun E g M a w hR=>by
 obtain ⟨hl,hg⟩:=zd5 hs
 refine ⟨_,M,hR.wk (tau τ) (by rw [hR.size,hl]) hR.defers (fun i hi=>?_) ho (fun i j hi hj e=>zc7 hnd (by omega) (by omega) e),Mem.le_refl _,fun id hid hd=>?_⟩
 ·rcases hg i with h1|⟨h1,h2⟩
  ·exact .inl h1
  ·exact .inr ⟨σ.slot i,hR.slot i,h1,h2⟩
 ·obtain ⟨h1,h2⟩:=hpin id hid
  refine ⟨?_,h2 hd⟩
  simp [Gh.agree,h1]⟩
theorem zaY.forget (hlen:σ'.objs.length=env.nobj) (hpin:∀ k,k<pin→σ.dom k→σ'.dom k)
  (hs:zcB id (zaq σ'.objs) σ.slots σ'.slots) (ho:zbe id (zaq σ'.objs) σ 0 σ'.objs):zaY env pin σ σ':=fun _=>⟨hlen,fun E g M a w hR=>by
 obtain ⟨hl,hg⟩:=zd5 hs
 refine ⟨_,M,hR.wk id (by rw [hR.size,hl]) hR.defers (fun i hi=>?_) ho (fun i j hi hj e=>e),Mem.le_refl _,fun k hk hd=>⟨⟨rfl,rfl,rfl⟩,hpin k hk hd⟩⟩
 rcases hg i with h1|⟨h1,h2⟩
 ·exact .inl h1
 ·exact .inr ⟨σ.slot i,hR.slot i,h1,h2⟩⟩
mutual
def frz (id:Nat) (xs:List (List PVal)):AVal→AVal
 |.row id' n=>if id'=id then (if n=xs.length then .pv (.slice xs) else .junk) else .row id' n
 |.eref id' i j sz=>if id'=id then .junk else .eref id' i j sz
 |.ref id' off=>if id'=id then .junk else .ref id' off
 |.map id'=>.map id'
 |.csl id' n sz=>.csl id' n sz
 |.agg cs=>.agg (zgh id xs cs)
 |.tup cs=>.tup (zgh id xs cs)
 |.clo f cs=>.clo f (zgh id xs cs)
 |.pv p=>.pv p
 |.snil=>.snil
 |.junk=>.junk
def zgh (id:Nat) (xs:List (List PVal)):List AVal→List AVal
 |[]=>[]
 |a::r=>frz id xs a::zgh id xs r
end
def zgi (id:Nat) (xs:List (List PVal)):Option AObj→Option AObj
 |some (.cells cs)=>some (.cells (zgh id xs cs))
 |o=>o
def St.frz (σ:St) (id:Nat) (xs:List (List PVal)):St:=⟨zgh id xs σ.slots,(σ.objs.map (zgi id xs)).set id (some .dead)⟩
theorem zbT (id:Nat) (xs:List (List PVal)):∀ cs:List AVal,(zgh id xs cs).length=cs.length
 |[]=>rfl
 |_::r=>by simp [zgh,zbT id xs r]
theorem zfQ (id:Nat) (xs:List (List PVal)):∀ (cs:List AVal) (i:Nat),(zgh id xs cs).getD i .junk=Abs.frz id xs (cs.getD i .junk)
 |[],i=>by simp [zgh,List.getD,Abs.frz]
 |c::r,0=>by simp [zgh,List.getD]
 |c::r,i+1=>by have:=zfQ id xs r i;simpa [zgh,List.getD] using this
theorem zsZ (id:Nat) (xs:List (List PVal)):∀ ps:List PVal,zgh id xs (ps.map .pv)=ps.map .pv
 |[]=>rfl
 |p::r=>by simp [zgh,Abs.frz,zsZ id xs r]
theorem zvC (id:Nat) (xs:List (List PVal)) (q:Bool × List PVal):Abs.frz id xs (zgs q)=zgs q:=by
 unfold zgs
 cases q.1<;>simp [Abs.frz,zsZ]
theorem zaY.freeze (id:Nat) {sz:Nat} {xs:List (List PVal)} (hob:σ.obj id=some (.row sz xs)):zaY env pin σ (σ.frz id xs):=fun hl=>⟨by simp [St.frz,hl],fun E g M a w hR=>by
 obtain ⟨r1,r2,r3⟩:=hR.objs id _ hob
 have hlt:=zcU hob
 let M':Mem:=fun b i=>if g.ν id=false∧b=g.ρ id∧i<xs.length * sz then w.cell? ⟨b,i,none⟩ else M b i
 have hMle:Mem.le M M':=fun b i u hu=>by
  simp only [M']
  split
  ·exact hR.sat b i u hu
  ·exact hu
 have hslice:V g σ.dom M (.row id xs.length) (if g.ν id then .slice none 0 0 else .slice (some ⟨g.ρ id,0,none⟩) xs.length (g.κ id))→True:=fun _=>trivial
 have hrd:∀ v n,V g σ.dom M (.row id n) v→n=xs.length→Rd M' (.slice xs) v:=fun v n hv hn=>by
  cases hv with
  |rown _ _ hnu=>rw [r2 hnu];exact .nils
  |row _ _ _ hnu=>
   subst hn
   obtain ⟨vals,T,hh,h4,h5,h6⟩:=r3 hnu
   refine .slice xs sz (g.ρ id) 0 (g.κ id) (fun i j=>vals.getD (i * sz+j) undef) r1 (fun i j hi hj=>?_) (fun i j hi hj=>(h6 i j hi hj).mono hMle) h4
   have hlt2:i * sz+j<xs.length * sz:=by
    have:(i+1) * sz≤xs.length * sz:=Nat.mul_le_mul_right _ hi
    rw [Nat.add_mul] at this;omega
   have hle:xs.length * sz≤g.κ id * sz:=Nat.mul_le_mul_right _ h4
   simp only [M',Nat.zero_add,hnu,hlt2,and_self,if_true]
   rw [cell_of_heap hh]
   have:i * sz+j<vals.size:=by omega
   simp [this]
 have hobj':∀ k ob,(σ.frz id xs).obj k=some ob→(k=id∧ob=.dead)∨(k≠id∧∃ ob0,σ.obj k=some ob0∧zgi id xs (some ob0)=some ob):=fun k ob hk=>by
  by_cases hki:id=k
  ·subst hki
   have:(σ.frz id xs).obj id=some .dead:=by simp [St.frz,St.obj,hlt]
   rw [this] at hk;cases hk;exact .inl ⟨rfl,rfl⟩
  ·refine .inr ⟨fun e=>hki e.symm,?_⟩
   have e1:(σ.frz id xs).obj k=zgi id xs (σ.obj k):=by
    simp only [St.frz,St.obj,List.getD,List.getElem?_set_ne hki,List.getElem?_map]
    cases σ.objs[k]?<;>rfl
   rw [e1] at hk
   cases ho:σ.obj k with
   |none=>rw [ho] at hk;cases hk
   |some ob0=>rw [ho] at hk;exact ⟨ob0,rfl,hk⟩
 have hdom':∀ k,σ.dom k→(σ.frz id xs).dom k:=fun k hd=>by
  by_cases hki:id=k
  ·subst hki;simp [St.dom,St.frz,St.obj,hlt]
  ·have e1:(σ.frz id xs).obj k=zgi id xs (σ.obj k):=by
    simp only [St.frz,St.obj,List.getD,List.getElem?_set_ne hki,List.getElem?_map]
    cases σ.objs[k]?<;>rfl
   unfold St.dom
   rw [e1]
   cases ho:σ.obj k with
   |none=>exact absurd ho hd
   |some ob0=>cases ob0<;>simp [zgi]
 have hV:∀ x v,V g σ.dom M x v→V g (σ.frz id xs).dom M' (Abs.frz id xs x) v:=by
  intro x v h
  induction h with
  |pv r=>exact .pv (r.mono hMle)
  |snil=>exact .snil
  |ref k off hd=>
   simp only [Abs.frz]
   split
   ·exact .junk _
   ·exact .ref _ _ (hdom' _ hd)
  |row k m hd hnu=>
   simp only [Abs.frz]
   split
   ·rename_i hk
    subst hk
    split
    ·rename_i hm;exact .pv (hrd _ m (.row _ _ hd hnu) hm)
    ·exact .junk _
   ·exact .row _ _ (hdom' _ hd) hnu
  |rown k hd hnu=>
   simp only [Abs.frz]
   split
   ·rename_i hk
    subst hk
    split
    ·rename_i hm;exact .pv (hrd _ 0 (.rown _ hd hnu) hm)
    ·exact .junk _
   ·exact .rown _ (hdom' _ hd) hnu
  |eref k i j s hd=>
   simp only [Abs.frz]
   split
   ·exact .junk _
   ·exact .eref _ _ _ _ (hdom' _ hd)
  |map k hd=>exact .map _ (hdom' _ hd)
  |csl k n sz hd=>exact .csl _ _ _ (hdom' _ hd)
  |agg cs vs hl _ ih=>exact .agg _ vs (by rw [zbT];exact hl) (fun i hi=>by rw [zbT] at hi;rw [zfQ];exact ih i hi)
  |tup cs vs hl _ ih=>exact .tup _ vs (by rw [zbT];exact hl) (fun i hi=>by rw [zbT] at hi;rw [zfQ];exact ih i hi)
  |clo f cs vs hl _ ih=>exact .clo f _ vs (by rw [zbT];exact hl) (fun i hi=>by rw [zbT] at hi;rw [zfQ];exact ih i hi)
  |junk v=>exact .junk v
 have hownf:∀ k ob ob0,zgi id xs (some ob0)=some ob→zbp g k ob=zbp g k ob0:=fun k ob ob0 h=>by cases ob0<;>simp [zgi] at h<;>subst h<;>rfl
 refine ⟨g,M',⟨by simp [St.frz,zbT,hR.size],hR.defers,?_,?_,?_,?_,?_,Mem.le_trans hR.M0 hMle,?_,hR.size0,hR.same,?_,hR.os,hR.tape,hR.output⟩,hMle,fun k hk hd=>⟨Gh.agree_refl _ _,hdom' k hd⟩⟩
 ·intro i hi
  have e1:(σ.frz id xs).slot i=Abs.frz id xs (σ.slot i):=zfQ id xs σ.slots i
  rw [e1];exact hV _ _ (hR.slot i)
 ·intro k ob hk
  rcases hobj' k ob hk with ⟨rfl,rfl⟩|⟨hne,ob0,h1,h2⟩
  ·trivial
  ·have hor:=hR.objs k ob0 h1
   cases ob0 with
   |cells cs=>
    simp only [zgi,Option.some.injEq] at h2
    subst h2
    obtain ⟨vals,T,hh,hs,hv⟩:=hor
    exact ⟨vals,T,hh,by rw [hs,zbT],fun j hj=>by rw [zbT] at hj;rw [zfQ];exact hV _ _ (hv j hj)⟩
   |row sz' xs'=>
    simp only [zgi,Option.some.injEq] at h2
    subst h2
    obtain ⟨q1,q2,q3⟩:=hor
    exact ⟨q1,q2,fun hnu=>let ⟨vals,T,hh,q4,q5,q6⟩:=q3 hnu;⟨vals,T,hh,q4,q5,fun i j hi hj=>(q6 i j hi hj).mono hMle⟩⟩
   |map kd es=>
    simp only [zgi,Option.some.injEq] at h2
    subst h2
    obtain ⟨ents,clock,hh,hs,hv⟩:=hor
    refine ⟨ents,clock,hh,hs,fun i e he=>?_⟩
    obtain ⟨en,q1,q2,q3,q4⟩:=hv i e he
    exact ⟨en,q1,q2,q3.mono hMle,zvC id xs e.2 ▸ hV _ _ q4⟩
   |bh T e B n=>
    simp only [zgi,Option.some.injEq] at h2
    subst h2
    obtain ⟨hd,hn,p,hh,hp⟩:=hor
    exact ⟨hdom' _ hd,hn,p,hh,hp⟩
   |bb e s=>simp only [zgi,Option.some.injEq] at h2;subst h2;exact hor
   |dead=>simp only [zgi,Option.some.injEq] at h2;subst h2;trivial
 ·intro k k' ob ob' b hk hk' hb hb'
  rcases hobj' k ob hk with ⟨rfl,rfl⟩|⟨hne,ob0,h1,h2⟩
  ·simp [zbp] at hb
  ·rcases hobj' k' ob' hk' with ⟨rfl,rfl⟩|⟨hne',ob0',h1',h2'⟩
   ·simp [zbp] at hb'
   ·exact hR.apart k k' ob0 ob0' b h1 h1' (by rw [←hownf k ob ob0 h2];exact hb) (by rw [←hownf k' ob' ob0' h2'];exact hb')
 ·intro k ob b hk hb i
  rcases hobj' k ob hk with ⟨rfl,rfl⟩|⟨hne,ob0,h1,h2⟩
  ·simp [zbp] at hb
  ·have hb0:zbp g k ob0=some b:=by rw [←hownf k ob ob0 h2];exact hb
   simp only [M']
   rw [if_neg]
   ·exact hR.offM k ob0 b h1 hb0 i
   ·rintro ⟨hnu,hbe,_⟩
    exact hne (hR.apart k id ob0 _ b h1 hob hb0 (by simp [zbp,hnu,hbe]))
 ·intro b i u hu
  simp only [M'] at hu
  split at hu
  ·exact hu
  ·exact hR.sat b i u hu
 ·intro b i hb hB
  simp only [M']
  rw [if_neg]
  ·exact hR.Mnew b i hb hB
  ·rintro ⟨hnu,hbe,_⟩
   rcases hR.own0 id _ b hob (by simp [zbp,hnu,hbe]) with h1|h1
   ·exact hB h1
   ·omega
 ·intro k ob b hk hb
  rcases hobj' k ob hk with ⟨rfl,rfl⟩|⟨hne,ob0,h1,h2⟩
  ·simp [zbp] at hb
  ·exact hR.own0 k ob0 b h1 (by rw [←hownf k ob ob0 h2];exact hb)⟩
theorem zaY.nilRow (t id sz:Nat) (hs:σ.slot t=.snil) (hn:σ.obj id=none) (hid:id<env.nobj):zaY env pin σ ⟨σ.slots.set t (.row id 0),σ.objs.set id (some (.row sz []))⟩:=fun hl=>⟨by simp [hl],fun E g M a w hR=>by
 have hne:∀ i,σ.dom i→i≠id:=fun i hi e=>hi (by rw [e];exact hn)
 have hag:∀ i,σ.dom i→g.agree (g.set id 0 0 true) i:=fun i hi=>Gh.set_agree (hne i hi)
 have hself:(σ.set id (.row sz [])).obj id=some (.row sz []):=St.obj_set_self (by omega)
 have hR':Rel E (σ.set id (.row sz [])) (g.set id 0 0 true) M a w:=by
  refine hR.update (fun i=>i=id) rfl (fun i hi=>St.obj_set_ne (fun e=>hi e.symm)) (fun i hi=>zbR i hi) hag ?_ (fun _ _ _=>rfl) ?_ ?_ (Nat.le_refl _) rfl rfl rfl
  ·rintro i ob rfl ho
   rw [hself] at ho
   cases ho
   exact ⟨by simp,fun _=>rfl,fun h=>by simp [Gh.set] at h⟩
  ·rintro i ob b rfl ho hb
   rw [hself] at ho
   cases ho
   simp [zbp,Gh.set] at hb
  ·rintro i i' _ _ _ rfl rfl _ _ _ _;rfl
 refine ⟨_,M,?_,Mem.le_refl _,fun k hk hd=>⟨hag k hd,zbR k hd⟩⟩
 refine ⟨by simp [hR.size],hR.defers,?_,hR'.objs,hR'.apart,hR'.offM,hR'.sat,hR'.M0,hR'.Mnew,hR'.size0,hR'.same,hR'.own0,hR'.os,hR'.tape,hR'.output⟩
 intro i hi
 simp only [List.length_set] at hi
 by_cases hti:t=i
 ·subst hti
  have e1:St.slot ⟨σ.slots.set t (.row id 0),σ.objs.set id (some (.row sz []))⟩ t=.row id 0:=by simp [St.slot,hi]
  rw [e1]
  have hv:=hR.slots t hi
  rw [hs] at hv
  generalize a.tmps.getD t undef=v at hv
  cases hv
  exact .rown id (by show (σ.set id (.row sz [])).dom id;simp [St.dom,hself]) (by simp [Gh.set])
 ·have e1:St.slot ⟨σ.slots.set t (.row id 0),σ.objs.set id (some (.row sz []))⟩ i=σ.slot i:=by simp [St.slot,List.getElem?_set_ne hti]
  rw [e1]
  exact hR'.slots i hi⟩
end
end Go.Abs
namespace Go.Abs
open Go
def zhW (env:Env) (σ:St):ResultVar→Option AVal
 |.tmp t=>some (σ.slot t)
 |.cell a t=>match env.ty t,σ.slot a with
  |some ty,.ref id off=>match σ.obj id with
   |some (.cells cs)=>if off+ty.size≤cs.length∧0<ty.size then some (if ty.agg then .agg ((cs.drop off).take ty.size) else cs.getD off .junk) else none
   |_=>none
  |_,_=>none
def zkN (env:Env) (σ:St):List ResultVar→Option (List AVal)
 |[]=>some []
 |r::rs=>match zhW env σ r,zkN env σ rs with
  |some v,some vs=>some (v::vs)
  |_,_=>none
def zoy:List AVal→AVal
 |[v]=>v
 |vs=>.tup vs
section
variable {P:Program} {env:Env} {σ:St} {E:Ent} {g:Gh} {M:Mem} {a:Act} {w:World}
theorem zoz (hR:Rel E σ g M a w) (hE:za1 P env) {r:ResultVar} {x:AVal} (h:zhW env σ r=some x) :
  ∃ v,(match r with|.tmp t=>pure (a.tmps.getD t undef)|.cell b t=>do loadVar t (←asAddr (a.tmps.getD b undef)):Sem Value).run P w=.ok v w∧V g σ.dom M x v:=by
 cases r with
 |tmp t=>cases h;exact ⟨_,rfl,hR.slot t⟩
 |cell b t=>
  simp only [zhW] at h
  split at h
  ·rename_i ty id off ht hx
   have hv:=hR.slot b
   rw [hx] at hv
   obtain ⟨hp,hd⟩:=hv.ref_inv
   split at h
   ·rename_i cs hob
    split at h
    ·rename_i hc
     cases h
     obtain ⟨vals,T,hh,hs,hvv⟩:=hR.objs id _ hob
     refine ⟨if ty.agg then .agg ((List.range ty.size).map fun j=>vals.getD (off+j) undef).toArray else vals.getD off undef,?_,?_⟩
     ·have h1:=zeE (P:=P) hE ht w (g.ρ id) off (fun j=>vals.getD (off+j) undef) hc.2 (fun j hj=>by
       rw [cell_of_heap hh]
       have:off+j<vals.size:=by omega
       simp [this])
      simp only [hp,Sem.run_bind,asAddr,Sem.run_pure,Result.andThen]
      exact h1
     ·cases ty.agg
      ·exact hvv off (by omega)
      ·refine zsM (by simp;omega) (fun j hj=>?_)
       have:((cs.drop off).take ty.size).getD j .junk=cs.getD (off+j) .junk:=by
        simp [List.getD,List.getElem?_take,hj,List.getElem?_drop]
       rw [this];exact hvv (off+j) (by omega)
    ·cases h
   ·cases h
  ·cases h
theorem zpO (hR:Rel E σ g M a w) (hE:za1 P env):∀ {rs:List ResultVar} {xs:List AVal},zkN env σ rs=some xs →
  ∃ vs:List Value,(rs.mapM (fun|.tmp t=>pure (a.tmps.getD t undef)|.cell b t=>do loadVar t (←asAddr (a.tmps.getD b undef)):ResultVar→Sem Value)).run P w=.ok vs w∧vs.length=xs.length∧∀ i,i<xs.length→V g σ.dom M (xs.getD i .junk) (vs.getD i undef)
 |[],xs,h=>by cases h;exact ⟨[],rfl,rfl,fun i hi=>by simp at hi⟩
 |r::rs,xs,h=>by
  simp only [zkN] at h
  split at h
  ·rename_i x xs' h1 h2
   cases h
   obtain ⟨v,hv,hvv⟩:=zoz (P:=P) hR hE h1
   obtain ⟨vs,hvs,hl,hvvs⟩:=zpO hR hE h2
   refine ⟨v::vs,?_,by simp [hl],fun i hi=>?_⟩
   ·rw [List.mapM_cons,Sem.run_bind,hv]
    simp only [Result.andThen,Sem.run_bind,hvs,Sem.run_pure]
   ·cases i with
    |zero=>simpa [List.getD] using hvv
    |succ i=>simpa [List.getD] using hvvs i (by simpa using hi)
  ·cases h
theorem zgG (hR:Rel E σ g M a w) (hE:za1 P env) {fn:Func} {xs:List AVal} (h:zkN env σ fn.results.toList=some xs) :
  ∃ v,(results fn a.tmps).run P w=.ok v w∧V g σ.dom M (zoy xs) v:=by
 obtain ⟨vs,hvs,hl,hv⟩:=zpO (P:=P) hR hE h
 have hm:(fn.results.mapM (fun|.tmp t=>pure (a.tmps.getD t undef)|.cell b t=>do loadVar t (←asAddr (a.tmps.getD b undef)):ResultVar→Sem Value)).run P w=.ok vs.toArray w:=by
  rw [Array.mapM_eq_mapM_toList,Sem.run_map,hvs];rfl
 refine ⟨if h:vs.toArray.size=1 then vs.toArray[0] else .tuple vs.toArray,?_,?_⟩
 ·have e:results fn a.tmps=((fn.results.mapM (fun|.tmp t=>pure (a.tmps.getD t undef)|.cell b t=>do loadVar t (←asAddr (a.tmps.getD b undef)):ResultVar→Sem Value)) >>= fun vs=>pure (if h:vs.size=1 then vs[0] else .tuple vs)):=by
   unfold results
   congr 1
  rw [e,Sem.run_bind,hm]
  simp only [Result.andThen,Sem.run_pure]
 ·match xs,vs,hl,hv with
  |[],[],_,hv=>exact .tup [] [] rfl (fun i hi=>by simp at hi)
  |[x],[v],_,hv=>have:=hv 0 (by simp);simpa [List.getD,zoy] using this
  |x::y::r,v::u::s,hl,hv=>
   have e1:¬ (v::u::s).toArray.size=1:=by simp
   rw [dif_neg e1]
   exact .tup _ _ hl hv
def zax (env:Env) (n:Nat) (rs:List ResultVar) (res:AVal) (objs':List (Option AObj)):Exit→St→Prop:=fun e σ=>
 (e=.ret∨e=.normal)∧∃ vs τ,zkN env σ rs=some vs∧zcB (tau τ) (zaq objs') [zoy vs] [res]∧zbe (tau τ) (zaq objs') σ 0 objs'∧(∀ k,k<n→tau τ k=k)∧τ.Nodup∧objs'.length≤τ.length
theorem AC.of_body (hE:za1 P env) {f:FuncId} {fn:Func} {code:Code} (hf:P.funcs[f]?=some fn) (hb:fn.body=some code) {args:List AVal} {objs:List (Option AObj)} {res:AVal} {objs':List (Option AObj)}
  (hargs:args.length≤fn.ntmps) (hobjs:objs.length≤env.nobj)
  (h:SW P env objs.length code ⟨args++List.replicate (fn.ntmps - args.length) .junk,objs++List.replicate (env.nobj - objs.length) none⟩ (zax env objs.length fn.results.toList res objs')) :
  AC P env.gl f args objs res objs':=by
 intro w M g vargs hR hG
 have hla:vargs.length=args.length:=by simpa using hR.size
 refine calls_of_wp hf hb ?_
 have hobj:∀ id,St.obj ⟨args++List.replicate (fn.ntmps - args.length) .junk,objs++List.replicate (env.nobj - objs.length) none⟩ id=St.obj ⟨args,objs⟩ id:=fun id=>by
  simp only [St.obj,List.getD]
  by_cases hid:id<objs.length
  ·rw [List.getElem?_append_left hid]
  ·rw [List.getElem?_append_right (by omega),List.getElem?_eq_none (by omega:objs.length≤id)]
   rw [List.getElem?_replicate]
   split<;>rfl
 have hdom:St.dom ⟨args++List.replicate (fn.ntmps - args.length) .junk,objs++List.replicate (env.nobj - objs.length) none⟩=St.dom ⟨args,objs⟩:=by
  funext id;simp only [St.dom,hobj]
 have hR0:Rel ⟨w,M,zaU g objs,[]⟩ ⟨args++List.replicate (fn.ntmps - args.length) .junk,objs++List.replicate (env.nobj - objs.length) none⟩ g M
   { tmps:=vargs.toArray++Array.replicate (fn.ntmps - vargs.toArray.size) undef,defers:=[] } w:=by
  refine ⟨by simp [hla],rfl,?_,?_,?_,?_,hR.sat,hR.M0,hR.Mnew,hR.size0,hR.same,?_,hR.os,hR.tape,hR.output⟩
  ·intro i hi
   rw [hdom]
   by_cases hia:i<args.length
   ·have e1:St.slot ⟨args++List.replicate (fn.ntmps - args.length) .junk,objs++List.replicate (env.nobj - objs.length) none⟩ i=St.slot ⟨args,objs⟩ i:=by
     simp [St.slot,List.getElem?_append_left hia]
    have e2:(vargs.toArray++Array.replicate (fn.ntmps - vargs.toArray.size) undef).getD i undef=vargs.toArray.getD i undef:=by
     simp only [Array.getD_eq_getD_getElem?]
     rw [Array.getElem?_append_left (by simp;omega)]
    rw [e1,e2];exact hR.slots i hia
   ·have e1:St.slot ⟨args++List.replicate (fn.ntmps - args.length) .junk,objs++List.replicate (env.nobj - objs.length) none⟩ i=.junk:=by
     simp only [St.slot,List.getD]
     rw [List.getElem?_append_right (by omega),List.getElem?_replicate]
     split<;>rfl
    rw [e1];exact .junk _
  ·intro id o ho;rw [hobj] at ho;rw [hdom];exact hR.objs id o ho
  ·intro id id' o o' b ho ho';rw [hobj] at ho ho';exact hR.apart id id' o o' b ho ho'
  ·intro id o b ho;rw [hobj] at ho;exact hR.offM id o b ho
  ·intro id o b ho;rw [hobj] at ho;exact hR.own0 id o b ho
 refine wp_mono (h (by simp;omega) _ g M _ w hR0 hG) fun e a' w' ⟨σ',g',M',⟨he,vs,τ,hvs,hws,hwo,hpin,hnd,hlen⟩,hR',hM,hA,hl'⟩=>?_
 have key:a'.defers=[]∧∃ v,(results fn a'.tmps).run P w'=.ok v w'∧∃ v' g' M',Ending.returned v=.returned v'∧Rel ⟨w,M,zaU g objs,[]⟩ ⟨[res],objs'⟩ g' M' ⟨#[v'],[]⟩ w'∧∀ id,zaq objs id=true→g.agree g' id:=by
  obtain ⟨v,hrun,hV⟩:=zgG (P:=P) hR' hE hvs
  refine ⟨hR'.defers,v,hrun,v,_,M',rfl,hR'.wk (σ':=⟨[res],objs'⟩) (tau τ) (by simp) rfl (fun i hi=>?_) hwo (fun i j hi hj e=>zc7 hnd (by simp at hi;omega) (by simp at hj;omega) e),fun id hid=>?_⟩
  ·have hi0:i=0:=by simpa using hi
   subst hi0
   obtain ⟨_,hg⟩:=zd5 hws
   rcases hg 0 with h1|⟨h1,h2⟩
   ·exact .inl h1
   ·exact .inr ⟨zoy vs,hV,by simpa [List.getD,St.slot] using h1,by simpa [List.getD,St.slot] using h2⟩
  ·have hlt:id<objs.length:=by
    rcases Nat.lt_or_ge id objs.length with h|h
    ·exact h
    ·simp [zaq,List.getD,List.getElem?_eq_none h] at hid
   have hd:St.dom ⟨args++List.replicate (fn.ntmps - args.length) .junk,objs++List.replicate (env.nobj - objs.length) none⟩ id:=by
    rw [hdom];intro h0
    have h1:objs.getD id none=none:=h0
    simp only [zaq] at hid
    rw [h1] at hid;cases hid
   obtain ⟨⟨h1,h2,h3⟩,_⟩:=hA id hlt hd
   simp only [Gh.agree,hpin id hlt]
   exact ⟨h1,h2,h3⟩
 rcases he with rfl|rfl
 ·exact key
 ·exact key
def zct (n:Nat) (x:Value) (objs':List (Option AObj)):Exit→St→Prop:=fun e σ=>
 e=.panic (zkM x)∧∃ τ,zbe (tau τ) (zaq objs') σ 0 objs'∧(∀ k,k<n→tau τ k=k)∧τ.Nodup∧objs'.length≤τ.length
theorem AP.of_body (hE:za1 P env) {f:FuncId} {fn:Func} {code:Code} (hf:P.funcs[f]?=some fn) (hb:fn.body=some code) {args:List AVal} {objs:List (Option AObj)} {x:Value} {objs':List (Option AObj)}
  (hargs:args.length≤fn.ntmps) (hobjs:objs.length≤env.nobj)
  (h:SW P env objs.length code ⟨args++List.replicate (fn.ntmps - args.length) .junk,objs++List.replicate (env.nobj - objs.length) none⟩ (zct objs.length x objs')) :
  AP P env.gl f args objs x objs':=by
 intro w M g vargs hR hG
 have hla:vargs.length=args.length:=by simpa using hR.size
 refine calls_of_wp hf hb ?_
 have hobj:∀ id,St.obj ⟨args++List.replicate (fn.ntmps - args.length) .junk,objs++List.replicate (env.nobj - objs.length) none⟩ id=St.obj ⟨args,objs⟩ id:=fun id=>by
  simp only [St.obj,List.getD]
  by_cases hid:id<objs.length
  ·rw [List.getElem?_append_left hid]
  ·rw [List.getElem?_append_right (by omega),List.getElem?_eq_none (by omega:objs.length≤id)]
   rw [List.getElem?_replicate]
   split<;>rfl
 have hdom:St.dom ⟨args++List.replicate (fn.ntmps - args.length) .junk,objs++List.replicate (env.nobj - objs.length) none⟩=St.dom ⟨args,objs⟩:=by
  funext id;simp only [St.dom,hobj]
 have hR0:Rel ⟨w,M,zaU g objs,[]⟩ ⟨args++List.replicate (fn.ntmps - args.length) .junk,objs++List.replicate (env.nobj - objs.length) none⟩ g M
   { tmps:=vargs.toArray++Array.replicate (fn.ntmps - vargs.toArray.size) undef,defers:=[] } w:=by
  refine ⟨by simp [hla],rfl,?_,?_,?_,?_,hR.sat,hR.M0,hR.Mnew,hR.size0,hR.same,?_,hR.os,hR.tape,hR.output⟩
  ·intro i hi
   rw [hdom]
   by_cases hia:i<args.length
   ·have e1:St.slot ⟨args++List.replicate (fn.ntmps - args.length) .junk,objs++List.replicate (env.nobj - objs.length) none⟩ i=St.slot ⟨args,objs⟩ i:=by
     simp [St.slot,List.getElem?_append_left hia]
    have e2:(vargs.toArray++Array.replicate (fn.ntmps - vargs.toArray.size) undef).getD i undef=vargs.toArray.getD i undef:=by
     simp only [Array.getD_eq_getD_getElem?]
     rw [Array.getElem?_append_left (by simp;omega)]
    rw [e1,e2];exact hR.slots i hia
   ·have e1:St.slot ⟨args++List.replicate (fn.ntmps - args.length) .junk,objs++List.replicate (env.nobj - objs.length) none⟩ i=.junk:=by
     simp only [St.slot,List.getD]
     rw [List.getElem?_append_right (by omega),List.getElem?_replicate]
     split<;>rfl
    rw [e1];exact .junk _
  ·intro id o ho;rw [hobj] at ho;rw [hdom];exact hR.objs id o ho
  ·intro id id' o o' b ho ho';rw [hobj] at ho ho';exact hR.apart id id' o o' b ho ho'
  ·intro id o b ho;rw [hobj] at ho;exact hR.offM id o b ho
  ·intro id o b ho;rw [hobj] at ho;exact hR.own0 id o b ho
 refine wp_mono (h (by simp;omega) _ g M _ w hR0 hG) fun e a' w' ⟨σ',g',M',⟨he,τ,hwo,hpin,hnd,hlen⟩,hR',hM,hA,hl'⟩=>?_
 subst he
 refine ⟨hR'.defers,undef,_,M',rfl,hR'.wk (σ':=⟨[.junk],objs'⟩) (tau τ) (by simp) rfl (fun i hi=>.inl ?_) hwo (fun i j hi hj e=>zc7 hnd (by simp at hi;omega) (by simp at hj;omega) e),fun id hid=>?_⟩
 ·have hi0:i=0:=by simpa using hi
  subst hi0
  rfl
 ·have hlt:id<objs.length:=by
   rcases Nat.lt_or_ge id objs.length with h|h
   ·exact h
   ·simp [zaq,List.getD,List.getElem?_eq_none h] at hid
  have hd:St.dom ⟨args++List.replicate (fn.ntmps - args.length) .junk,objs++List.replicate (env.nobj - objs.length) none⟩ id:=by
   rw [hdom];intro h0
   have h1:objs.getD id none=none:=h0
   simp only [zaq] at hid
   rw [h1] at hid;cases hid
  obtain ⟨⟨h1,h2,h3⟩,_⟩:=hA id hlt hd
  simp only [Gh.agree,hpin id hlt]
  exact ⟨h1,h2,h3⟩
end
end Go.Abs
namespace Go.Abs
open Go
def zx8 (ops:Array Oper) (oi oj:Oper) (ri rj:List Nat × List Nat):Bool:=
 !(oi.apart ops oj) || (meets ri.1 rj.1&&!(ri.2.isEmpty&&rj.2.isEmpty))
def zBd (ops:Array Oper) (A:Nat→List Nat) (tr:Nat→List Nat × List Nat):Bool:=
 (List.range ops.size).all fun k=>match ops[k]? with
  |none=>false
  |some o=>
   (o.after.all fun e=>!Region.binds .any e || decide (e.on<k)) &&
   ((tr k).2.all fun q=>(tr k).1.contains q) &&
   ((A k).all fun j=>o.after.any fun e=>Region.binds .any e&&(e.on==j || (A e.on).contains j)) &&
   ((List.range k).all fun i=>(A k).contains i || match ops[i]? with|some oi=>!zx8 ops oi o (tr i) (tr k)|none=>false)
def zjy (l:List (List Nat × List Nat)) (k:Nat):List Nat × List Nat:=l.getD k ([],[])
def zg6 (r:Rec):List Nat × List Nat:=(r.T,r.e.upd.map Prod.fst)
section
variable {P:Program} {env:Env} {pin:Nat} {σ:St} {Q:Exit→St→Prop}
theorem zs0 {ops:Array Oper} {A:Nat→List Nat} {tr:List Rec} (h:zBd ops A (zjy (tr.map zg6))=true):zm5 ops A (zcl tr)=true:=by
 have hp:∀ k,zjy (tr.map zg6) k=zg6 (zcl tr k):=fun k=>by
  simp only [zjy,zcl,List.getD,List.getElem?_map]
  cases tr[k]?<;>rfl
 unfold zBd at h
 unfold zm5
 rw [List.all_eq_true] at h ⊢
 intro k hk
 have:=h k hk
 cases ho:ops[k]? with
 |none=>rw [ho] at this;cases this
 |some o=>
  rw [ho] at this
  simp only [Bool.and_eq_true] at this ⊢
  obtain ⟨⟨⟨h1,h2⟩,h3⟩,h4⟩:=this
  refine ⟨⟨⟨h1,?_⟩,h3⟩,?_⟩
  ·rw [hp] at h2
   simp only [zg6,List.all_map] at h2
   exact h2
  ·rw [List.all_eq_true] at h4 ⊢
   intro i hi
   have h5:=h4 i hi
   cases hoi:ops[i]? with
   |none=>rw [hoi] at h5;exact h5
   |some oi=>
    rw [hoi] at h5
    rw [hp,hp] at h5
    have e1:zx8 ops oi o (zg6 (zcl tr i)) (zg6 (zcl tr k))=zyK ops oi o (zcl tr i) (zcl tr k):=by
     unfold zx8 zyK zg6
     cases (zcl tr i).e.upd<;>cases (zcl tr k).e.upd<;>rfl
    have h6:((A k).contains i || !zx8 ops oi o (zg6 (zcl tr i)) (zg6 (zcl tr k)))=true:=h5
    rw [e1] at h6
    exact h6
theorem on {N S:St→Prop} {σ:St} (h:∀ σ',S σ'→N σ') (k:S σ):N σ:=h σ k
theorem CallFits.pure {σ:St} {o:Oper} {f:FuncId} {vals cargs:List AVal} (ho:calls env σ o.op f vals) (hent:∀ vargs w,(callFunc f vargs).run P w=.ok (.enter f vargs) w)
  (hargs:vals=ze9 (fun k=>([]:List Nat).getD k 0) cargs) (hsc:zaD (zaq []) cargs=true):CallFits P env σ o f vals cargs [] [] [] [] where
 op:=ho
 zaf:=hent
 args:=hargs
 objs:=rfl
 scopeA:=hsc
 scopeO:=by simp
 nodup:=by simp
 lt:=by simp
 fresh:=by simp
 len:=by simp
end
end Go.Abs
namespace Go.Abs
open Go
mutual
theorem zpP (τ:Nat→Nat):∀ (v:AVal),zaB (zaq []) v=true→ren τ v=v
 |.ref id off,h=>by simp [zaB,zaq] at h
 |.row id n,h=>by simp [zaB,zaq] at h
 |.eref id i j sz,h=>by simp [zaB,zaq] at h
 |.csl id n sz,h=>by simp [zaB,zaq] at h
 |.map id,h=>by simp [zaB,zaq] at h
 |.agg cs,h=>by simp only [ren];rw [zft τ cs (by simpa [zaB] using h)]
 |.tup cs,h=>by simp only [ren];rw [zft τ cs (by simpa [zaB] using h)]
 |.clo f cs,h=>by simp only [ren];rw [zft τ cs (by simpa [zaB] using h)]
 |.pv p,_=>rfl
 |.snil,_=>rfl
 |.junk,_=>rfl
theorem zft (τ:Nat→Nat):∀ (l:List AVal),zaD (zaq []) l=true→ze9 τ l=l
 |[],_=>rfl
 |a::r,h=>by
  simp [zaD] at h
  simp only [ze9]
  rw [zpP τ a h.1,zft τ r h.2]
end
mutual
def sub:AVal→AVal→Prop
 |.snil,.pv (.slice [])=>True
 |.agg cs,.agg ds=>zvD cs ds
 |a,b=>a=b
def zvD:List AVal→List AVal→Prop
 |[],[]=>True
 |a::r,b::s=>sub a b∧zvD r s
 |_,_=>False
end
theorem zlO:∀ {l m:List AVal},zvD l m→l.length=m.length∧∀ i,i<l.length→sub (l.getD i .junk) (m.getD i .junk)
 |[],[],_=>⟨rfl,fun i hi=>by simp at hi⟩
 |a::r,b::s,h=>by
  rw [zvD] at h
  obtain ⟨h1,h2⟩:=zlO h.2
  refine ⟨by simp [h1],fun i hi=>?_⟩
  cases i with
  |zero=>simpa [List.getD] using h.1
  |succ i=>simpa [List.getD] using h2 i (by simpa using hi)
 |[],_::_,h=>by simp [zvD] at h
 |_::_,[],h=>by simp [zvD] at h
theorem V.sub {g:Gh} {D:Nat→Prop} {M:Mem} {a:AVal} {v:Value} (h:V g D M a v):∀ {b:AVal},Abs.sub a b→V g D M b v:=by
 induction h with
 |snil=>
  intro b hb
  unfold Abs.sub at hb
  split at hb
  ·exact .pv .nils
  ·rename_i h1;cases h1
  ·subst hb;exact .snil
 |agg cs vs hl hv ih=>
  intro b hb
  unfold Abs.sub at hb
  split at hb
  ·rename_i h1;cases h1
  ·rename_i h1
   cases h1
   rename_i ds
   obtain ⟨h2,h3⟩:=zlO hb
   exact .agg ds vs (by omega) (fun i hi=>ih i (by omega) (h3 i (by omega)))
  ·subst hb;exact .agg cs vs hl hv
 |pv r=>
  intro b hb
  rename_i p _
  have:b=.pv p:=by cases b<;>simp_all [Abs.sub]
  subst this;exact .pv r
 |ref id off hd=>intro b hb;have:b=.ref id off:=(by cases b<;>simp_all [Abs.sub]);subst this;exact .ref id off hd
 |row id n hd hn=>intro b hb;have:b=.row id n:=(by cases b<;>simp_all [Abs.sub]);subst this;exact .row id n hd hn
 |rown id hd hn=>intro b hb;have:b=.row id 0:=(by cases b<;>simp_all [Abs.sub]);subst this;exact .rown id hd hn
 |eref id i j sz hd=>intro b hb;have:b=.eref id i j sz:=(by cases b<;>simp_all [Abs.sub]);subst this;exact .eref id i j sz hd
 |csl id n sz hd=>intro b hb;have:b=.csl id n sz:=(by cases b<;>simp_all [Abs.sub]);subst this;exact .csl id n sz hd
 |map id hd=>intro b hb;have:b=.map id:=(by cases b<;>simp_all [Abs.sub]);subst this;exact .map id hd
 |tup cs vs hl hv ih=>intro b hb;have:b=.tup cs:=(by cases b<;>simp_all [Abs.sub]);subst this;exact .tup cs vs hl hv
 |clo f cs vs hl hv ih=>intro b hb;have:b=.clo f cs:=(by cases b<;>simp_all [Abs.sub]);subst this;exact .clo f cs vs hl hv
 |junk v=>intro b hb;have:b=.junk:=(by cases b<;>simp_all [Abs.sub]);subst this;exact .junk v
theorem AC.sub {P:Program} {gl:Nat→Option (List PVal)} {f:FuncId} {args args':List AVal} {objs:List (Option AObj)} {res:AVal} {objs':List (Option AObj)} (h:AC P gl f args' objs res objs') (hs:zvD args args'):AC P gl f args objs res objs':=by
 intro w M g vargs hR hG
 obtain ⟨h1,h2⟩:=zlO hs
 refine h w M g vargs ⟨by rw [hR.size];exact h1,hR.defers,fun i hi=>?_,hR.objs,hR.apart,hR.offM,hR.sat,hR.M0,hR.Mnew,hR.size0,hR.same,hR.own0,hR.os,hR.tape,hR.output⟩ hG
 have hi':i<args.length:=by rw [h1];exact hi
 exact (hR.slots i hi').sub (h2 i hi')
theorem zaE {α:Type} (enc:α→List PVal) (l:List α) (k:Nat) (h:k<l.length):(l.map enc).getD k []=enc l[k]:=by
 simp [List.getD,h]
theorem zay (n:Int) (h1:-9223372036854775808≤n) (h2:n≤9223372036854775807):IntKind.i64.wrap n=n:=IntWalk.i64_in n ⟨h1,h2⟩
section
variable {P:Program} {env:Env} {σ:St}
end
end Go.Abs
namespace Go.Abs
open Go
theorem zEY:((0:Nat):Int)=0:=by simp
structure COp where
 dst:Option Nat
 op:Op
 guard:Option (Option (Nat × Bool))
def zyM (all:List Oper):Option (Nat × Bool)→Option (Option (Nat × Bool))
 |none=>none
 |some (j,want)=>some (((all[j]?).bind (·.dst)).map fun t=>(t,want))
def zlP (all:List Oper):List Oper→List COp
 |[]=>[]
 |o::r=>⟨o.dst,o.op,zyM all o.guard⟩::zlP all r
def zpQ (σ:St):Option (Option (Nat × Bool))→Option Bool
 |none=>some true
 |some none=>none
 |some (some (t,want))=>match σ.slot t with
  |.pv (.bool b)=>some (b==want)
  |.tup []=>some false
  |_=>none
section
variable {P:Program} {env:Env} {pin:Nat} {σ:St} {Q:Exit→St→Prop}
theorem zpR (ops:Array Oper) (o:Oper):zd2 ops σ o=zpQ σ (zyM ops.toList o.guard):=by
 unfold zd2
 cases o.guard with
 |none=>rfl
 |some q=>
  obtain ⟨j,want⟩:=q
  simp only [zyM,Array.getElem?_toList]
  cases (ops[j]?).bind (·.dst)<;>rfl
theorem zyN {α β:Type} (f:α→β) (p:Prop) [Decidable p] (x:Option α):(if p then x else none).map f=if p then x.map f else none:=by split<;>rfl
theorem zvE {α β:Type} (f:α→β) (p:Prop) [Decidable p] (x:Option α):(if p then none else x).map f=if p then none else x.map f:=by split<;>rfl
end
end Go.Abs
namespace Go.Abs
open Go
theorem zyO {σ σ':St} {n:Nat} (h:(σ'.objs.take n).all Option.isSome=true) (hn:n≤σ'.objs.length):∀ k,k<n→σ.dom k→σ'.dom k:=fun k hk _ hno=>by
 have hkl:k<σ'.objs.length:=by omega
 rw [List.all_eq_true] at h
 have h1:=h σ'.objs[k] (by rw [List.mem_take_iff_getElem];exact ⟨k,by omega,rfl⟩)
 have h2:σ'.objs[k]=none:=by simpa [St.obj,List.getD,hkl] using hno
 rw [h2] at h1;cases h1
theorem zBw {σ σ':St} {n:Nat} {τ:List Nat} (ht:∀ k,k<n→tau τ k=k) (h:(σ'.objs.take n).all Option.isSome=true) (hn:n≤σ'.objs.length):∀ k,k<n→tau τ k=k∧(σ.dom k→σ'.dom k):=fun k hk=>⟨ht k hk,zyO h hn k hk⟩
variable {env:Env} {pin:Nat} {σ:St}
theorem Rel.nilRow1 {E:Ent} {g:Gh} {M:Mem} {a:Act} {w:World} (id sz:Nat) (hn:σ.obj id=none) (hlt:id<σ.objs.length) (hR:Rel E σ g M a w):Rel E (σ.set id (.row sz [])) (g.set id 0 0 true) M a w:=by
 have hne:∀ i,σ.dom i→i≠id:=fun i hi e=>hi (by rw [e];exact hn)
 have hag:∀ i,σ.dom i→g.agree (g.set id 0 0 true) i:=fun i hi=>Gh.set_agree (hne i hi)
 have hself:(σ.set id (.row sz [])).obj id=some (.row sz []):=St.obj_set_self hlt
 refine hR.update (fun i=>i=id) rfl (fun i hi=>St.obj_set_ne (fun e=>hi e.symm)) (fun i hi=>zbR i hi) hag ?_ (fun _ _ _=>rfl) ?_ ?_ (Nat.le_refl _) rfl rfl rfl
 ·rintro i ob rfl ho
  rw [hself] at ho
  cases ho
  exact ⟨by simp,fun _=>rfl,fun h=>by simp [Gh.set] at h⟩
 ·rintro i ob b rfl ho hb
  rw [hself] at ho
  cases ho
  simp [zbp,Gh.set] at hb
 ·rintro i i' _ _ _ rfl rfl _ _ _ _;rfl
theorem zaY.nilRowC (b j id sz:Nat) {cs:List AVal} (hb:σ.obj b=some (.cells cs)) (hj:cs.getD j .junk=.snil) (hn:σ.obj id=none) (hid:id<env.nobj):zaY env pin σ ⟨σ.slots,(σ.objs.set id (some (.row sz []))).set b (some (.cells (cs.set j (.row id 0))))⟩:=fun hl=>⟨by simp [hl],fun E g M a w hR=>by
 have hne:∀ i,σ.dom i→i≠id:=fun i hi e=>hi (by rw [e];exact hn)
 have hag:∀ i,σ.dom i→g.agree (g.set id 0 0 true) i:=fun i hi=>Gh.set_agree (hne i hi)
 have hbd:σ.dom b:=by simp [St.dom,hb]
 have hbi:id≠b:=fun e=>hne b hbd e.symm
 have h1:=hR.nilRow1 id sz hn (by omega)
 generalize hσ:σ.set id (.row sz [])=σ1 at *
 have hl1:σ1.objs.length=σ.objs.length:=by rw [←hσ];simp [St.set]
 have hdid:σ1.dom id:=by rw [←hσ];simp [St.dom,St.obj_set_self (σ:=σ) (ob:=.row sz []) (by omega:id<σ.objs.length)]
 have hb1:σ1.obj b=some (.cells cs):=by rw [←hσ,St.obj_set_ne hbi];exact hb
 have hblt:b<σ1.objs.length:=by
  rcases Nat.lt_or_ge b σ1.objs.length with h|h
  ·exact h
  ·simp [St.obj,List.getElem?_eq_none h] at hb1
 have e0:(⟨σ.slots,(σ.objs.set id (some (.row sz []))).set b (some (.cells (cs.set j (.row id 0))))⟩:St)=σ1.set b (.cells (cs.set j (.row id 0))):=by rw [←hσ];rfl
 rw [e0]
 have hself:(σ1.set b (.cells (cs.set j (.row id 0)))).obj b=some (.cells (cs.set j (.row id 0))):=St.obj_set_self hblt
 refine ⟨g.set id 0 0 true,M,?_,Mem.le_refl _,fun k hk hd=>⟨hag k hd,zbR k (by rw [←hσ];exact zbR k hd)⟩⟩
 refine h1.update (fun i=>i=b) rfl (fun i hi=>St.obj_set_ne (fun e=>hi e.symm)) (fun i hi=>zbR i hi) (fun i _=>⟨rfl,rfl,rfl⟩) ?_ (fun _ _ _=>rfl) ?_ ?_ (Nat.le_refl _) rfl rfl rfl
 ·rintro i ob rfl ho
  rw [hself] at ho
  cases ho
  obtain ⟨vals,T,hh,hsz,hc⟩:=h1.objs _ _ hb1
  refine ⟨vals,T,hh,by simpa using hsz,fun k hk=>?_⟩
  simp only [List.length_set] at hk
  by_cases hkj:j=k
  ·subst hkj
   have hv:=hc j hk
   rw [hj] at hv
   generalize vals.getD j undef=v at hv
   cases hv
   have e2:(cs.set j (.row id 0)).getD j .junk=.row id 0:=by simp [List.getD,hk]
   rw [e2]
   exact .rown id (zbR id hdid) (by simp [Gh.set])
  ·have e2:(cs.set j (.row id 0)).getD k .junk=cs.getD k .junk:=by simp [List.getD,List.getElem?_set_ne hkj]
   rw [e2]
   exact (hc k hk).mono (fun _ _=>⟨rfl,rfl,rfl⟩) (fun i hi=>zbR i hi) (Mem.le_refl _)
 ·rintro i ob b' rfl ho hb'
  rw [hself] at ho
  cases ho
  exact .inr ⟨_,_,rfl,hb1,hb'⟩
 ·rintro i i' _ _ _ rfl rfl _ _ _ _;rfl⟩
end Go.Abs
namespace Go.Abs
open Go
variable {P:Program} {env:Env} {σ:St}
mutual
theorem zvF:∀ a:AVal,sub a a
 |.agg cs=>by simp only [sub];exact zjz cs
 |.snil=>by simp [sub]
 |.pv _=>by simp [sub]
 |.ref ..=>by simp [sub]
 |.row ..=>by simp [sub]
 |.eref ..=>by simp [sub]
 |.csl ..=>by simp [sub]
 |.map _=>by simp [sub]
 |.tup _=>by simp [sub]
 |.clo _ _=>by simp [sub]
 |.junk=>by simp [sub]
theorem zjz:∀ l:List AVal,zvD l l
 |[]=>trivial
 |a::r=>⟨zvF a,zjz r⟩
end
end Go.Abs
namespace Go.Abs
open Go
mutual
def nz:AVal→AVal
 |.snil=>.pv (.slice [])
 |.agg cs=>.agg (nzL cs)
 |.pv p=>.pv p
 |.ref i o=>.ref i o
 |.row i n=>.row i n
 |.eref i a b c=>.eref i a b c
 |.csl i a b=>.csl i a b
 |.map i=>.map i
 |.tup vs=>.tup vs
 |.clo f cs=>.clo f cs
 |.junk=>.junk
def nzL:List AVal→List AVal
 |[]=>[]
 |a::r=>nz a::nzL r
end
def nzO:Option AObj→Option AObj
 |some (.cells cs)=>some (.cells (nzL cs))
 |o=>o
def zb4:List (Option AObj)→List (Option AObj)
 |[]=>[]
 |o::r=>nzO o::zb4 r
def St.nz (σ:St):St:=⟨nzL σ.slots,zb4 σ.objs⟩
theorem zds:∀ l:List AVal,(nzL l).length=l.length
 |[]=>rfl
 |_::r=>by simp [nzL,zds r]
theorem zlQ:∀ (l:List AVal) (i:Nat),(nzL l).getD i .junk=Abs.nz (l.getD i .junk)
 |[],i=>by simp [nzL,List.getD,Abs.nz]
 |a::r,0=>by simp [nzL,List.getD]
 |a::r,i+1=>by have:=zlQ r i;simpa [nzL,List.getD] using this
theorem zjA:∀ l:List (Option AObj),(zb4 l).length=l.length
 |[]=>rfl
 |_::r=>by simp [zb4,zjA r]
theorem zpS:∀ (l:List (Option AObj)) (i:Nat),(zb4 l).getD i none=nzO (l.getD i none)
 |[],i=>by simp [zb4,List.getD,nzO]
 |a::r,0=>by simp [zb4,List.getD]
 |a::r,i+1=>by have:=zpS r i;simpa [zb4,List.getD] using this
theorem V.nz {g:Gh} {D:Nat→Prop} {M:Mem} {a:AVal} {v:Value} (h:V g D M a v):V g D M (Abs.nz a) v:=by
 induction h with
 |snil=>exact .pv .nils
 |agg cs vs hl _ ih=>exact .agg _ vs (by rw [zds];exact hl) (fun i hi=>by rw [zds] at hi;rw [zlQ];exact ih i hi)
 |pv r=>exact .pv r
 |ref id off hd=>exact .ref id off hd
 |row id n hd hn=>exact .row id n hd hn
 |rown id hd hn=>exact .rown id hd hn
 |eref id i j sz hd=>exact .eref id i j sz hd
 |csl id n sz hd=>exact .csl id n sz hd
 |map id hd=>exact .map id hd
 |tup cs vs hl h _=>exact .tup cs vs hl h
 |clo f cs vs hl h _=>exact .clo f cs vs hl h
 |junk v=>exact .junk v
variable {env:Env} {pin:Nat} {σ:St}
theorem zx9 (id:Nat):σ.nz.obj id=nzO (σ.obj id):=zpS _ _
theorem zjB {id:Nat} {o:AObj} (h:σ.nz.obj id=some o):∃ o',σ.obj id=some o'∧nzO (some o')=some o:=by
 rw [zx9] at h
 cases ho:σ.obj id with
 |none=>rw [ho] at h;simp [nzO] at h
 |some o'=>rw [ho] at h;exact ⟨o',rfl,h⟩
theorem zlR {g:Gh} {id:Nat} {o o':AObj} (h:nzO (some o')=some o):zbp g id o=zbp g id o':=by
 cases o'<;>simp [nzO] at h<;>subst h<;>rfl
theorem zaY.nz:zaY env pin σ σ.nz:=fun hl=>⟨by simp [St.nz,zjA,hl],fun E g M a w hR=>by
 have hdom:∀ id,σ.dom id→σ.nz.dom id:=fun id h=>by
  unfold St.dom at *
  rw [zx9]
  cases ho:σ.obj id with
  |none=>exact absurd ho h
  |some o=>cases o<;>simp [nzO]
 refine ⟨g,M,⟨by simp [St.nz,zds,hR.size],hR.defers,?_,?_,?_,?_,hR.sat,hR.M0,hR.Mnew,hR.size0,hR.same,?_,hR.os,hR.tape,hR.output⟩,Mem.le_refl _,fun k hk hd=>⟨⟨rfl,rfl,rfl⟩,hdom k hd⟩⟩
 ·intro i hi
  have e:σ.nz.slot i=Abs.nz (σ.slot i):=zlQ _ _
  rw [e]
  exact ((hR.slots i (by simpa [St.nz,zds] using hi)).nz).mono (fun _ _=>⟨rfl,rfl,rfl⟩) hdom (Mem.le_refl _)
 ·intro id o ho
  obtain ⟨o',ho',he⟩:=zjB ho
  have hor:=hR.objs id o' ho'
  cases o' with
  |cells cs=>
   simp [nzO] at he
   subst he
   obtain ⟨vals,T,h1,h2,h3⟩:=hor
   refine ⟨vals,T,h1,by rw [zds];exact h2,fun j hj=>?_⟩
   rw [zds] at hj
   rw [zlQ]
   exact ((h3 j hj).nz).mono (fun _ _=>⟨rfl,rfl,rfl⟩) hdom (Mem.le_refl _)
  |row sz xs=>simp [nzO] at he;subst he;exact hor
  |map kd es=>
   simp [nzO] at he;subst he
   obtain ⟨ents,clock,h1,h2,h3⟩:=hor
   refine ⟨ents,clock,h1,h2,fun i e hi=>?_⟩
   obtain ⟨en,a1,a2,a3,a4⟩:=h3 i e hi
   exact ⟨en,a1,a2,a3,a4.mono (fun _ _=>⟨rfl,rfl,rfl⟩) hdom (Mem.le_refl _)⟩
  |bh T e B n=>
   simp [nzO] at he;subst he
   obtain ⟨hd,hn,p,hh,hp⟩:=hor
   exact ⟨hdom _ hd,hn,p,hh,hp⟩
  |bb e s=>simp [nzO] at he;subst he;exact hor
  |dead=>simp [nzO] at he;subst he;trivial
 ·intro id id' o o' b h1 h2 h3 h4
  obtain ⟨p,hp,hpe⟩:=zjB h1
  obtain ⟨q,hq,hqe⟩:=zjB h2
  exact hR.apart id id' p q b hp hq (by rw [←zlR hpe];exact h3) (by rw [←zlR hqe];exact h4)
 ·intro id o b h1 h2
  obtain ⟨p,hp,hpe⟩:=zjB h1
  exact hR.offM id p b hp (by rw [←zlR hpe];exact h2)
 ·intro id o b h1 h2
  obtain ⟨p,hp,hpe⟩:=zjB h1
  exact hR.own0 id p b hp (by rw [←zlR hpe];exact h2)⟩
end Go.Abs
namespace Go.Abs
open Go
variable {P:Program} {env:Env} {pin:Nat} {σ:St} {Q:Exit→St→Prop}
abbrev Tr:=List (List Nat × List Nat)
end Go.Abs
namespace Go.Abs
open Go
variable {P:Program} {env:Env} {σ:St}
def ziI (ι:Nat→Nat):List (Option AObj)→List (Option AObj)
 |[]=>[]
 |o::r=>o.map (zgW ι)::ziI ι r
theorem zm7 (ι:Nat→Nat):∀ l:List (Option AObj),ziI ι l=l.map (Option.map (zgW ι))
 |[]=>rfl
 |o::r=>by simp [ziI,zm7 ι r]
def zro (n:Nat→Bool):List (Option AObj)→Bool
 |[]=>true
 |none::r=>zro n r
 |some o::r=>zb6 n o&&zro n r
theorem zlS (n:Nat→Bool):∀ (l:List (Option AObj)) (o:AObj),zro n l=true→some o ∈ l→zb6 n o=true
 |[],o,_,h=>by simp at h
 |none::r,o,h,hm=>by simp at hm;exact zlS n r o h hm
 |some x::r,o,h,hm=>by
  simp only [zro,Bool.and_eq_true] at h
  rcases List.mem_cons.1 hm with e|hm
  ·cases e;exact h.1
  ·exact zlS n r o h.2 hm
def zfu (σ:St):List Nat→Bool
 |[]=>true
 |i::r=>(σ.obj i).isNone&&zfu σ r
theorem zk5:∀ (l:List Nat) (i:Nat),zfu σ l=true→i ∈ l→σ.obj i=none
 |[],i,_,h=>by simp at h
 |x::r,i,h,hm=>by
  simp only [zfu,Bool.and_eq_true,Option.isNone_iff_eq_none] at h
  rcases List.mem_cons.1 hm with rfl|hm
  ·exact h.1
  ·exact zk5 r i h.2 hm
theorem zBx {o:Oper} {f:FuncId} {A vals:List AVal} {O vobjs:List (Option AObj)} {objs':List (Option AObj)} (ids news:List Nat)
  (ho:calls env σ o.op f A) (hent:∀ vargs w,(callFunc f vargs).run P w=.ok (.enter f vargs) w) (hobjs:ids.map σ.obj=O)
  (hA:ze9 (tau (ids++news)) vals=A) (hO:ziI (tau (ids++news)) vobjs=O) (hsA:zaD (zaq vobjs) vals=true) (hsO:zro (zaq vobjs) vobjs=true)
  (hn:((ids++news).Nodup∧∀ id ∈ ids++news,id<env.nobj)) (hf:zfu σ news=true) (hl:objs'.length≤(ids++news).length) :
  CallFits P env σ o f A vals vobjs ids news objs':=
 ⟨ho,hent,hA.symm,by rw [hobjs];rw [←hO,zm7];rfl,hsA,fun ob h=>zlS _ _ ob hsO h,hn.1,hn.2,fun id h=>zk5 _ id hf h,hl⟩
end Go.Abs
namespace Go.Abs
open Go
variable {P:Program} {env:Env} {pin:Nat} {σ:St} {Q:Exit→St→Prop}
inductive Tg {α:Type} (a:α):Type
 |mk:Tg a
noncomputable def cw (p:Prop) (v:AVal):AVal:=@ite AVal p (Classical.propDecidable p) v (.tup [])
theorem zjC {p:Prop} (h:p) (v:AVal):cw p v=v:=if_pos h
theorem zpT {p:Prop} (h:¬ p) (v:AVal):cw p v=.tup []:=if_neg h
theorem zs1 (v:AVal):cw True v=v:=zjC trivial v
theorem zpU (v:AVal):cw False v=.tup []:=zpT id v
theorem zyP (v:AVal):cw (true=true) v=v:=zjC rfl v
def gw (v:AVal) (w:Bool):Option Prop:=
 match v with
 |.pv (.bool b)=>some (b=w)
 |.tup []=>some False
 |_=>none
theorem zs2 (b w:Bool):gw (.pv (.bool b)) w=some (b=w):=rfl
theorem zya (w:Bool):gw (.tup []) w=some False:=rfl
theorem zEZ (p:Prop) (y w:Bool):gw (cw p (.pv (.bool y))) w=some (p∧y=w):=by
 by_cases h:p
 ·rw [zjC h,zs2];congr 1;simp [h]
 ·rw [zpT h,zya];congr 1;simp [h]
def gd (σ:St):Option (Option (Nat × Bool))→Option Prop
 |none=>some True
 |some none=>none
 |some (some (t,w))=>gw (σ.slot t) w
theorem zyQ (t x:Bool):(if t=true then AVal.pv (.bool true) else cw (t=false) (.pv (.bool x)))=.pv (.bool (t || x)):=by
 cases t
 ·simp [zjC]
 ·rfl
theorem zvG (t x:Bool):(if t=true then cw (t=true) (.pv (.bool x)) else AVal.pv (.bool false))=.pv (.bool (t&&x)):=by
 cases t
 ·rfl
 ·simp [zjC]
theorem zBy (t x:Bool):(if t=true then AVal.pv (.bool true) else .pv (.bool x))=.pv (.bool (t || x)):=by cases t<;>rfl
theorem zBz (t x:Bool):(if t=true then AVal.pv (.bool x) else .pv (.bool false))=.pv (.bool (t&&x)):=by cases t<;>rfl
abbrev KT:=Option Tr→Option Value→St→Prop
def zjD:Op→Option (FuncId × List Operand)
 |.call ⟨.value (.func f),args,_⟩=>some (f,args.toList)
 |_=>none
def zoA:Op→Option (Nat × List Operand)
 |.call ⟨.value (.tmp t),args,_⟩=>some (t,args.toList)
 |_=>none
def zoB:Op→Option Operand
 |.panic x=>some x
 |_=>none
def zjE:Op→Bool
 |.call ⟨.value _,_,_⟩=>false
 |.panic _=>false
 |_=>true
def zbL (acc:Option Tr) (x:List Nat × List Nat):Option Tr:=acc.map (·++[x])
theorem zoC (x:List Nat × List Nat):zbL none x=none:=rfl
theorem zoD (l:Tr) (x:List Nat × List Nat):zbL (some l) x=some (l++[x]):=rfl
def zrp:PVal→Option Value
 |.int k n=>some (.int k n)
 |.bool b=>some (.bool b)
 |.str s=>some (.string ⟨s.toArray⟩)
 |_=>none
def zk6:List PVal→Option (List Value)
 |[]=>some []
 |p::r=>match zrp p,zk6 r with
  |some v,some vs=>some (v::vs)
  |_,_=>none
def zvq:AVal→Option Value
 |.pv (.ifc t true cs)=>match zk6 cs with
  |some vs=>some (.iface t (.agg vs.toArray))
  |none=>none
 |.pv (.ifc t false [c])=>match zrp c with
  |some v=>some (.iface t v)
  |none=>none
 |_=>none
theorem zpV {p:PVal} {v u:Value} {M:Mem} (h:zrp p=some v) (r:Rd M p u):u=v:=by
 unfold zrp at h
 split at h<;>cases h
 all_goals cases r;rfl
theorem zm8 {M:Mem}:∀ {cs:List PVal} {vs us:List Value},zk6 cs=some vs→us.length=cs.length→(∀ i,i<cs.length→Rd M (cs.getD i .nilptr) (us.getD i undef))→us=vs
 |[],vs,us,h,hl,_=>by cases h;simpa using hl
 |c::r,vs,us,h,hl,hr=>by
  unfold zk6 at h
  split at h
  ·rename_i v ws h1 h2
   cases h
   match us,hl with
   |u::us',hl=>
    have e1:=zpV h1 (hr 0 (by simp))
    have e2:=zm8 h2 (us:=us') (by simpa using hl) (fun i hi=>hr (i+1) (by simpa using hi))
    rw [e2]
    congr 1
  ·cases h
theorem zyR {x:AVal} {v:Value} (h:zvq x=some v):∃ p,x=.pv p∧∀ M u,Rd M p u→u=v∧∃ t y,v=.iface t y:=by
 unfold zvq at h
 split at h
 ·split at h
  ·rename_i t cs vs hs
   cases h
   refine ⟨_,rfl,fun M u r=>?_⟩
   cases r with
   |ifca t cs us hl hr=>rw [zm8 hs hl hr];exact ⟨rfl,_,_,rfl⟩
  ·cases h
 ·split at h
  ·rename_i t c v hs
   cases h
   refine ⟨_,rfl,fun M u r=>?_⟩
   cases r with
   |ifco t c u hr=>rw [zpV hs hr];exact ⟨rfl,_,_,rfl⟩
  ·cases h
 ·cases h
def Ctr (P:Program) (env:Env) (f:FuncId) (vals:List AVal) (σ:St) (K:List Nat→Eff→Prop) (KP:Value→St→Prop):Prop:=
 (∃ cargs cobjs ids news res objs',AC P env.gl f cargs cobjs res objs' ∧
  (∀ (o:Oper),calls env σ o.op f vals→CallFits P env σ o f vals cargs cobjs ids news objs') ∧
  K (ids++news) ⟨ren (tau (ids++news)) res,zaT (tau (ids++news)) (ids++news) 0 objs'⟩) ∨
 (∃ cargs cobjs ids news x objs',AP P env.gl f cargs cobjs x objs' ∧
  (∀ (o:Oper),calls env σ o.op f vals→CallFits P env σ o f vals cargs cobjs ids news objs') ∧
  KP x ⟨σ.slots,zaN σ.objs (zaT (tau (ids++news)) (ids++news) 0 objs')⟩)
def VL (P:Program) (env:Env) (K:KT) (t:Tg K):List COp→Option Tr→St→Prop
 |[],acc,σ=>K acc none σ
 |c::rest,acc,σ=>match gd σ c.guard with
  |none=>False
  |some p=>(p→match zjD c.op,zoA c.op,zoB c.op with
    |some (f,args),_,_=>Ctr P env f (args.map (zai env σ)) σ (fun T e=>VL P env K t rest (zbL acc (T,e.upd.map Prod.fst)) (σ.app c.dst e)) fun x σ'=>K acc (some x) σ'
    |none,some (u,args),_=>match σ.slot u with
     |.clo f cs=>Ctr P env f (args.map (zai env σ)++cs) σ (fun T e=>VL P env K t rest (zbL acc (T,e.upd.map Prod.fst)) (σ.app c.dst e)) fun x σ'=>K acc (some x) σ'
     |_=>False
    |none,none,some x=>match zvq (zai env σ x) with
     |some v=>K acc (some v) σ
     |none=>False
    |none,none,none=>zjE c.op=true∧match aop env c.dst (zai env σ) σ.obj c.op with
     |some e=>VL P env K t rest (zbL acc (zbC env c.dst (zai env σ) c.op,e.upd.map Prod.fst)) (σ.app c.dst e)
     |none=>False) ∧
   (¬ p→VL P env K t rest (zbL acc ([],[])) (σ.app c.dst ⟨.tup [],[]⟩))
def VX (P:Program) (env:Env) (K:KT) (t:Tg K) (p:Prop) (r:Option Eff) (T:List Nat) (d:Option Nat) (rest:List COp) (acc:Option Tr) (σ:St):Prop:=
 (p→match r with
  |some e=>VL P env K t rest (zbL acc (T,e.upd.map Prod.fst)) (σ.app d e)
  |none=>False)∧(¬ p→VL P env K t rest (zbL acc ([],[])) (σ.app d ⟨.tup [],[]⟩))
def CK (P:Program) (env:Env) (K:KT) (t:Tg K) (p:Prop) (f:FuncId) (vals:List AVal) (d:Option Nat) (rest:List COp) (acc:Option Tr) (σ:St):Prop:=
 (p→Ctr P env f vals σ (fun T e=>VL P env K t rest (zbL acc (T,e.upd.map Prod.fst)) (σ.app d e)) fun x σ'=>K acc (some x) σ')∧(¬ p→VL P env K t rest (zbL acc ([],[])) (σ.app d ⟨.tup [],[]⟩))
def CL (P:Program) (env:Env) (K:KT) (t:Tg K) (p:Prop) (v:AVal) (vals:List AVal) (d:Option Nat) (rest:List COp) (acc:Option Tr) (σ:St):Prop:=
 (p→match v with
  |.clo f cs=>Ctr P env f (vals++cs) σ (fun T e=>VL P env K t rest (zbL acc (T,e.upd.map Prod.fst)) (σ.app d e)) fun x σ'=>K acc (some x) σ'
  |_=>False)∧(¬ p→VL P env K t rest (zbL acc ([],[])) (σ.app d ⟨.tup [],[]⟩))
def PX (P:Program) (env:Env) (K:KT) (t:Tg K) (p:Prop) (v:Option Value) (d:Option Nat) (rest:List COp) (acc:Option Tr) (σ:St):Prop:=
 (p→match v with
  |some v=>K acc (some v) σ
  |none=>False)∧(¬ p→VL P env K t rest (zbL acc ([],[])) (σ.app d ⟨.tup [],[]⟩))
def VG (P:Program) (env:Env) (K:KT) (t:Tg K) (g:Option Prop) (d:Option Nat) (op:Op) (rest:List COp) (acc:Option Tr) (σ:St):Prop:=
 match g with
 |none=>False
 |some p=>match zjD op,zoA op,zoB op with
  |some (f,args),_,_=>CK P env K t p f (args.map (zai env σ)) d rest acc σ
  |none,some (u,args),_=>CL P env K t p (σ.slot u) (args.map (zai env σ)) d rest acc σ
  |none,none,some x=>PX P env K t p (zvq (zai env σ x)) d rest acc σ
  |none,none,none=>(p→zjE op=true)∧VX P env K t p (aop env d (zai env σ) σ.obj op) (zbC env d (zai env σ) op) d rest acc σ
theorem zBA (K:KT) (t:Tg K) (acc:Option Tr) (σ:St):VL P env K t [] acc σ=K acc none σ:=rfl
theorem zyS (K:KT) (t:Tg K) (d:Option Nat) (op:Op) (g:Option (Option (Nat × Bool))) (rest:List COp) (acc:Option Tr) (σ:St):VL P env K t (⟨d,op,g⟩::rest) acc σ=VG P env K t (gd σ g) d op rest acc σ:=by
 unfold VL VG CK VX CL PX
 cases gd σ g with
 |none=>rfl
 |some p=>
  dsimp only
  cases zjD op with
  |some q=>rfl
  |none=>
   cases zoA op with
   |some q=>rfl
   |none=>
    cases zoB op with
    |some q=>rfl
    |none=>
     apply propext
     constructor
     ·rintro ⟨h1,h2⟩;exact ⟨fun hp=>(h1 hp).1,fun hp=>(h1 hp).2,h2⟩
     ·rintro ⟨h0,h1,h2⟩;exact ⟨fun hp=>⟨h0 hp,h1 hp⟩,h2⟩
theorem zyT (K:KT) (t:Tg K) (p:Prop) (d:Option Nat) (f:FuncId) (args:Array Operand) (tys:Array TypeId) (rest:List COp) (acc:Option Tr) (σ:St) :
  VG P env K t (some p) d (.call ⟨.value (.func f),args,tys⟩) rest acc σ=CK P env K t p f (args.toList.map (zai env σ)) d rest acc σ:=rfl
theorem zBB (K:KT) (t:Tg K) (p:Prop) (d:Option Nat) (u:Nat) (args:Array Operand) (tys:Array TypeId) (rest:List COp) (acc:Option Tr) (σ:St) :
  VG P env K t (some p) d (.call ⟨.value (.tmp u),args,tys⟩) rest acc σ=CL P env K t p (σ.slot u) (args.toList.map (zai env σ)) d rest acc σ:=rfl
theorem zBC (K:KT) (t:Tg K) (p:Prop) (d:Option Nat) (x:Operand) (rest:List COp) (acc:Option Tr) (σ:St) :
  VG P env K t (some p) d (.panic x) rest acc σ=PX P env K t p (zvq (zai env σ x)) d rest acc σ:=rfl
theorem zc8 (K:KT) (t:Tg K) (p:Prop) (d:Option Nat) (op:Op) (h:(zjD op).isNone=true∧zjE op=true) (rest:List COp) (acc:Option Tr) (σ:St) :
  VG P env K t (some p) d op rest acc σ=VX P env K t p (aop env d (zai env σ) σ.obj op) (zbC env d (zai env σ) op) d rest acc σ:=by
 unfold VG
 dsimp only
 have h0:zjD op=none:=by simpa using h.1
 have h1:zoA op=none:=by
  unfold zoA
  split
  ·simp [zjE] at h
  ·rfl
 have h2:zoB op=none:=by
  unfold zoB
  split
  ·simp [zjE] at h
  ·rfl
 rw [h0,h1,h2]
 simp [h.2]
theorem zBD (K:KT) (t:Tg K) (p:Prop) (f:Nat) (cs vals:List AVal) (d:Option Nat) (rest:List COp) (acc:Option Tr) (σ:St):CL P env K t p (.clo f cs) vals d rest acc σ=CK P env K t p f (vals++cs) d rest acc σ:=rfl
theorem zyU (K:KT) (t:Tg K) (v:Value) (d:Option Nat) (rest:List COp) (acc:Option Tr) (σ:St):PX P env K t True (some v) d rest acc σ=K acc (some v) σ:=by simp [PX]
theorem zyV (K:KT) (t:Tg K) (e:Eff) (T:List Nat) (d:Option Nat) (rest:List COp) (acc:Option Tr) (σ:St):VX P env K t True (some e) T d rest acc σ=VL P env K t rest (zbL acc (T,e.upd.map Prod.fst)) (σ.app d e):=by simp [VX]
theorem zvH (K:KT) (t:Tg K) (r:Option Eff) (T:List Nat) (d:Option Nat) (rest:List COp) (acc:Option Tr) (σ:St):VX P env K t False r T d rest acc σ=VL P env K t rest (zbL acc ([],[])) (σ.app d ⟨.tup [],[]⟩):=by simp [VX]
theorem zyW (K:KT) (t:Tg K) (p:Prop) (v:AVal) (T:List Nat) (d:Option Nat) (rest:List COp) (σ:St):VX P env K t p (some ⟨v,[]⟩) T d rest none σ=VL P env K t rest none (σ.app d ⟨cw p v,[]⟩):=by
 by_cases h:p
 ·simp [VX,h,zs1,zbL]
 ·simp [VX,h,zpU,zbL]
theorem zBE (K:KT) (t:Tg K) (p q:Prop) [Decidable q] (x:Option Eff) (T:List Nat) (d:Option Nat) (rest:List COp) (acc:Option Tr) (σ:St):VX P env K t p (if q then x else none) T d rest acc σ=((p→q)∧VX P env K t p x T d rest acc σ):=by
 by_cases h:p
 ·by_cases hq:q<;>simp [VX,h,hq]
 ·simp [VX,h]
theorem zyX (K:KT) (t:Tg K) (p q:Prop) [Decidable q] (x:Option Eff) (T:List Nat) (d:Option Nat) (rest:List COp) (acc:Option Tr) (σ:St):VX P env K t p (if q then none else x) T d rest acc σ=((p→¬ q)∧VX P env K t p x T d rest acc σ):=by
 by_cases h:p
 ·by_cases hq:q<;>simp [VX,h,hq]
 ·simp [VX,h]
theorem zvI (K:KT) (t:Tg K) (f:FuncId) (vals:List AVal) (d:Option Nat) (rest:List COp) (acc:Option Tr) (σ:St):CK P env K t False f vals d rest acc σ=VL P env K t rest (zbL acc ([],[])) (σ.app d ⟨.tup [],[]⟩):=by simp [CK]
@[congr] theorem zEs {K:KT} {t:Tg K} {l l':List COp} {acc acc':Option Tr} {σ σ':St} (h1:l=l') (h2:acc=acc') (h3:σ=σ'):VL P env K t l acc σ=VL P env K t l' acc' σ':=by rw [h1,h2,h3]
@[congr] theorem zEt {K:KT} {t:Tg K} {p p':Prop} {r r':Option Eff} {T T':List Nat} {d:Option Nat} {rest:List COp} {acc:Option Tr} {σ:St} (h1:p=p') (h2:p'→r=r') (h3:p'→T=T') :
  VX P env K t p r T d rest acc σ=VX P env K t p' r' T' d rest acc σ:=by
 subst h1
 by_cases h:p
 ·rw [h2 h,h3 h]
 ·simp [VX,h]
@[congr] theorem zEu {K:KT} {t:Tg K} {p p':Prop} {f:FuncId} {vals vals':List AVal} {d:Option Nat} {rest:List COp} {acc:Option Tr} {σ:St} (h1:p=p') (h2:p'→vals=vals') :
  CK P env K t p f vals d rest acc σ=CK P env K t p' f vals' d rest acc σ:=by
 subst h1
 by_cases h:p
 ·rw [h2 h]
 ·simp [CK,h]
@[congr] theorem zEv {K:KT} {t:Tg K} {p p':Prop} {v v':AVal} {vals vals':List AVal} {d:Option Nat} {rest:List COp} {acc:Option Tr} {σ:St} (h1:p=p') (h2:p'→vals=vals') (h3:p'→v=v') :
  CL P env K t p v vals d rest acc σ=CL P env K t p' v' vals' d rest acc σ:=by
 subst h1
 by_cases h:p
 ·rw [h2 h,h3 h]
 ·simp [CL,h]
@[congr] theorem zEw {K:KT} {t:Tg K} {p p':Prop} {v v':Option Value} {d:Option Nat} {rest:List COp} {acc:Option Tr} {σ:St} (h1:p=p') (h3:p'→v=v') :
  PX P env K t p v d rest acc σ=PX P env K t p' v' d rest acc σ:=by
 subst h1
 by_cases h:p
 ·rw [h3 h]
 ·simp [PX,h]
@[congr] theorem zEx {K:KT} {t:Tg K} {g g':Option Prop} {d:Option Nat} {op:Op} {rest:List COp} {acc:Option Tr} {σ:St} (h1:g=g'):VG P env K t g d op rest acc σ=VG P env K t g' d op rest acc σ:=by rw [h1]
def REG (ops:Array Oper) (t:Tg ops) (tr:Tr):Prop:=zBd ops (anc ops) (zjy tr)=true
def zyY (ops:Array Oper) (t:Tg ops) (tr:Tr):Prop:=(zBd ops (anc ops) (zjy tr)&&zsY ops tr.length&&tr.all fun r=>r.2.isEmpty)=true
def KQ (ops:Array Oper) (Q:Exit→St→Prop) (t:Tg (ops,Q)):KT
 |none,none,σ=>Q .normal σ
 |some tr,none,σ=>REG ops .mk tr∧Q .normal σ
 |none,some x,σ=>Q (.panic (zkM x)) σ
 |some tr,some x,σ=>zyY ops .mk tr∧∀ slots,Q (.panic (zkM x)) ⟨slots,σ.objs⟩
theorem zyZ (ops:Array Oper) (t:Tg (ops,Q)) (σ:St):KQ ops Q t none none σ=Q .normal σ:=rfl
theorem zy0 (ops:Array Oper) (t:Tg (ops,Q)) (tr:Tr) (σ:St):KQ ops Q t (some tr) none σ=(REG ops .mk tr∧Q .normal σ):=rfl
theorem zE0 (ops:Array Oper) (t:Tg (ops,Q)) (x:Value) (σ:St):KQ ops Q t none (some x) σ=Q (.panic (zkM x)) σ:=rfl
theorem zE1 (ops:Array Oper) (t:Tg (ops,Q)) (tr:Tr) (x:Value) (σ:St):KQ ops Q t (some tr) (some x) σ=(zyY ops .mk tr∧∀ slots,Q (.panic (zkM x)) ⟨slots,σ.objs⟩):=rfl
@[congr] theorem zEy {ops:Array Oper} {t:Tg (ops,Q)} {acc acc':Option Tr} {x x':Option Value} {σ σ':St} (h1:acc=acc') (h3:x=x') (h2:σ=σ'):KQ ops Q t acc x σ=KQ ops Q t acc' x' σ':=by rw [h1,h2,h3]
def SCd (v:AVal) (A B:Prop) (t:Tg (A,B)):Prop:=∃ b,v=.pv (.bool b)∧(b=true→A)∧(b=false→B)
def SB (b:Bool) (A B:Prop) (t:Tg (A,B)):Prop:=(b=true→A)∧(b=false→B)
@[congr] theorem zBF {v v':AVal} {A B:Prop} (h:v=v'):SCd v A B .mk=SCd v' A B .mk:=by rw [h]
theorem zlT (b:Bool) (A B:Prop):SCd (.pv (.bool b)) A B .mk=SB b A B .mk:=by
 apply propext
 constructor
 ·rintro ⟨b',h,h1,h2⟩;cases h;exact ⟨h1,h2⟩
 ·rintro ⟨h1,h2⟩;exact ⟨b,rfl,h1,h2⟩
theorem zvJ (A B:Prop):SCd (.pv (.bool true)) A B .mk=A:=by simp [zlT,SB]
theorem zs3 (A B:Prop):SCd (.pv (.bool false)) A B .mk=B:=by simp [zlT,SB]
theorem zy1 (A B:Prop):SB true A B .mk=A:=by simp [SB]
theorem zvK (A B:Prop):SB false A B .mk=B:=by simp [SB]
@[congr] theorem zEz {b b':Bool} {A A' B B':Prop} (h:b=b') (h1:b'=true→A=A') (h2:b'=false→B=B'):SB b A B .mk=SB b' A' B' .mk:=by
 subst h
 cases b
 ·simp [SB,h2 rfl]
 ·simp [SB,h1 rfl]
theorem SW.label {l:Nat} (h:Q .normal σ):SW P env pin (.label l) σ Q:=fun hl _ g M _ _ hR _=>wp_label ⟨σ,g,M,h,hR,Mem.le_refl _,Agr.refl _ _ _,hl⟩
def zjF (Q:Exit→St→Prop):Exit→St→Prop
 |.goto _,_=>False
 |e,σ=>Q e σ
theorem SW.scope {c:Code} (h:SW P env pin c σ (zjF Q)):SW P env pin (.scope c) σ Q:=fun hl E g M a w hR hG=>
 wp_scope_straight (wp_mono (h hl E g M a w hR hG) fun e a' w' ⟨σ',g',M',q,r⟩=>by
  cases e with
  |goto l=>exact q.elim
  |_=>exact ⟨σ',g',M',q,r⟩)
def LW (P:Program) (env:Env) (pin:Nat) (c:Code) (σ:St) (Q:Exit→St→Prop) (t:Tg (c,Q)):Prop:=SW P env pin c σ Q
def VC (P:Program) (env:Env) (pin:Nat):Code→St→(Exit→St→Prop)→Prop
 |.skip,σ,Q=>Q .normal σ
 |.label _,σ,Q=>Q .normal σ
 |.ret,σ,Q=>Q .ret σ
 |.exit id,σ,Q=>Q (.exit id) σ
 |.seq x y,σ,Q=>VC P env pin x σ (zg5 (fun σ'=>VC P env pin y σ' Q) Q)
 |.block id c,σ,Q=>VC P env pin c σ (zfs id Q)
 |.scope c,σ,Q=>VC P env pin c σ (zjF Q)
 |.cond c x y,σ,Q=>SCd (zai env σ c) (VC P env pin x σ Q) (VC P env pin y σ Q) .mk
 |.region _ ops dr,σ,Q=>VL P env (KQ ops Q .mk) .mk (zlP ops.toList ops.toList) (if dr then some [] else none) σ
 |c,σ,Q=>LW P env pin c σ Q .mk
theorem zy2 (σ:St):VC P env pin .skip σ Q=Q .normal σ:=rfl
theorem zvL (l:Nat) (σ:St):VC P env pin (.label l) σ Q=Q .normal σ:=rfl
theorem zvM (c:Code) (σ:St):VC P env pin (.scope c) σ Q=VC P env pin c σ (zjF Q):=rfl
theorem zvN (σ:St):zjF Q .normal σ=Q .normal σ:=rfl
theorem zvO (σ:St):zjF Q .ret σ=Q .ret σ:=rfl
theorem zvP (c:List PanicEntry) (σ:St):zjF Q (.panic c) σ=Q (.panic c) σ:=rfl
theorem zy3 (N:St→Prop) (c:List PanicEntry) (σ:St):zg5 N Q (.panic c) σ=Q (.panic c) σ:=rfl
theorem zvQ (id:Nat) (c:List PanicEntry) (σ:St):zfs id Q (.panic c) σ=Q (.panic c) σ:=rfl
theorem zvR (id:Nat) (σ:St):zjF Q (.exit id) σ=Q (.exit id) σ:=rfl
theorem zBG (σ:St):VC P env pin .ret σ Q=Q .ret σ:=rfl
theorem zy4 (id:Nat) (σ:St):VC P env pin (.exit id) σ Q=Q (.exit id) σ:=rfl
theorem zBH (x y:Code) (σ:St):VC P env pin (.seq x y) σ Q=VC P env pin x σ (zg5 (fun σ'=>VC P env pin y σ' Q) Q):=rfl
theorem zvS (id:Nat) (c:Code) (σ:St):VC P env pin (.block id c) σ Q=VC P env pin c σ (zfs id Q):=rfl
theorem zy5 (c:Operand) (x y:Code) (σ:St):VC P env pin (.cond c x y) σ Q=SCd (zai env σ c) (VC P env pin x σ Q) (VC P env pin y σ Q) .mk:=rfl
theorem zBI (id:Nat) (ops:Array Oper) (σ:St):VC P env pin (.region id ops false) σ Q=VL P env (KQ ops Q .mk) .mk (zlP ops.toList ops.toList) none σ:=rfl
theorem zy6 (id:Nat) (ops:Array Oper) (σ:St):VC P env pin (.region id ops true) σ Q=VL P env (KQ ops Q .mk) .mk (zlP ops.toList ops.toList) (some []) σ:=rfl
theorem zy7 (c:Code) (σ:St):VC P env pin (.loop c) σ Q=LW P env pin (.loop c) σ Q .mk:=rfl
theorem zy8 (N:St→Prop) (σ:St):zg5 N Q .normal σ=N σ:=rfl
theorem zy9 (N:St→Prop) (σ:St):zg5 N Q .ret σ=Q .ret σ:=rfl
theorem zza (N:St→Prop) (id:Nat) (σ:St):zg5 N Q (.exit id) σ=Q (.exit id) σ:=rfl
theorem zvT (id:Nat) (σ:St):zfs id Q .normal σ=Q .normal σ:=rfl
theorem zvU (id:Nat) (σ:St):zfs id Q .ret σ=Q .ret σ:=rfl
theorem zvV (id:Nat) (σ:St):zfs id Q (.exit id) σ=Q .normal σ:=by simp [zfs]
theorem zvW (id id':Nat) (h:id'≠id) (σ:St):zfs id Q (.exit id') σ=Q (.exit id') σ:=by simp [zfs,h]
theorem zE2 {c:COp} {p:Prop} (h:gd σ c.guard=some p):(p→zpQ σ c.guard=some true)∧(¬ p→zpQ σ c.guard=some false):=by
 unfold gd at h
 unfold zpQ
 split at h
 ·rename_i e;cases h;(try rw [e]);simp
 ·cases h
 ·rename_i t w e
  (try rw [e])
  (try dsimp only)
  unfold gw at h
  split at h
  ·rename_i b eb
   cases h
   (try rw [eb])
   (try dsimp only)
   cases b<;>cases w<;>simp
  ·rename_i et;cases h;(try rw [et]);simp
  ·cases h
theorem zm9 {op:Op} {f:FuncId} {args:List Operand} (h:zjD op=some (f,args)):calls env σ op f (args.map (zai env σ)):=by
 unfold zjD at h
 split at h
 ·rename_i f' a t;cases h;exact .inl ⟨a,t,rfl,rfl⟩
 ·cases h
theorem zpW {op:Op} {u:Nat} {args:List Operand} (h:zoA op=some (u,args)) {f:Nat} {cs:List AVal} (hs:σ.slot u=.clo f cs):calls env σ op f (args.map (zai env σ)++cs):=by
 unfold zoA at h
 split at h
 ·rename_i u' a t;cases h;exact .inr ⟨_,a,t,cs,rfl,hs,rfl⟩
 ·cases h
theorem zvX {op:Op} {x:Operand} (h:zoB op=some x):op=.panic x:=by
 unfold zoB at h
 split at h
 ·cases h;rfl
 ·cases h
theorem VL.step {K:KT} {t:Tg K} {ops:Array Oper} {o:Oper} {rest:List COp} {acc:Option Tr} (h:VL P env K t (⟨o.dst,o.op,zyM ops.toList o.guard⟩::rest) acc σ) :
  (∃ T e,GStep P env ops o σ T e∧VL P env K t rest (zbL acc (T,e.upd.map Prod.fst)) (σ.app o.dst e))∨∃ x upd,GPStep P env ops o σ x upd∧K acc (some x) ⟨σ.slots,zaN σ.objs upd⟩:=by
 unfold VL at h
 split at h
 ·exact h.elim
 ·rename_i p hp
  obtain ⟨g1,g2⟩:=zE2 hp
  by_cases hq:p
  ·have hg:zd2 ops σ o=some true:=by rw [zpR];exact g1 hq
   have h1:=h.1 hq
   split at h1
   ·rename_i f args hcall
    rcases h1 with ⟨cargs,cobjs,ids,news,res,objs',hac,hfit,hk2⟩|⟨cargs,cobjs,ids,news,x,objs',hac,hfit,hk2⟩
    ·exact .inl ⟨_,_,.run _ _ hg (.call f _ cargs cobjs ids news res objs' (hfit o (zm9 hcall)) hac),hk2⟩
    ·exact .inr ⟨x,_,⟨hg,.call f _ cargs cobjs ids news x objs' (hfit o (zm9 hcall)) hac⟩,hk2⟩
   ·rename_i u args hcall0 hcall
    split at h1
    ·rename_i f cs hs
     rcases h1 with ⟨cargs,cobjs,ids,news,res,objs',hac,hfit,hk2⟩|⟨cargs,cobjs,ids,news,x,objs',hac,hfit,hk2⟩
     ·exact .inl ⟨_,_,.run _ _ hg (.call f _ cargs cobjs ids news res objs' (hfit o (zpW hcall hs)) hac),hk2⟩
     ·exact .inr ⟨x,_,⟨hg,.call f _ cargs cobjs ids news x objs' (hfit o (zpW hcall hs)) hac⟩,hk2⟩
    ·exact h1.elim
   ·rename_i x hc1 hc2 hpan
    split at h1
    ·rename_i v hv
     obtain ⟨q,hq1,hq2⟩:=zyR hv
     exact .inr ⟨v,[],⟨hg,.pan x q v (zvX hpan) hq1 hq2⟩,h1⟩
    ·exact h1.elim
   ·obtain ⟨hn,h1⟩:=h1
    split at h1
    ·rename_i e he
     exact .inl ⟨_,e,.run _ e hg (.op e he),h1⟩
    ·exact h1.elim
  ·exact .inl ⟨_,_,.skip (by rw [zpR];exact g2 hq),h.2 hq⟩
theorem VL.to0 {K:KT} {t:Tg K} {ops:Array Oper}:∀ (l:List Oper) (acc:List Rec) (σ:St),VL P env K t (zlP ops.toList l) none σ→RRP P env ops (fun _ σ=>K none none σ) (fun _ x upd σ=>K none (some x) ⟨σ.slots,zaN σ.objs upd⟩) l acc σ
 |[],_,_,h=>h
 |o::rest,acc,σ,h=>by
  rcases VL.step h with ⟨T,e,h1,h2⟩|⟨x,upd,h1,h2⟩
  ·exact .inl ⟨T,e,h1,VL.to0 rest _ _ h2⟩
  ·exact .inr ⟨x,upd,h1,h2⟩
theorem VL.to1 {K:KT} {t:Tg K} {ops:Array Oper}:∀ (l:List Oper) (acc:List Rec) (σ:St),VL P env K t (zlP ops.toList l) (some (acc.map zg6)) σ→RRP P env ops (fun tr σ=>K (some (tr.map zg6)) none σ) (fun tr x upd σ=>K (some (tr.map zg6)) (some x) ⟨σ.slots,zaN σ.objs upd⟩) l acc σ
 |[],_,_,h=>h
 |o::rest,acc,σ,h=>by
  rcases VL.step h with ⟨T,e,h1,h2⟩|⟨x,upd,h1,h2⟩
  ·exact .inl ⟨T,e,h1,VL.to1 rest (acc++[⟨T,e⟩]) _ (by simpa [zg6,zbL] using h2)⟩
  ·exact .inr ⟨x,upd,h1,h2⟩
theorem RRP.imp {ops:Array Oper} {K K':List Rec→St→Prop} {KP KP':List Rec→Value→List (Nat × AObj)→St→Prop} (hk:∀ tr σ,K tr σ→K' tr σ) (hp:∀ tr x u σ,KP tr x u σ→KP' tr x u σ) :
  ∀ (l:List Oper) (acc:List Rec) (σ:St),RRP P env ops K KP l acc σ→RRP P env ops K' KP' l acc σ
 |[],_,_,h=>hk _ _ h
 |_::rest,acc,σ,h=>by
  rcases h with ⟨T,e,h1,h2⟩|⟨x,upd,h1,h2⟩
  ·exact .inl ⟨T,e,h1,RRP.imp hk hp rest _ _ h2⟩
  ·exact .inr ⟨x,upd,h1,hp _ _ _ _ h2⟩
theorem zs4 {N N':St→Prop} (h:∀ σ,N σ→N' σ):∀ e σ,zg5 N Q e σ→zg5 N' Q e σ:=by
 intro e σ hh
 cases e<;>first|exact h _ hh|exact hh
theorem VC.to (hE:za1 P env) (hm:P.follows .mixedOrders=true):∀ (c:Code) {σ:St} {Q:Exit→St→Prop},VC P env pin c σ Q→SW P env pin c σ Q
 |.skip,_,_,h=>SW.skip h
 |.ret,_,_,h=>SW.ret h
 |.exit _,_,_,h=>SW.exit h
 |.seq x y,_,_,h=>SW.seq ((VC.to hE hm x h).mono (zs4 fun _ hh=>VC.to hE hm y hh))
 |.block _ c,_,_,h=>SW.block (VC.to hE hm c h)
 |.cond _ x y,_,_,h=>by
  obtain ⟨b,hb,h1,h2⟩:=h
  exact SW.cond hb (fun e=>VC.to hE hm x (h1 e)) (fun e=>VC.to hE hm y (h2 e))
 |.region _ ops dr,σ,Q,h=>by
  cases dr with
  |false=>exact SW.regionP hE (VL.to0 _ [] _ h)
  |true=>
   refine SW.drawP hE hm (RRP.imp (fun tr σ hh=>?_) (fun tr x u σ hh=>?_) _ _ _ (VL.to1 ops.toList [] σ h))
   ·exact ⟨zs0 hh.1,hh.2⟩
   ·obtain ⟨h1,h2⟩:=hh
    simp only [zyY,Bool.and_eq_true,List.length_map,List.all_map] at h1
    refine ⟨zs0 h1.1.1,h1.1.2,fun r hr=>?_,h2⟩
    have:=List.all_eq_true.1 h1.2 r hr
    simpa [zg6] using this
 |.loop _,_,_,h=>h
 |.rangeFunc ..,_,_,h=>h
 |.scope c,_,_,h=>SW.scope (VC.to hE hm c h)
 |.label _,_,_,h=>SW.label h
 |.goto _,_,_,h=>h
 |.refuse _,_,_,h=>h
end Go.Abs
namespace Go.Abs
open Go
variable {P:Program} {env:Env} {pin:Nat} {σ:St} {Q:Exit→St→Prop}
def zkO (o:Option AObj) (n:Nat) (xs:List (List PVal)):Prop:=∃ sz,o=some (.row sz xs)∧n=xs.length
mutual
def rdV (ob:Nat→Option AObj):AVal→AVal→Prop
 |.pv p,b=>match b with|.pv q=>p=q|.junk=>True|_=>False
 |.snil,b=>match b with|.pv (.slice xs)=>xs=[]|.snil=>True|.junk=>True|_=>False
 |.row id n,b=>match b with|.pv (.slice xs)=>zkO (ob id) n xs|.junk=>True|_=>False
 |.agg cs,b=>match b with|.agg ds=>rdL ob cs ds|.junk=>True|_=>False
 |.tup cs,b=>match b with|.tup ds=>rdL ob cs ds|.junk=>True|_=>False
 |.ref _ _,b=>match b with|.junk=>True|_=>False
 |.eref _ _ _ _,b=>match b with|.junk=>True|_=>False
 |.csl _ _ _,b=>match b with|.junk=>True|_=>False
 |.map _,b=>match b with|.junk=>True|_=>False
 |.clo _ _,b=>match b with|.junk=>True|_=>False
 |.junk,b=>match b with|.junk=>True|_=>False
def rdL (ob:Nat→Option AObj):List AVal→List AVal→Prop
 |[],l=>match l with|[]=>True|_=>False
 |a::r,l=>match l with|b::s=>rdV ob a b∧rdL ob r s|[]=>False
end
theorem zBJ (ob:Nat→Option AObj) (p q:PVal):rdV ob (.pv p) (.pv q)=(p=q):=by simp [rdV]
theorem zzb (ob:Nat→Option AObj) (xs:List (List PVal)):rdV ob .snil (.pv (.slice xs))=(xs=[]):=by simp [rdV]
theorem zyb (ob:Nat→Option AObj) (id n:Nat) (xs:List (List PVal)):rdV ob (.row id n) (.pv (.slice xs))=zkO (ob id) n xs:=by simp [rdV]
theorem zBK (ob:Nat→Option AObj) (cs ds:List AVal):rdV ob (.agg cs) (.agg ds)=rdL ob cs ds:=by simp [rdV]
theorem zBL (ob:Nat→Option AObj) (cs ds:List AVal):rdV ob (.tup cs) (.tup ds)=rdL ob cs ds:=by simp [rdV]
theorem zhX (ob:Nat→Option AObj) (v:AVal):rdV ob v .junk=True:=by cases v<;>simp [rdV]
theorem zBM (ob:Nat→Option AObj):rdL ob [] []=True:=by simp [rdL]
theorem zoE (ob:Nat→Option AObj) (a b:AVal) (r s:List AVal):rdL ob (a::r) (b::s)=(rdV ob a b∧rdL ob r s):=by simp [rdL]
theorem zrq (sz n:Nat) (ys xs:List (List PVal)):zkO (some (.row sz ys)) n xs=(ys=xs∧n=xs.length):=by
 apply propext
 constructor
 ·rintro ⟨_,h,h2⟩;cases h;exact ⟨rfl,h2⟩
 ·rintro ⟨rfl,h2⟩;exact ⟨sz,rfl,h2⟩
theorem zvY {k:Nat} {xs:List (List PVal)} {o:Option AObj} {n:Nat} {ys:List (List PVal)} (h:zkO o n ys):zkO (zgi k xs o) n ys:=by
 obtain ⟨sz,rfl,h2⟩:=h
 exact ⟨sz,rfl,h2⟩
mutual
theorem zyc {ob ob':Nat→Option AObj} {k sz:Nat} {xs:List (List PVal)} (hk:ob k=some (.row sz xs)) (ho:∀ i,i≠k→ob' i=zgi k xs (ob i)):∀ (x b:AVal),rdV ob x b→rdV ob' (frz k xs x) b
 |.pv p,b,h=>by simp only [frz];cases b<;>simp only [rdV] at h ⊢<;>exact h
 |.snil,b,h=>by simp only [frz];simp only [rdV] at h ⊢;exact h
 |.junk,b,h=>by simp only [frz];simp only [rdV] at h ⊢;exact h
 |.map i,b,h=>by simp only [frz];simp only [rdV] at h ⊢;exact h
 |.clo f cs,b,h=>by
  cases b<;>simp only [rdV] at h
  rw [zhX];trivial
 |.ref i o,b,h=>by
  cases b<;>simp only [rdV] at h
  rw [zhX];trivial
 |.eref i a c d,b,h=>by
  cases b<;>simp only [rdV] at h
  rw [zhX];trivial
 |.csl i a c,b,h=>by
  cases b<;>simp only [rdV] at h
  rw [zhX];trivial
 |.row i n,b,h=>by
  by_cases hj:b=.junk
  ·subst hj;rw [zhX];trivial
  have:∃ ys,b=.pv (.slice ys)∧zkO (ob i) n ys:=by
   unfold rdV at h
   split at h
   ·exact ⟨_,rfl,h⟩
   ·exact absurd rfl hj
   ·exact h.elim
  obtain ⟨ys,rfl,hr⟩:=this
  simp only [frz]
  by_cases hik:i=k
  ·subst hik
   obtain ⟨sz',h1,h2⟩:=hr
   rw [hk] at h1
   cases h1
   rw [if_pos rfl,if_pos h2,zBJ]
  ·rw [if_neg hik,zyb,ho i hik]
   exact zvY hr
 |.agg cs,b,h=>by
  simp only [frz]
  cases b<;>simp only [rdV] at h ⊢
  exact zoF hk ho cs _ h
 |.tup cs,b,h=>by
  simp only [frz]
  cases b<;>simp only [rdV] at h ⊢
  exact zoF hk ho cs _ h
theorem zoF {ob ob':Nat→Option AObj} {k sz:Nat} {xs:List (List PVal)} (hk:ob k=some (.row sz xs)) (ho:∀ i,i≠k→ob' i=zgi k xs (ob i)):∀ (x b:List AVal),rdL ob x b→rdL ob' (zgh k xs x) b
 |[],b,h=>by simp only [zgh];cases b<;>simp only [rdL] at h ⊢
 |a::r,b,h=>by
  simp only [zgh]
  cases b with
  |nil=>simp only [rdL] at h
  |cons c s=>
   rw [zoE] at h ⊢
   exact ⟨zyc hk ho a c h.1,zoF hk ho r s h.2⟩
end
theorem zoG {ob:Nat→Option AObj}:∀ {x b:List AVal},rdL ob x b→x.length=b.length∧∀ i,i<x.length→rdV ob (x.getD i .junk) (b.getD i .junk)
 |[],[],_=>⟨rfl,fun i hi=>by simp at hi⟩
 |[],_::_,h=>by simp [rdL] at h
 |_::_,[],h=>by simp [rdL] at h
 |a::r,c::s,h=>by
  rw [zoE] at h
  obtain ⟨h1,h2⟩:=zoG h.2
  refine ⟨by simp [h1],fun i hi=>?_⟩
  cases i with
  |zero=>simpa [List.getD] using h.1
  |succ i=>simpa [List.getD] using h2 i (by simpa using hi)
theorem V.read {g:Gh} {D D':Nat→Prop} {M:Mem} {ob:Nat→Option AObj} (hno:∀ i n ys,¬ zkO (ob i) n ys) {x:AVal} {v:Value} (h:V g D M x v):∀ {b:AVal},rdV ob x b→V g D' M b v:=by
 induction h with
 |pv r=>intro b hb;cases b<;>simp only [rdV] at hb<;>first|(subst hb;exact .pv r)|exact .junk _
 |snil=>
  intro b hb
  unfold rdV at hb
  split at hb
  ·subst hb;exact .pv .nils
  ·exact .snil
  ·exact .junk _
  ·exact hb.elim
 |ref id off hd=>intro b hb;cases b<;>simp only [rdV] at hb;exact .junk _
 |row id n hd hn=>
  intro b hb
  unfold rdV at hb
  split at hb
  ·exact absurd hb (hno _ _ _)
  ·exact .junk _
  ·exact hb.elim
 |rown id hd hn=>
  intro b hb
  unfold rdV at hb
  split at hb
  ·exact absurd hb (hno _ _ _)
  ·exact .junk _
  ·exact hb.elim
 |eref id i j sz hd=>intro b hb;cases b<;>simp only [rdV] at hb;exact .junk _
 |csl id n sz hd=>intro b hb;cases b<;>simp only [rdV] at hb;exact .junk _
 |map id hd=>intro b hb;cases b<;>simp only [rdV] at hb;exact .junk _
 |agg cs vs hl _ ih=>
  intro b hb
  cases b<;>simp only [rdV] at hb
  ·obtain ⟨h1,h2⟩:=zoG hb
   exact .agg _ vs (by omega) (fun i hi=>ih i (by omega) (h2 i (by omega)))
  ·exact .junk _
 |tup cs vs hl _ ih=>
  intro b hb
  cases b<;>simp only [rdV] at hb
  ·obtain ⟨h1,h2⟩:=zoG hb
   exact .tup _ vs (by omega) (fun i hi=>ih i (by omega) (h2 i (by omega)))
  ·exact .junk _
 |clo f cs vs hl _ ih=>intro b hb;cases b<;>simp only [rdV] at hb;exact .junk _
 |junk v=>intro b hb;cases b<;>simp only [rdV] at hb;exact .junk _
theorem zs5 (id:Nat) (xs:List (List PVal)) (i:Nat) (h:i≠id):(σ.frz id xs).obj i=zgi id xs (σ.obj i):=by
 simp only [St.frz,St.obj,List.getD]
 rw [List.getElem?_set_ne (fun e=>h e.symm),List.getElem?_map]
 cases σ.objs[i]?<;>rfl
theorem zvZ (id:Nat) (xs:List (List PVal)) (h:id<σ.objs.length):(σ.frz id xs).obj id=some .dead:=by
 simp [St.frz,St.obj,List.getD,h]
theorem Rel.read1 {E:Ent} {g:Gh} {M:Mem} {w:World} {v:Value} {x b:AVal} (hR:Rel E ⟨[x],σ.objs⟩ g M ⟨#[v],[]⟩ w) (h:rdV σ.obj x b) :
  ∀ k,k≤σ.objs.length→∃ (σk:St) (xk:AVal) (gk:Gh) (Mk:Mem),σk.slots=[xk]∧σk.objs.length=σ.objs.length∧Rel E σk gk Mk ⟨#[v],[]⟩ w∧Mem.le M Mk∧rdV σk.obj xk b∧∀ i n ys,i<k→¬ zkO (σk.obj i) n ys
 |0,_=>⟨⟨[x],σ.objs⟩,x,g,M,rfl,rfl,hR,Mem.le_refl _,h,fun i _ _ hi=>by omega⟩
 |k+1,hk=>by
  obtain ⟨σk,xk,gk,Mk,h1,h2,h3,h4,h5,h6⟩:=Rel.read1 hR h k (by omega)
  by_cases hr:∃ sz xs,σk.obj k=some (.row sz xs)
  ·obtain ⟨sz,xs,hr⟩:=hr
   obtain ⟨_,hw⟩:=zaY.freeze (env:=⟨fun _=>none,fun _=>none,fun _=>0,σk.objs.length⟩) (pin:=0) k hr rfl
   obtain ⟨g',M',hR',hM,_⟩:=hw E gk Mk _ w h3
   refine ⟨σk.frz k xs,frz k xs xk,g',M',by simp [St.frz,h1,zgh],by simp [St.frz,h2],hR',Mem.le_trans h4 hM,zyc hr (fun i hi=>zs5 k xs i hi) xk b h5,fun i n ys hi hh=>?_⟩
   by_cases hik:i=k
   ·subst hik
    rw [zvZ i xs (by omega)] at hh
    obtain ⟨_,hh,_⟩:=hh
    cases hh
   ·rw [zs5 k xs i hik] at hh
    obtain ⟨sz',e,e2⟩:=hh
    refine h6 i n ys (by omega) ⟨sz',?_,e2⟩
    cases ho:σk.obj i with
    |none=>rw [ho] at e;cases e
    |some o=>
     rw [ho] at e
     cases o<;>simp only [zgi,Option.some.injEq,reduceCtorEq] at e
     rw [e]
  ·refine ⟨σk,xk,gk,Mk,h1,h2,h3,h4,h5,fun i n ys hi hh=>?_⟩
   by_cases hik:i=k
   ·subst hik
    obtain ⟨sz,e,_⟩:=hh
    exact hr ⟨sz,ys,e⟩
   ·exact h6 i n ys (by omega) hh
def PK (ob:Nat→Option AObj) (r:Option (List AVal)) (res:AVal):Prop:=match r with|some vs=>rdV ob (zoy vs) res|none=>False
def RQ (env:Env) (rs:List ResultVar) (res:AVal):Exit→St→Prop
 |.ret,σ=>PK σ.obj (zkN env σ rs) res
 |.normal,σ=>PK σ.obj (zkN env σ rs) res
 |_,_=>False
theorem zBN (rs:List ResultVar) (res:AVal) (σ:St):RQ env rs res .ret σ=PK σ.obj (zkN env σ rs) res:=rfl
theorem zs6 (rs:List ResultVar) (res:AVal) (σ:St):RQ env rs res .normal σ=PK σ.obj (zkN env σ rs) res:=rfl
theorem zoH (ob:Nat→Option AObj) (vs:List AVal) (res:AVal):PK ob (some vs) res=rdV ob (zoy vs) res:=rfl
theorem AC.of_vc (hE:za1 P env) (hm:P.follows .mixedOrders=true) {f:FuncId} {fn:Func} {code:Code} (hf:P.funcs[f]?=some fn) (hb:fn.body=some code) {args:List AVal} {res:AVal}
  (hargs:args.length≤fn.ntmps)
  (h:VC P env 0 code ⟨args++List.replicate (fn.ntmps - args.length) .junk,List.replicate env.nobj none⟩ (RQ env fn.results.toList res)) :
  AC P env.gl f args [] res []:=by
 intro w M g vargs hR hG
 have hla:vargs.length=args.length:=by simpa using hR.size
 refine calls_of_wp hf hb ?_
 have hobj:∀ id,St.obj ⟨args++List.replicate (fn.ntmps - args.length) .junk,List.replicate env.nobj none⟩ id=none:=fun id=>by
  simp only [St.obj,List.getD]
  rw [List.getElem?_replicate]
  split<;>rfl
 have hdom:St.dom ⟨args++List.replicate (fn.ntmps - args.length) .junk,List.replicate env.nobj none⟩=St.dom ⟨args,[]⟩:=by
  funext id;simp only [St.dom,hobj];simp [St.obj]
 have hR0:Rel ⟨w,M,zaU g [],[]⟩ ⟨args++List.replicate (fn.ntmps - args.length) .junk,List.replicate env.nobj none⟩ g M
   { tmps:=vargs.toArray++Array.replicate (fn.ntmps - vargs.toArray.size) undef,defers:=[] } w:=by
  refine ⟨by simp [hla],rfl,?_,?_,?_,?_,hR.sat,hR.M0,hR.Mnew,hR.size0,hR.same,?_,hR.os,hR.tape,hR.output⟩
  ·intro i hi
   rw [hdom]
   by_cases hia:i<args.length
   ·have e1:St.slot ⟨args++List.replicate (fn.ntmps - args.length) .junk,List.replicate env.nobj none⟩ i=St.slot ⟨args,[]⟩ i:=by
     simp [St.slot,List.getElem?_append_left hia]
    have e2:(vargs.toArray++Array.replicate (fn.ntmps - vargs.toArray.size) undef).getD i undef=vargs.toArray.getD i undef:=by
     simp only [Array.getD_eq_getD_getElem?]
     rw [Array.getElem?_append_left (by simp;omega)]
    rw [e1,e2];exact hR.slots i hia
   ·have e1:St.slot ⟨args++List.replicate (fn.ntmps - args.length) .junk,List.replicate env.nobj none⟩ i=.junk:=by
     simp only [St.slot,List.getD]
     rw [List.getElem?_append_right (by omega),List.getElem?_replicate]
     split<;>rfl
    rw [e1];exact .junk _
  ·intro id o ho;rw [hobj] at ho;cases ho
  ·intro id id' o o' b ho;rw [hobj] at ho;cases ho
  ·intro id o b ho;rw [hobj] at ho;cases ho
  ·intro id o b ho;rw [hobj] at ho;cases ho
 refine wp_mono (VC.to hE hm code h (by simp) _ g M _ w hR0 hG) fun e a' w' ⟨σ',g',M',hq,hR',hM,hA,hl'⟩=>?_
 have key:PK σ'.obj (zkN env σ' fn.results.toList) res→a'.defers=[]∧∃ v,(results fn a'.tmps).run P w'=.ok v w'∧∃ v' g' M',Ending.returned v=.returned v'∧Rel ⟨w,M,zaU g [],[]⟩ ⟨[res],[]⟩ g' M' ⟨#[v'],[]⟩ w'∧∀ id,zaq [] id=true→g.agree g' id:=by
  intro hpk
  cases hvs:zkN env σ' fn.results.toList with
  |none=>rw [hvs] at hpk;exact hpk.elim
  |some vs=>
   rw [hvs,zoH] at hpk
   obtain ⟨v,hrun,hV⟩:=zgG (P:=P) hR' hE hvs
   have hR1:Rel ⟨w,M,zaU g [],[]⟩ ⟨[zoy vs],σ'.objs⟩ g' M' ⟨#[v],[]⟩ w':=by
    refine ⟨rfl,rfl,fun i hi=>?_,hR'.objs,hR'.apart,hR'.offM,hR'.sat,hR'.M0,hR'.Mnew,hR'.size0,hR'.same,hR'.own0,hR'.os,hR'.tape,hR'.output⟩
    have hi0:i=0:=by simpa using hi
    subst hi0
    exact hV
   obtain ⟨σk,xk,gk,Mk,h1,h2,h3,h4,h5,h6⟩:=hR1.read1 (σ:=σ') hpk σ'.objs.length (Nat.le_refl _)
   have hno:∀ i n ys,¬ zkO (σk.obj i) n ys:=fun i n ys=>by
    by_cases hi:i<σ'.objs.length
    ·exact h6 i n ys hi
    ·rintro ⟨sz,e,_⟩
     simp [St.obj,List.getD,List.getElem?_eq_none (by omega:σk.objs.length≤i)] at e
   refine ⟨hR'.defers,v,hrun,v,gk,Mk,rfl,⟨rfl,rfl,fun i hi=>?_,fun id o ho=>by simp [St.obj] at ho,fun id id' o o' b ho=>by simp [St.obj] at ho,fun id o b ho=>by simp [St.obj] at ho,h3.sat,h3.M0,h3.Mnew,h3.size0,h3.same,fun id o b ho=>by simp [St.obj] at ho,h3.os,h3.tape,h3.output⟩,fun id hid=>by simp [zaq] at hid⟩
   have hi0:i=0:=by simpa using hi
   subst hi0
   have h7:=h3.slot 0
   have e:σk.slot 0=xk:=by simp [St.slot,h1]
   rw [e] at h7
   exact V.read hno h7 h5
 cases e with
 |ret=>exact key hq
 |normal=>exact key hq
 |_=>exact hq.elim
end Go.Abs
namespace Go.Abs
open Go
def kw1:=And.intro @zBA<|And.intro @zyS<|And.intro @zyT<|And.intro @zBB<|And.intro @zBC<|And.intro @zBD<|And.intro @zyU<|And.intro @zvI<|And.intro @zyV<|And.intro @zvH<|And.intro @zyW<|And.intro @zBE<|@zyX
def kw2:=And.intro @zyZ<|And.intro @zy0<|And.intro @zE0<|And.intro @zE1<|And.intro @zvJ<|And.intro @zs3<|@zlT
def kw3:=And.intro @zy2<|And.intro @zvL<|And.intro @zvM<|And.intro @zBG<|And.intro @zy4<|And.intro @zBH<|And.intro @zvS<|And.intro @zy5<|And.intro @zBI<|And.intro @zy6<|@zy7
def kw4:=And.intro @zy1<|And.intro @zvK<|And.intro @zvN<|And.intro @zvO<|And.intro @zvR<|And.intro @zvP<|And.intro @zy3<|And.intro @zvQ<|And.intro @zy8<|And.intro @zy9<|And.intro @zza<|And.intro @zvT<|And.intro @zvU<|And.intro @zvV<|@zvW
def kw5:=And.intro @zs1<|And.intro @zpU<|And.intro @zyP<|And.intro @zs2<|And.intro @zya<|And.intro @zEZ<|And.intro @zyQ<|And.intro @zvG<|And.intro @zBy<|And.intro @zBz<|And.intro @zoC<|@zoD
def kw6:=And.intro @zBN<|And.intro @zs6<|And.intro @zoH<|And.intro @zBJ<|And.intro @zzb<|And.intro @zyb<|And.intro @zBK<|And.intro @zBL<|And.intro @zhX<|And.intro @zBM<|And.intro @zoE<|@zrq
variable {P:Program} {env:Env} {pin:Nat} {σ:St} {Q:Exit→St→Prop}
abbrev jl (n:Nat) (l:List AVal):List AVal:=List.replicate n .junk++l
theorem zE3 (env dst ev ob x):aop env dst ev ob (.move x)=(some ⟨ev x,[]⟩):=rfl
theorem zE4 (env dst ev ob x):aop env dst ev ob (.assign x)=(some ⟨ev x,[]⟩):=rfl
theorem zE5 (env dst ev ob c a b):aop env dst ev ob (.pick c a b)=(match ev c with
  |.pv (.bool t)=>some ⟨if t then ev a else ev b,[]⟩
  |_=>none):=rfl
theorem zE6 (env dst ev ob t):aop env dst ev ob (.alloc t)=(match env.ty t,dst with
  |some ty,some d=>match ty.bld with
   |some e=>match ob (env.site d),ob (env.site d+1) with
    |none,none=>if env.site d+1<env.nobj then some ⟨.ref (env.site d) 0,[(env.site d+1,.bb e []),(env.site d,.bh t e (env.site d+1) 0)]⟩ else none
    |_,_=>none
   |none=>match ty.zero,ob (env.site d) with
    |some z,none=>if env.site d<env.nobj∧z.all AVal.isCell=true then some ⟨.ref (env.site d) 0,[(env.site d,.cells z)]⟩ else none
    |_,_=>none
  |_,_=>none):=rfl
theorem zE7 (env dst ev ob z1 x):aop env dst ev ob (.box z1 x)=(match dst with
  |some d=>match ob (env.site d) with
   |none=>if env.site d<env.nobj∧(ev x).cells.all AVal.isCell=true then some ⟨.ref (env.site d) 0,[(env.site d,.cells (ev x).cells)]⟩ else none
   |_=>none
  |none=>none):=rfl
theorem zE8 (env dst ev ob t parts):aop env dst ev ob (.build t parts)=(match env.ty t with
  |some ty=>match ty.zero,ty.kind with
   |some z,.struct=>if (ty.fields.all fun q=>decide (0<q.2))=false then none else (zhT (fun i=>ty.fields[i]?) z (parts.toList.map fun q=>(q.1,ev q.2))).map fun cs=>⟨.agg cs,[]⟩
   |some z,.array _=>if ty.eSize=0 then none else (zhT (fun i=>some (i * ty.eSize,ty.eSize)) z (parts.toList.map fun q=>(q.1,ev q.2))).map fun cs=>⟨.agg cs,[]⟩
   |_,_=>none
  |none=>none):=rfl
theorem zE9 (env dst ev ob t len parts):aop env dst ev ob (.buildSlice t len parts)=(match env.ty t with
  |some ty=>match ty.kind with
   |.slice=>if 0<ty.eSize∧parts.size=len∧len * ty.eSize≤65536∧ty.eZero=true then
     match ziE ty.eSize 0 (parts.toList.map fun q=>(q.1,ev q.2)) with
     |some xs=>some ⟨.pv (exSl (dst.elim 0 env.site) xs),[]⟩
     |none=>match dst with
      |some d=>match zgY ty.eSize 0 (parts.toList.map fun q=>(q.1,ev q.2)),ob (env.site d) with
       |some cs,none=>if env.site d<env.nobj then some ⟨.csl (env.site d) len ty.eSize,[(env.site d,.cells cs)]⟩ else none
       |_,_=>none
      |none=>none
    else none
   |_=>none
  |none=>none):=rfl
theorem zFa (env dst ev ob t p):aop env dst ev ob (.load t p)=(match env.ty t,ev p with
  |some ty,.ref id off=>match ob id with
   |some (.cells cs)=>if off+ty.size≤cs.length∧0<ty.size then
     some ⟨if ty.agg then .agg ((cs.drop off).take ty.size) else cs.getD off .junk,[]⟩ else none
   |_=>none
  |some ty,.pv (.ptr cs)=>if ty.size≤cs.length∧0<ty.size then
     some ⟨if ty.agg then .agg ((cs.take ty.size).map .pv) else .pv (cs.getD 0 .nilptr),[]⟩ else none
  |some ty,.eref id i j sz=>match ob id with
   |some (.row sz' xs)=>if sz=sz'∧i<xs.length∧j+ty.size≤sz∧0<ty.size then
     some ⟨if ty.agg then .agg ((((xs.getD i []).drop j).take ty.size).map .pv) else .pv (zb1 xs i j),[]⟩ else none
   |_=>none
  |_,_=>none):=rfl
theorem zFb (env dst ev ob t p x):aop env dst ev ob (.store t p x)=(match env.ty t,ev p with
  |some ty,.ref id off=>match ob id with
   |some (.cells cs)=>if (ev x).cells.length=ty.size∧off+ty.size≤cs.length∧(ev x).cells.all AVal.isCell=true then
     some ⟨.junk,[(id,.cells (zfk cs off (ev x).cells))]⟩ else none
   |_=>none
  |some ty,.eref id i j sz=>match ob id,zfh (ev x).cells with
   |some (.row sz' xs),some ps=>if sz=sz'∧i<xs.length∧j+ty.size≤sz∧ps.length=ty.size then
     some ⟨.junk,[(id,.row sz' (zin xs i j ps))]⟩ else none
   |_,_=>none
  |_,_=>none):=rfl
theorem zBO (env dst ev ob x):aop env dst ev ob (.nilCheck x)=(match ev x with
  |.ref id off=>some ⟨.ref id off,[]⟩
  |.eref id i j sz=>some ⟨.eref id i j sz,[]⟩
  |.pv (.ptr cs)=>some ⟨.pv (.ptr cs),[]⟩
  |_=>none):=rfl
theorem zBP (env dst ev ob op t x y z1):aop env dst ev ob (.binOp op t x y z1)=(match ev x,ev y with
  |.pv p,.pv q=>(if zfj y=true then zx6 op ((env.ty t).map Ty.kind) p else zgy op ((env.ty t).map Ty.kind) p q).map fun r=>⟨.pv r,[]⟩
  |.agg cs,.agg ds=>(zBb op ((env.ty t).bind Ty.eqs) cs ds).map fun b=>⟨.pv (.bool b),[]⟩
  |_,_=>none):=rfl
theorem zBQ (env dst ev ob op z1 x):aop env dst ev ob (.unOp op z1 x)=(match op,ev x with
  |.not,.pv (.bool b)=>some ⟨.pv (.bool !b),[]⟩
  |.neg,.pv (.int k n)=>some ⟨.pv (.int k (k.wrap (0 - n))),[]⟩
  |_,_=>none):=rfl
theorem zBR (env dst ev ob st dt x):aop env dst ev ob (.convert st dt x)=(match env.ty st,env.ty dt,ev x with
  |some _,some ty,.pv (.int _ n)=>match ty.kind with
   |.int k=>some ⟨.pv (.int k (k.wrap n)),[]⟩
   |_=>none
  |some sty,some ty,.pv (.slice xs)=>match sty.kind,ty.kind,zeD xs with
   |.slice,.string,some ns=>if sty.kKind=.int .u8 then some ⟨.pv (.str (zgZ ns)),[]⟩ else none
   |_,_,_=>none
  |some sty,some ty,.row id n=>match ob id with
   |some (.row _ xs)=>match sty.kind,ty.kind,zeD xs with
    |.slice,.string,some ns=>if sty.kKind=.int .u8∧xs.length=n then some ⟨.pv (.str (zgZ ns)),[]⟩ else none
    |_,_,_=>none
   |_=>none
  |_,_,_=>none):=rfl
theorem zBS (env dst ev ob s x k):aop env dst ev ob (.fieldAddr s x k)=(match env.ty s with
  |some ty=>match ty.kind,ty.fields[k]? with
   |.struct,some (fo,fs)=>if 0<fs then match ev x with
     |.ref id off=>some ⟨.ref id (off+fo),[]⟩
     |.pv (.ptr cs)=>if fo+fs≤cs.length then some ⟨.pv (.ptr ((cs.drop fo).take fs)),[]⟩ else none
     |.eref id i j sz=>some ⟨.eref id i (j+fo) sz,[]⟩
     |_=>none
    else none
   |_,_=>none
  |none=>none):=rfl
theorem zBT (env dst ev ob t x ix):aop env dst ev ob (.indexAddr t x ix)=(match env.ty t,ev ix with
  |some ty,.pv (.int _ i)=>if ty.eSize=0 then none else match ty.kind,ev x with
   |.slice,.pv (.slice xs)=>if 0≤i∧i.toNat<xs.length∧(xs.getD i.toNat []).length=ty.eSize then some ⟨.pv (.ptr (xs.getD i.toNat [])),[]⟩ else none
   |.slice,.row id n=>match ob id with
    |some (.row sz _)=>if 0≤i∧i.toNat<n∧sz=ty.eSize then some ⟨.eref id i.toNat 0 sz,[]⟩ else none
    |_=>none
   |.slice,.csl id n sz=>if 0≤i∧i.toNat<n∧sz=ty.eSize then some ⟨.ref id (i.toNat * sz),[]⟩ else none
   |.array n,.ref id off=>if 0≤i∧i.toNat<n then some ⟨.ref id (off+i.toNat * ty.eSize),[]⟩ else none
   |.array n,.pv (.ptr cs)=>if 0≤i∧i.toNat<n∧i.toNat * ty.eSize<cs.length then some ⟨.pv (.ptr ((cs.drop (i.toNat * ty.eSize)).take ty.eSize)),[]⟩ else none
   |_,_=>none
  |_,_=>none):=rfl
theorem zBU (env dst ev ob t x ix):aop env dst ev ob (.index t x ix)=(match env.ty t,ev ix with
  |some ty,.pv (.int _ i)=>match ty.kind,ev x with
   |.string,.pv (.str s)=>if 0≤i∧i.toNat<s.length then some ⟨.pv (.int .u8 ((s.getD i.toNat 0).toNat:Int)),[]⟩ else none
   |.array n,.agg cs=>if 0≤i∧i.toNat<n∧i.toNat<cs.length∧ty.kKind≠.other∧ty.eSize=1 then some ⟨cs.getD i.toNat .junk,[]⟩ else none
   |_,_=>none
  |_,_=>none):=rfl
theorem zBV (env dst ev ob x k):aop env dst ev ob (.extract x k)=(match ev x with
  |.tup vs=>match vs[k]? with
   |some v=>some ⟨v,[]⟩
   |none=>none
  |_=>none):=rfl
theorem zBW (env dst ev ob t x lo hi mx):aop env dst ev ob (.slice t x lo hi mx)=(match env.ty t,mx with
  |some ty,none=>
   match ty.kind,ev x with
   |.string,.pv (.str s)=>match zcY ev lo 0,zcY ev hi s.length with
    |some l,some h=>if 0≤l∧l≤h∧h≤s.length then some ⟨.pv (.str ((s.take h.toNat).drop l.toNat)),[]⟩ else none
    |_,_=>none
   |.slice,.pv (.slice xs)=>match zcY ev lo 0,zcY ev hi xs.length with
    |some l,some h=>if 0≤l∧l≤h∧h≤xs.length∧(l=0∨(xs.getD 0 []).length=ty.eSize)∧0<ty.eSize then some ⟨.pv (.slice ((xs.take h.toNat).drop l.toNat)),[]⟩ else none
    |_,_=>none
   |_,_=>none
  |_,_=>none):=rfl
theorem zBX (env dst ev ob f first cap):aop env dst ev ob (.makeFunc (.func f) first cap)=(if first.size=0 then some ⟨.clo f (cap.toList.map ev),[]⟩ else none):=rfl
theorem zBY (env dst ev ob t x):aop env dst ev ob (.makeInterface t x)=(match env.ty t with
  |some ty=>if ty.kind=.iface then none else match ev x with
   |.agg cs=>match zfh cs with
    |some ps=>some ⟨.pv (.ifc t true ps),[]⟩
    |none=>none
   |.pv p=>some ⟨.pv (.ifc t false [p]),[]⟩
   |_=>none
  |none=>none):=rfl
theorem zBZ (env dst ev ob x z1 t ok):aop env dst ev ob (.typeAssert x z1 t ok)=(match env.ty t,ev x with
  |some ty,.pv (.ifc t' ag cs)=>if ty.kind≠.iface∧t'=t∧ok=true then some ⟨.tup [if ag then .agg (cs.map .pv) else .pv (cs.getD 0 .nilptr),.pv (.bool true)],[]⟩ else none
  |_,_=>none):=rfl
theorem zB0 (env dst ev ob t):aop env dst ev ob (.makeMap t none)=(match env.ty t,dst with
  |some ty,some d=>match ty.kind,ob (env.site d) with
   |.map,none=>if env.site d<env.nobj∧ty.kKind≠.other then some ⟨.map (env.site d),[(env.site d,.map ty.kKind [])]⟩ else none
   |_,_=>none
  |_,_=>none):=rfl
theorem zB1 (env dst ev ob t len cap):aop env dst ev ob (.makeSlice t len cap)=(match env.ty t,dst with
  |some ty,some d=>match ty.kind,ev len,ev cap with
   |.slice,.pv (.int _ n),.pv (.int _ c)=>match ty.eZV,ob (env.site d) with
    |some z,none=>match zfh (zgs z).cells with
     |some ps=>if env.site d<env.nobj∧0≤n∧n=c∧n * ty.eBytes≤140737488355328∧0<ty.eBytes∧0<ty.eSize∧ps.length=ty.eSize then
       some ⟨.row (env.site d) n.toNat,[(env.site d,.row ty.eSize (List.replicate n.toNat ps))]⟩ else none
     |none=>none
    |_,_=>none
   |_,_,_=>none
  |_,_=>none):=rfl
theorem zB2 (env dst ev ob t x k ok):aop env dst ev ob (.lookup t x k ok)=(match env.ty t,ev x,ev k with
  |some ty,.map id,.pv key=>match ty.kind,ob id,ty.eZV with
   |.map,some (.map kd es),some z=>if kd=ty.kKind∧zdj kd key=true then
     some ⟨if ok then .tup [zgs ((zgg key es).getD z),.pv (.bool (zgg key es).isSome)] else zgs ((zgg key es).getD z),[]⟩ else none
   |_,_,_=>none
  |_,_,_=>none):=rfl
theorem zB3 (env dst ev ob t m k x):aop env dst ev ob (.mapUpdate t m k x)=(match env.ty t,ev m,ev k,zvp (ev x) with
  |some ty,.map id,.pv key,some v=>match ty.kind,ob id with
   |.map,some (.map kd es)=>if kd=ty.kKind∧zdj kd key=true then some ⟨.junk,[(id,.map kd (zq9 key v es))]⟩ else none
   |_,_=>none
  |_,_,_,_=>none):=rfl
theorem zB4 (env dst ev ob args tys):aop env dst ev ob (.call ⟨.builtin .len,args,tys⟩)=(match args.toList,tys.toList with
  |[x],[t]=>match env.ty t with
   |some ty=>match ty.kind,ev x with
    |.string,.pv (.str s)=>some ⟨.pv (.int .i64 s.length),[]⟩
    |.slice,.pv (.slice xs)=>some ⟨.pv (.int .i64 xs.length),[]⟩
    |.slice,.snil=>some ⟨.pv (.int .i64 0),[]⟩
    |.slice,.row _ n=>some ⟨.pv (.int .i64 n),[]⟩
    |.slice,.csl _ n _=>some ⟨.pv (.int .i64 n),[]⟩
    |.array n,_=>some ⟨.pv (.int .i64 n),[]⟩
    |_,_=>none
   |none=>none
  |_,_=>none):=rfl
theorem zB5 (env dst ev ob args z1):aop env dst ev ob (.call ⟨.builtin .max,args,z1⟩)=(match args.toList with
  |x::r=>match ev x with
   |.pv p=>(zge zyE p (r.map ev)).map fun q=>⟨.pv q,[]⟩
   |_=>none
  |[]=>none):=rfl
theorem zB6 (env dst ev ob args z1):aop env dst ev ob (.call ⟨.builtin .min,args,z1⟩)=(match args.toList with
  |x::r=>match ev x with
   |.pv p=>(zge zyF p (r.map ev)).map fun q=>⟨.pv q,[]⟩
   |_=>none
  |[]=>none):=rfl
theorem zB7 (env dst ev ob args tys):aop env dst ev ob (.call ⟨.builtin .append,args,tys⟩)=(match args.toList,tys.toList,dst with
  |[x,y],[t,t'],some d=>match env.ty t,env.ty t',ob (env.site d) with
   |some ty,some ty',none=>match ty.kind,zop ty'.kind,zcS ob (ev y) with
    |.slice,true,some ys=>match ev x with
     |.snil=>if env.site d<env.nobj∧0<ty.eBytes∧0<ty.eSize∧ze6 (ys.length) ty.eBytes=true∧(ys.all fun y=>y.length==ty.eSize)=true∧ty.eZero=true then
       some ⟨.row (env.site d) ys.length,[(env.site d,.row ty.eSize ys)]⟩ else none
     |.row id n=>match ob id with
      |some (.row sz xs)=>if env.site d<env.nobj∧env.site d≠id∧0<ty.eBytes∧xs.length=n∧sz=ty.eSize∧0<sz∧ze6 (xs.length+ys.length) ty.eBytes=true∧(ys.all fun y=>y.length==sz)=true∧ty.eZero=true then
        some ⟨.row (env.site d) (n+ys.length),[(id,.dead),(env.site d,.row sz (xs++ys))]⟩ else none
      |_=>none
     |.pv (.xsl xs)=>if 0<ty.eBytes∧0<ys.length∧0<ty.eSize∧ze6 (xs.length+ys.length) ty.eBytes=true∧(ys.all fun y=>y.length==ty.eSize)=true∧ty.eZero=true∧(xs.all fun y=>y.length==ty.eSize)=true then
       some ⟨.pv (.slice (xs++ys)),[]⟩ else none
     |_=>none
    |_,_,_=>none
   |_,_,_=>none
  |_,_,_=>none):=rfl
theorem zFc (env dst ev t):zbC env dst ev (.alloc t)=(match dst with
  |some d=>match env.ty t with
   |some ty=>match ty.bld with
    |some _=>[env.site d,env.site d+1]
    |none=>[env.site d]
   |none=>[env.site d]
  |none=>[]):=rfl
theorem zFd (env dst ev z1 z2):zbC env dst ev (.box z1 z2)=(match dst with|some d=>[env.site d]|none=>[]):=rfl
theorem zFe (env dst ev t z1 parts):zbC env dst ev (.buildSlice t z1 parts)=(match env.ty t with
  |some ty=>match ziE ty.eSize 0 (parts.toList.map fun q=>(q.1,ev q.2)) with
   |some _=>[]
   |none=>match dst with|some d=>[env.site d]|none=>[]
  |none=>[]):=rfl
theorem zFf (env dst ev z1 p):zbC env dst ev (.load z1 p)=(match ev p with|.ref id _=>[id]|.eref id _ _ _=>[id]|_=>[]):=rfl
theorem zFg (env dst ev z1 p z2):zbC env dst ev (.store z1 p z2)=(match ev p with|.ref id _=>[id]|.eref id _ _ _=>[id]|_=>[]):=rfl
theorem zFh (env dst ev z1 x z2):zbC env dst ev (.indexAddr z1 x z2)=(match ev x with|.row id _=>[id]|_=>[]):=rfl
theorem zFi (env dst ev z1 z2 x):zbC env dst ev (.convert z1 z2 x)=(match ev x with|.row id _=>[id]|_=>[]):=rfl
theorem zFj (env dst ev z1):zbC env dst ev (.makeMap z1 none)=(match dst with|some d=>[env.site d]|none=>[]):=rfl
theorem zFk (env dst ev z1 z2 z3):zbC env dst ev (.makeSlice z1 z2 z3)=(match dst with|some d=>[env.site d]|none=>[]):=rfl
theorem zB8 (env dst ev z1 x z2 z3):zbC env dst ev (.lookup z1 x z2 z3)=(match ev x with|.map id=>[id]|_=>[]):=rfl
theorem zB9 (env dst ev z1 m z2 z3):zbC env dst ev (.mapUpdate z1 m z2 z3)=(match ev m with|.map id=>[id]|_=>[]):=rfl
theorem zCa (env dst ev args z1):zbC env dst ev (.call ⟨.builtin .append,args,z1⟩)=(match args.toList with
  |[x,y]=>(match dst with|some d=>[env.site d]|none=>[])++(match ev x with|.row id _=>[id]|_=>[])++(match ev y with|.row id _=>[id]|_=>[])
  |_=>[]):=rfl
theorem zCb (env dst ev x):zbC env dst ev (.move x)=[]:=rfl
theorem zCc (env dst ev x):zbC env dst ev (.assign x)=[]:=rfl
theorem zCd (env dst ev c a b):zbC env dst ev (.pick c a b)=[]:=rfl
theorem zCe (env dst ev t parts):zbC env dst ev (.build t parts)=[]:=rfl
theorem zCf (env dst ev x):zbC env dst ev (.nilCheck x)=[]:=rfl
theorem zCg (env dst ev op t x y z1):zbC env dst ev (.binOp op t x y z1)=[]:=rfl
theorem zCh (env dst ev op z1 x):zbC env dst ev (.unOp op z1 x)=[]:=rfl
theorem zCi (env dst ev s x k):zbC env dst ev (.fieldAddr s x k)=[]:=rfl
theorem zCj (env dst ev t x ix):zbC env dst ev (.index t x ix)=[]:=rfl
theorem zCk (env dst ev x k):zbC env dst ev (.extract x k)=[]:=rfl
theorem zCl (env dst ev t x lo hi mx):zbC env dst ev (.slice t x lo hi mx)=[]:=rfl
theorem zCm (env dst ev f first cap):zbC env dst ev (.makeFunc (.func f) first cap)=[]:=rfl
theorem zCn (env dst ev t x):zbC env dst ev (.makeInterface t x)=[]:=rfl
theorem zCo (env dst ev x z1 t ok):zbC env dst ev (.typeAssert x z1 t ok)=[]:=rfl
theorem zCp (env dst ev args tys):zbC env dst ev (.call ⟨.builtin .len,args,tys⟩)=[]:=rfl
theorem zCq (env dst ev args z1):zbC env dst ev (.call ⟨.builtin .max,args,z1⟩)=[]:=rfl
theorem zCr (env dst ev args z1):zbC env dst ev (.call ⟨.builtin .min,args,z1⟩)=[]:=rfl
theorem zId (K tg gp dd x rest acc σ):VG P env K tg (some gp) dd (.move x) rest acc σ=VX P env K tg gp (aop env dd (zai env σ) σ.obj (.move x)) (zbC env dd (zai env σ) (.move x)) dd rest acc σ:=zc8 _ _ _ _ _ ⟨rfl,rfl⟩ _ _ _
theorem zIe (K tg gp dd x rest acc σ):VG P env K tg (some gp) dd (.assign x) rest acc σ=VX P env K tg gp (aop env dd (zai env σ) σ.obj (.assign x)) (zbC env dd (zai env σ) (.assign x)) dd rest acc σ:=zc8 _ _ _ _ _ ⟨rfl,rfl⟩ _ _ _
theorem zIf (K tg gp dd c a b rest acc σ):VG P env K tg (some gp) dd (.pick c a b) rest acc σ=VX P env K tg gp (aop env dd (zai env σ) σ.obj (.pick c a b)) (zbC env dd (zai env σ) (.pick c a b)) dd rest acc σ:=zc8 _ _ _ _ _ ⟨rfl,rfl⟩ _ _ _
theorem zIg (K tg gp dd t rest acc σ):VG P env K tg (some gp) dd (.alloc t) rest acc σ=VX P env K tg gp (aop env dd (zai env σ) σ.obj (.alloc t)) (zbC env dd (zai env σ) (.alloc t)) dd rest acc σ:=zc8 _ _ _ _ _ ⟨rfl,rfl⟩ _ _ _
theorem zIh (K tg gp dd z1 x rest acc σ):VG P env K tg (some gp) dd (.box z1 x) rest acc σ=VX P env K tg gp (aop env dd (zai env σ) σ.obj (.box z1 x)) (zbC env dd (zai env σ) (.box z1 x)) dd rest acc σ:=zc8 _ _ _ _ _ ⟨rfl,rfl⟩ _ _ _
theorem zIi (K tg gp dd t parts rest acc σ):VG P env K tg (some gp) dd (.build t parts) rest acc σ=VX P env K tg gp (aop env dd (zai env σ) σ.obj (.build t parts)) (zbC env dd (zai env σ) (.build t parts)) dd rest acc σ:=zc8 _ _ _ _ _ ⟨rfl,rfl⟩ _ _ _
theorem zIj (K tg gp dd t len parts rest acc σ):VG P env K tg (some gp) dd (.buildSlice t len parts) rest acc σ=VX P env K tg gp (aop env dd (zai env σ) σ.obj (.buildSlice t len parts)) (zbC env dd (zai env σ) (.buildSlice t len parts)) dd rest acc σ:=zc8 _ _ _ _ _ ⟨rfl,rfl⟩ _ _ _
theorem zIk (K tg gp dd t p rest acc σ):VG P env K tg (some gp) dd (.load t p) rest acc σ=VX P env K tg gp (aop env dd (zai env σ) σ.obj (.load t p)) (zbC env dd (zai env σ) (.load t p)) dd rest acc σ:=zc8 _ _ _ _ _ ⟨rfl,rfl⟩ _ _ _
theorem zIl (K tg gp dd t p x rest acc σ):VG P env K tg (some gp) dd (.store t p x) rest acc σ=VX P env K tg gp (aop env dd (zai env σ) σ.obj (.store t p x)) (zbC env dd (zai env σ) (.store t p x)) dd rest acc σ:=zc8 _ _ _ _ _ ⟨rfl,rfl⟩ _ _ _
theorem zFl (K tg gp dd x rest acc σ):VG P env K tg (some gp) dd (.nilCheck x) rest acc σ=VX P env K tg gp (aop env dd (zai env σ) σ.obj (.nilCheck x)) (zbC env dd (zai env σ) (.nilCheck x)) dd rest acc σ:=zc8 _ _ _ _ _ ⟨rfl,rfl⟩ _ _ _
theorem zFm (K tg gp dd op t x y z1 rest acc σ):VG P env K tg (some gp) dd (.binOp op t x y z1) rest acc σ=VX P env K tg gp (aop env dd (zai env σ) σ.obj (.binOp op t x y z1)) (zbC env dd (zai env σ) (.binOp op t x y z1)) dd rest acc σ:=zc8 _ _ _ _ _ ⟨rfl,rfl⟩ _ _ _
theorem zFn (K tg gp dd op z1 x rest acc σ):VG P env K tg (some gp) dd (.unOp op z1 x) rest acc σ=VX P env K tg gp (aop env dd (zai env σ) σ.obj (.unOp op z1 x)) (zbC env dd (zai env σ) (.unOp op z1 x)) dd rest acc σ:=zc8 _ _ _ _ _ ⟨rfl,rfl⟩ _ _ _
theorem zFo (K tg gp dd st dt x rest acc σ):VG P env K tg (some gp) dd (.convert st dt x) rest acc σ=VX P env K tg gp (aop env dd (zai env σ) σ.obj (.convert st dt x)) (zbC env dd (zai env σ) (.convert st dt x)) dd rest acc σ:=zc8 _ _ _ _ _ ⟨rfl,rfl⟩ _ _ _
theorem zFp (K tg gp dd s x k rest acc σ):VG P env K tg (some gp) dd (.fieldAddr s x k) rest acc σ=VX P env K tg gp (aop env dd (zai env σ) σ.obj (.fieldAddr s x k)) (zbC env dd (zai env σ) (.fieldAddr s x k)) dd rest acc σ:=zc8 _ _ _ _ _ ⟨rfl,rfl⟩ _ _ _
theorem zFq (K tg gp dd t x ix rest acc σ):VG P env K tg (some gp) dd (.indexAddr t x ix) rest acc σ=VX P env K tg gp (aop env dd (zai env σ) σ.obj (.indexAddr t x ix)) (zbC env dd (zai env σ) (.indexAddr t x ix)) dd rest acc σ:=zc8 _ _ _ _ _ ⟨rfl,rfl⟩ _ _ _
theorem zFr (K tg gp dd t x ix rest acc σ):VG P env K tg (some gp) dd (.index t x ix) rest acc σ=VX P env K tg gp (aop env dd (zai env σ) σ.obj (.index t x ix)) (zbC env dd (zai env σ) (.index t x ix)) dd rest acc σ:=zc8 _ _ _ _ _ ⟨rfl,rfl⟩ _ _ _
theorem zFs (K tg gp dd x k rest acc σ):VG P env K tg (some gp) dd (.extract x k) rest acc σ=VX P env K tg gp (aop env dd (zai env σ) σ.obj (.extract x k)) (zbC env dd (zai env σ) (.extract x k)) dd rest acc σ:=zc8 _ _ _ _ _ ⟨rfl,rfl⟩ _ _ _
theorem zFt (K tg gp dd t x lo hi mx rest acc σ):VG P env K tg (some gp) dd (.slice t x lo hi mx) rest acc σ=VX P env K tg gp (aop env dd (zai env σ) σ.obj (.slice t x lo hi mx)) (zbC env dd (zai env σ) (.slice t x lo hi mx)) dd rest acc σ:=zc8 _ _ _ _ _ ⟨rfl,rfl⟩ _ _ _
theorem zFu (K tg gp dd f first cap rest acc σ):VG P env K tg (some gp) dd (.makeFunc (.func f) first cap) rest acc σ=VX P env K tg gp (aop env dd (zai env σ) σ.obj (.makeFunc (.func f) first cap)) (zbC env dd (zai env σ) (.makeFunc (.func f) first cap)) dd rest acc σ:=zc8 _ _ _ _ _ ⟨rfl,rfl⟩ _ _ _
theorem zFv (K tg gp dd t x rest acc σ):VG P env K tg (some gp) dd (.makeInterface t x) rest acc σ=VX P env K tg gp (aop env dd (zai env σ) σ.obj (.makeInterface t x)) (zbC env dd (zai env σ) (.makeInterface t x)) dd rest acc σ:=zc8 _ _ _ _ _ ⟨rfl,rfl⟩ _ _ _
theorem zFw (K tg gp dd x z1 t ok rest acc σ):VG P env K tg (some gp) dd (.typeAssert x z1 t ok) rest acc σ=VX P env K tg gp (aop env dd (zai env σ) σ.obj (.typeAssert x z1 t ok)) (zbC env dd (zai env σ) (.typeAssert x z1 t ok)) dd rest acc σ:=zc8 _ _ _ _ _ ⟨rfl,rfl⟩ _ _ _
theorem zFx (K tg gp dd t rest acc σ):VG P env K tg (some gp) dd (.makeMap t none) rest acc σ=VX P env K tg gp (aop env dd (zai env σ) σ.obj (.makeMap t none)) (zbC env dd (zai env σ) (.makeMap t none)) dd rest acc σ:=zc8 _ _ _ _ _ ⟨rfl,rfl⟩ _ _ _
theorem zFy (K tg gp dd t len cap rest acc σ):VG P env K tg (some gp) dd (.makeSlice t len cap) rest acc σ=VX P env K tg gp (aop env dd (zai env σ) σ.obj (.makeSlice t len cap)) (zbC env dd (zai env σ) (.makeSlice t len cap)) dd rest acc σ:=zc8 _ _ _ _ _ ⟨rfl,rfl⟩ _ _ _
theorem zFz (K tg gp dd t x k ok rest acc σ):VG P env K tg (some gp) dd (.lookup t x k ok) rest acc σ=VX P env K tg gp (aop env dd (zai env σ) σ.obj (.lookup t x k ok)) (zbC env dd (zai env σ) (.lookup t x k ok)) dd rest acc σ:=zc8 _ _ _ _ _ ⟨rfl,rfl⟩ _ _ _
theorem zFA (K tg gp dd t m k x rest acc σ):VG P env K tg (some gp) dd (.mapUpdate t m k x) rest acc σ=VX P env K tg gp (aop env dd (zai env σ) σ.obj (.mapUpdate t m k x)) (zbC env dd (zai env σ) (.mapUpdate t m k x)) dd rest acc σ:=zc8 _ _ _ _ _ ⟨rfl,rfl⟩ _ _ _
theorem zFB (K tg gp dd args tys rest acc σ):VG P env K tg (some gp) dd (.call ⟨.builtin .len,args,tys⟩) rest acc σ=VX P env K tg gp (aop env dd (zai env σ) σ.obj (.call ⟨.builtin .len,args,tys⟩)) (zbC env dd (zai env σ) (.call ⟨.builtin .len,args,tys⟩)) dd rest acc σ:=zc8 _ _ _ _ _ ⟨rfl,rfl⟩ _ _ _
theorem zFC (K tg gp dd args z1 rest acc σ):VG P env K tg (some gp) dd (.call ⟨.builtin .max,args,z1⟩) rest acc σ=VX P env K tg gp (aop env dd (zai env σ) σ.obj (.call ⟨.builtin .max,args,z1⟩)) (zbC env dd (zai env σ) (.call ⟨.builtin .max,args,z1⟩)) dd rest acc σ:=zc8 _ _ _ _ _ ⟨rfl,rfl⟩ _ _ _
theorem zFD (K tg gp dd args z1 rest acc σ):VG P env K tg (some gp) dd (.call ⟨.builtin .min,args,z1⟩) rest acc σ=VX P env K tg gp (aop env dd (zai env σ) σ.obj (.call ⟨.builtin .min,args,z1⟩)) (zbC env dd (zai env σ) (.call ⟨.builtin .min,args,z1⟩)) dd rest acc σ:=zc8 _ _ _ _ _ ⟨rfl,rfl⟩ _ _ _
theorem zFE (K tg gp dd args tys rest acc σ):VG P env K tg (some gp) dd (.call ⟨.builtin .append,args,tys⟩) rest acc σ=VX P env K tg gp (aop env dd (zai env σ) σ.obj (.call ⟨.builtin .append,args,tys⟩)) (zbC env dd (zai env σ) (.call ⟨.builtin .append,args,tys⟩)) dd rest acc σ:=zc8 _ _ _ _ _ ⟨rfl,rfl⟩ _ _ _
theorem zHR:∀ (n:Nat) (l:List AVal),jl n l=List.replicate n .junk++l:=fun _ _=>rfl
theorem zv0:∀ (t:Nat) (k:IntKind) (n:Int),zvq (.pv (.ifc t true [.int k n]))=some (.iface t (.agg #[.int k n])):=fun _ _ _=>rfl
theorem zv1:∀ (t:Nat),zvq (.pv (.ifc t true []))=some (.iface t (.agg #[])):=fun _=>rfl
theorem zs7:∀ (f:Nat) (cs:List AVal),AVal.cells (.clo f cs)=[.clo f cs]:=fun _ _=>rfl
theorem zzc:∀ (f:Nat) (cs:List AVal),AVal.isCell (.clo f cs)=true:=fun _ _=>rfl
theorem zzd:∀ (t:Nat) (ag:Bool) (cs:List PVal),zx6 .eql (some .iface) (.ifc t ag cs)=some (.bool false):=fun _ _ _=>rfl
theorem zze:∀ (t:Nat) (ag:Bool) (cs:List PVal),zx6 .neq (some .iface) (.ifc t ag cs)=some (.bool true):=fun _ _ _=>rfl
theorem zs8:∀ (sl:List AVal) (ob:List (Option AObj)) (i:Nat),zai env ⟨sl,ob⟩ (.tmp i)=sl.getD i .junk:=fun _ _ _=>rfl
theorem zs9:∀ (k:IntKind) (n:Int),zai env σ (.const (.int k n))=.pv (.int k n):=fun _ _=>rfl
theorem zrr:∀ (b:Bool),zai env σ (.const (.bool b))=.pv (.bool b):=fun _=>rfl
theorem zta:∀ (l:List UInt8),zai env σ (.const (.string ⟨l.toArray⟩))=.pv (.str l):=fun _=>rfl
theorem zrs:zai env σ (.const (.slice none 0 0))=.snil:=rfl
theorem zrt:zai env σ (.const (.pointer none))=.pv .nilptr:=rfl
theorem zru:zai env σ (.const (.map none))=.pv .nilmap:=rfl
theorem ztb:∀ (l:List Value),zai env σ (.const (.agg l.toArray))=.agg (l.map za4):=fun _=>rfl
theorem zv2:∀ (k:IntKind) (n:Int),za4 (.int k n)=.pv (.int k n):=fun _ _=>rfl
theorem ztc:∀ (b:Bool),za4 (.bool b)=.pv (.bool b):=fun _=>rfl
theorem zv3:∀ (l:List UInt8),za4 (.string ⟨l.toArray⟩)=.pv (.str l):=fun _=>rfl
theorem ztd:za4 (.slice none 0 0)=.snil:=rfl
theorem zte:za4 (.pointer none)=.pv .nilptr:=rfl
theorem ztf:za4 (.map none)=.pv .nilmap:=rfl
theorem zrv:∀ (b:Nat),zai env σ (.global b)=(match env.gl b with|some cs=>.pv (.ptr cs)|none=>.junk):=fun _=>rfl
theorem zzf:∀ (sl:List AVal) (ob:List (Option AObj)) (i:Nat),St.obj ⟨sl,ob⟩ i=ob.getD i none:=fun _ _ _=>rfl
theorem zv4:∀ (sl:List AVal) (ob:List (Option AObj)) (i:Nat),St.slot ⟨sl,ob⟩ i=sl.getD i .junk:=fun _ _ _=>rfl
theorem zv5:∀ (σ:St) (d:Nat) (v:AVal),σ.app (some d) ⟨v,[]⟩=⟨σ.slots.set d v,σ.objs⟩:=fun _ _ _=>rfl
theorem zCs:∀ (σ:St) (v:AVal),σ.app none ⟨v,[]⟩=⟨σ.slots,σ.objs⟩:=fun _ _=>rfl
theorem zzg:∀ (σ:St) (d:Nat) (v:AVal) (q:Nat × AObj) (r:List (Nat × AObj)),σ.app (some d) ⟨v,q::r⟩=(⟨σ.slots,σ.objs.set q.1 (some q.2)⟩:St).app (some d) ⟨v,r⟩:=fun _ _ _ _ _=>rfl
theorem zv6:∀ (σ:St) (v:AVal) (q:Nat × AObj) (r:List (Nat × AObj)),σ.app none ⟨v,q::r⟩=(⟨σ.slots,σ.objs.set q.1 (some q.2)⟩:St).app none ⟨v,r⟩:=fun _ _ _ _=>rfl
theorem zzh:gd σ none=some True:=rfl
theorem zzi:∀ (i:Nat) (w:Bool),gd σ (some (some (i,w)))=gw (σ.slot i) w:=fun _ _=>rfl
theorem ztg:∀ (cs:List AVal),AVal.cells (.agg cs)=cs:=fun _=>rfl
theorem zv7:∀ (p:PVal),AVal.cells (.pv p)=[.pv p]:=fun _=>rfl
theorem zrw:AVal.cells .snil=[.snil]:=rfl
theorem zth:∀ (i o:Nat),AVal.cells (.ref i o)=[.ref i o]:=fun _ _=>rfl
theorem zti:∀ (i o:Nat),AVal.cells (.row i o)=[.row i o]:=fun _ _=>rfl
theorem ztj:∀ (i:Nat),AVal.cells (.map i)=[.map i]:=fun _=>rfl
theorem zCt:∀ (p:PVal),AVal.isCell (.pv p)=true:=fun _=>rfl
theorem zv8:AVal.isCell .snil=true:=rfl
theorem zzj:∀ (i o:Nat),AVal.isCell (.ref i o)=true:=fun _ _=>rfl
theorem zzk:∀ (i o:Nat),AVal.isCell (.row i o)=true:=fun _ _=>rfl
theorem zzl:∀ (i:Nat),AVal.isCell (.map i)=true:=fun _=>rfl
theorem zv9:zfh []=some []:=rfl
theorem zzm:∀ (p:PVal) (r:List AVal),zfh (.pv p::r)=(zfh r).map (p::·):=fun p r=>by simp only [zfh,AVal.toP];cases zfh r<;>rfl
theorem ztk:∀ (r:List AVal),zfh (.snil::r)=(zfh r).map (.slice []::·):=fun r=>by simp only [zfh,AVal.toP];cases zfh r<;>rfl
theorem zwa:∀ (i o:Nat) (r:List AVal),zfh (.ref i o::r)=none:=fun _ _ r=>by simp only [zfh,AVal.toP]
theorem ztl:∀ (i o j z:Nat) (r:List AVal),zfh (.eref i o j z::r)=none:=fun _ _ _ _ r=>by simp only [zfh,AVal.toP]
theorem zrx:∀ (sz k:Nat),zgY sz k []=some []:=fun _ _=>rfl
theorem zoI:∀ (sz k i:Nat) (v:AVal) (r:List (Nat × AVal)),zgY sz k ((i,v)::r)=(if i=k∧v.cells.length=sz∧v.cells.all AVal.isCell=true then (zgY sz (k+1) r).map (v.cells++·) else none):=fun _ _ _ _ _=>rfl
theorem ztm:∀ (sz k:Nat),ziE sz k []=some []:=fun _ _=>rfl
theorem zry:∀ (sz k i:Nat) (v:AVal) (r:List (Nat × AVal)),ziE sz k ((i,v)::r)=(if i=k∧v.cells.length=sz then (match zfh v.cells,ziE sz (k+1) r with|some ps,some r=>some (ps::r)|_,_=>none) else none):=fun _ _ _ _ _=>rfl
theorem ztn:∀ (pl:Nat→Option (Nat × Nat)) (cs:List AVal),zhT pl cs []=some cs:=fun _ _=>rfl
theorem zrz:∀ (pl:Nat→Option (Nat × Nat)) (cs:List AVal) (i:Nat) (v:AVal) (r:List (Nat × AVal)),zhT pl cs ((i,v)::r)=(match pl i with|none=>none|some (off,size)=>if v.cells.length=size∧off+size≤cs.length∧v.cells.all AVal.isCell=true then zhT pl (zfk cs off v.cells) r else none):=fun _ _ _ _ _=>rfl
theorem zwb:∀ (cs:List AVal) (off:Nat) (v:List AVal),zfk cs off v=cs.take off++v++cs.drop (off+v.length):=fun _ _ _=>rfl
theorem zwc:∀ (ob:Nat→Option AObj),zcS ob .snil=some []:=fun _=>rfl
theorem zCu:∀ (ob:Nat→Option AObj) (xs:List (List PVal)),zcS ob (.pv (.slice xs))=some xs:=fun _ _=>rfl
theorem zzn:∀ (ob:Nat→Option AObj) (s:List UInt8),zcS ob (.pv (.str s))=some (s.map zvs):=fun _ _=>rfl
theorem zzo:zop .slice=true:=rfl
theorem zzp:zop .string=true:=rfl
theorem zwd:∀ (s:List UInt8),((s.map zvs).all fun y=>y.length==1)=true:=fun s=>by simp [zvs]
theorem zto:∀ (s:List UInt8),zeD (s.map zvs)=some (s.map fun c=>(c.toNat:Int)):=fun s=>by induction s with|nil=>rfl|cons c r ih=>simp only [List.map_cons,zvs,zeD] at *;rw [ih];rfl
theorem ztp:∀ (s:List UInt8),zgZ (s.map fun c=>(c.toNat:Int))=s:=fun s=>by induction s with|nil=>rfl|cons c r ih=>simp only [zgZ,List.map_cons] at *;rw [ih];simp
theorem zzq:∀ (ob:Nat→Option AObj) (id n:Nat),zcS ob (.row id n)=(match ob id with|some (.row _ xs)=>if xs.length=n then some xs else none|_=>none):=fun _ _ _=>rfl
theorem zwe:∀ (ev:Operand→AVal) (n:Nat),zcY ev none n=some (n:Int):=fun _ _=>rfl
theorem zwf:∀ (ev:Operand→AVal) (q:Operand) (n:Nat),zcY ev (some q) n=(match ev q with|.pv (.int _ i)=>some i|_=>none):=fun _ _ _=>rfl
theorem zwg:∀ (f:PVal→PVal→Option PVal) (p:PVal),zge f p []=some p:=fun _ _=>rfl
theorem ztq:∀ (f:PVal→PVal→Option PVal) (p q:PVal) (r:List AVal),zge f p (.pv q::r)=(match f p q with|some x=>zge f x r|none=>none):=fun _ _ _ _=>rfl
theorem zCv:∀ (k k2:IntKind) (x y:Int),zyE (.int k x) (.int k2 y)=some (.int k (zgV x y)):=fun _ _ _ _=>rfl
theorem zCw:∀ (k k2:IntKind) (x y:Int),zyF (.int k x) (.int k2 y)=some (.int k (zoh x y)):=fun _ _ _ _=>rfl
theorem zwh:∀ (l:List Oper),zlP l []=[]:=fun _=>rfl
theorem ztr:∀ (l:List Oper) (d:Option Nat) (op:Op) (ty:TypeId) (ps:String) (af:Array Edge) (g:Option (Nat × Bool)) (r:List Oper),zlP l (⟨d,op,ty,ps,af,g⟩::r)=⟨d,op,zyM l g⟩::zlP l r:=fun _ _ _ _ _ _ _ _=>rfl
theorem zts:∀ (l:List Oper),zyM l none=none:=fun _=>rfl
theorem ztt:∀ (l:List Oper) (j:Nat) (w:Bool),zyM l (some (j,w))=some (((l[j]?).bind (·.dst)).map fun t=>(t,w)):=fun _ _ _=>rfl
theorem zwi:zkN env σ []=some []:=rfl
theorem zwj:∀ (i:Nat) (r:List ResultVar),zkN env σ (.tmp i::r)=(zkN env σ r).map (σ.slot i::·):=fun i r=>by simp only [zkN,zhW];cases zkN env σ r<;>rfl
theorem ztu:∀ (i t:Nat) (r:List ResultVar),zkN env σ (.cell i t::r)=(match zhW env σ (.cell i t),zkN env σ r with|some v,some vs=>some (v::vs)|_,_=>none):=fun _ _ _=>rfl
theorem zrA:∀ (i t:Nat),zhW env σ (.cell i t)=(match env.ty t,σ.slot i with|some ty,.ref id off=>(match σ.obj id with|some (.cells cs)=>if off+ty.size≤cs.length∧0<ty.size then some (if ty.agg then .agg ((cs.drop off).take ty.size) else cs.getD off .junk) else none|_=>none)|_,_=>none):=fun _ _=>rfl
theorem zwk:∀ (v:AVal),zoy [v]=v:=fun _=>rfl
theorem zwl:zoy []=.tup []:=rfl
theorem zwm:∀ (a b:AVal) (r:List AVal),zoy (a::b::r)=.tup (a::b::r):=fun _ _ _=>rfl
theorem zwn:∀ (cs:List AVal),zvp (.agg cs)=(zfh cs).map fun ps=>(true,ps):=fun _=>rfl
theorem zwo:∀ (i:Nat),zfj (.tmp i)=false:=fun _=>rfl
theorem zwp:∀ (k:IntKind) (n:Int),zfj (.const (.int k n))=false:=fun _ _=>rfl
theorem ztv:∀ (b:Bool),zfj (.const (.bool b))=false:=fun _=>rfl
theorem zwq:∀ (s:ByteArray),zfj (.const (.string s))=false:=fun _=>rfl
theorem zwr:zfj (.const .nilIface)=true:=rfl
theorem zzr:∀ (b:Bool),zx6 .eql (some .iface) (.err b)=some (.bool b):=fun _=>rfl
theorem zzs:∀ (b:Bool),zx6 .neq (some .iface) (.err b)=some (.bool (!b)):=fun _=>rfl
theorem zrB:zai env σ (.const .nilIface)=.pv (.err true):=rfl
theorem ztw:za4 .nilIface=.pv (.err true):=rfl
theorem zws:zeD []=some []:=rfl
theorem ztx:∀ (n:Int) (r:List (List PVal)),zeD ([.int .u8 n]::r)=(zeD r).map (n::·):=fun _ _=>rfl
theorem zCx:∀ (l:List PVal),zgs (true,l)=.agg (l.map .pv):=fun _=>rfl
theorem zCy:∀ (l:List PVal),zgs (false,l)=.pv (l.getD 0 .nilptr):=fun _=>rfl
theorem zzt:∀ (p:PVal),zvp (.pv p)=some (false,[p]):=fun _=>rfl
theorem zwt:zog [] [] []=some true:=rfl
theorem zty:∀ (k:Kd) (ks:List Kd) (c d:AVal) (cs ds:List AVal),zog (k::ks) (c::cs) (d::ds)=(match zx5 k c d,zog ks cs ds with|some a,some b=>some (a&&b)|_,_=>none):=fun _ _ _ _ _ _=>rfl
theorem zwu:∀ (k:IntKind) (a b:Int),zx5 (.int k) (.pv (.int k a)) (.pv (.int k b))=some (a==b):=fun _ _ _=>by simp [zx5]
theorem ztz:∀ (a b:Bool),zx5 .bool (.pv (.bool a)) (.pv (.bool b))=some (a==b):=fun _ _=>rfl
theorem zwv:∀ (a b:List UInt8),zx5 .string (.pv (.str a)) (.pv (.str b))=some (a==b):=fun _ _=>rfl
theorem zzu:∀ (ks:List Kd) (cs ds:List AVal),zBb .eql (some ks) cs ds=zog ks cs ds:=fun _ _ _=>rfl
theorem zzv:∀ (ks:List Kd) (cs ds:List AVal),zBb .neq (some ks) cs ds=(zog ks cs ds).map (!·):=fun _ _ _=>rfl
theorem zCz:∀ (s:Nat) (xs:List (List PVal)),exSl s xs=zBp (s==999) xs:=fun _ _=>rfl
theorem zCA:∀ (x:List PVal) (r:List (List PVal)),zBp true (x::r)=.xsl (x::r):=fun _ _=>rfl
theorem zCB:∀ (xs:List (List PVal)),zBp false xs=.slice xs:=fun xs=>rfl
theorem zCC:∀ (b:Bool),zBp b []=.slice []:=fun b=>by cases b<;>rfl
theorem zCD:∀ (d:Nat) (f:Nat→Nat),(some d).elim 0 f=f d:=fun _ _=>rfl
theorem zCE:∀ (f:Nat→Nat),(none:Option Nat).elim 0 f=0:=fun _=>rfl
theorem zCF:∀ (kd:Option Kd) (k:IntKind) (a b:Int),zgy .add kd (.int k a) (.int k b)=some (.int k (k.wrap (a+b))):=fun _ _ _ _=>by simp [zgy]
theorem zCG:∀ (kd:Option Kd) (k:IntKind) (a b:Int),zgy .sub kd (.int k a) (.int k b)=some (.int k (k.wrap (a - b))):=fun _ _ _ _=>by simp [zgy]
theorem zCH:∀ (kd:Option Kd) (k:IntKind) (a b:Int),zgy .mul kd (.int k a) (.int k b)=some (.int k (k.wrap (a * b))):=fun _ _ _ _=>by simp [zgy]
theorem zCI:∀ (kd:Option Kd) (k:IntKind) (a b:Int),zgy .quo kd (.int k a) (.int k b)=if b=0 then none else some (.int k (k.wrap (a.tdiv b))):=fun _ _ _ _=>by simp [zgy]
theorem zCJ:∀ (kd:Option Kd) (k:IntKind) (a b:Int),zgy .rem kd (.int k a) (.int k b)=if b=0 then none else some (.int k (a.tmod b)):=fun _ _ _ _=>by simp [zgy]
theorem zCK:∀ (kd:Option Kd) (k:IntKind) (a b:Int),zgy .eql kd (.int k a) (.int k b)=some (.bool (a==b)):=fun _ _ _ _=>by simp [zgy]
theorem zCL:∀ (kd:Option Kd) (k:IntKind) (a b:Int),zgy .neq kd (.int k a) (.int k b)=some (.bool (a != b)):=fun _ _ _ _=>by simp [zgy]
theorem zCM:∀ (kd:Option Kd) (k:IntKind) (a b:Int),zgy .lss kd (.int k a) (.int k b)=some (.bool (decide (a<b))):=fun _ _ _ _=>by simp [zgy]
theorem zCN:∀ (kd:Option Kd) (k:IntKind) (a b:Int),zgy .leq kd (.int k a) (.int k b)=some (.bool (decide (a≤b))):=fun _ _ _ _=>by simp [zgy]
theorem zzw:∀ (kd:Option Kd) (k:IntKind) (a b:Int),zgy .gtr kd (.int k a) (.int k b)=some (.bool (decide (a > b))):=fun _ _ _ _=>by simp [zgy]
theorem zzx:∀ (kd:Option Kd) (k:IntKind) (a b:Int),zgy .geq kd (.int k a) (.int k b)=some (.bool (decide (a≥b))):=fun _ _ _ _=>by simp [zgy]
theorem zzy:∀ (kd:Option Kd) (a b:List UInt8),zgy .eql kd (.str a) (.str b)=some (.bool (a==b)):=fun _ _ _=>rfl
theorem zzz:∀ (kd:Option Kd) (a b:List UInt8),zgy .neq kd (.str a) (.str b)=some (.bool (!(a==b))):=fun _ _ _=>rfl
theorem zzA:∀ (kd:Option Kd) (a b:List UInt8),zgy .add kd (.str a) (.str b)=if a.length+b.length≤4611686018427387904 then some (.str (a++b)) else none:=fun _ _ _=>rfl
theorem zzB:∀ (a b:Bool),zgy .eql (some .bool) (.bool a) (.bool b)=some (.bool (a==b)):=fun _ _=>rfl
theorem zzC:∀ (a b:Bool),zgy .neq (some .bool) (.bool a) (.bool b)=some (.bool (!(a==b))):=fun _ _=>rfl
theorem zIm:∀ {α:Type} (a0:α) (l:List α) (x:α),(a0::l).getD 0 x=a0:=fun _ _ _=>rfl
theorem zIn:∀ {α:Type} (a0:α) (l:List α) (x:α),(a0::l).set 0 x=x::l:=fun _ _ _=>rfl
theorem zIo:∀ {α:Type} (a0 a1:α) (l:List α) (x:α),(a0::a1::l).getD 1 x=a1:=fun _ _ _ _=>rfl
theorem zIp:∀ {α:Type} (a0 a1:α) (l:List α) (x:α),(a0::a1::l).set 1 x=a0::x::l:=fun _ _ _ _=>rfl
theorem zIq:∀ {α:Type} (a0 a1 a2:α) (l:List α) (x:α),(a0::a1::a2::l).getD 2 x=a2:=fun _ _ _ _ _=>rfl
theorem zIr:∀ {α:Type} (a0 a1 a2:α) (l:List α) (x:α),(a0::a1::a2::l).set 2 x=a0::a1::x::l:=fun _ _ _ _ _=>rfl
theorem zIs:∀ {α:Type} (a0 a1 a2 a3:α) (l:List α) (x:α),(a0::a1::a2::a3::l).getD 3 x=a3:=fun _ _ _ _ _ _=>rfl
theorem zIt:∀ {α:Type} (a0 a1 a2 a3:α) (l:List α) (x:α),(a0::a1::a2::a3::l).set 3 x=a0::a1::a2::x::l:=fun _ _ _ _ _ _=>rfl
theorem zIu:∀ {α:Type} (a0 a1 a2 a3 a4:α) (l:List α) (x:α),(a0::a1::a2::a3::a4::l).getD 4 x=a4:=fun _ _ _ _ _ _ _=>rfl
theorem zIv:∀ {α:Type} (a0 a1 a2 a3 a4:α) (l:List α) (x:α),(a0::a1::a2::a3::a4::l).set 4 x=a0::a1::a2::a3::x::l:=fun _ _ _ _ _ _ _=>rfl
theorem zIw:∀ {α:Type} (a0 a1 a2 a3 a4 a5:α) (l:List α) (x:α),(a0::a1::a2::a3::a4::a5::l).getD 5 x=a5:=fun _ _ _ _ _ _ _ _=>rfl
theorem zIx:∀ {α:Type} (a0 a1 a2 a3 a4 a5:α) (l:List α) (x:α),(a0::a1::a2::a3::a4::a5::l).set 5 x=a0::a1::a2::a3::a4::x::l:=fun _ _ _ _ _ _ _ _=>rfl
theorem zIy:∀ {α:Type} (a0 a1 a2 a3 a4 a5 a6:α) (l:List α) (x:α),(a0::a1::a2::a3::a4::a5::a6::l).getD 6 x=a6:=fun _ _ _ _ _ _ _ _ _=>rfl
theorem zIz:∀ {α:Type} (a0 a1 a2 a3 a4 a5 a6:α) (l:List α) (x:α),(a0::a1::a2::a3::a4::a5::a6::l).set 6 x=a0::a1::a2::a3::a4::a5::x::l:=fun _ _ _ _ _ _ _ _ _=>rfl
theorem zIA:∀ {α:Type} (a0 a1 a2 a3 a4 a5 a6 a7:α) (l:List α) (x:α),(a0::a1::a2::a3::a4::a5::a6::a7::l).getD 7 x=a7:=fun _ _ _ _ _ _ _ _ _ _=>rfl
theorem zIB:∀ {α:Type} (a0 a1 a2 a3 a4 a5 a6 a7:α) (l:List α) (x:α),(a0::a1::a2::a3::a4::a5::a6::a7::l).set 7 x=a0::a1::a2::a3::a4::a5::a6::x::l:=fun _ _ _ _ _ _ _ _ _ _=>rfl
theorem zIC:∀ {α:Type} (a0 a1 a2 a3 a4 a5 a6 a7:α) (l:List α) (n:Nat) (x:α),(a0::a1::a2::a3::a4::a5::a6::a7::l).getD (n+8) x=l.getD n x:=fun _ _ _ _ _ _ _ _ _ _ _=>rfl
theorem zID:∀ {α:Type} (a0 a1 a2 a3 a4 a5 a6 a7:α) (l:List α) (n:Nat) (x:α),(a0::a1::a2::a3::a4::a5::a6::a7::l).set (n+8) x=a0::a1::a2::a3::a4::a5::a6::a7::l.set n x:=fun _ _ _ _ _ _ _ _ _ _ _=>rfl
def zIE:=And.intro @zE3<|And.intro @zE4<|And.intro @zE5<|And.intro @zE6<|And.intro @zE7<|And.intro @zE8<|And.intro @zE9<|And.intro @zFa<|And.intro @zFb<|@zBO
def zIF:=And.intro @zBP<|And.intro @zBQ<|And.intro @zBR<|And.intro @zBS<|And.intro @zBT<|And.intro @zBU<|And.intro @zBV<|And.intro @zBW<|And.intro @zBX<|@zBY
def zIG:=And.intro @zBZ<|And.intro @zB0<|And.intro @zB1<|And.intro @zB2<|And.intro @zB3<|And.intro @zB4<|And.intro @zB5<|And.intro @zB6<|And.intro @zB7<|@zFc
def zIH:=And.intro @zFd<|And.intro @zFe<|And.intro @zFf<|And.intro @zFg<|And.intro @zFh<|And.intro @zFi<|And.intro @zFj<|And.intro @zFk<|And.intro @zB8<|@zB9
def zII:=And.intro @zCa<|And.intro @zCb<|And.intro @zCc<|And.intro @zCd<|And.intro @zCe<|And.intro @zCf<|And.intro @zCg<|And.intro @zCh<|And.intro @zCi<|@zCj
def zIJ:=And.intro @zCk<|And.intro @zCl<|And.intro @zCm<|And.intro @zCn<|And.intro @zCo<|And.intro @zCp<|And.intro @zCq<|@zCr
def zIK:=And.intro @zId<|And.intro @zIe<|And.intro @zIf<|And.intro @zIg<|And.intro @zIh<|And.intro @zIi<|And.intro @zIj<|And.intro @zIk<|And.intro @zIl<|@zFl
def zIL:=And.intro @zFm<|And.intro @zFn<|And.intro @zFo<|And.intro @zFp<|And.intro @zFq<|And.intro @zFr<|And.intro @zFs<|And.intro @zFt<|And.intro @zFu<|@zFv
def zIM:=And.intro @zFw<|And.intro @zFx<|And.intro @zFy<|And.intro @zFz<|And.intro @zFA<|And.intro @zFB<|And.intro @zFC<|And.intro @zFD<|@zFE
def zIN:=And.intro @zHR<|And.intro @zv0<|And.intro @zv1<|And.intro @zs7<|And.intro @zzc<|And.intro @zzd<|And.intro @zze<|And.intro @zs8<|And.intro @zs9<|@zrr
def zIO:=And.intro @zta<|And.intro @zrs<|And.intro @zrt<|And.intro @zru<|And.intro @ztb<|And.intro @zv2<|And.intro @ztc<|And.intro @zv3<|And.intro @ztd<|@zte
def zIP:=And.intro @ztf<|And.intro @zrv<|And.intro @zzf<|And.intro @zv4<|And.intro @zv5<|And.intro @zCs<|And.intro @zzg<|And.intro @zv6<|And.intro @zzh<|@zzi
def zIQ:=And.intro @ztg<|And.intro @zv7<|And.intro @zrw<|And.intro @zth<|And.intro @zti<|And.intro @ztj<|And.intro @zCt<|And.intro @zv8<|And.intro @zzj<|@zzk
def zIR:=And.intro @zzl<|And.intro @zv9<|And.intro @zzm<|And.intro @ztk<|And.intro @zwa<|And.intro @ztl<|And.intro @zrx<|And.intro @zoI<|And.intro @ztm<|@zry
def zIS:=And.intro @ztn<|And.intro @zrz<|And.intro @zwb<|And.intro @zwc<|And.intro @zCu<|And.intro @zzn<|And.intro @zzo<|And.intro @zzp<|And.intro @zwd<|@zto
def zIT:=And.intro @ztp<|And.intro @zzq<|And.intro @zwe<|And.intro @zwf<|And.intro @zwg<|And.intro @ztq<|And.intro @zCv<|And.intro @zCw<|And.intro @zwh<|@ztr
def zIU:=And.intro @zts<|And.intro @ztt<|And.intro @zwi<|And.intro @zwj<|And.intro @ztu<|And.intro @zrA<|And.intro @zwk<|And.intro @zwl<|And.intro @zwm<|@zwn
def zIV:=And.intro @zwo<|And.intro @zwp<|And.intro @ztv<|And.intro @zwq<|And.intro @zwr<|And.intro @zzr<|And.intro @zzs<|And.intro @zrB<|And.intro @ztw<|@zws
def zIW:=And.intro @ztx<|And.intro @zCx<|And.intro @zCy<|And.intro @zzt<|And.intro @zwt<|And.intro @zty<|And.intro @zwu<|And.intro @ztz<|And.intro @zwv<|@zzu
def zFF:=And.intro @zzv<|And.intro @zCz<|And.intro @zCA<|And.intro @zCB<|And.intro @zCC<|And.intro @zCD<|And.intro @zCE<|And.intro @zCF<|And.intro @zCG<|@zCH
def zFG:=And.intro @zCI<|And.intro @zCJ<|And.intro @zCK<|And.intro @zCL<|And.intro @zCM<|And.intro @zCN<|And.intro @zzw<|And.intro @zzx<|And.intro @zzy<|@zzz
def zFH:=And.intro @zzA<|And.intro @zzB<|And.intro @zzC<|And.intro @zIm<|And.intro @zIn<|And.intro @zIo<|And.intro @zIp<|And.intro @zIq<|And.intro @zIr<|@zIs
def zFI:=And.intro @zIt<|And.intro @zIu<|And.intro @zIv<|And.intro @zIw<|And.intro @zIx<|And.intro @zIy<|And.intro @zIz<|And.intro @zIA<|And.intro @zIB<|@zIC
def zFJ:=@zID
def zIX:=And.intro @List.map_cons.{0,0}<|And.intro @List.map_nil.{0,0}<|And.intro @List.all_cons.{0}<|And.intro @List.all_nil.{0}<|And.intro @List.take_succ_cons.{0}<|And.intro @List.take_zero.{0}<|And.intro @List.drop_succ_cons.{0}<|And.intro @List.drop_zero.{0}<|And.intro @List.length_cons.{0}<|@List.length_nil.{0}
def zIY:=And.intro @List.length_map.{0,0}<|And.intro @List.nil_append.{0}<|And.intro @List.cons_append.{0}<|And.intro @List.append_nil.{0}<|And.intro @List.getElem?_cons_zero.{0}<|And.intro @List.getElem?_cons_succ.{0}<|And.intro @List.size_toArray.{0}<|And.intro @List.toList_toArray.{0}<|And.intro @Option.bind_some.{0,0}<|@Option.map_some.{0,0}
def zIZ:=And.intro @Option.map_none.{0,0}<|And.intro @Option.getD_some.{0}<|And.intro @Bool.and_self<|And.intro @Bool.and_true<|And.intro @Bool.true_and<|And.intro @Bool.not_true<|And.intro @Bool.not_false<|And.intro @Int.toNat_natCast<|And.intro @Nat.zero_add<|@Nat.add_zero
def zI0:=And.intro @Nat.zero_mul<|And.intro @Nat.one_mul<|And.intro @zEY<|And.intro @Int.cast_ofNat_Int<|And.intro @beq_true<|And.intro @beq_false<|And.intro and_self<|And.intro and_true<|And.intro true_and<|true_or
def zI1:=And.intro or_true<|And.intro @if_true.{1}<|And.intro @if_false.{1}<|And.intro @ite_self.{1}<|And.intro Bool.false_eq_true<|And.intro @eq_self.{1}<|And.intro @beq_self_eq_true.{0}<|And.intro Nat.lt_irrefl<|And.intro @ne_eq.{1}<|not_true_eq_false
def zI2:=And.intro not_false_eq_true<|And.intro @decide_true<|And.intro @decide_false<|And.intro Nat.succ_ne_self<|And.intro Int.natCast_nonneg<|And.intro @implies_true.{1}<|And.intro @true_implies<|And.intro @zyN<|And.intro @zvE<|@List.replicate_zero.{0}
def zI3:=And.intro @List.replicate_succ.{0}<|And.intro @Bool.true_eq_false<|And.intro @PVal.int.injEq<|And.intro @PVal.bool.injEq<|And.intro @PVal.str.injEq<|@PVal.slice.injEq
def kx:=And.intro @zIE<|And.intro @zIF<|And.intro @zIG<|And.intro @zIH<|And.intro @zII<|And.intro @zIJ<|And.intro @zIK<|And.intro @zIL<|And.intro @zIM<|And.intro @zIN<|And.intro @zIO<|And.intro @zIP<|And.intro @zIQ<|And.intro @zIR<|And.intro @zIS<|And.intro @zIT<|And.intro @zIU<|And.intro @zIV<|And.intro @zIW<|And.intro @zFF<|And.intro @zFG<|And.intro @zFH<|And.intro @zFI<|And.intro @zFJ<|And.intro @zIX<|And.intro @zIY<|And.intro @zIZ<|And.intro @zI0<|And.intro @zI1<|And.intro @zI2<|And.intro @zI3<|And.intro @kw1<|And.intro @kw2<|And.intro @kw5<|@kw6
def ky:=And.intro @kw3<|@kw4
end Go.Abs
namespace Go.Abs
open Go
variable {P:Program} {env:Env} {pin:Nat} {σ:St} {Q:Exit→St→Prop}
section
variable {K:KT} {t:Tg K} {p:Prop} {f:FuncId} {vals cargs:List AVal} {res:AVal} {d:Option Nat} {rest:List COp} {acc:Option Tr}
theorem Ctr.pure (hent:∀ vargs w,(callFunc f vargs).run P w=.ok (.enter f vargs) w) (hac:AC P env.gl f cargs [] res []) (hs:zvD vals cargs) (hsc:zaD (zaq []) vals=true) (hres:zaB (zaq []) res=true)
  {K':List Nat→Eff→Prop} {KP:Value→St→Prop} (h:K' [] ⟨res,[]⟩):Ctr P env f vals σ K' KP:=by
 refine .inl ⟨vals,[],[],[],res,[],hac.sub hs,fun o ho=>CallFits.pure ho hent (by rw [zft _ _ hsc]) hsc,?_⟩
 rw [zpP _ _ hres]
 exact h
theorem CK.cp (hent:∀ vargs w,(callFunc f vargs).run P w=.ok (.enter f vargs) w) (hac:p→AC P env.gl f vals [] res []) (hsc:zaD (zaq []) vals=true) (hres:zaB (zaq []) res=true)
  (h:VL P env K t rest (zbL acc ([],[])) (σ.app d ⟨cw p res,[]⟩)):CK P env K t p f vals d rest acc σ:=
 ⟨fun hp=>Ctr.pure hent (hac hp) (zjz _) hsc hres (by rw [zjC hp] at h;exact h),fun hp=>by rw [zpT hp] at h;exact h⟩
theorem CK.split (h1:p→CK P env K t True f vals d rest acc σ) (h2:¬ p→VL P env K t rest (zbL acc ([],[])) (σ.app d ⟨.tup [],[]⟩)):CK P env K t p f vals d rest acc σ:=
 ⟨fun hp=>(h1 hp).1 trivial,h2⟩
theorem CK.co {A:List AVal} {O vobjs:List (Option AObj)} {objs':List (Option AObj)} (ids news:List Nat) (hent:∀ vargs w,(callFunc f vargs).run P w=.ok (.enter f vargs) w)
  (hac:AC P env.gl f A vobjs res objs') (hobjs:ids.map σ.obj=O)
  (hA:ze9 (tau (ids++news)) A=vals) (hO:ziI (tau (ids++news)) vobjs=O) (hsA:zaD (zaq vobjs) A=true) (hsO:zro (zaq vobjs) vobjs=true)
  (hn:((ids++news).Nodup∧∀ id ∈ ids++news,id<env.nobj)) (hf:zfu σ news=true) (hl:objs'.length≤(ids++news).length)
  (h:VL P env K t rest (zbL acc (ids++news,(zaT (tau (ids++news)) (ids++news) 0 objs').map Prod.fst)) (σ.app d ⟨ren (tau (ids++news)) res,zaT (tau (ids++news)) (ids++news) 0 objs'⟩)):CK P env K t True f vals d rest acc σ:=
 ⟨fun _=>.inl ⟨A,vobjs,ids,news,res,objs',hac,fun _ ho=>zBx ids news ho hent hobjs hA hO hsA hsO hn hf hl,h⟩,fun h=>(h trivial).elim⟩
theorem CK.po {A:List AVal} {O vobjs:List (Option AObj)} {objs':List (Option AObj)} {x:Value} (ids news:List Nat) (hent:∀ vargs w,(callFunc f vargs).run P w=.ok (.enter f vargs) w)
  (hac:AP P env.gl f A vobjs x objs') (hobjs:ids.map σ.obj=O)
  (hA:ze9 (tau (ids++news)) A=vals) (hO:ziI (tau (ids++news)) vobjs=O) (hsA:zaD (zaq vobjs) A=true) (hsO:zro (zaq vobjs) vobjs=true)
  (hn:((ids++news).Nodup∧∀ id ∈ ids++news,id<env.nobj)) (hf:zfu σ news=true) (hl:objs'.length≤(ids++news).length)
  (h:K acc (some x) ⟨σ.slots,zaN σ.objs (zaT (tau (ids++news)) (ids++news) 0 objs')⟩):CK P env K t True f vals d rest acc σ:=
 ⟨fun _=>.inr ⟨A,vobjs,ids,news,x,objs',hac,fun _ ho=>zBx ids news ho hent hobjs hA hO hsA hsO hn hf hl,h⟩,fun h=>(h trivial).elim⟩
end
theorem zaP (k:Nat) (h:k<9223372036854775807):IntKind.i64.wrap ((k:Int)+1)=((k+1:Nat):Int):=by rw [zay _ (by omega) (by omega)];rfl
theorem zFK {α:Type} (f:α→List PVal) (l:List α) (k:Nat) (d:α) (h:k<l.length):(l.map f).getD k []=f (l.getD k d):=by simp [List.getD,h]
theorem zCO (ι:Nat→Nat) (i o:Nat):ren ι (.ref i o)=.ref (ι i) o:=by simp [ren]
theorem zCP (ι:Nat→Nat) (i o:Nat):ren ι (.row i o)=.row (ι i) o:=by simp [ren]
theorem zCQ (ι:Nat→Nat) (i:Nat):ren ι (.map i)=.map (ι i):=by simp [ren]
theorem zCR (ι:Nat→Nat) (p:PVal):ren ι (.pv p)=.pv p:=by simp [ren]
theorem zCS (ι:Nat→Nat):ren ι .snil=.snil:=by simp [ren]
theorem zCT (ι:Nat→Nat) (l:List AVal):ren ι (.agg l)=.agg (ze9 ι l):=by simp [ren]
theorem zCU (ι:Nat→Nat) (l:List AVal):ren ι (.tup l)=.tup (ze9 ι l):=by simp [ren]
theorem zCV (ι:Nat→Nat):ren ι .junk=.junk:=by simp [ren]
theorem zCW (ι:Nat→Nat) (f:Nat) (l:List AVal):ren ι (.clo f l)=.clo f (ze9 ι l):=by simp [ren]
theorem zCX (ι:Nat→Nat) (i n z:Nat):ren ι (.csl i n z)=.csl (ι i) n z:=by simp [ren]
theorem zzD (ι:Nat→Nat):ze9 ι []=[]:=by simp [ze9]
theorem zzE (ι:Nat→Nat) (a:AVal) (r:List AVal):ze9 ι (a::r)=ren ι a::ze9 ι r:=by simp [ze9]
theorem ztA (ι:Nat→Nat) (l:List AVal):zgW ι (.cells l)=.cells (ze9 ι l):=rfl
theorem ztB (ι:Nat→Nat) (sz:Nat) (xs:List (List PVal)):zgW ι (.row sz xs)=.row sz xs:=rfl
theorem ztC (ι:Nat→Nat) (kd:Kd) (es:List (PVal × Bool × List PVal)):zgW ι (.map kd es)=.map kd es:=rfl
theorem zzF (ι:Nat→Nat):zgW ι .dead=.dead:=rfl
theorem zzG (ι:Nat→Nat) (T e B n:Nat):zgW ι (.bh T e B n)=.bh T e (ι B) n:=rfl
theorem zzH (ι:Nat→Nat) (e:Nat) (s:List UInt8):zgW ι (.bb e s)=.bb e s:=rfl
theorem zFL (ι:Nat→Nat) (k:Nat) (o:List (Option AObj)):zaT ι [] k o=[]:=rfl
theorem zFM (ι:Nat→Nat) (i:Nat) (l:List Nat) (k:Nat) (o:List (Option AObj)):zaT ι (i::l) k o=(i,zgW ι ((o.getD k none).getD .dead))::zaT ι l (k+1) o:=rfl
theorem zww (o:List (Option AObj)):zaN o []=o:=rfl
theorem zwx (o:List (Option AObj)) (q:Nat × AObj) (r:List (Nat × AObj)):zaN o (q::r)=zaN (o.set q.1 (some q.2)) r:=rfl
theorem zFN (l:List Nat) (k:Nat):tau l k=l.getD k 0:=rfl
def kz1:=And.intro @zCX<|And.intro @zCO<|And.intro @zCP<|And.intro @zCQ<|And.intro @zCR<|And.intro @zCS<|And.intro @zCT<|And.intro @zCU<|And.intro @zCV<|And.intro @zCW<|And.intro @zzD<|@zzE
def kz2:=And.intro @zzG<|And.intro @zzH<|And.intro @ztA<|And.intro @ztB<|And.intro @ztC<|And.intro @zzF<|And.intro @zFL<|And.intro @zFM<|And.intro @zww<|And.intro @zwx<|@zFN
def kz:=And.intro @kz1 @kz2
def zzI (env:Env) (pin:Nat) (Q:Exit→St→Prop):Exit→St→Prop:=fun e σ=>∃ σ',zaY env pin σ σ'∧Q e σ'
theorem SW.weakEnd {c:Code} (h:SW P env pin c σ (zzI env pin Q)):SW P env pin c σ Q:=fun hl E g M a w hR hG=>
 wp_mono (h hl E g M a w hR hG) fun e a' w' ⟨σ',g',M',⟨σ'',hw,hq⟩,hR',hM,hA,hl'⟩=>by
  obtain ⟨hl2,hw2⟩:=hw hl'
  obtain ⟨g2,M2,hR2,hM2,hA2⟩:=hw2 _ _ _ _ _ hR'
  exact ⟨σ'',g2,M2,hq,hR2,Mem.le_trans hM hM2,hA.trans hA2,hl2⟩
def NX {ι:Type} (env:Env) (pin:Nat) (I:ι→St) (μ:ι→Nat) (t:Tg (I,μ)) (m:Nat) (σ:St):Prop:=∃ j,zaY env pin σ (I j)∧μ j<m
theorem LW.loop {ι:Type} {c:Code} {t:Tg (Code.loop c,Q)} (hE:za1 P env) (hm:P.follows .mixedOrders=true) (I:ι→St) (μ:ι→Nat) (i0:ι) (h0:zaY env pin σ (I i0))
  (round:∀ i,VC P env pin c (I i) (zg5 (NX env pin I μ .mk (μ i)) Q)):LW P env pin (.loop c) σ Q t:=
 SW.loop I μ i0 h0 fun i=>VC.to hE hm c (round i)
theorem LW.weak {c:Code} {σ':St} {t:Tg (c,Q)} (hw:zaY env pin σ σ') (h:LW P env pin c σ' Q .mk):LW P env pin c σ Q t:=SW.weak hw h
end Go.Abs
namespace Go.Abs
open Go
variable {P:Program} {env:Env} {pin:Nat} {σ:St} {Q:Exit→St→Prop}
variable {K:KT} {t:Tg K} {p:Prop} {f:FuncId} {vals cargs:List AVal} {res:AVal} {d:Option Nat} {rest:List COp} {acc:Option Tr}
theorem CK.cpo {A:List AVal} {O vobjs:List (Option AObj)} (ids:List Nat) (hent:∀ vargs w,(callFunc f vargs).run P w=.ok (.enter f vargs) w)
  (hac:p→AC P env.gl f A vobjs res vobjs) (hobjs:ids.map σ.obj=O)
  (hA:ze9 (tau ids) A=vals) (hO:ziI (tau ids) vobjs=O) (hsA:zaD (zaq vobjs) A=true) (hsO:zro (zaq vobjs) vobjs=true)
  (hn:(ids.Nodup∧∀ id ∈ ids,id<env.nobj)) (hl:vobjs.length≤ids.length) (hr:ren (tau ids) res=res) (hs:(zaT (tau ids) ids 0 vobjs).foldl (fun l q=>l.set q.1 (some q.2)) σ.objs=σ.objs)
  (h:VL P env K t rest none (σ.app d ⟨cw p res,[]⟩)):CK P env K t p f vals d rest none σ:=by
 by_cases hp:p
 ·rw [zjC hp] at h
  refine CK.split (fun _=>?_) (fun hq=>absurd hp hq)
  refine CK.co ids [] hent (hac hp) hobjs (by simpa using hA) (by simpa using hO) hsA hsO (by simpa using hn) (by simp [zfu]) (by simpa using hl) ?_
  simp only [List.append_nil,zbL,Option.map_none,hr]
  have e:σ.app d ⟨res,zaT (tau ids) ids 0 vobjs⟩=σ.app d ⟨res,[]⟩:=by
   unfold St.app
   congr 1
  rw [e]
  exact h
 ·rw [zpT hp] at h
  exact CK.split (fun hq=>absurd hq hp) (fun _=>h)
end Go.Abs
namespace Go.Abs
open Go
variable {P:Program} {env:Env} {pin:Nat} {σ:St} {Q:Exit→St→Prop}
def AD (P:Program) (gl:Nat→Option (List PVal)) (f:FuncId) (args:List AVal) (objs:List (Option AObj)) (u u':FrameMode) (objs':List (Option AObj)):Prop:=
 ∀ (w:World) (M:Mem) (g:Gh) (vargs:List Value),Rel ⟨w,M,zaU g objs,[]⟩ ⟨args,objs⟩ g M ⟨vargs.toArray,[]⟩ w→zkE ⟨fun _=>none,gl,fun _=>0,0⟩ ⟨w,M,zaU g objs,[]⟩ M →
  CallsD P f vargs.toArray u w fun e u2 w'=>∃ v g' M',e=.returned v∧u2=u'∧Rel ⟨w,M,zaU g objs,[]⟩ ⟨[.junk],objs'⟩ g' M' ⟨#[v],[]⟩ w'∧∀ id,zaq objs id=true→g.agree g' id
inductive Rec':FrameMode→AVal→FrameMode→Prop
 |idle:Rec' .returning (.pv (.err true)) .returning
 |found (x:Value) (rv:AVal) (h:zvq rv=some x):Rec' (.panicking (zkM x)) rv (.panicking [{ v:=x,recovered:=true }])
theorem zpX {p:PVal} {v:Value} {M:Mem} (h:zrp p=some v):Rd M p v:=by
 unfold zrp at h
 split at h<;>cases h<;>constructor
theorem zna {M:Mem}:∀ {cs:List PVal} {vs:List Value},zk6 cs=some vs→vs.length=cs.length∧∀ i,i<cs.length→Rd M (cs.getD i .nilptr) (vs.getD i undef)
 |[],vs,h=>by cases h;exact ⟨rfl,fun i hi=>by simp at hi⟩
 |c::r,vs,h=>by
  unfold zk6 at h
  split at h
  ·rename_i v ws h1 h2
   cases h
   obtain ⟨h3,h4⟩:=zna (M:=M) h2
   refine ⟨by simp [h3],fun i hi=>?_⟩
   cases i with
   |zero=>exact zpX h1
   |succ i=>exact h4 i (by simpa using hi)
  ·cases h
theorem zCY {rv:AVal} {x:Value} (h:zvq rv=some x) (g:Gh) (D:Nat→Prop) (M:Mem):V g D M rv x:=by
 unfold zvq at h
 split at h
 ·split at h
  ·rename_i t cs vs hs
   cases h
   obtain ⟨h1,h2⟩:=zna (M:=M) hs
   exact .pv (.ifca _ _ vs h1 h2)
  ·cases h
 ·split at h
  ·rename_i t c v hs
   cases h
   exact .pv (.ifco _ _ _ (zpX hs))
  ·cases h
 ·cases h
theorem Rel.enter {E:Ent} {args:List AVal} {objs:List (Option AObj)} {g:Gh} {M:Mem} {vargs:List Value} {w:World} (hR:Rel E ⟨args,objs⟩ g M ⟨vargs.toArray,[]⟩ w) (m nobj:Nat) :
  Rel E ⟨args++List.replicate m .junk,objs++List.replicate (nobj - objs.length) none⟩ g M ⟨vargs.toArray++Array.replicate m undef,[]⟩ w:=by
 have hla:vargs.length=args.length:=by simpa using hR.size
 have hobj:∀ id,St.obj ⟨args++List.replicate m .junk,objs++List.replicate (nobj - objs.length) none⟩ id=St.obj ⟨args,objs⟩ id:=fun id=>by
  simp only [St.obj,List.getD]
  by_cases hid:id<objs.length
  ·rw [List.getElem?_append_left hid]
  ·rw [List.getElem?_append_right (by omega),List.getElem?_eq_none (by omega:objs.length≤id)]
   rw [List.getElem?_replicate]
   split<;>rfl
 have hdom:St.dom ⟨args++List.replicate m .junk,objs++List.replicate (nobj - objs.length) none⟩=St.dom ⟨args,objs⟩:=by
  funext id;simp only [St.dom,hobj]
 refine ⟨by simp [hla],hR.defers,?_,?_,?_,?_,hR.sat,hR.M0,hR.Mnew,hR.size0,hR.same,?_,hR.os,hR.tape,hR.output⟩
 ·intro i hi
  rw [hdom]
  by_cases hia:i<args.length
  ·have e1:St.slot ⟨args++List.replicate m .junk,objs++List.replicate (nobj - objs.length) none⟩ i=St.slot ⟨args,objs⟩ i:=by
    simp [St.slot,List.getElem?_append_left hia]
   have e2:(vargs.toArray++Array.replicate m undef).getD i undef=vargs.toArray.getD i undef:=by
    simp only [Array.getD_eq_getD_getElem?]
    rw [Array.getElem?_append_left (by simp;omega)]
   show V g _ M _ ((vargs.toArray++Array.replicate m undef).getD i undef)
   rw [e1,e2];exact hR.slots i hia
  ·have e1:St.slot ⟨args++List.replicate m .junk,objs++List.replicate (nobj - objs.length) none⟩ i=.junk:=by
    simp only [St.slot,List.getD]
    rw [List.getElem?_append_right (by omega),List.getElem?_replicate]
    split<;>rfl
   rw [e1];exact .junk _
 ·intro id o ho;rw [hobj] at ho;rw [hdom];exact hR.objs id o ho
 ·intro id id' o o' b ho ho';rw [hobj] at ho ho';exact hR.apart id id' o o' b ho ho'
 ·intro id o b ho;rw [hobj] at ho;exact hR.offM id o b ho
 ·intro id o b ho;rw [hobj] at ho;exact hR.own0 id o b ho
theorem AD.of_body (hE:za1 P env) (hm:P.follows .mixedOrders=true) {f:FuncId} {fn:Func} {id0 t t':Nat} {ty1 ty2:TypeId} {p1 p2:String} {a1 a2:Array Edge} {tys:Array TypeId} {rest:Code} (hf:P.funcs[f]?=some fn)
  (hb:fn.body=some (.seq (.region id0 #[⟨some t,.call ⟨.builtin .recover,#[],tys⟩,ty1,p1,a1,none⟩,⟨some t',.assign (.tmp t),ty2,p2,a2,none⟩] false) rest)) {args:List AVal} {objs objs':List (Option AObj)} {u u':FrameMode} {rv:AVal}
  (hres:fn.results=#[]) (hrec:Rec' u rv u') (hargs:args.length≤fn.ntmps) (hobjs:objs.length≤env.nobj) (ht:t<fn.ntmps)
  (h:VC P env objs.length rest ((⟨args++List.replicate (fn.ntmps - args.length) .junk,objs++List.replicate (env.nobj - objs.length) none⟩:St).app (some t) ⟨rv,[]⟩ |>.app (some t') ⟨rv,[]⟩) (zax env objs.length [] (.tup []) objs')) :
  AD P env.gl f args objs u u' objs':=by
 intro w M g vargs hR hG
 have hla:vargs.length=args.length:=by simpa using hR.size
 refine callsD_of_wpS hf hb fun c₀ cs hu=>?_
 have esz:fn.ntmps - vargs.toArray.size=fn.ntmps - args.length:=by simp [hla]
 rw [esz]
 have hR0:=hR.enter (fn.ntmps - args.length) env.nobj
 obtain ⟨x,hx,hrv,hV⟩:∃ x:Value,(recoverD (c₀::cs)=some (x,{ c₀ with mode:=u' }::cs)∨(recoverD (c₀::cs)=none∧x=.nilIface∧u'=u))∧True∧∀ (g:Gh) (D:Nat→Prop) (M:Mem),V g D M rv x:=by
  cases hrec with
  |idle=>exact ⟨.nilIface,.inr ⟨by simp [recoverD,hu],rfl,rfl⟩,trivial,fun _ _ _=>.pv .errn⟩
  |found x _ hp=>exact ⟨x,.inl (by simp [recoverD,hu,zkM]),trivial,fun g D M=>zCY hp g D M⟩
 apply wpS_seq
 apply wpS_region
 have hsz:((#[⟨some t,.call ⟨.builtin .recover,#[],tys⟩,ty1,p1,a1,none⟩,⟨some t',.assign (.tmp t),ty2,p2,a2,none⟩]:Array Oper)).size=2:=rfl
 rw [hsz]
 show wpOpsS P _ _ [0,1] _ _ _
 have hmain:∀ cs',((∃ v,v=x∧cs'={ c₀ with mode:=u' }::cs))→wpOpsS P #[⟨some t,.call ⟨.builtin .recover,#[],tys⟩,ty1,p1,a1,none⟩,⟨some t',.assign (.tmp t),ty2,p2,a2,none⟩] (Exit.thenS (rest.wpS P (bodyPostS P fn c₀ cs fun e u2 w'=>∃ v g' M',e=.returned v∧u2=u'∧Rel ⟨w,M,zaU g objs,[]⟩ ⟨[.junk],objs'⟩ g' M' ⟨#[v],[]⟩ w'∧∀ id,zaq objs id=true→g.agree g' id)) (bodyPostS P fn c₀ cs fun e u2 w'=>∃ v g' M',e=.returned v∧u2=u'∧Rel ⟨w,M,zaU g objs,[]⟩ ⟨[.junk],objs'⟩ g' M' ⟨#[v],[]⟩ w'∧∀ id,zaq objs id=true→g.agree g' id)) [1]
   (Act.put { tmps:=vargs.toArray++Array.replicate (fn.ntmps - args.length) undef,defers:=[] } (some t) x) cs' w:=by
  rintro cs' ⟨v,rfl,rfl⟩
  have h1:=hR0.put (some t) (x:=rv) (hV _ _ _)
  have hev:(Act.put { tmps:=vargs.toArray++Array.replicate (fn.ntmps - args.length) undef,defers:=[] } (some t) v).eval (.tmp t)=v:=by
   have hlt:t<(vargs.toArray++Array.replicate (fn.ntmps - args.length) undef).size:=by simp;omega
   simp only [Act.put,Act.eval]
   rw [Array.getD_eq_getD_getElem?,Array.getElem?_setIfInBounds_self_of_lt hlt]
   rfl
  have h2:=h1.put (some t') (x:=rv) (hV _ _ _)
  simp only [wpOpsS,List.getElem?_toArray,List.getElem?_cons_succ,List.getElem?_cons_zero,Region.wanted,if_true,execOp,hev,Sem.run_pure,Oper.upon,Exit.thenS]
  refine wpS_of_wp ?_
  refine wp_mono (VC.to hE hm rest h (by simp [St.app];omega) _ g M _ w h2 hG) fun e a' w' ⟨σ',g',M',hq,hR',hM,hA,hl'⟩=>?_
  obtain ⟨he,vs,τ,hvs,hws,hwo,hpin,hnd,hlen⟩:=hq
  have key:a'.defers=[]∧∃ u2,({ c₀ with mode:=u' }::cs:List Frame)={ c₀ with mode:=u2 }::cs∧∃ v,(results fn a'.tmps).run P w'=.ok v w'∧(∃ v0 g' M',Ending.returned v=.returned v0∧u2=u'∧Rel ⟨w,M,zaU g objs,[]⟩ ⟨[.junk],objs'⟩ g' M' ⟨#[v0],[]⟩ w'∧∀ id,zaq objs id=true→g.agree g' id):=by
   refine ⟨hR'.defers,u',rfl,.tuple #[],by simp [results,hres],.tuple #[],_,M',rfl,rfl,hR'.wk (σ':=⟨[.junk],objs'⟩) (tau τ) (by simp) rfl (fun i hi=>.inl ?_) hwo (fun i j hi hj e=>zc7 hnd (by simp at hi;omega) (by simp at hj;omega) e),fun id hid=>?_⟩
   ·have hi0:i=0:=by simpa using hi
    subst hi0
    rfl
   ·have hlt:id<objs.length:=by
     rcases Nat.lt_or_ge id objs.length with h|h
     ·exact h
     ·simp [zaq,List.getD,List.getElem?_eq_none h] at hid
    have hd:St.dom ((⟨args++List.replicate (fn.ntmps - args.length) .junk,objs++List.replicate (env.nobj - objs.length) none⟩:St).app (some t) ⟨rv,[]⟩ |>.app (some t') ⟨rv,[]⟩) id:=by
     intro h0
     have h1:(objs++List.replicate (env.nobj - objs.length) none).getD id none=none:=h0
     rw [List.getD_eq_getElem?_getD,List.getElem?_append_left hlt,←List.getD_eq_getElem?_getD] at h1
     simp only [zaq] at hid
     rw [h1] at hid;cases hid
    obtain ⟨⟨h1,h2,h3⟩,_⟩:=hA id hlt hd
    simp only [Gh.agree,hpin id hlt]
    exact ⟨h1,h2,h3⟩
  rcases he with rfl|rfl
  ·exact key
  ·exact key
 have hrun0:(execOp (Act.eval { tmps:=vargs.toArray++Array.replicate (fn.ntmps - args.length) undef,defers:=[] }) ⟨some t,.call ⟨.builtin .recover,#[],tys⟩,ty1,p1,a1,none⟩).run P w=.ok .recover w:=by
  simp [execOp,resolve,invoke,builtin,Sem.run_bind,Result.andThen]
 unfold wpOpsS
 simp only [List.getElem?_toArray,List.getElem?_cons_zero,Region.wanted,if_true,hrun0]
 rcases hx with hx|⟨hx,rfl,rfl⟩
 ·rw [hx]
  exact hmain _ ⟨x,rfl,rfl⟩
 ·rw [hx]
  exact hmain _ ⟨_,rfl,by cases c₀;simp_all⟩
def zHS (P:Program) (env:Env) (fc:FuncId) (cs:List AVal) (rs:List ResultVar) (res:AVal):Exit→St→Prop:=fun e σ=>
 ∃ (u u':FrameMode) (cargs:List AVal) (cobjs:List (Option AObj)) (ids:List Nat) (objs':List (Option AObj)),
  (((e=.ret∨e=.normal)∧u=.returning)∨∃ x,e=.panic (zkM x)∧u=.panicking (zkM x))∧settle u'=.returning∧AD P env.gl fc cargs cobjs u u' objs' ∧
  cs=ze9 (tau (ids++[])) cargs∧ids.map σ.obj=cobjs.map (Option.map (zgW (tau (ids++[]))))∧zaD (zaq cobjs) cargs=true∧(∀ ob,some ob ∈ cobjs→zb6 (zaq cobjs) ob=true) ∧
  (ids++[]).Nodup∧(∀ id,id ∈ ids++[]→id<env.nobj)∧objs'.length≤(ids++[]).length ∧
  PK (St.obj ⟨σ.slots,zaN σ.objs (zaT (tau (ids++[])) (ids++[]) 0 objs')⟩) (zkN env ⟨σ.slots,zaN σ.objs (zaT (tau (ids++[])) (ids++[]) 0 objs')⟩ rs) res
theorem Rel.value1 {E:Ent} {g:Gh} {M:Mem} {w:World} {v:Value} {x res:AVal} (hR:Rel E ⟨[x],σ.objs⟩ g M ⟨#[v],[]⟩ w) (h:rdV σ.obj x res):∃ gk Mk,Rel E ⟨[res],[]⟩ gk Mk ⟨#[v],[]⟩ w:=by
 obtain ⟨σk,xk,gk,Mk,h1,h2,h3,h4,h5,h6⟩:=hR.read1 (σ:=σ) h σ.objs.length (Nat.le_refl _)
 have hno:∀ i n ys,¬ zkO (σk.obj i) n ys:=fun i n ys=>by
  by_cases hi:i<σ.objs.length
  ·exact h6 i n ys hi
  ·rintro ⟨sz,e,_⟩
   simp [St.obj,List.getD,List.getElem?_eq_none (by omega:σk.objs.length≤i)] at e
 refine ⟨gk,Mk,rfl,h3.defers,fun i hi=>?_,fun id o ho=>by simp [St.obj] at ho,fun id id' o o' b ho=>by simp [St.obj] at ho,fun id o b ho=>by simp [St.obj] at ho,h3.sat,h3.M0,h3.Mnew,h3.size0,h3.same,fun id o b ho=>by simp [St.obj] at ho,h3.os,h3.tape,h3.output⟩
 have hi0:i=0:=by simpa using hi
 subst hi0
 have h7:=h3.slot 0
 have e:σk.slot 0=xk:=by simp [St.slot,h1]
 rw [e] at h7
 exact V.read hno h7 h5
theorem AC.of_defer (hE:za1 P env) (hm:P.follows .mixedOrders=true) {f fc:FuncId} {fn:Func} {r0 rest:Code} {i1 t9:Nat} {ty1 ty2:TypeId} {p1 p2:String} {a1 a2:Array Edge} {tys:Array TypeId} {caps:Array Operand} (hf:P.funcs[f]?=some fn)
  (hb:fn.body=some (.seq r0 (.seq (.region i1 #[⟨some t9,.makeFunc (.func fc) #[] caps,ty1,p1,a1,none⟩,⟨none,.defer ⟨.value (.tmp t9),#[],tys⟩,ty2,p2,a2,none⟩] false) rest))) {args:List AVal} {res:AVal}
  (hargs:args.length≤fn.ntmps) {cs:List AVal} {σ1:St} (hent:∀ vargs w,(callFunc fc vargs).run P w=.ok (.enter fc vargs) w)
  (h0:VC P env pin r0 ⟨args++List.replicate (fn.ntmps - args.length) .junk,List.replicate env.nobj none⟩ (fun e σ=>e=.normal∧σ=σ1))
  (hcap:caps.toList.map (zai env σ1)=cs) (hcs:∀ c,c ∈ cs→∃ id off,c=.ref id off∧id<pin) (ht9:t9<σ1.slots.length)
  (h1:VC P env pin rest (σ1.app (some t9) ⟨.clo fc cs,[]⟩) (zHS P env fc cs fn.results.toList res)):AC P env.gl f args [] res []:=by
 intro w M g vargs hR hG
 have hla:vargs.length=args.length:=by simpa using hR.size
 refine calls_of_wp_defers hf hb ?_
 have esz:fn.ntmps - vargs.toArray.size=fn.ntmps - args.length:=by simp [hla]
 rw [esz]
 have hR0:=hR.enter (fn.ntmps - args.length) env.nobj
 refine wp_seq (wp_mono (VC.to hE hm r0 h0 (by simp) _ g M _ w hR0 hG) fun e b1 w1 ⟨σ1',g1,M1,⟨he,hs1⟩,hR1,hM1,hA1,hl1⟩=>?_)
 subst he hs1
 refine wp_seq (wp_region ?_)
 show wpOps P _ _ [0,1] b1 w1
 have hop0:aop env (some t9) (zai env σ1') σ1'.obj (.makeFunc (.func fc) #[] caps)=some ⟨.clo fc cs,[]⟩:=by
  simp only [aop,hcap]
  rfl
 have hG0:zkE env ⟨w,M,zaU g [],[]⟩ M:=hG
 have hG1:=hG0.mono hM1
 have hd0:=(zpM (P:=P) (o:=⟨some t9,.makeFunc (.func fc) #[] caps,ty1,p1,a1,none⟩) hR1 hG1.1 hE hl1 hop0).toW
 unfold wpOps
 simp only [List.getElem?_toArray,List.getElem?_cons_zero,Region.wanted,if_true]
 refine .inl (hd0 _ _ fun v w2 g2 M2 hR2 hag2 hM2=>?_)
 replace hR2:Rel _ (σ1'.app (some t9) ⟨.clo fc cs,[]⟩) g2 M2 (b1.put (some t9) v) w2:=hR2
 show wpOps P _ _ [1] (b1.put (some t9) v) w2
 have hsl:(σ1'.app (some t9) ⟨.clo fc cs,[]⟩).slot t9=.clo fc cs:=by simp [St.app,St.slot,ht9]
 have hV:=hR2.slot t9
 rw [hsl] at hV
 generalize hb2:b1.put (some t9) v=b2 at hR2 hV
 generalize hu0:b2.tmps.getD t9 undef=u0 at hV
 cases hV with
 |clo _ _ vs hvl hvV=>
  have hrun1:(execOp b2.eval ⟨none,.defer ⟨.value (.tmp t9),#[],tys⟩,ty2,p2,a2,none⟩).run P w2=.ok (.defer ⟨.fn (.func fc) vs.toArray,#[]⟩) w2:=by
   have hv1:b2.eval (.tmp t9)=.func (.func fc) #[] vs.toArray:=hu0
   simp [execOp,resolve,hv1,Deferred.ofValue,Sem.run_bind,Result.andThen]
  unfold wpOps
  simp only [List.getElem?_toArray,List.getElem?_cons_succ,List.getElem?_cons_zero,Region.wanted,if_true]
  refine .inl ?_
  unfold Oper.wp
  rw [hrun1,Oper.upon_defer]
  show wpOps P _ _ [] { b2 with defers:=⟨.fn (.func fc) vs.toArray,#[]⟩::b2.defers } w2
  have hdef:b2.defers=[]:=hR2.defers
  rw [hdef]
  show rest.wp P _ _ w2
  have hR3:Rel ⟨w,M,zaU g [],[⟨.fn (.func fc) vs.toArray,#[]⟩]⟩ (σ1'.app (some t9) ⟨.clo fc cs,[]⟩) g2 M2 { b2 with defers:=[⟨.fn (.func fc) vs.toArray,#[]⟩] } w2:=
   ⟨hR2.size,rfl,hR2.slots,hR2.objs,hR2.apart,hR2.offM,hR2.sat,hR2.M0,hR2.Mnew,hR2.size0,hR2.same,hR2.own0,hR2.os,hR2.tape,hR2.output⟩
  have hG3:zkE env ⟨w,M,zaU g [],[⟨.fn (.func fc) vs.toArray,#[]⟩]⟩ M2:=⟨(hG1.mono hM2).1,hG.2⟩
  refine wp_mono (VC.to hE hm rest h1 (by rw [zfr];exact hl1) _ g2 M2 _ w2 hR3 hG3) fun e b4 w4 ⟨σ4,g4,M4,hq,hR4,hM4,hA4,hl4⟩=>?_
  obtain ⟨u,u',cargs,cobjs,ids,objs',hmode,hset,hAD,f1,f2,f3,f4,f5,f6,f7,hpk⟩:=hq
  have hG4:=hG3.mono hM4
  have hvV4:∀ i,i<cs.length→V g4 σ4.dom M4 (cs.getD i .junk) (vs.getD i undef):=fun i hi=>by
   obtain ⟨id,off,hc,hid⟩:=hcs (cs.getD i .junk) (by rw [zlK _ _ _ hi];exact List.getElem_mem hi)
   have hv:=hvV i hi
   rw [hc] at hv ⊢
   generalize vs.getD i undef=y at hv ⊢
   cases hv with
   |ref id off hd=>
    obtain ⟨⟨q1,_,_⟩,q2⟩:=hA4 id hid hd
    rw [←q1]
    exact .ref id off q2
  obtain ⟨gc,k1,k2,k3⟩:=zk2 (res:=.junk) (objs':=objs') hR4 hG4 hl4 hvl hvV4 f1 f2 f3 f4 f5 f6 (fun id h=>by cases h) f7
  have hcallsD:=hAD w4 M4 gc vs k1 k2
  have hinv:(invoke (.fn (.func fc) vs.toArray) #[]).run P w4=.ok (.enter fc vs.toArray) w4:=by
   have:=hent vs.toArray w4
   simpa [invoke] using this
  have hds:b4.defers=[⟨.fn (.func fc) vs.toArray,#[]⟩]:=hR4.defers
  have main:∀ hu:u≠.run,Leaves P fn b4.tmps (fun e w'=>∃ v g' M',e=.returned v∧Rel ⟨w,M,zaU g [],[]⟩ ⟨[res],[]⟩ g' M' ⟨#[v],[]⟩ w'∧∀ id,zaq [] id=true→g.agree g' id) b4.defers u w4:=fun hu=>by
   rw [hds]
   refine leaves_cons hu hinv (hcallsD.mono ?_)
   rintro e u2 w5 ⟨v,g5,M5,rfl,rfl,hR5,hag5⟩
   obtain ⟨g6,hR6,_,_,_⟩:=k3 w5 v g5 M5 hR5 hag5
   show Leaves P fn b4.tmps _ [] (settle u2) w5
   rw [hset]
   cases hvs:zkN env ⟨σ4.slots,zaN σ4.objs (zaT (tau (ids++[])) (ids++[]) 0 objs')⟩ fn.results.toList with
   |none=>rw [hvs] at hpk;exact hpk.elim
   |some vs2=>
    rw [hvs,zoH] at hpk
    obtain ⟨v2,hrun,hV2⟩:=zgG (P:=P) hR6 hE hvs
    refine ⟨v2,hrun,v2,?_⟩
    have hR7:Rel ⟨w,M,zaU g [],[]⟩ ⟨[zoy vs2],zaN σ4.objs (zaT (tau (ids++[])) (ids++[]) 0 objs')⟩ g6 M5 ⟨#[v2],[]⟩ w5:=by
     refine ⟨rfl,rfl,fun i hi=>?_,hR6.objs,hR6.apart,hR6.offM,hR6.sat,hR6.M0,hR6.Mnew,hR6.size0,hR6.same,hR6.own0,hR6.os,hR6.tape,hR6.output⟩
     have hi0:i=0:=by simpa using hi
     subst hi0
     exact hV2
    obtain ⟨gk,Mk,hk⟩:=Rel.value1 (σ:=⟨σ4.slots,zaN σ4.objs (zaT (tau (ids++[])) (ids++[]) 0 objs')⟩) hR7 hpk
    exact ⟨gk,Mk,rfl,hk,fun id hid=>by simp [zaq] at hid⟩
  rcases hmode with ⟨he,rfl⟩|⟨x,rfl,rfl⟩
  ·rcases he with rfl|rfl
   ·exact main (by simp)
   ·exact main (by simp)
  ·exact main (by simp)
end Go.Abs
namespace Go.Abs
open Go
variable {P:Program} {env:Env} {pin:Nat} {σ σ':St} {Q:Exit→St→Prop}
def FI (P:Program) (f:FuncId) (code:Code) (n:Nat) (rs:List ResultVar):Prop:=∃ fn,P.funcs[f]?=some fn∧fn.body=some code∧fn.ntmps=n∧fn.results=rs.toArray
theorem FI.of {P:Program} {f:FuncId} {fn:Func} {code:Code} {n:Nat} {rs:List ResultVar} (hf:P.funcs[f]?=some fn) (hb:fn.body=some code) (hn:fn.ntmps=n) (hrs:fn.results=rs.toArray):FI P f code n rs:=⟨fn,hf,hb,hn,hrs⟩
class SBC (b:Bool) (p q:outParam Prop):Prop where
 h1:b=true→p
 h2:b=false→q
instance (priority:=low) (b:Bool):SBC b (b=true) (b=false):=⟨id,id⟩
instance (p:Prop) [Decidable p]:SBC (decide p) p (¬ p):=⟨fun h=>by simpa using h,fun h=>by simpa using h⟩
instance {α:Type} [BEq α] [LawfulBEq α] (a b:α):SBC (a==b) (a=b) (a≠b):=⟨fun h=>by simpa using h,fun h=>by simpa using h⟩
instance {α:Type} [BEq α] [LawfulBEq α] (a b:α):SBC (a != b) (a≠b) (a=b):=⟨fun h=>by simpa using h,fun h=>by simpa using h⟩
theorem SB.c {b:Bool} {p q:Prop} [SBC b p q] {A B:Prop} {t:Tg (A,B)} (h1:p→A) (h2:q→B):SB b A B t:=⟨fun h=>h1 (SBC.h1 h),fun h=>h2 (SBC.h2 h)⟩
theorem REG.j {ops:Array Oper} {t:Tg ops} {tr:Tr} (h:zBd ops (anc ops) (zjy tr)=true:=by kernel_rfl):REG ops t tr:=h
theorem zyY.j {ops:Array Oper} {t:Tg ops} {tr:Tr} (h:(zBd ops (anc ops) (zjy tr)&&zsY ops tr.length&&tr.all fun r=>r.2.isEmpty)=true:=by kernel_rfl):zyY ops t tr:=h
theorem zaj {a b:Prop} (hb:b) (ha:a:=by first|with_reducible exact REG.j|with_reducible exact zyY.j|(intros;(try simp only [decide_eq_true_eq,decide_eq_false_iff_not,beq_iff_eq,bne_iff_ne,Bool.and_eq_true,Bool.or_eq_true] at *);omega)):a∧b:=⟨ha,hb⟩
theorem zak {a:Prop} (ha:a:=by with_reducible first|exact trivial|exact REG.j|exact zyY.j):a:=ha
inductive NE (p q:Prop):Prop|mk
theorem NE.same {p:Prop}:NE p p:=.mk
/-! Several facts as one. -/
section
variable {A B C D E F G H I J K L M N O R:Prop}
theorem fA2 (a:A) (b:B):A∧B:=⟨a,b⟩
theorem fA3 (a:A) (b:B) (c:C):A∧B∧C:=⟨a,b,c⟩
theorem fA4 (a:A) (b:B) (c:C) (d:D):A∧B∧C∧D:=⟨a,b,c,d⟩
theorem fA5 (a:A) (b:B) (c:C) (d:D) (e:E):A∧B∧C∧D∧E:=⟨a,b,c,d,e⟩
theorem fA6 (a:A) (b:B) (c:C) (d:D) (e:E) (f:F):A∧B∧C∧D∧E∧F:=⟨a,b,c,d,e,f⟩
theorem fA7 (a:A) (b:B) (c:C) (d:D) (e:E) (f:F) (g:G):A∧B∧C∧D∧E∧F∧G:=⟨a,b,c,d,e,f,g⟩
theorem fA8 (a:A) (b:B) (c:C) (d:D) (e:E) (f:F) (g:G) (h:H):A∧B∧C∧D∧E∧F∧G∧H:=⟨a,b,c,d,e,f,g,h⟩
theorem fA9 (a:A) (b:B) (c:C) (d:D) (e:E) (f:F) (g:G) (h:H) (i:I):A∧B∧C∧D∧E∧F∧G∧H∧I:=⟨a,b,c,d,e,f,g,h,i⟩
theorem zgj (a:A) (b:B) (c:C) (d:D) (e:E) (f:F) (g:G) (h:H) (i:I) (j:J):A∧B∧C∧D∧E∧F∧G∧H∧I∧J:=⟨a,b,c,d,e,f,g,h,i,j⟩
theorem zg7 (a:A) (b:B) (c:C) (d:D) (e:E) (f:F) (g:G) (h:H) (i:I) (j:J) (k:K):A∧B∧C∧D∧E∧F∧G∧H∧I∧J∧K:=⟨a,b,c,d,e,f,g,h,i,j,k⟩
theorem zg8 (a:A) (b:B) (c:C) (d:D) (e:E) (f:F) (g:G) (h:H) (i:I) (j:J) (k:K) (l:L):A∧B∧C∧D∧E∧F∧G∧H∧I∧J∧K∧L:=⟨a,b,c,d,e,f,g,h,i,j,k,l⟩
theorem zhQ (a:A) (b:B) (c:C) (d:D) (e:E) (f:F) (g:G) (h:H) (i:I) (j:J) (k:K) (l:L) (m:M):A∧B∧C∧D∧E∧F∧G∧H∧I∧J∧K∧L∧M:=⟨a,b,c,d,e,f,g,h,i,j,k,l,m⟩
theorem zrC (a:A) (b:B) (c:C) (d:D) (e:E) (f:F) (g:G) (h:H) (i:I) (j:J) (k:K) (l:L) (m:M) (n:N):A∧B∧C∧D∧E∧F∧G∧H∧I∧J∧K∧L∧M∧N:=⟨a,b,c,d,e,f,g,h,i,j,k,l,m,n⟩
theorem zBe (a:A) (b:B) (c:C) (d:D) (e:E) (f:F) (g:G) (h:H) (i:I) (j:J) (k:K) (l:L) (m:M) (n:N) (o:O):A∧B∧C∧D∧E∧F∧G∧H∧I∧J∧K∧L∧M∧N∧O:=⟨a,b,c,d,e,f,g,h,i,j,k,l,m,n,o⟩
theorem zFO (a:A) (b:B) (c:C) (d:D) (e:E) (f:F) (g:G) (h:H) (i:I) (j:J) (k:K) (l:L) (m:M) (n:N) (o:O) (r:R):A∧B∧C∧D∧E∧F∧G∧H∧I∧J∧K∧L∧M∧N∧O∧R:=⟨a,b,c,d,e,f,g,h,i,j,k,l,m,n,o,r⟩
end
theorem Va {P Q A:Prop} (a:A) (h:Q) (e:A→P=Q:=by
 intro t;conv=>lhs;simp -implicitDefEqProofs +contextual (maxSteps:=9000000) only [kx,↓ky,t,simprocAttr]) (_:NE P Q:=by (fail_if_success with_reducible exact NE.same);exact .mk):P:=(e a).mpr h
section
variable {K:KT} {t:Tg K} {p:Prop} {f:FuncId} {vals cargs:List AVal} {res:AVal} {d:Option Nat} {rest:List COp} {acc:Option Tr}
theorem CK.d0 (hent:∀ vargs w,(callFunc f vargs).run P w=.ok (.enter f vargs) w) (hac:AC P env.gl f vals [] res [])
  (h:VL P env K t rest (zbL acc ([],[])) (σ.app d ⟨cw p res,[]⟩)) (hsc:zaD (zaq []) vals=true:=by rfl) (hres:zaB (zaq []) res=true:=by rfl):CK P env K t p f vals d rest acc σ:=
 CK.cp hent (fun _=>hac) hsc hres h
theorem CK.dx {A:List AVal} {O vobjs:List (Option AObj)} {objs':List (Option AObj)} (ids news:List Nat) (hent:∀ vargs w,(callFunc f vargs).run P w=.ok (.enter f vargs) w)
  (hac:AC P env.gl f A vobjs res objs')
  (h:VL P env K t rest (zbL acc (ids++news,(zaT (tau (ids++news)) (ids++news) 0 objs').map Prod.fst)) (σ.app d ⟨ren (tau (ids++news)) res,zaT (tau (ids++news)) (ids++news) 0 objs'⟩))
  (hobjs:ids.map σ.obj=O:=by rfl)
  (hA:ze9 (tau (ids++news)) A=vals:=by rfl) (hO:ziI (tau (ids++news)) vobjs=O:=by rfl) (hsA:zaD (zaq vobjs) A=true:=by rfl) (hsO:zro (zaq vobjs) vobjs=true:=by rfl)
  (hn:((ids++news).Nodup∧∀ id ∈ ids++news,id<env.nobj):=by decide) (hf:zfu σ news=true:=by rfl) (hl:objs'.length≤(ids++news).length:=by simp):CK P env K t True f vals d rest acc σ:=
 CK.co ids news hent hac hobjs hA hO hsA hsO hn hf hl h
theorem dC1 {A:List AVal} {O vobjs:List (Option AObj)} {objs':List (Option AObj)} (hent:∀ vargs w,(callFunc f vargs).run P w=.ok (.enter f vargs) w)
  (hac:AC P env.gl f A vobjs res objs')
  (h:VL P env K t rest (zbL acc (([0]++[]:List Nat),(zaT (tau ([0]++[]:List Nat)) ([0]++[]:List Nat) 0 objs').map Prod.fst)) (σ.app d ⟨ren (tau ([0]++[]:List Nat)) res,zaT (tau ([0]++[]:List Nat)) ([0]++[]:List Nat) 0 objs'⟩))
  (hobjs:([0]:List Nat).map σ.obj=O:=by rfl)
  (hA:ze9 (tau ([0]++[]:List Nat)) A=vals:=by rfl) (hO:ziI (tau ([0]++[]:List Nat)) vobjs=O:=by rfl) (hsA:zaD (zaq vobjs) A=true:=by rfl) (hsO:zro (zaq vobjs) vobjs=true:=by rfl)
  (hn:(([0]++[]:List Nat).Nodup∧∀ id ∈ ([0]++[]:List Nat),id<env.nobj):=by decide) (hf:zfu σ []=true:=by rfl) (hl:objs'.length≤([0]++[]:List Nat).length:=by simp):CK P env K t True f vals d rest acc σ:=
 CK.dx [0] [] hent hac h hobjs hA hO hsA hsO hn hf hl
theorem CK.dp {A:List AVal} {O vobjs:List (Option AObj)} {objs':List (Option AObj)} {x:Value} (ids news:List Nat) (hent:∀ vargs w,(callFunc f vargs).run P w=.ok (.enter f vargs) w)
  (hac:AP P env.gl f A vobjs x objs')
  (h:K acc (some x) ⟨σ.slots,zaN σ.objs (zaT (tau (ids++news)) (ids++news) 0 objs')⟩)
  (hobjs:ids.map σ.obj=O:=by rfl)
  (hA:ze9 (tau (ids++news)) A=vals:=by rfl) (hO:ziI (tau (ids++news)) vobjs=O:=by rfl) (hsA:zaD (zaq vobjs) A=true:=by rfl) (hsO:zro (zaq vobjs) vobjs=true:=by rfl)
  (hn:((ids++news).Nodup∧∀ id ∈ ids++news,id<env.nobj):=by decide) (hf:zfu σ news=true:=by rfl) (hl:objs'.length≤(ids++news).length:=by simp):CK P env K t True f vals d rest acc σ:=
 CK.po ids news hent hac hobjs hA hO hsA hsO hn hf hl h
theorem CK.dq {A:List AVal} {O vobjs:List (Option AObj)} (ids:List Nat) (hent:∀ vargs w,(callFunc f vargs).run P w=.ok (.enter f vargs) w)
  (hac:p→AC P env.gl f A vobjs res vobjs)
  (h:VL P env K t rest none (σ.app d ⟨cw p res,[]⟩))
  (hobjs:ids.map σ.obj=O:=by rfl)
  (hA:ze9 (tau ids) A=vals:=by rfl) (hO:ziI (tau ids) vobjs=O:=by rfl) (hsA:zaD (zaq vobjs) A=true:=by rfl) (hsO:zro (zaq vobjs) vobjs=true:=by rfl)
  (hn:(ids.Nodup∧∀ id ∈ ids,id<env.nobj):=by decide) (hl:vobjs.length≤ids.length:=by simp) (hr:ren (tau ids) res=res:=by rfl) (hs:(zaT (tau ids) ids 0 vobjs).foldl (fun l q=>l.set q.1 (some q.2)) σ.objs=σ.objs:=by rfl):CK P env K t p f vals d rest none σ:=
 CK.cpo ids hent hac hobjs hA hO hsA hsO hn hl hr hs h
end
theorem zzJ (τ:Nat→Nat) (n:Nat→Bool):zcB τ n [] []=True:=by simp [zcB]
theorem zwy (τ:Nat→Nat) (n:Nat→Bool) (a b:AVal) (r s:List AVal):zcB τ n (a::r) (b::s)=((b=.junk∨(a=ren τ b∧zaB n b=true))∧zcB τ n r s):=by simp [zcB]
theorem zzK (τ:Nat→Nat) (n:Nat→Bool) (σ:St) (k:Nat):zbe τ n σ k []=True:=by simp [zbe]
theorem zwz (τ:Nat→Nat) (n:Nat→Bool) (σ:St) (k:Nat) (r:List (Option AObj)):zbe τ n σ k (none::r)=zbe τ n σ (k+1) r:=by simp [zbe]
theorem zwA (τ:Nat→Nat) (n:Nat→Bool) (σ:St) (k:Nat) (r:List (Option AObj)):zbe τ n σ k (some .dead::r)=zbe τ n σ (k+1) r:=by simp [zbe]
theorem ztD (τ:Nat→Nat) (n:Nat→Bool) (σ:St) (k:Nat) (cs:List AVal) (r:List (Option AObj)):zbe τ n σ k (some (.cells cs)::r)=((σ.obj (τ k)=some (.cells (ze9 τ cs))∧zaD n cs=true)∧zbe τ n σ (k+1) r):=by simp [zbe,zgW,zb6]
theorem zzL (τ:Nat→Nat) (n:Nat→Bool) (σ:St) (k:Nat) (sz:Nat) (xs:List (List PVal)) (r:List (Option AObj)):zbe τ n σ k (some (.row sz xs)::r)=(σ.obj (τ k)=some (.row sz xs)∧zbe τ n σ (k+1) r):=by simp [zbe,zgW,zb6]
theorem zzM (τ:Nat→Nat) (n:Nat→Bool) (σ:St) (k:Nat) (kd:Kd) (es:List (PVal × Bool × List PVal)) (r:List (Option AObj)):zbe τ n σ k (some (.map kd es)::r)=(σ.obj (τ k)=some (.map kd es)∧zbe τ n σ (k+1) r):=by simp [zbe,zgW,zb6]
theorem zCZ (τ:Nat→Nat) (n:Nat→Bool) (σ:St) (k:Nat) (T e B m:Nat) (r:List (Option AObj)):zbe τ n σ k (some (.bh T e B m)::r)=((σ.obj (τ k)=some (.bh T e (τ B) m)∧n B=true)∧zbe τ n σ (k+1) r):=by simp [zbe,zgW,zb6]
theorem zC0 (τ:Nat→Nat) (n:Nat→Bool) (σ:St) (k:Nat) (e:Nat) (s:List UInt8) (r:List (Option AObj)):zbe τ n σ k (some (.bb e s)::r)=(σ.obj (τ k)=some (.bb e s)∧zbe τ n σ (k+1) r):=by simp [zbe,zgW,zb6]
theorem zI4 (n:Nat→Bool) (i o:Nat):zaB n (.ref i o)=n i:=by simp [zaB]
theorem zI5 (n:Nat→Bool) (i o:Nat):zaB n (.row i o)=n i:=by simp [zaB]
theorem zI6 (n:Nat→Bool) (i a b c:Nat):zaB n (.eref i a b c)=n i:=by simp [zaB]
theorem zI7 (n:Nat→Bool) (i:Nat):zaB n (.map i)=n i:=by simp [zaB]
theorem zI8 (n:Nat→Bool) (cs:List AVal):zaB n (.agg cs)=zaD n cs:=by simp [zaB]
theorem zI9 (n:Nat→Bool) (cs:List AVal):zaB n (.tup cs)=zaD n cs:=by simp [zaB]
theorem zJa (n:Nat→Bool) (f:Nat) (cs:List AVal):zaB n (.clo f cs)=zaD n cs:=by simp [zaB]
theorem zJb (n:Nat→Bool) (p:PVal):zaB n (.pv p)=true:=by simp [zaB]
theorem zJc (n:Nat→Bool):zaB n .snil=true:=by simp [zaB]
theorem zJd (n:Nat→Bool) (i a b:Nat):zaB n (.csl i a b)=n i:=by simp [zaB]
theorem zJe (n:Nat→Bool):zaB n .junk=true:=by simp [zaB]
theorem zFP (n:Nat→Bool):zaD n []=true:=by simp [zaD]
theorem zFQ (n:Nat→Bool) (a:AVal) (r:List AVal):zaD n (a::r)=(zaB n a&&zaD n r):=by simp [zaD]
theorem zC1 (ι:Nat→Nat) (i a b c:Nat):ren ι (.eref i a b c)=.eref (ι i) a b c:=by simp [ren]
theorem zwB (o:List (Option AObj)) (i:Nat):zaq o i=(o.getD i none).isSome:=rfl
theorem zFR (σ:St) (i:Nat):σ.obj i=σ.objs.getD i none:=rfl
theorem zC2 {α:Type} (l:List α) (i:Nat) (d:α):l.getD i d=l[i]?.getD d:=rfl
def zJf:=And.intro @zCZ<|And.intro @zC0<|And.intro @zzJ<|And.intro @zwy<|And.intro @zzK<|And.intro @zwz<|And.intro @zwA<|And.intro @ztD<|And.intro @zzL<|And.intro @zzM<|And.intro @zFP<|@zFQ
def zJg:=And.intro @zJd<|And.intro @zI4<|And.intro @zI5<|And.intro @zI6<|And.intro @zI7<|And.intro @zI8<|And.intro @zI9<|And.intro @zJa<|And.intro @zJb<|And.intro @zJc<|@zJe
def zJh:=And.intro @zHR<|And.intro @kz1<|And.intro @zC1<|And.intro @zwB<|And.intro @zFR<|And.intro @zC2<|And.intro @ztA<|And.intro @ztB<|@ztC
def kwf:=And.intro @zJf<|And.intro @zJg @zJh
theorem zC3 (l:List Nat) (k:Nat):tau l k=l[k]?.getD 0:=rfl
theorem zC4 (σ:St) (i:Nat):σ.slot i=σ.slots[i]?.getD .junk:=rfl
theorem zC5 (v:AVal):zoy [v]=v:=rfl
theorem zC6:zoy []=.tup []:=rfl
theorem zC7 (a b:AVal) (r:List AVal):zoy (a::b::r)=.tup (a::b::r):=rfl
def kwt:=And.intro @kwf @zC3
def kwr:=And.intro @kwt<|And.intro @zC4<|And.intro @zC5<|And.intro @zC6 @zC7
theorem WFn (hs:zcB id (zaq σ'.objs) σ.slots σ'.slots:=by simp [kwf]) (ho:zbe id (zaq σ'.objs) σ 0 σ'.objs:=by simp [kwf]) (hlen:σ'.objs.length=env.nobj:=by rfl) (h1:(σ'.objs.take pin).all Option.isSome=true:=by simp) (h2:pin≤σ'.objs.length:=by simp):zaY env pin σ σ':=
 zaY.forget hlen (zyO h1 h2) hs ho
theorem WFe (hs:zcB id (zaq σ'.objs) σ.slots σ'.slots) (ho:zbe id (zaq σ'.objs) σ 0 σ'.objs) (hlen:σ'.objs.length=env.nobj:=by rfl) (h1:(σ'.objs.take pin).all Option.isSome=true:=by simp) (h2:pin≤σ'.objs.length:=by simp):zaY env pin σ σ':=
 zaY.forget hlen (zyO h1 h2) hs ho
theorem WTe (τ:List Nat) (hs:zcB (tau τ) (zaq σ'.objs) σ.slots σ'.slots) (ho:zbe (tau τ) (zaq σ'.objs) σ 0 σ'.objs) (hlen:σ'.objs.length=env.nobj:=by rfl) (hτ:τ.length=env.nobj:=by rfl) (hnd:τ.Nodup:=by decide) (hp:∀ k,k<pin→tau τ k=k:=by first|decide|(simp only [List.length_cons,List.length_nil];decide)) (h1:(σ'.objs.take pin).all Option.isSome=true:=by simp) (h2:pin≤σ'.objs.length:=by simp):zaY env pin σ σ':=
 zaY.wk τ hlen hτ hnd (zBw hp h1 h2) hs ho
theorem zax.mk {n:Nat} {rs:List ResultVar} {res:AVal} {objs':List (Option AObj)} {e:Exit} {vs:List AVal} (τ:List Nat) (h1:zcB (tau τ) (zaq objs') [zoy vs] [res]) (h2:zbe (tau τ) (zaq objs') σ 0 objs') (hv:zkN env σ rs=some vs:=by rfl) (he:e=.ret∨e=.normal:=by first|exact .inl rfl|exact .inr rfl)
  (hp:∀ k,k<n→tau τ k=k:=by first|decide|(simp only [List.length_cons,List.length_nil];decide)) (hd:τ.Nodup:=by decide) (hl:objs'.length≤τ.length:=by simp):zax env n rs res objs' e σ:=⟨he,vs,τ,hv,h1,h2,hp,hd,hl⟩
theorem zct.mk {n:Nat} {x:Value} {objs':List (Option AObj)} {e:Exit} (τ:List Nat) (h2:zbe (tau τ) (zaq objs') σ 0 objs') (he:e=.panic (zkM x):=by rfl)
  (hp:∀ k,k<n→tau τ k=k:=by first|decide|(simp only [List.length_cons,List.length_nil];decide)) (hd:τ.Nodup:=by decide) (hl:objs'.length≤τ.length:=by simp):zct n x objs' e σ:=⟨he,τ,h2,hp,hd,hl⟩
end Go.Abs
namespace Go.Abs
open Go
structure CE (P:Program) (gl:Nat→Option (List PVal)) (f:FuncId) (A:List AVal) (O:List (Option AObj)) (res:AVal) (O':List (Option AObj)):Prop where
 e:∀ vargs w,(callFunc f vargs).run P w=.ok (.enter f vargs) w
 c:AC P gl f A O res O'
structure CX (ids news:List Nat) (P:Program) (gl:Nat→Option (List PVal)) (f:FuncId) (A:List AVal) (O:List (Option AObj)) (res:AVal) (O':List (Option AObj)):Prop where
 e:∀ vargs w,(callFunc f vargs).run P w=.ok (.enter f vargs) w
 c:AC P gl f A O res O'
section
variable {P:Program} {env:Env} {σ:St} {K:KT} {t:Tg K} {p:Prop} {f:FuncId} {vals cargs:List AVal} {res:AVal} {d:Option Nat} {rest:List COp} {acc:Option Tr}
theorem CE.u (c:CE P env.gl f vals [] res [])
  (h:VL P env K t rest (zbL acc ([],[])) (σ.app d ⟨cw p res,[]⟩)) (hsc:zaD (zaq []) vals=true:=by rfl) (hres:zaB (zaq []) res=true:=by rfl):CK P env K t p f vals d rest acc σ:=
 CK.d0 c.e c.c h hsc hres
theorem CX.u {A:List AVal} {O vobjs:List (Option AObj)} {objs':List (Option AObj)} {ids news:List Nat} (c:CX ids news P env.gl f A vobjs res objs')
  (h:VL P env K t rest (zbL acc (ids++news,(zaT (tau (ids++news)) (ids++news) 0 objs').map Prod.fst)) (σ.app d ⟨ren (tau (ids++news)) res,zaT (tau (ids++news)) (ids++news) 0 objs'⟩))
  (hobjs:ids.map σ.obj=O:=by rfl)
  (hA:ze9 (tau (ids++news)) A=vals:=by rfl) (hO:ziI (tau (ids++news)) vobjs=O:=by rfl) (hsA:zaD (zaq vobjs) A=true:=by rfl) (hsO:zro (zaq vobjs) vobjs=true:=by rfl)
  (hn:((ids++news).Nodup∧∀ id ∈ ids++news,id<env.nobj):=by decide) (hf:zfu σ news=true:=by rfl) (hl:objs'.length≤(ids++news).length:=by simp):CK P env K t True f vals d rest acc σ:=
 CK.dx ids news c.e c.c h hobjs hA hO hsA hsO hn hf hl
end
theorem cX (ids news:List Nat) {P:Program} {gl:Nat→Option (List PVal)} {f:FuncId} {A:List AVal} {O:List (Option AObj)} {res:AVal} {O':List (Option AObj)} (e:∀ vargs w,(callFunc f vargs).run P w=.ok (.enter f vargs) w) (c:AC P gl f A O res O'):CX ids news P gl f A O res O':=⟨e,c⟩
section
variable {P Q R S A:Prop}
theorem Wk0 (a:A) (e:A→P:=by
 intro t;have s:=t;(repeat (have _z:=And.left s;replace s:=And.right s));repeat' (first|refine Va t ?_|(with_reducible first|refine SB.c ?_ ?_<;>intro _|exact zak)|refine CE.u (by assumption) ?_|refine CX.u (by assumption) ?_|with_reducible refine zaj ?_|omega)):P:=e a
theorem Wk1 (a:A) (h:Q) (e:A→Q→P:=by
 intro t q;have s:=t;(repeat (have _z:=And.left s;replace s:=And.right s));repeat' (first|refine Va t ?_|(with_reducible first|refine SB.c ?_ ?_<;>intro z|exact zak)|refine CE.u (by assumption) ?_|refine CX.u (by assumption) ?_|with_reducible refine zaj ?_|omega|((repeat revert z);exact q))):P:=e a h
end
end Go.Abs
namespace Go.Abs
open Go
abbrev Ext (w w':World):Prop:=Go.RowKit.Below w.heap.size w w'
theorem zpY {w w':World} (h:Ext w w') {b i:Nat} {u:Value} (hc:w.cell? ⟨b,i,none⟩=some u):w'.cell? ⟨b,i,none⟩=some u:=by
 have hb:b<w.heap.size:=by
  unfold World.cell? at hc
  rcases Nat.lt_or_ge b w.heap.size with h'|h'
  ·exact h'
  ·simp [Array.getElem?_eq_none h'] at hc
 unfold World.cell? at hc ⊢
 simp only [h.block b hb] at *
 exact hc
theorem AC.ofCalls {P:Program} {gl:Nat→Option (List PVal)} {f:FuncId} {ps:List PVal} {res:AVal}
  (h:∀ (w:World) (M:Mem) (vs:List Value),vs.length=ps.length→(∀ i,i<ps.length→Rd M (ps.getD i .nilptr) (vs.getD i undef))→(∀ b i u,M b i=some u→w.cell? ⟨b,i,none⟩=some u) →
   GOK ⟨fun _=>none,gl,fun _=>0,0⟩ M→(∀ b cs,gl b=some cs→cs≠[]→∃ vals T l,w.heap[b]?=some (.cells vals T l)∧vals.size=cs.length)→Calls P f vs.toArray w fun e w'=>∃ v,e=.returned v∧(∀ g D M',V g D M' res v)∧Ext w w') :
  AC P gl f (ps.map .pv) [] res []:=by
 intro w M g vargs hR hG
 have hl:vargs.length=ps.length:=by simpa using hR.size
 refine Calls.mono (h w M vargs hl (fun i hi=>?_) hR.sat hG.1 (fun b cs hb hne=>(hG.2 b cs hb hne).2)) ?_
 ·have:=hR.slots i (by simpa using hi)
  have e1:St.slot ⟨ps.map .pv,[]⟩ i=.pv (ps.getD i .nilptr):=by simp [St.slot,List.getD,hi]
  rw [e1] at this
  have e2:vargs.toArray.getD i undef=vargs.getD i undef:=by simp [List.getD]
  rw [←e2]
  exact this.pv_inv
 ·rintro e w' ⟨v,rfl,hv,hx⟩
  refine ⟨v,g,M,rfl,⟨rfl,rfl,fun i hi=>?_,fun id o ho=>by simp [St.obj] at ho,fun id id' o o' b ho=>by simp [St.obj] at ho,fun id o b ho=>by simp [St.obj] at ho,fun b i u hu=>zpY hx (hR.sat b i u hu),Mem.le_refl _,fun _ _ _ _=>rfl,hx.size,fun b hb _=>hx.block b hb,fun id o b ho=>by simp [St.obj] at ho,hx.os,hx.tape,hx.output⟩,fun id hid=>by simp [zaq] at hid⟩
  have hi0:i=0:=by simpa using hi
  subst hi0
  exact hv _ _ _
theorem zFS (g:Gh) (D:Nat→Prop) (M:Mem) (k:IntKind) (n:Int):V g D M (.pv (.int k n)) (.int k n):=.pv (.int k n)
theorem zC8 (g:Gh) (D:Nat→Prop) (M:Mem) (s:List UInt8):V g D M (.pv (.str s)) (.string ⟨s.toArray⟩):=.pv (.str s)
theorem zk7 {g:Gh} {D:Nat→Prop} {M:Mem} {a b:AVal} {x y:Value} (h1:V g D M a x) (h2:V g D M b y):V g D M (.tup [a,b]) (.tuple #[x,y]):=
 .tup [a,b] [x,y] rfl (fun i hi=>by
  match i,hi with
  |0,_=>exact h1
  |1,_=>exact h2)
end Go.Abs
