/- A sound walk of the program by abstract states, part 2: its theorems have no condition beyond what they state. -/
import Derived.Test.YtfinhhblcdkpgaaGreatDoorLib1
import Derived.IntWalk
import Derived.Scope
set_option maxRecDepth 100000
set_option maxHeartbeats 64000000
set_option linter.unusedSimpArgs false
set_option linter.unusedVariables false
set_option linter.defProp false
namespace Go.Abs
open Go
mutual
def ren (ι:Nat→Nat):AVal→AVal
 |.ref id off=>.ref (ι id) off
 |.row id n=>.row (ι id) n
 |.eref id i j sz=>.eref (ι id) i j sz
 |.csl id n sz=>.csl (ι id) n sz
 |.map id=>.map (ι id)
 |.agg cs=>.agg (zeX ι cs)
 |.tup cs=>.tup (zeX ι cs)
 |.clo f cs=>.clo f (zeX ι cs)
 |.pv p=>.pv p
 |.snil=>.snil
 |.junk=>.junk
def zeX (ι:Nat→Nat):List AVal→List AVal
 |[]=>[]
 |a::r=>ren ι a::zeX ι r
end
mutual
def zaw (n:Nat→Bool):AVal→Bool
 |.ref id _=>n id
 |.row id _=>n id
 |.eref id _ _ _=>n id
 |.csl id _ _=>n id
 |.map id=>n id
 |.agg cs=>zaz n cs
 |.tup cs=>zaz n cs
 |.clo _ cs=>zaz n cs
 |_=>true
def zaz (n:Nat→Bool):List AVal→Bool
 |[]=>true
 |a::r=>zaw n a&&zaz n r
end
def zgt (ι:Nat→Nat):AObj→AObj
 |.cells cs=>.cells (zeX ι cs)
 |.row sz xs=>.row sz xs
 |.map kd es=>.map kd es
 |.bh T e B n=>.bh T e (ι B) n
 |.bb e s=>.bb e s
 |.dead=>.dead
def zbX (n:Nat→Bool):AObj→Bool
 |.cells cs=>zaz n cs
 |.bh _ _ B _=>n B
 |_=>true
def zaq (objs:List (Option AObj)) (id:Nat):Bool:=(objs.getD id none).isSome
def zaP (g:Gh) (objs:List (Option AObj)) (b:Nat):Prop:=∃ id ob,objs.getD id none=some ob∧zbj g id ob=some b
def AG (P:Program) (gl:Nat→Option (List PVal)) (f:FuncId) (args:List AVal) (objs:List (Option AObj)) (C:Value→Ending→Prop) (res:AVal) (objs':List (Option AObj)):Prop:=
 ∀ (w:World) (M:Mem) (g:Gh) (vargs:List Value),Rel ⟨w,M,zaP g objs,[]⟩ ⟨args,objs⟩ g M ⟨vargs.toArray,[]⟩ w→zj6 ⟨fun _=>none,gl,fun _=>0,0⟩ ⟨w,M,zaP g objs,[]⟩ M →
  Calls P f vargs.toArray w fun e w'=>∃ v g' M',C v e∧Rel ⟨w,M,zaP g objs,[]⟩ ⟨[res],objs'⟩ g' M' ⟨#[v],[]⟩ w'∧∀ id,zaq objs id=true→g.agree g' id
def AC (P:Program) (gl:Nat→Option (List PVal)) (f:FuncId) (args:List AVal) (objs:List (Option AObj)) (res:AVal) (objs':List (Option AObj)):Prop:=
 AG P gl f args objs (fun v e=>e=.returned v) res objs'
def zke (v:Value):List PanicEntry:=[{ v:=v,recovered:=false }]
def AP (P:Program) (gl:Nat→Option (List PVal)) (f:FuncId) (args:List AVal) (objs:List (Option AObj)) (x:Value) (objs':List (Option AObj)):Prop:=
 AG P gl f args objs (fun _ e=>e=.panicked (zke x)) .junk objs'
theorem zaJ (ι:Nat→Nat):∀ cs:List AVal,(zeX ι cs).length=cs.length
 |[]=>rfl
 |_::r=>by simp [zeX,zaJ ι r]
theorem zcz (ι:Nat→Nat):∀ (cs:List AVal) (i:Nat),(zeX ι cs).getD i .junk=ren ι (cs.getD i .junk)
 |[],i=>by simp [zeX,List.getD,ren]
 |c::r,0=>by simp [zeX,List.getD]
 |c::r,i+1=>by have:=zcz ι r i;simpa [zeX,List.getD] using this
theorem zbU (n:Nat→Bool):∀ (cs:List AVal) (i:Nat),zaz n cs=true→zaw n (cs.getD i .junk)=true
 |[],i,_=>by simp [List.getD,zaw]
 |c::r,0,h=>by simp [zaz] at h;simpa [List.getD] using h.1
 |c::r,i+1,h=>by simp [zaz] at h;have:=zbU n r i h.2;simpa [List.getD] using this
theorem zrO (ι:Nat→Nat):∀ ps:List PVal,zeX ι (ps.map .pv)=ps.map .pv
 |[]=>rfl
 |p::r=>by simp [zeX,ren,zrO ι r]
theorem ziU (n:Nat→Bool):∀ ps:List PVal,zaz n (ps.map .pv)=true
 |[]=>rfl
 |p::r=>by simp [zaz,zaw,ziU n r]
theorem zh6 (ι:Nat→Nat) (q:Bool × List PVal):ren ι (zf3 q)=zf3 q:=by
 unfold zf3
 cases q.1<;>simp [ren,zrO]
theorem zfc (n:Nat→Bool) (q:Bool × List PVal):zaw n (zf3 q)=true:=by
 unfold zf3
 cases q.1<;>simp [zaw,ziU]
theorem zup {g gc:Gh} {D Dc:Nat→Prop} {M:Mem} {ι:Nat→Nat} {n:Nat→Bool} (hn:∀ k,n k=true→Dc k∧gc.ρ k=g.ρ (ι k)∧gc.κ k=g.κ (ι k)∧gc.ν k=g.ν (ι k)) :
  ∀ {x:AVal} {v:Value},V g D M x v→∀ c:AVal,x=ren ι c→zaw n c=true→V gc Dc M c v:=by
 intro x v h
 induction h with
 |pv r=>intro c e hs;cases c<;>simp only [ren,reduceCtorEq] at e;cases e;exact .pv r
 |snil=>intro c e hs;cases c<;>simp only [ren,reduceCtorEq] at e;exact .snil
 |ref id off hd=>
  intro c e hs;cases c<;>simp only [ren,reduceCtorEq] at e;cases e
  obtain ⟨h1,h2,h3,h4⟩:=hn _ hs
  rw [←h2];exact .ref _ _ h1
 |row id m hd hnu=>
  intro c e hs;cases c<;>simp only [ren,reduceCtorEq] at e;cases e
  obtain ⟨h1,h2,h3,h4⟩:=hn _ hs
  rw [←h2,←h3];exact .row _ _ h1 (by rw [h4];exact hnu)
 |rown id hd hnu=>
  intro c e hs;cases c<;>simp only [ren,reduceCtorEq] at e;cases e
  obtain ⟨h1,h2,h3,h4⟩:=hn _ hs
  exact .rown _ h1 (by rw [h4];exact hnu)
 |eref id i j sz hd=>
  intro c e hs;cases c<;>simp only [ren,reduceCtorEq] at e;cases e
  obtain ⟨h1,h2,h3,h4⟩:=hn _ hs
  rw [←h2];exact .eref _ _ _ _ h1
 |csl id n sz hd=>
  intro c e hs;cases c<;>simp only [ren,reduceCtorEq] at e;cases e
  obtain ⟨h1,h2,h3,h4⟩:=hn _ hs
  rw [←h2];exact .csl _ _ _ h1
 |map id hd=>
  intro c e hs;cases c<;>simp only [ren,reduceCtorEq] at e;cases e
  obtain ⟨h1,h2,h3,h4⟩:=hn _ hs
  rw [←h2];exact .map _ h1
 |agg cs vs hl _ ih=>
  intro c e hs;cases c<;>simp only [ren,reduceCtorEq] at e;cases e
  rename_i cs' _
  rw [zaJ] at hl
  exact .agg cs' vs hl (fun i hi=>ih i (by rw [zaJ];exact hi) _ (zcz ι cs' i) (zbU n cs' i hs))
 |tup cs vs hl _ ih=>
  intro c e hs;cases c<;>simp only [ren,reduceCtorEq] at e;cases e
  rename_i cs' _
  rw [zaJ] at hl
  exact .tup cs' vs hl (fun i hi=>ih i (by rw [zaJ];exact hi) _ (zcz ι cs' i) (zbU n cs' i hs))
 |clo f cs vs hl _ ih=>
  intro c e hs;cases c<;>simp only [ren,reduceCtorEq] at e;cases e
  rename_i cs' _
  rw [zaJ] at hl
  exact .clo f cs' vs hl (fun i hi=>ih i (by rw [zaJ];exact hi) _ (zcz ι cs' i) (zbU n cs' i hs))
 |junk v=>intro c e hs;cases c<;>simp only [ren,reduceCtorEq] at e;exact .junk v
theorem zxt {g gc:Gh} {D Dc:Nat→Prop} {M M':Mem} {ι:Nat→Nat} (hM:Mem.le M M') (hn:∀ k,Dc k→D (ι k)∧g.ρ (ι k)=gc.ρ k∧g.κ (ι k)=gc.κ k∧g.ν (ι k)=gc.ν k) :
  ∀ {c:AVal} {v:Value},V gc Dc M c v→V g D M' (ren ι c) v:=by
 intro c v h
 induction h with
 |pv r=>exact .pv (r.mono hM)
 |snil=>exact .snil
 |ref id off hd=>obtain ⟨h1,h2,h3,h4⟩:=hn _ hd;rw [←h2];exact .ref _ _ h1
 |row id m hd hnu=>obtain ⟨h1,h2,h3,h4⟩:=hn _ hd;rw [←h2,←h3];exact .row _ _ h1 (by rw [h4];exact hnu)
 |rown id hd hnu=>obtain ⟨h1,h2,h3,h4⟩:=hn _ hd;exact .rown _ h1 (by rw [h4];exact hnu)
 |eref id i j sz hd=>obtain ⟨h1,h2,h3,h4⟩:=hn _ hd;rw [←h2];exact .eref _ _ _ _ h1
 |csl id n sz hd=>obtain ⟨h1,h2,h3,h4⟩:=hn _ hd;rw [←h2];exact .csl _ _ _ h1
 |map id hd=>obtain ⟨h1,h2,h3,h4⟩:=hn _ hd;rw [←h2];exact .map _ h1
 |agg cs vs hl _ ih=>exact .agg _ vs (by rw [zaJ];exact hl) (fun i hi=>by rw [zaJ] at hi;rw [zcz];exact ih i hi)
 |tup cs vs hl _ ih=>exact .tup _ vs (by rw [zaJ];exact hl) (fun i hi=>by rw [zaJ] at hi;rw [zcz];exact ih i hi)
 |clo f cs vs hl _ ih=>exact .clo f _ vs (by rw [zaJ];exact hl) (fun i hi=>by rw [zaJ] at hi;rw [zcz];exact ih i hi)
 |junk v=>exact .junk v
def zaR (ι:Nat→Nat):List Nat→Nat→List (Option AObj)→List (Nat × AObj)
 |[],_,_=>[]
 |id::ids,k,objs'=>(id,zgt ι ((objs'.getD k none).getD .dead))::zaR ι ids (k+1) objs'
def zxu (P:Program) (o:Oper) (E:Ent) (σ:St) (g:Gh) (M:Mem) (a:Act) (w:World) (e:Eff):Prop:=
 ∀ (next:Act→World→Prop) (Q:Exit→Act→World→Prop),
  (∀ v w' g' M',Rel E (σ.app o.dst e) g' M' (a.put o.dst v) w'→(∀ id,σ.dom id→g.agree g' id)→Mem.le M M'→next (a.put o.dst v) w')→o.wp P a w next Q
theorem zbJ.toW {P:Program} {env:Env} {o:Oper} {E:Ent} {σ:St} {g:Gh} {M:Mem} {a:Act} {w:World} {e:Eff} (h:zbJ P env o E σ g M a w e):zxu P o E σ g M a w e:=by
 intro next Q hn
 obtain ⟨n,v,w',g',M',hrun,hv,hR,hag,hM⟩:=h
 unfold Oper.wp
 rw [hrun]
 rcases hv with rfl|⟨rfl,rfl⟩
 ·exact hn v w' g' M' hR hag hM
 ·exact hn _ w' g' M' hR hag hM
def zaL (objs:List (Option AObj)) (upd:List (Nat × AObj)):List (Option AObj):=upd.foldl (fun l q=>l.set q.1 (some q.2)) objs
theorem zdG:∀ (upd:List (Nat × AObj)) (objs:List (Option AObj)),(zaL objs upd).length=objs.length
 |[],_=>rfl
 |q::r,objs=>by simp only [zaL,List.foldl_cons];exact (zdG r _).trans (by simp)
theorem zea:∀ (upd:List (Nat × AObj)) (objs:List (Option AObj)) (id:Nat),(∀ q,q ∈ upd→q.1≠id)→(zaL objs upd).getD id none=objs.getD id none
 |[],_,_,_=>rfl
 |q::r,objs,id,h=>by
  simp only [zaL,List.foldl_cons]
  refine (zea r _ id (fun p hp=>h p (by simp [hp]))).trans ?_
  simp [List.getD,List.getElem?_set_ne (h q (by simp))]
theorem zgg (ι:Nat→Nat):∀ (l:List Nat) (k:Nat) (objs':List (Option AObj)) (q:Nat × AObj),q ∈ zaR ι l k objs'→q.1 ∈ l
 |[],_,_,_,h=>by simp [zaR] at h
 |id::r,k,objs',q,h=>by
  simp only [zaR,List.mem_cons] at h
  rcases h with rfl|h
  ·simp
  ·simp [zgg ι r (k+1) objs' q h]
theorem ziV (ι:Nat→Nat):∀ (l:List Nat) (k:Nat) (objs' objs:List (Option AObj)) (j:Nat),l.Nodup→(∀ id,id ∈ l→id<objs.length)→(hj:j<l.length) →
  (zaL objs (zaR ι l k objs')).getD (l.getD j 0) none=some (zgt ι ((objs'.getD (k+j) none).getD .dead))
 |[],_,_,_,_,_,_,hj=>by simp at hj
 |id::r,k,objs',objs,0,hnd,hlt,_=>by
  rw [List.nodup_cons] at hnd
  simp only [zaR,zaL,List.foldl_cons,List.getD_cons_zero,Nat.add_zero]
  refine (zea _ _ id (fun q hq e=>hnd.1 (e ▸ zgg ι r (k+1) objs' q hq))).trans ?_
  simp [List.getD,hlt id (by simp)]
 |id::r,k,objs',objs,j+1,hnd,hlt,hj=>by
  rw [List.nodup_cons] at hnd
  simp only [zaR,zaL,List.foldl_cons,List.getD_cons_succ]
  have:=ziV ι r (k+1) objs' (objs.set id (some (zgt ι ((objs'.getD k none).getD .dead)))) j hnd.2 (fun i hi=>by simp;exact hlt i (by simp [hi])) (by simpa using hj)
  rw [show k+1+j=k+(j+1) by omega] at this
  exact this
theorem zcN (g:Gh) (ι:Nat→Nat) (id:Nat) (ob:AObj):zbj g id (zgt ι ob)=zbj g id ob:=by cases ob<;>rfl
section call
variable {P:Program} {env:Env} {o:Oper} {E:Ent} {σ:St} {g:Gh} {M:Mem} {a:Act} {w:World}
def calls (env:Env) (σ:St) (op:Op) (f:FuncId) (vals:List AVal):Prop:=
 (∃ args tys,op=.call ⟨.value (.func f),args,tys⟩∧vals=args.toList.map (zah env σ)) ∨
 (∃ t args tys cs,op=.call ⟨.value (.tmp t),args,tys⟩∧σ.slot t=.clo f cs∧vals=args.toList.map (zah env σ)++cs)
structure CallFits (P:Program) (env:Env) (σ:St) (o:Oper) (f:FuncId) (vals:List AVal) (cargs:List AVal) (cobjs:List (Option AObj)) (ids news:List Nat) (objs':List (Option AObj)):Prop where
 op:calls env σ o.op f vals
 zag:∀ vargs w,(callFunc f vargs).run P w=.ok (.enter f vargs) w
 args:vals=zeX (fun k=>(ids++news).getD k 0) cargs
 objs:ids.map σ.obj=cobjs.map (Option.map (zgt fun k=>(ids++news).getD k 0))
 scopeA:zaz (zaq cobjs) cargs=true
 scopeO:∀ ob,some ob ∈ cobjs→zbX (zaq cobjs) ob=true
 nodup:(ids++news).Nodup
 lt:∀ id,id ∈ ids++news→id<env.nobj
 fresh:∀ id,id ∈ news→σ.obj id=none
 len:objs'.length≤(ids++news).length
theorem zlk {α:Type} (l:List α) (k:Nat) (d:α) (h:k<l.length):l.getD k d=l[k]:=by
 rw [List.getD_eq_getElem?_getD,List.getElem?_eq_getElem h];rfl
theorem zcO {l:List Nat} (h:l.Nodup) {i j:Nat} (hi:i<l.length) (hj:j<l.length) (e:l.getD i 0=l.getD j 0):i=j:=by
 have h1:l[i]=l[j]:=by simpa [List.getD,hi,hj] using e
 exact (List.nodup_iff_pairwise_ne.1 h |> fun hp=>by
  rcases Nat.lt_trichotomy i j with hlt|heq|hgt
  ·exact absurd h1 (List.pairwise_iff_getElem.1 hp i j hi hj hlt)
  ·exact heq
  ·exact absurd h1.symm (List.pairwise_iff_getElem.1 hp j i hj hi hgt))
theorem gA1 {α:Type} (l m:List α) (d:α) (i:Nat) (h:i<l.length):(l++m).getD i d=l.getD i d:=by rw [List.getD_eq_getElem?_getD,List.getElem?_append_left h,←List.getD_eq_getElem?_getD]
theorem gA2 {α:Type} (l m:List α) (d:α) (i:Nat) (h:l.length≤i):(l++m).getD i d=m.getD (i - l.length) d:=by rw [List.getD_eq_getElem?_getD,List.getElem?_append_right h,←List.getD_eq_getElem?_getD]
theorem zrP (hR:Rel E σ g M a w) (hG:zj6 env E M) {f:FuncId} {vals:List AVal} (hc:calls env σ o.op f vals) (hent:∀ vargs w,(callFunc f vargs).run P w=.ok (.enter f vargs) w) :
  ∃ vs:List Value,vs.length=vals.length∧(∀ i,i<vals.length→V g σ.dom M (vals.getD i .junk) (vs.getD i undef))∧(execOp a.eval o).run P w=.ok (.enter f vs.toArray) w:=by
 have hmap:∀ args:Array Operand,∀ i,i<(args.toList.map (zah env σ)).length→V g σ.dom M ((args.toList.map (zah env σ)).getD i .junk) ((args.toList.map a.eval).getD i undef):=fun args i hi=>by
  have hi':i<args.toList.length:=by simpa using hi
  obtain ⟨l⟩:=args
  have hi2:i<l.length:=hi'
  have e1:(l.map (zah env σ)).getD i .junk=zah env σ l[i]:=by simp [List.getD,hi2]
  have e2:(l.map a.eval).getD i undef=a.eval l[i]:=by simp [List.getD,hi2]
  show V g σ.dom M ((l.map (zah env σ)).getD i .junk) ((l.map a.eval).getD i undef)
  rw [e1,e2]
  exact zaF hR hG.1 _
 rcases hc with ⟨args,tys,ho,rfl⟩|⟨t,args,tys,cs,ho,hs,rfl⟩
 ·refine ⟨args.toList.map a.eval,by simp,hmap args,?_⟩
  have hva:(args.toList.map a.eval).toArray=args.map a.eval:=by apply Array.ext';simp
  rw [hva]
  simp only [execOp,ho,resolve,Sem.run_bind,Act.eval,Deferred.ofValue,Sem.run_pure,Result.andThen,invoke]
  have:=hent (args.map a.eval) w
  simpa using this
 ·have hV:=hR.slot t
  rw [hs] at hV
  generalize hv0:a.tmps.getD t undef=u at hV
  cases hV with
  |clo f cs vs hl hV=>
   refine ⟨args.toList.map a.eval++vs,by simp [hl],fun i hi=>?_,?_⟩
   ·by_cases hia:i<args.toList.length
    ·rw [gA1 _ _ _ _ (by simpa using hia),gA1 _ _ _ _ (by simpa using hia)]
     exact hmap args i (by simpa using hia)
    ·rw [gA2 _ _ _ _ (by simpa using hia),gA2 _ _ _ _ (by simpa using hia),List.length_map,List.length_map]
     rw [List.length_append,List.length_map] at hi
     exact hV _ (by omega)
   ·have hva:(args.toList.map a.eval++vs).toArray=args.map a.eval++vs.toArray:=by apply Array.ext';simp
    rw [hva]
    have hv1:a.eval (.tmp t)=.func (.func f) #[] vs.toArray:=hv0
    simp only [execOp,ho,resolve,Sem.run_bind,hv1,Deferred.ofValue,Sem.run_pure,Result.andThen,invoke]
    have:=hent (args.map a.eval++vs.toArray) w
    simpa using this
theorem zkv (hR:Rel E σ g M a w) (hG:zj6 env E M) (hl:σ.objs.length=env.nobj) {vals:List AVal} {cargs:List AVal} {cobjs:List (Option AObj)} {ids news:List Nat} {res:AVal} {objs':List (Option AObj)} {vs:List Value}
  (hvl:vs.length=vals.length) (hvV:∀ i,i<vals.length→V g σ.dom M (vals.getD i .junk) (vs.getD i undef))
  (hargs:vals=zeX (fun k=>(ids++news).getD k 0) cargs) (hobjs:ids.map σ.obj=cobjs.map (Option.map (zgt fun k=>(ids++news).getD k 0))) (hscA:zaz (zaq cobjs) cargs=true)
  (hscO:∀ ob,some ob ∈ cobjs→zbX (zaq cobjs) ob=true) (hnd:(ids++news).Nodup) (hlt:∀ id,id ∈ ids++news→id<env.nobj) (hfr:∀ id,id ∈ news→σ.obj id=none) (hlen:objs'.length≤(ids++news).length) :
  ∃ gc,Rel ⟨w,M,zaP gc cobjs,[]⟩ ⟨cargs,cobjs⟩ gc M ⟨vs.toArray,[]⟩ w∧zj6 ⟨fun _=>none,env.gl,fun _=>0,0⟩ ⟨w,M,zaP gc cobjs,[]⟩ M ∧
   ∀ w' v g2 M',Rel ⟨w,M,zaP gc cobjs,[]⟩ ⟨[res],objs'⟩ g2 M' ⟨#[v],[]⟩ w'→(∀ id,zaq cobjs id=true→gc.agree g2 id) →
    ∃ g',Rel E ⟨σ.slots,zaL σ.objs (zaR (fun k=>(ids++news).getD k 0) (ids++news) 0 objs')⟩ g' M' a w' ∧
     V g' (St.dom ⟨σ.slots,zaL σ.objs (zaR (fun k=>(ids++news).getD k 0) (ids++news) 0 objs')⟩) M' (ren (fun k=>(ids++news).getD k 0) res) v∧(∀ id,σ.dom id→g.agree g' id)∧Mem.le M M':=by
 generalize hι:(fun k=>(ids++news).getD k 0)=ι at *
 have hιe:∀ k,ι k=(ids++news).getD k 0:=fun k=>by rw [←hι]
 have hcl:cobjs.length=ids.length:=by have:=congrArg List.length hobjs;simpa using this.symm
 have hco:∀ k ob,cobjs.getD k none=some ob→k<ids.length∧σ.obj (ι k)=some (zgt ι ob):=fun k ob hk=>by
  have hkl:k<cobjs.length:=by
   rcases Nat.lt_or_ge k cobjs.length with h|h
   ·exact h
   ·simp [List.getD,List.getElem?_eq_none h] at hk
  have h1:=congrArg (fun l=>l[k]?) hobjs
  simp only [List.getElem?_map] at h1
  have hkI:k<ids.length:=by omega
  rw [List.getElem?_eq_getElem hkI,List.getElem?_eq_getElem hkl] at h1
  simp only [Option.map_some,Option.some.injEq] at h1
  have h2:cobjs[k]=some ob:=by simpa [List.getD,hkl] using hk
  rw [h2] at h1
  have h3:ι k=ids[k]:=by rw [hιe];simp [List.getD,List.getElem?_append_left hkI,hkI]
  rw [h3,h1];exact ⟨hkI,rfl⟩
 let gc:Gh:=⟨fun k=>g.ρ (ι k),fun k=>g.κ (ι k),fun k=>g.ν (ι k)⟩
 have hsc:∀ k,zaq cobjs k=true→St.dom ⟨cargs,cobjs⟩ k∧gc.ρ k=g.ρ (ι k)∧gc.κ k=g.κ (ι k)∧gc.ν k=g.ν (ι k):=fun k hk=>by
  refine ⟨fun h0=>?_,rfl,rfl,rfl⟩
  have h1:cobjs.getD k none=none:=h0
  simp only [zaq] at hk
  rw [h1] at hk
  cases hk
 have hown:∀ k ob,zbj gc k ob=zbj g (ι k) ob:=fun k ob=>by cases ob<;>rfl
 have hargl:cargs.length=vals.length:=by have:=congrArg List.length hargs;simpa [zaJ] using this.symm
 have hRc:Rel ⟨w,M,zaP gc cobjs,[]⟩ ⟨cargs,cobjs⟩ gc M ⟨vs.toArray,[]⟩ w:=by
  refine ⟨by simp [hargl,hvl],rfl,?_,?_,?_,?_,hR.sat,Mem.le_refl _,fun _ _ _ _=>rfl,Nat.le_refl _,fun _ _ _=>rfl,?_,rfl,rfl,rfl⟩
  ·intro i hi
   have hi2:i<vals.length:=by rw [←hargl];exact hi
   have e2:vals.getD i .junk=ren ι (cargs.getD i .junk):=by rw [←zcz,←hargs]
   show V gc _ M (cargs.getD i .junk) _
   have e1:vs.toArray.getD i undef=vs.getD i undef:=by simp
   rw [e1]
   exact zup (gc:=gc) (Dc:=St.dom ⟨cargs,cobjs⟩) hsc (hvV i hi2) (cargs.getD i .junk) e2 (zbU _ _ _ hscA)
  ·intro k ob hk
   have hk':cobjs.getD k none=some ob:=hk
   obtain ⟨hkI,hσ⟩:=hco k ob hk'
   have hor:=hR.objs _ _ hσ
   have hmem:some ob ∈ cobjs:=by
    have hkl:k<cobjs.length:=by omega
    have h2:cobjs[k]=some ob:=by simpa [List.getD,hkl] using hk'
    rw [←h2];exact List.getElem_mem hkl
   have hso:=hscO ob hmem
   cases ob with
   |cells cs=>
    obtain ⟨vals,T,hh,hs,hv⟩:=hor
    refine ⟨vals,T,hh,by rw [hs,zaJ],fun j hj=>?_⟩
    exact zup (gc:=gc) hsc (hv j (by rw [zaJ];exact hj)) _ (zcz ι cs j) (zbU _ _ _ hso)
   |row sz xs=>exact hor
   |map kd es=>
    obtain ⟨ents,clock,hh,hs,hv⟩:=hor
    refine ⟨ents,clock,hh,hs,fun i e he=>?_⟩
    obtain ⟨en,h1,h2,h3,h4⟩:=hv i e he
    exact ⟨en,h1,h2,h3,zup (gc:=gc) hsc h4 _ (zh6 _ _).symm (zfc _ _)⟩
   |bh T e B n=>
    obtain ⟨hd,hn,p,hh,hp⟩:=hor
    obtain ⟨k1,k2,k3,k4⟩:=hsc B hso
    have e1:ziH gc B n=ziH g (ι B) n:=by simp only [ziH,k2,k3,k4]
    exact ⟨k1,fun h=>hn (by rw [←k4];exact h),p,by rw [e1];exact hh,hp⟩
   |bb e s=>exact hor
   |dead=>trivial
  ·intro k k' ob ob' b hk hk' hb hb'
   obtain ⟨hkI,hσ⟩:=hco k ob hk
   obtain ⟨hkI',hσ'⟩:=hco k' ob' hk'
   rw [hown] at hb hb'
   have h1:=hR.apart _ _ _ _ b hσ hσ' (by rw [zcN];exact hb) (by rw [zcN];exact hb')
   rw [hιe,hιe] at h1
   exact zcO hnd (by simp;omega) (by simp;omega) h1
  ·intro k ob b hk hb i
   obtain ⟨hkI,hσ⟩:=hco k ob hk
   rw [hown] at hb
   exact hR.offM _ _ b hσ (by rw [zcN];exact hb) i
  ·intro k ob b hk hb
   exact .inl ⟨k,ob,hk,hb⟩
 have hB:∀ b,zaP gc cobjs b→∃ k ob,k<ids.length∧σ.obj (ι k)=some ob∧zbj g (ι k) ob=some b:=fun b ⟨k,ob,hk,hb⟩=>by
  obtain ⟨hkI,hσ⟩:=hco k ob hk
  rw [hown] at hb
  exact ⟨k,_,hkI,hσ,by rw [zcN];exact hb⟩
 have hEX:EX env.gl ⟨w,M,zaP gc cobjs,[]⟩:=fun b cs hb hne=>by
  obtain ⟨hnB,vals,T,l,hh,hs⟩:=hG.2 b cs hb hne
  refine ⟨fun hB'=>?_,vals,T,l,?_,hs⟩
  ·obtain ⟨k,ob,_,hσ,hb'⟩:=hB b hB'
   obtain ⟨u,hu,_⟩:=hG.1 b cs hb 0 (by cases cs with|nil=>exact absurd rfl hne|cons _ _=>simp)
   rw [hR.offM _ _ b hσ hb' 0] at hu
   cases hu
  ·exact (hR.same b (Array.getElem?_eq_some_iff.1 hh).1 hnB).trans hh
 refine ⟨gc,hRc,⟨hG.1,hEX⟩,fun w' v g2 M' hR2 hag=>?_⟩
 let g':Gh:=⟨fun id=>if id ∈ ids++news then g2.ρ ((ids++news).idxOf id) else g.ρ id,fun id=>if id ∈ ids++news then g2.κ ((ids++news).idxOf id) else g.κ id,fun id=>if id ∈ ids++news then g2.ν ((ids++news).idxOf id) else g.ν id⟩
 have hidx:∀ k,k<(ids++news).length→(ids++news).idxOf (ι k)=k:=fun k hk=>by
  rw [hιe]
  have:(ids++news).getD k 0=(ids++news)[k]:=zlk _ _ _ hk
  rw [this]
  exact List.Nodup.idxOf_getElem hnd k hk
 have hmemι:∀ k,k<(ids++news).length→ι k ∈ ids++news:=fun k hk=>by
  rw [hιe]
  have:(ids++news).getD k 0=(ids++news)[k]:=zlk _ _ _ hk
  rw [this];exact List.getElem_mem hk
 have hg':∀ k,k<(ids++news).length→g'.ρ (ι k)=g2.ρ k∧g'.κ (ι k)=g2.κ k∧g'.ν (ι k)=g2.ν k:=fun k hk=>by
  simp only [g',hmemι k hk,if_true,hidx k hk,and_self]
 have hgo:∀ id,id ∉ ids++news→g.agree g' id:=fun id hid=>by simp only [g',Gh.agree,hid,if_false,and_self]
 have hfind:∀ id,id ∈ ids++news→∃ k,k<(ids++news).length∧ι k=id:=fun id hid=>by
  obtain ⟨k,hk,rfl⟩:=List.mem_iff_getElem.1 hid
  exact ⟨k,hk,by rw [hιe];exact zlk _ _ _ hk⟩
 have hagree:∀ id,σ.dom id→g.agree g' id:=fun id hd=>by
  by_cases hid:id ∈ ids++news
  ·obtain ⟨k,hk,rfl⟩:=hfind id hid
   have hkI:k<ids.length:=by
    rcases Nat.lt_or_ge k ids.length with h|h
    ·exact h
    ·exfalso
     apply hd
     apply hfr
     rw [hιe]
     simp only [List.length_append] at hk
     have h9:k - ids.length<news.length:=by omega
     simp [List.getD,List.getElem?_append_right h,h9]
   have hob:zaq cobjs k=true:=by
    have h1:=congrArg (fun l=>l[k]?) hobjs
    have hkl:k<cobjs.length:=by omega
    simp only [List.getElem?_map,List.getElem?_eq_getElem hkI,List.getElem?_eq_getElem hkl,Option.map_some,Option.some.injEq] at h1
    have h3:ι k=ids[k]:=by rw [hιe];simp [List.getD,List.getElem?_append_left hkI,hkI]
    simp only [zaq,List.getD,List.getElem?_eq_getElem hkl,Option.getD_some]
    cases hc:cobjs[k] with
    |none=>
     rw [hc] at h1
     exfalso;apply hd;rw [h3];exact h1
    |some x=>rfl
   obtain ⟨h1,h2,h3⟩:=hag k hob
   obtain ⟨h4,h5,h6⟩:=hg' k hk
   exact ⟨by rw [h4,h1],by rw [h5,h2],by rw [h6,h3]⟩
  ·exact hgo id hid
 have hobjNew:∀ k,k<(ids++news).length→(zaL σ.objs (zaR ι (ids++news) 0 objs')).getD (ι k) none=some (zgt ι ((objs'.getD k none).getD .dead)):=fun k hk=>by
  have:=ziV ι (ids++news) 0 objs' σ.objs k hnd (fun id hid=>by rw [hl];exact hlt id hid) hk
  rw [Nat.zero_add,←hιe] at this
  exact this
 have hobjOld:∀ id,id ∉ ids++news→(zaL σ.objs (zaR ι (ids++news) 0 objs')).getD id none=σ.obj id:=fun id hid=>
  zea _ _ id (fun q hq e=>hid (e ▸ zgg ι _ _ _ q hq))
 let σ1:St:=⟨σ.slots,zaL σ.objs (zaR ι (ids++news) 0 objs')⟩
 have hobj1:∀ id ob,σ1.obj id=some ob→(∃ k,k<(ids++news).length∧ι k=id∧ob=zgt ι ((objs'.getD k none).getD .dead))∨(id ∉ ids++news∧σ.obj id=some ob):=fun id ob ho=>by
  by_cases hid:id ∈ ids++news
  ·obtain ⟨k,hk,rfl⟩:=hfind id hid
   have h1:σ1.obj (ι k)=_:=hobjNew k hk
   rw [h1] at ho
   cases ho
   exact .inl ⟨k,hk,rfl,rfl⟩
  ·have h1:σ1.obj id=σ.obj id:=hobjOld id hid
   rw [h1] at ho
   exact .inr ⟨hid,ho⟩
 have hdom1:∀ id,σ.dom id→σ1.dom id:=fun id hd=>by
  by_cases hid:id ∈ ids++news
  ·obtain ⟨k,hk,rfl⟩:=hfind id hid
   have h1:σ1.obj (ι k)=_:=hobjNew k hk
   simp [St.dom,h1]
  ·have h1:σ1.obj id=σ.obj id:=hobjOld id hid
   simp only [St.dom,h1];exact hd
 have hdom2:∀ k,St.dom ⟨[res],objs'⟩ k→σ1.dom (ι k)∧g'.ρ (ι k)=g2.ρ k∧g'.κ (ι k)=g2.κ k∧g'.ν (ι k)=g2.ν k:=fun k hk=>by
  have hkl:k<objs'.length:=by
   rcases Nat.lt_or_ge k objs'.length with h|h
   ·exact h
   ·exfalso;apply hk;simp [St.obj,List.getElem?_eq_none h]
  have hk2:k<(ids++news).length:=by omega
  refine ⟨?_,hg' k hk2⟩
  have h1:σ1.obj (ι k)=_:=hobjNew k hk2
  simp [St.dom,h1]
 have hownNew:∀ k ob,k<(ids++news).length→zbj g' (ι k) ob=zbj g2 k ob:=fun k ob hk=>by
  obtain ⟨h1,h2,h3⟩:=hg' k hk
  cases ob<;>simp [zbj,h1,h3]
 have hcase:∀ k b,zbj g2 k ((objs'.getD k none).getD .dead)=some b→∃ ob,objs'.getD k none=some ob∧zbj g2 k ob=some b:=fun k b h=>by
  cases ho:objs'.getD k none with
  |none=>rw [ho] at h;simp [zbj] at h
  |some ob=>rw [ho] at h;exact ⟨ob,rfl,h⟩
 have hnotB:∀ id ob b,id ∉ ids++news→σ.obj id=some ob→zbj g id ob=some b→¬ zaP gc cobjs b:=fun id ob b hid ho hb hBb=>by
  obtain ⟨k,ob',hkI,hσ,hb'⟩:=hB b hBb
  have:=hR.apart id (ι k) ob ob' b ho hσ hb hb'
  exact hid (by rw [this];exact hmemι k (by simp;omega))
 have hR1:Rel E σ1 g' M' a w':=by
  refine ⟨hR.size,hR.defers,?_,?_,?_,?_,hR2.sat,fun b i u hu=>hR2.M0 b i u (hR.M0 b i u hu),?_,Nat.le_trans hR.size0 hR2.size0,?_,?_,hR2.os.trans hR.os,hR2.tape.trans hR.tape,hR2.output.trans hR.output⟩
  ·intro i hi
   exact (hR.slots i hi).mono hagree hdom1 hR2.M0
  ·intro id ob ho
   rcases hobj1 id ob ho with ⟨k,hk,rfl,rfl⟩|⟨hid,ho'⟩
   ·cases hob:objs'.getD k none with
    |none=>trivial
    |some ob=>
     have hor:=hR2.objs k ob hob
     obtain ⟨h1,h2,h3⟩:=hg' k hk
     cases ob with
     |cells cs=>
      obtain ⟨vals,T,hh,hs,hv⟩:=hor
      refine ⟨vals,T,by rw [h1];exact hh,by rw [hs];simp [zaJ],fun j hj=>?_⟩
      simp only [Option.getD_some,zaJ] at hj ⊢
      rw [zcz]
      exact zxt (Mem.le_refl _) hdom2 (hv j hj)
     |row sz xs=>
      obtain ⟨r1,r2,r3⟩:=hor
      refine ⟨r1,fun hnu=>r2 (by rw [←h3];exact hnu),fun hnu=>?_⟩
      obtain ⟨vals,T,hh,r4,r5,r6⟩:=r3 (by rw [←h3];exact hnu)
      exact ⟨vals,T,by rw [h1];exact hh,by rw [h2];exact r4,by rw [h2];exact r5,r6⟩
     |map kd es=>
      obtain ⟨ents,clock,hh,hs,hv⟩:=hor
      refine ⟨ents,clock,by rw [h1];exact hh,hs,fun i e he=>?_⟩
      obtain ⟨en,q1,q2,q3,q4⟩:=hv i e he
      exact ⟨en,q1,q2,q3,zh6 ι e.2 ▸ zxt (Mem.le_refl _) hdom2 q4⟩
     |bh T e B n=>
      obtain ⟨hd,hn,p,hh,hp⟩:=hor
      obtain ⟨k1,k2,k3,k4⟩:=hdom2 B hd
      have e1:ziH g' (ι B) n=ziH g2 B n:=by simp only [ziH,k2,k3,k4]
      exact ⟨k1,fun h=>hn (by rw [←k4];exact h),p,by rw [e1,h1];exact hh,by rw [h1];exact hp⟩
     |bb e s=>
      obtain ⟨r2,r3⟩:=hor
      refine ⟨fun hnu=>r2 (by rw [←h3];exact hnu),fun hnu=>?_⟩
      obtain ⟨cur,hh,r4,r5,r6,r7⟩:=r3 (by rw [←h3];exact hnu)
      exact ⟨cur,by rw [h1];exact hh,by rw [h2];exact r4,by rw [h2];exact r5,by rw [h2];exact r6,r7⟩
     |dead=>trivial
   ·refine (hR.objs id ob ho').keep hagree (hgo id hid) hdom1 hR2.M0 (fun b hb=>?_)
    exact hR2.same b (ze8 (hR.objs id ob ho') hb) (hnotB id ob b hid ho' hb)
  ·intro id id' ob ob' b ho ho' hb hb'
   rcases hobj1 id ob ho with ⟨k,hk,rfl,rfl⟩|⟨hid,hoo⟩
   ·rw [zcN,hownNew k _ hk] at hb
    obtain ⟨x,hx,hxb⟩:=hcase k b hb
    rcases hobj1 id' ob' ho' with ⟨k',hk',rfl,rfl⟩|⟨hid',hoo'⟩
    ·rw [zcN,hownNew k' _ hk'] at hb'
     obtain ⟨x',hx',hxb'⟩:=hcase k' b hb'
     rw [hR2.apart k k' x x' b hx hx' hxb hxb']
    ·exfalso
     rw [zdN (hgo id' hid')] at hb'
     rcases hR2.own0 k x b hx hxb with h1|h1
     ·exact hnotB id' ob' b hid' hoo' hb' h1
     ·have:=ze8 (hR.objs id' ob' hoo') hb';simp at h1;omega
   ·rw [zdN (hgo id hid)] at hb
    rcases hobj1 id' ob' ho' with ⟨k',hk',rfl,rfl⟩|⟨hid',hoo'⟩
    ·exfalso
     rw [zcN,hownNew k' _ hk'] at hb'
     obtain ⟨x',hx',hxb'⟩:=hcase k' b hb'
     rcases hR2.own0 k' x' b hx' hxb' with h1|h1
     ·exact hnotB id ob b hid hoo hb h1
     ·have:=ze8 (hR.objs id ob hoo) hb;simp at h1;omega
    ·rw [zdN (hgo id' hid')] at hb'
     exact hR.apart id id' ob ob' b hoo hoo' hb hb'
  ·intro id ob b ho hb i
   rcases hobj1 id ob ho with ⟨k,hk,rfl,rfl⟩|⟨hid,hoo⟩
   ·rw [zcN,hownNew k _ hk] at hb
    obtain ⟨x,hx,hxb⟩:=hcase k b hb
    exact hR2.offM k x b hx hxb i
   ·rw [zdN (hgo id hid)] at hb
    have h1:=hR2.Mnew b i (ze8 (hR.objs id ob hoo) hb) (hnotB id ob b hid hoo hb)
    rw [h1]
    exact hR.offM id ob b hoo hb i
  ·intro b i hb hnB
   have h2:¬ zaP gc cobjs b:=fun hBb=>by
    obtain ⟨k,ob',hkI,hσ,hb'⟩:=hB b hBb
    rcases hR.own0 _ _ b hσ hb' with h1|h1
    ·exact hnB h1
    ·omega
   rw [hR2.Mnew b i (Nat.lt_of_lt_of_le hb hR.size0) h2]
   exact hR.Mnew b i hb hnB
  ·intro b hb hnB
   have h2:¬ zaP gc cobjs b:=fun hBb=>by
    obtain ⟨k,ob',hkI,hσ,hb'⟩:=hB b hBb
    rcases hR.own0 _ _ b hσ hb' with h1|h1
    ·exact hnB h1
    ·omega
   rw [hR2.same b (Nat.lt_of_lt_of_le hb hR.size0) h2]
   exact hR.same b hb hnB
  ·intro id ob b ho hb
   rcases hobj1 id ob ho with ⟨k,hk,rfl,rfl⟩|⟨hid,hoo⟩
   ·rw [zcN,hownNew k _ hk] at hb
    obtain ⟨x,hx,hxb⟩:=hcase k b hb
    rcases hR2.own0 k x b hx hxb with h1|h1
    ·obtain ⟨k',ob',_,hσ,hb'⟩:=hB b h1
     exact hR.own0 _ _ b hσ hb'
    ·right;have:=hR.size0;simp at h1;omega
   ·rw [zdN (hgo id hid)] at hb
    exact hR.own0 id ob b hoo hb
 have hres:V g' σ1.dom M' (ren ι res) v:=by
  have h1:=hR2.slots 0 (by simp)
  exact zxt (Mem.le_refl _) hdom2 (by simpa [St.slot] using h1)
 exact ⟨g',hR1,hres,hagree,hR2.M0⟩
theorem zmz (hR:Rel E σ g M a w) (hG:zj6 env E M) (hl:σ.objs.length=env.nobj) {f:FuncId} {vals:List AVal} {cargs:List AVal} {cobjs:List (Option AObj)} {ids news:List Nat} {res:AVal} {objs':List (Option AObj)} {C:Value→Ending→Prop}
  (hfit:CallFits P env σ o f vals cargs cobjs ids news objs') (hac:AG P env.gl f cargs cobjs C res objs') :
  ∃ vs:List Value,(execOp a.eval o).run P w=.ok (.enter f vs.toArray) w∧Calls P f vs.toArray w fun e w'=>∃ v g' M',C v e ∧
   Rel E ⟨σ.slots,zaL σ.objs (zaR (fun k=>(ids++news).getD k 0) (ids++news) 0 objs')⟩ g' M' a w' ∧
   V g' (St.dom ⟨σ.slots,zaL σ.objs (zaR (fun k=>(ids++news).getD k 0) (ids++news) 0 objs')⟩) M' (ren (fun k=>(ids++news).getD k 0) res) v ∧
   (∀ id,σ.dom id→g.agree g' id)∧Mem.le M M':=by
 obtain ⟨ho,hent,hargs,hobjs,hscA,hscO,hnd,hlt,hfr,hlen⟩:=hfit
 obtain ⟨vs,hvl,hvV,hrun⟩:=zrP (P:=P) hR hG ho hent
 refine ⟨vs,hrun,?_⟩
 obtain ⟨gc,h1,h2,h3⟩:=zkv (res:=res) (objs':=objs') hR hG hl hvl hvV hargs hobjs hscA hscO hnd hlt hfr hlen
 refine Calls.mono (hac w M gc vs h1 h2) fun e w' ⟨v,g2,M',he,hR2,hag⟩=>?_
 obtain ⟨g',q1,q2,q3,q4⟩:=h3 w' v g2 M' hR2 hag
 exact ⟨v,g',M',he,q1,q2,q3,q4⟩
theorem zrQ (hR:Rel E σ g M a w) (hG:zj6 env E M) (hl:σ.objs.length=env.nobj) {f:FuncId} {vals:List AVal} {cargs:List AVal} {cobjs:List (Option AObj)} {ids news:List Nat} {res:AVal} {objs':List (Option AObj)}
  (hfit:CallFits P env σ o f vals cargs cobjs ids news objs') (hac:AC P env.gl f cargs cobjs res objs') :
  zxu P o E σ g M a w ⟨ren (fun k=>(ids++news).getD k 0) res,zaR (fun k=>(ids++news).getD k 0) (ids++news) 0 objs'⟩:=by
 intro next Q hn
 obtain ⟨vs,hrun,hc⟩:=zmz hR hG hl hfit hac
 unfold Oper.wp
 rw [hrun]
 refine Calls.mono hc fun e w' ⟨v,g',M',he,hR1,hres,hag,hM⟩=>?_
 subst he
 exact hn v w' g' M' (hR1.put o.dst hres) hag hM
theorem znV (hR:Rel E σ g M a w) (hG:zj6 env E M) (hl:σ.objs.length=env.nobj) {f:FuncId} {vals:List AVal} {cargs:List AVal} {cobjs:List (Option AObj)} {ids news:List Nat} {x:Value} {objs':List (Option AObj)}
  (hfit:CallFits P env σ o f vals cargs cobjs ids news objs') (hac:AP P env.gl f cargs cobjs x objs') (next:Act→World→Prop) (Q:Exit→Act→World→Prop)
  (hQ:∀ w' g' M',Rel E ⟨σ.slots,zaL σ.objs (zaR (fun k=>(ids++news).getD k 0) (ids++news) 0 objs')⟩ g' M' a w'→(∀ id,σ.dom id→g.agree g' id)→Mem.le M M'→Q (.panic (zke x)) a w'):o.wp P a w next Q:=by
 obtain ⟨vs,hrun,hc⟩:=zmz hR hG hl hfit hac
 unfold Oper.wp
 rw [hrun]
 refine Calls.mono hc fun e w' ⟨v,g',M',he,hR1,hres,hag,hM⟩=>?_
 subst he
 exact hQ w' g' M' hR1 hag hM
end call
end Go.Abs
namespace Go.Abs
open Go
inductive Step (P:Program) (env:Env) (o:Oper) (σ:St):List Nat→Eff→Prop
 |op (e:Eff):aop env o.dst (zah env σ) σ.obj o.op=some e→Step P env o σ (zbv env o.dst (zah env σ) o.op) e
 |call (f:FuncId) (args:List AVal) (cargs:List AVal) (cobjs:List (Option AObj)) (ids news:List Nat) (res:AVal) (objs':List (Option AObj)) :
   CallFits P env σ o f args cargs cobjs ids news objs'→AC P env.gl f cargs cobjs res objs' →
   Step P env o σ (ids++news) ⟨ren (fun k=>(ids++news).getD k 0) res,zaR (fun k=>(ids++news).getD k 0) (ids++news) 0 objs'⟩
section
variable {P:Program} {env:Env} {o:Oper} {E:Ent} {σ σ':St} {g:Gh} {M:Mem} {a:Act} {w:World} {e:Eff}
theorem Step.does {T:List Nat} (h:Step P env o σ T e) (hR:Rel E σ g M a w) (hG:zj6 env E M) (hE:zaY P env) (hl:σ.objs.length=env.nobj):zxu P o E σ g M a w e:=by
 cases h with
 |op _ h=>exact (zh5 hR hG.1 hE hl h).toW
 |call f args cargs cobjs ids news res objs' hf hac=>exact zrQ hR hG hl hf hac
theorem zll {ob ob':Nat→Option AObj} {v:AVal} (h:∀ id n,v=.row id n→ob id=ob' id):zcD ob v=zcD ob' v:=by
 cases v with
 |row id n=>simp only [zcD,h id n rfl]
 |pv p=>cases p<;>rfl
 |_=>rfl
theorem zrR (env:Env) (dst:Option Nat) {ev ev':Operand→AVal} {ob ob':Nat→Option AObj} (op:Op) (hev:∀ x,x ∈ op.operands→ev x=ev' x)
  (hob:∀ id,id ∈ zbv env dst ev op→ob id=ob' id):aop env dst ev ob op=aop env dst ev' ob' op∧zbv env dst ev op=zbv env dst ev' op:=by
 cases op with
 |move x=>simp [aop,zbv,hev x (by simp [Op.operands])]
 |assign x=>simp [aop,zbv,hev x (by simp [Op.operands])]
 |pick c x y=>simp [aop,zbv,hev c (by simp [Op.operands]),hev x (by simp [Op.operands]),hev y (by simp [Op.operands])]
 |alloc t=>
  refine ⟨?_,rfl⟩
  simp only [zbv] at hob
  simp only [aop]
  cases hty:env.ty t with
  |none=>rfl
  |some ty=>
   cases dst with
   |none=>rfl
   |some d=>
    rw [hty] at hob
    simp only at hob ⊢
    cases hb:ty.bld with
    |none=>
     rw [hb] at hob
     simp only at hob ⊢
     simp only [hob (env.site d) (by simp)]
    |some e=>
     rw [hb] at hob
     simp only at hob ⊢
     simp only [hob (env.site d) (by simp),hob (env.site d+1) (by simp)]
 |box t x=>
  refine ⟨?_,rfl⟩
  cases dst with
  |none=>rfl
  |some d=>simp only [aop,hob (env.site d) (by simp [zbv]),hev x (by simp [Op.operands])]
 |build t ps=>
  have:(ps.toList.map fun q=>(q.1,ev q.2))=(ps.toList.map fun q=>(q.1,ev' q.2)):=List.map_congr_left fun q hq=>by
   rw [hev q.2 (by simp only [Op.operands,List.mem_toArray,List.mem_map];exact ⟨q,hq,rfl⟩)]
  exact ⟨by simp only [aop,this],rfl⟩
 |buildSlice t n ps=>
  have this:(ps.toList.map fun q=>(q.1,ev q.2))=(ps.toList.map fun q=>(q.1,ev' q.2)):=List.map_congr_left fun q hq=>by
   rw [hev q.2 (by simp only [Op.operands,List.mem_toArray,List.mem_map];exact ⟨q,hq,rfl⟩)]
  refine ⟨?_,by simp only [zbv,this]⟩
  simp only [zbv] at hob
  simp only [aop,←this]
  cases hty:env.ty t with
  |none=>rfl
  |some ty=>
   rw [hty] at hob
   simp only at hob ⊢
   cases har:zgu ty.eSize 0 (ps.toList.map fun q=>(q.1,ev q.2)) with
   |some xs=>rfl
   |none=>
    rw [har] at hob
    cases dst with
    |none=>rfl
    |some d=>simp only at hob ⊢;simp only [hob (env.site d) (by simp)]
 |load t p=>
  have hp:=hev p (by simp [Op.operands])
  refine ⟨?_,by simp only [zbv,hp]⟩
  simp only [zbv] at hob
  simp only [aop,←hp]
  cases env.ty t with
  |none=>rfl
  |some ty=>
   cases hv:ev p with
   |ref id off=>rw [hv] at hob;simp only [hob id (by simp)]
   |eref id i j sz=>rw [hv] at hob;simp only [hob id (by simp)]
   |pv q=>cases q<;>rfl
   |_=>rfl
 |store t p x=>
  have hp:=hev p (by simp [Op.operands])
  have hx:=hev x (by simp [Op.operands])
  refine ⟨?_,by simp only [zbv,hp]⟩
  simp only [zbv] at hob
  simp only [aop,←hp,←hx]
  cases env.ty t with
  |none=>rfl
  |some ty=>
   cases hv:ev p with
   |ref id off=>rw [hv] at hob;simp only [hob id (by simp)]
   |eref id i j sz=>rw [hv] at hob;simp only [hob id (by simp)]
   |_=>rfl
 |nilCheck x=>simp [aop,zbv,hev x (by simp [Op.operands])]
 |binOp op t x y t'=>simp [aop,zbv,hev x (by simp [Op.operands]),hev y (by simp [Op.operands])]
 |unOp op t x=>simp [aop,zbv,hev x (by simp [Op.operands])]
 |convert s d x=>
  have hx:=hev x (by simp [Op.operands])
  refine ⟨?_,by simp only [zbv,hx]⟩
  simp only [zbv] at hob
  simp only [aop,←hx]
  cases env.ty s<;>cases env.ty d<;>cases hv:ev x
  all_goals first
   |rfl
   |(rw [hv] at hob;simp only [hob _ (List.mem_singleton.2 rfl)])
   |(rename_i q;cases q<;>rfl)
 |fieldAddr s x k=>simp [aop,zbv,hev x (by simp [Op.operands])]
 |indexAddr t x i=>
  have hx:=hev x (by simp [Op.operands])
  have hi:=hev i (by simp [Op.operands])
  refine ⟨?_,by simp only [zbv,hx]⟩
  simp only [zbv] at hob
  simp only [aop,←hx,←hi]
  split
  ·split
   ·rfl
   ·rename_i ty _ _ _ _ _
    cases ty.kind with
    |slice=>
     cases hv:ev x with
     |row id n=>rw [hv] at hob;simp only [hob id (by simp)]
     |pv q=>cases q<;>rfl
     |_=>rfl
    |array n=>
     cases hv:ev x with
     |pv q=>cases q<;>rfl
     |_=>rfl
    |_=>rfl
  ·rfl
 |makeSlice t n c=>
  refine ⟨?_,rfl⟩
  simp only [aop,hev n (by simp [Op.operands]),hev c (by simp [Op.operands])]
  cases env.ty t with
  |none=>rfl
  |some ty=>
   cases dst with
   |none=>rfl
   |some d=>simp only [hob (env.site d) (by simp [zbv])]
 |makeMap t r=>
  cases r with
  |some r=>exact ⟨rfl,rfl⟩
  |none=>
   refine ⟨?_,rfl⟩
   simp only [aop]
   cases env.ty t with
   |none=>rfl
   |some ty=>
    cases dst with
    |none=>rfl
    |some d=>simp only [hob (env.site d) (by simp [zbv])]
 |lookup t x k ok=>
  have hx:=hev x (by simp [Op.operands])
  have hk:=hev k (by simp [Op.operands])
  refine ⟨?_,by simp only [zbv,hx]⟩
  simp only [zbv] at hob
  simp only [aop,←hx,←hk]
  cases env.ty t with
  |none=>rfl
  |some ty=>
   cases hv:ev x with
   |map id=>
    rw [hv] at hob
    cases hkv:ev k with
    |pv q=>simp only [hob id (by simp)]
    |_=>rfl
   |_=>rfl
 |mapUpdate t m k x=>
  have hm:=hev m (by simp [Op.operands])
  have hk:=hev k (by simp [Op.operands])
  have hx:=hev x (by simp [Op.operands])
  refine ⟨?_,by simp only [zbv,hm]⟩
  simp only [zbv] at hob
  simp only [aop,←hm,←hk,←hx]
  cases env.ty t with
  |none=>rfl
  |some ty=>
   cases hv:ev m with
   |map id=>
    rw [hv] at hob
    cases hkv:ev k with
    |pv q=>
     cases zud (ev x) with
     |none=>rfl
     |some v=>simp only [hob id (by simp)]
    |_=>rfl
   |_=>rfl
 |index t x i=>simp [aop,zbv,hev x (by simp [Op.operands]),hev i (by simp [Op.operands])]
 |extract x k=>simp [aop,zbv,hev x (by simp [Op.operands])]
 |slice t x lo hi mx=>
  have hx:=hev x (by simp [Op.operands])
  have hlo:∀ d,zcH ev lo d=zcH ev' lo d:=fun d=>by cases lo with
   |none=>rfl
   |some q=>simp only [zcH,hev q (by simp [Op.operands])]
  have hhi:∀ d,zcH ev hi d=zcH ev' hi d:=fun d=>by cases hi with
   |none=>rfl
   |some q=>simp only [zcH,hev q (by simp [Op.operands])]
  exact ⟨by simp only [aop,hx,hlo,hhi],rfl⟩
 |call c=>
  obtain ⟨cl,args,tys⟩:=c
  cases cl with
  |builtin b=>
   have hargs:∀ x,x ∈ args.toList→ev x=ev' x:=fun x hx=>hev x (by simp [Op.operands,Call.operands];exact Array.mem_toList_iff.1 hx)
   cases b with
   |len=>
    refine ⟨?_,rfl⟩
    simp only [aop]
    split
    ·rename_i x t h1 h2;rw [hargs x (by rw [h1];simp)]
    ·rfl
   |max=>
    refine ⟨?_,rfl⟩
    simp only [aop]
    split
    ·rename_i x r h1
     rw [hargs x (by rw [h1];simp),List.map_congr_left (fun y hy=>hargs y (by rw [h1];simp [hy]))]
    ·rfl
   |min=>
    refine ⟨?_,rfl⟩
    simp only [aop]
    split
    ·rename_i x r h1
     rw [hargs x (by rw [h1];simp),List.map_congr_left (fun y hy=>hargs y (by rw [h1];simp [hy]))]
    ·rfl
   |append=>
    have key:∀ x y,args.toList=[x,y]→ev x=ev' x∧ev y=ev' y:=fun x y h=>⟨hargs x (by rw [h];simp),hargs y (by rw [h];simp)⟩
    refine ⟨?_,?_⟩
    ·simp only [aop]
     simp only [zbv] at hob
     split
     ·rename_i x y t t' d h1 h2
      obtain ⟨hx,hy⟩:=key x y h1
      rw [h1] at hob
      rw [←hx,←hy]
      have h3:=hob (env.site d) (by simp)
      have h4:zcD ob (ev y)=zcD ob' (ev y):=zll (fun id n hv=>hob id (by simp [hv]))
      rw [h3,h4]
      split
      ·split
       ·split
        ·rfl
        ·rename_i id n hv;rw [hob id (by simp [hv])]
        ·rfl
        ·rfl
       ·rfl
      ·rfl
     ·rfl
    ·simp only [zbv]
     split
     ·rename_i x y h1
      obtain ⟨hx,hy⟩:=key x y h1
      rw [hx,hy]
     ·rfl
   |_=>exact ⟨rfl,rfl⟩
  |value f=>exact ⟨rfl,rfl⟩
  |invoke r m=>exact ⟨rfl,rfl⟩
 |makeFunc fn first cap=>
  refine ⟨?_,rfl⟩
  cases fn with
  |func f=>
   simp only [aop]
   have:cap.toList.map ev=cap.toList.map ev':=List.map_congr_left fun x hx=>hev x (by simp [Op.operands];exact .inr (Array.mem_toList_iff.1 hx))
   rw [this]
  |_=>rfl
 |makeInterface t x=>simp [aop,zbv,hev x (by simp [Op.operands])]
 |typeAssert x t0 t ok=>simp [aop,zbv,hev x (by simp [Op.operands])]
 |_=>exact ⟨rfl,rfl⟩
theorem znW {f:FuncId} {vals:List AVal} (h:calls env σ o.op f vals) (hev:∀ x,x ∈ o.op.operands→zah env σ x=zah env σ' x):calls env σ' o.op f vals:=by
 rcases h with ⟨args,tys,ho,rfl⟩|⟨t,args,tys,cs,ho,hs,rfl⟩
 ·refine .inl ⟨args,tys,ho,?_⟩
  exact List.map_congr_left fun x hx=>hev x (by simp [ho,Op.operands,Call.operands];exact .inr (Array.mem_toList_iff.1 hx))
 ·refine .inr ⟨t,args,tys,cs,ho,?_,?_⟩
  ·have:=hev (.tmp t) (by simp [ho,Op.operands,Call.operands])
   rw [←hs]
   exact this.symm
  ·congr 1
   exact List.map_congr_left fun x hx=>hev x (by simp [ho,Op.operands,Call.operands];exact .inr (Array.mem_toList_iff.1 hx))
theorem CallFits.local {f:FuncId} {vals cargs:List AVal} {cobjs:List (Option AObj)} {ids news:List Nat} {objs':List (Option AObj)} (hf:CallFits P env σ o f vals cargs cobjs ids news objs')
  (hev:∀ x,x ∈ o.op.operands→zah env σ x=zah env σ' x) (hob:∀ id,id ∈ ids++news→σ.obj id=σ'.obj id):CallFits P env σ' o f vals cargs cobjs ids news objs':=by
 obtain ⟨ho,hent,hargs,hobjs,hscA,hscO,hnd,hlt,hfr,hlen⟩:=hf
 refine ⟨znW ho hev,hent,hargs,?_,hscA,hscO,hnd,hlt,fun id hid=>?_,hlen⟩
 ·rw [←hobjs]
  exact List.map_congr_left fun id hid=>(hob id (by simp [hid])).symm
 ·rw [←hob id (by simp [hid])];exact hfr id hid
theorem Step.local {T:List Nat} (h:Step P env o σ T e) (hev:∀ x,x ∈ o.op.operands→zah env σ x=zah env σ' x) (hob:∀ id,id ∈ T→σ.obj id=σ'.obj id):Step P env o σ' T e:=by
 cases h with
 |op _ h=>
  obtain ⟨h1,h2⟩:=zrR env o.dst o.op hev hob
  rw [h2]
  exact .op e (h1 ▸ h)
 |call f args cargs cobjs ids news res objs' hf hac=>
  refine .call f args cargs cobjs ids news res objs' ?_ hac
  exact hf.local hev hob
end
def zdS (ops:Array Oper) (σ:St) (o:Oper):Option Bool:=
 match o.guard with
 |none=>some true
 |some (j,want)=>match (ops[j]?).bind (·.dst) with
  |some t=>match σ.slot t with
   |.pv (.bool b)=>some (b==want)
   |.tup []=>some false
   |_=>none
  |none=>none
inductive GStep (P:Program) (env:Env) (ops:Array Oper) (o:Oper) (σ:St):List Nat→Eff→Prop
 |run (T:List Nat) (e:Eff):zdS ops σ o=some true→Step P env o σ T e→GStep P env ops o σ T e
 |skip:zdS ops σ o=some false→GStep P env ops o σ [] ⟨.tup [],[]⟩
section
variable {P:Program} {env:Env} {o:Oper} {E:Ent} {σ σ':St} {g:Gh} {M:Mem} {a:Act} {w:World} {e:Eff} {ops:Array Oper}
theorem zdT (hR:Rel E σ g M a w) {b:Bool} (h:zdS ops σ o=some b):Region.wanted o (yielded ops a.tmps)=b:=by
 unfold zdS at h
 unfold Region.wanted
 cases hg:o.guard with
 |none=>rw [hg] at h;cases h;rfl
 |some q=>
  obtain ⟨j,want⟩:=q
  rw [hg] at h
  simp only at h ⊢
  split at h
  ·rename_i t ht
   split at h
   ·rename_i c hc
    cases h
    have hlt:t<σ.slots.length:=by
     rcases Nat.lt_or_ge t σ.slots.length with h'|h'
     ·exact h'
     ·simp [St.slot,List.getElem?_eq_none h'] at hc
    have hv:=hR.slots t hlt
    rw [hc] at hv
    have hv':=hv.bool_inv
    have hget:a.tmps[t]?=some (.bool c):=by
     have hlt2:t<a.tmps.size:=by rw [hR.size];exact hlt
     rw [Array.getD_eq_getD_getElem?,Array.getElem?_eq_getElem hlt2] at hv'
     rw [Array.getElem?_eq_getElem hlt2]
     simpa using hv'
    have hy:yielded ops a.tmps j=some c:=by simp [yielded,ht,hget]
    rw [hy]
    cases c<;>cases want<;>rfl
   ·rename_i hc
    cases h
    have hlt:t<σ.slots.length:=by
     rcases Nat.lt_or_ge t σ.slots.length with h'|h'
     ·exact h'
     ·simp [St.slot,List.getElem?_eq_none h'] at hc
    have hv:=hR.slots t hlt
    rw [hc] at hv
    have hlt2:t<a.tmps.size:=by rw [hR.size];exact hlt
    rw [Array.getD_eq_getD_getElem?,Array.getElem?_eq_getElem hlt2] at hv
    simp only [Option.getD_some] at hv
    have hy:yielded ops a.tmps j=none:=by
     simp only [yielded,ht,Option.bind_some,Array.getElem?_eq_getElem hlt2]
     generalize a.tmps[t]=u at hv
     cases hv
     rfl
    rw [hy]
    rfl
   ·cases h
  ·cases h
theorem GStep.wp {T:List Nat} {i:Nat} (hi:ops[i]?=some o) (h:GStep P env ops o σ T e) (hR:Rel E σ g M a w) (hG:zj6 env E M) (hE:zaY P env) (hl:σ.objs.length=env.nobj)
  {K:Act→World→Prop} {Q:Exit→Act→World→Prop}
  (hK:∀ v w' g' M',Rel E (σ.app o.dst e) g' M' (a.put o.dst v) w'→(∀ id,σ.dom id→g.agree g' id)→Mem.le M M'→K (a.put o.dst v) w'):wpOp P ops Q i K a w:=by
 unfold wpOp
 simp only [hi]
 cases h with
 |run _ _ hg hs=>
  rw [if_pos (zdT hR hg)]
  exact .inl (hs.does hR hG hE hl K Q hK)
 |skip hg=>
  rw [if_neg (by rw [zdT hR hg];simp)]
  exact hK undef w g M (hR.put o.dst (.tup [] [] rfl (fun i hi=>by simp at hi))) (fun _ _=>Gh.agree_refl _ _) (Mem.le_refl _)
theorem ziW {x:Operand} (h:∀ t,x=.tmp t→σ.slot t=σ'.slot t):zah env σ x=zah env σ' x:=by
 cases x with
 |tmp t=>exact h t rfl
 |_=>rfl
theorem GStep.local {T:List Nat} (h:GStep P env ops o σ T e) (hs:∀ t,t ∈ o.looksAt ops→σ.slot t=σ'.slot t) (hob:∀ id,id ∈ T→σ.obj id=σ'.obj id):GStep P env ops o σ' T e:=by
 have hg:zdS ops σ' o=zdS ops σ o:=by
  unfold zdS
  cases hg:o.guard with
  |none=>rfl
  |some q=>
   obtain ⟨j,want⟩:=q
   simp only
   cases ht:(ops[j]?).bind (·.dst) with
   |none=>rfl
   |some t=>
    have:=hs t (by simp [Oper.looksAt,hg,ht])
    simp only [this]
 cases h with
 |run _ _ h1 h2=>
  refine .run T e (by rw [hg];exact h1) (h2.local (fun x hx=>ziW (fun t ht=>hs t ?_)) hob)
  subst ht
  exact List.mem_append_left _ (List.mem_filterMap.2 ⟨.tmp t,by simpa using hx,rfl⟩)
 |skip h1=>exact .skip (by rw [hg];exact h1)
inductive PStep (P:Program) (env:Env) (o:Oper) (σ:St):Value→List (Nat × AObj)→Prop
 |call (f:FuncId) (vals:List AVal) (cargs:List AVal) (cobjs:List (Option AObj)) (ids news:List Nat) (x:Value) (objs':List (Option AObj)) :
   CallFits P env σ o f vals cargs cobjs ids news objs'→AP P env.gl f cargs cobjs x objs'→PStep P env o σ x (zaR (fun k=>(ids++news).getD k 0) (ids++news) 0 objs')
 |pan (x:Operand) (p:PVal) (v:Value):o.op=.panic x→zah env σ x=.pv p→(∀ M u,Rd M p u→u=v∧∃ t y,v=.iface t y)→PStep P env o σ v []
structure GPStep (P:Program) (env:Env) (ops:Array Oper) (o:Oper) (σ:St) (x:Value) (upd:List (Nat × AObj)):Prop where
 guard:zdS ops σ o=some true
 step:PStep P env o σ x upd
theorem GPStep.wp {i:Nat} {x:Value} {upd:List (Nat × AObj)} (hi:ops[i]?=some o) (h:GPStep P env ops o σ x upd) (hR:Rel E σ g M a w) (hG:zj6 env E M) (hl:σ.objs.length=env.nobj)
  {K:Act→World→Prop} {Q:Exit→Act→World→Prop}
  (hQ:∀ w' g' M',Rel E ⟨σ.slots,zaL σ.objs upd⟩ g' M' a w'→(∀ id,σ.dom id→g.agree g' id)→Mem.le M M'→Q (.panic (zke x)) a w'):wpOp P ops Q i K a w:=by
 unfold wpOp
 simp only [hi]
 rw [if_pos (zdT hR h.guard)]
 cases h.step with
 |call f vals cargs cobjs ids news x objs' hf hac=>exact .inl (znV hR hG hl hf hac K Q hQ)
 |pan y p v ho hy hv=>
  refine .inl ?_
  have h1:=zaF (env:=env) hR hG.1 y
  rw [hy] at h1
  obtain ⟨h2,t,z,h3⟩:=hv M _ h1.pv_inv
  have hrun:(execOp a.eval o).run P w=.halt (.panic x) w:=by
   simp only [execOp,ho,h2,h3,Instr.panic]
   rfl
  unfold Oper.wp
  rw [hrun]
  exact hQ w g M hR (fun _ _=>Gh.agree_refl _ _) (Mem.le_refl _)
theorem GPStep.local {x:Value} {upd:List (Nat × AObj)} (h:GPStep P env ops o σ x upd) (hs:∀ t,t ∈ o.looksAt ops→σ.slot t=σ'.slot t) (hob:∀ id,σ.obj id=σ'.obj id):GPStep P env ops o σ' x upd:=by
 have hg:zdS ops σ' o=zdS ops σ o:=by
  unfold zdS
  cases hg:o.guard with
  |none=>rfl
  |some q=>
   obtain ⟨j,want⟩:=q
   simp only
   cases ht:(ops[j]?).bind (·.dst) with
   |none=>rfl
   |some t=>
    have:=hs t (by simp [Oper.looksAt,hg,ht])
    simp only [this]
 have hev:∀ x,x ∈ o.op.operands→zah env σ x=zah env σ' x:=fun x hx=>ziW (fun t ht=>hs t (by
  subst ht
  exact List.mem_append_left _ (List.mem_filterMap.2 ⟨.tmp t,by simpa using hx,rfl⟩)))
 refine ⟨by rw [hg];exact h.guard,?_⟩
 cases h.step with
 |call f vals cargs cobjs ids news x objs' hf hac=>exact .call f vals cargs cobjs ids news x objs' (hf.local hev (fun id _=>hob id)) hac
 |pan y p v ho hy hv=>exact .pan y p _ ho (by rw [←hev y (by simp [ho,Op.operands])];exact hy) hv
end
end Go.Abs
namespace Go.Abs
open Go
structure Rec where
 T:List Nat
 e:Eff
def zgh (ops:Array Oper) (tr:Nat→Rec) (σ:St) (k:Nat):St:=
 match ops[k]? with
 |some o=>σ.app o.dst (tr k).e
 |none=>σ
def zb1 (ops:Array Oper) (tr:Nat→Rec) (S:Nat→Bool) (σ:St):Nat→St
 |0=>σ
 |m+1=>if S m then zgh ops tr (zb1 ops tr S σ m) m else zb1 ops tr S σ m
def meets (x y:List Nat):Bool:=x.any fun i=>y.contains i
def zxv (ops:Array Oper) (oi oj:Oper) (ri rj:Rec):Bool:=
 !(oi.apart ops oj) || (meets ri.T rj.T&&!(ri.e.upd.isEmpty&&rj.e.upd.isEmpty))
def anc (ops:Array Oper) (k:Nat):List Nat:=
 let b:=(Region.before ops).getD k 0
 (List.range k).filter fun j=>b.testBit j
def zmA (ops:Array Oper) (A:Nat→List Nat) (tr:Nat→Rec):Bool:=
 (List.range ops.size).all fun k=>match ops[k]? with
  |none=>false
  |some o=>
   (o.after.all fun e=>!Region.binds .any e || decide (e.on<k)) &&
   ((tr k).e.upd.all fun q=>(tr k).T.contains q.1) &&
   ((A k).all fun j=>o.after.any fun e=>Region.binds .any e&&(e.on==j || (A e.on).contains j)) &&
   ((List.range k).all fun i=>(A k).contains i || match ops[i]? with|some oi=>!zxv ops oi o (tr i) (tr k)|none=>false)
section
variable {P:Program} {env:Env} {E:Ent} {σ:St} {ops:Array Oper} {tr:Nat→Rec} {A:Nat→List Nat}
theorem zhZ (σ:St) (d:Option Nat) (e:Eff):(σ.app d e).slots.length=σ.slots.length:=by cases d<;>simp [St.app]
theorem zfd (σ:St) (d:Option Nat) (e:Eff):(σ.app d e).objs.length=σ.objs.length:=zdG e.upd σ.objs
theorem zhk (σ:St) (k:Nat):(zgh ops tr σ k).slots.length=σ.slots.length:=by
 unfold zgh;split
 ·exact zhZ _ _ _
 ·rfl
theorem zh0 (σ:St) (k:Nat):(zgh ops tr σ k).objs.length=σ.objs.length:=by
 unfold zgh;split
 ·exact zfd _ _ _
 ·rfl
theorem zda (S:Nat→Bool):∀ m,(zb1 ops tr S σ m).slots.length=σ.slots.length
 |0=>rfl
 |m+1=>by
  simp only [zb1];split
  ·rw [zhk];exact zda S m
  ·exact zda S m
theorem zaM (S:Nat→Bool):∀ m,(zb1 ops tr S σ m).objs.length=σ.objs.length
 |0=>rfl
 |m+1=>by
  simp only [zb1];split
  ·rw [zh0];exact zaM S m
  ·exact zaM S m
theorem zdb {S S':Nat→Bool}:∀ m,(∀ k,k<m→S k=S' k)→zb1 ops tr S σ m=zb1 ops tr S' σ m
 |0,_=>rfl
 |m+1,h=>by simp only [zb1,h m (by omega),zdb m (fun k hk=>h k (by omega))]
theorem zlm (σ:St) (d:Option Nat) (e:Eff) (t:Nat):(σ.app d e).slot t=if d=some t∧t<σ.slots.length then e.val else σ.slot t:=by
 cases d with
 |none=>simp [St.app,St.slot]
 |some d=>
  by_cases hd:d=t
  ·subst hd
   by_cases hl:d<σ.slots.length
   ·simp [St.app,St.slot,hl]
   ·simp [St.app,St.slot,hl]
  ·have:¬ (some d=some t∧t<σ.slots.length):=fun h=>hd (by simpa using h.1)
   rw [if_neg this]
   simp [St.app,St.slot,List.getElem?_set_ne hd]
theorem zgz (σ:St) (d:Option Nat) (e:Eff) (id:Nat) (h:∀ q,q ∈ e.upd→q.1≠id):(σ.app d e).obj id=σ.obj id:=zea e.upd σ.objs id h
theorem zhH:∀ (upd:List (Nat × AObj)) (l l':List (Option AObj)) (id:Nat),l.length=l'.length→l.getD id none=l'.getD id none→(zaL l upd).getD id none=(zaL l' upd).getD id none
 |[],_,_,_,_,h=>h
 |q::r,l,l',id,hl,h=>by
  simp only [zaL,List.foldl_cons]
  refine zhH r _ _ id (by simp [hl]) ?_
  by_cases hq:q.1=id
  ·subst hq
   by_cases hlt:q.1<l.length
   ·simp [List.getD,hlt,(by omega:q.1<l'.length)]
   ·simp only [List.getD]
    rw [List.getElem?_eq_none (by simp;omega),List.getElem?_eq_none (by simp;omega)]
  ·simp only [List.getD,List.getElem?_set_ne hq];exact h
theorem zkw:∀ (upd:List (Nat × AObj)) (l:List (Option AObj)) (id:Nat) (x:Option AObj),(∀ q,q ∈ upd→q.1≠id)→zaL (l.set id x) upd=(zaL l upd).set id x
 |[],_,_,_,_=>rfl
 |q::r,l,id,x,h=>by
  simp only [zaL,List.foldl_cons]
  have h1:(l.set id x).set q.1 (some q.2)=(l.set q.1 (some q.2)).set id x:=List.set_comm _ _ (fun e=>h q (by simp) e.symm)
  rw [h1]
  exact zkw r (l.set q.1 (some q.2)) id x (fun p hp=>h p (by simp [hp]))
theorem ziX:∀ (u v:List (Nat × AObj)) (l:List (Option AObj)),(∀ p,p ∈ u→∀ q,q ∈ v→p.1≠q.1)→zaL (zaL l u) v=zaL (zaL l v) u
 |[],_,_,_=>rfl
 |p::u,v,l,h=>by
  have e1:zaL l (p::u)=zaL (l.set p.1 (some p.2)) u:=rfl
  have e2:zaL (zaL l v) (p::u)=zaL ((zaL l v).set p.1 (some p.2)) u:=rfl
  rw [e1,e2,ziX u v _ (fun a ha b hb=>h a (by simp [ha]) b hb),zkw v l p.1 _ (fun q hq e=>h p (by simp) q hq e.symm)]
theorem zuq {oi oj:Oper} {ei ej:Eff} (hd:∀ d,oi.dst=some d→oj.dst≠some d) (hu:∀ p,p ∈ ei.upd→∀ q,q ∈ ej.upd→p.1≠q.1) (σ:St) :
  (σ.app oi.dst ei).app oj.dst ej=(σ.app oj.dst ej).app oi.dst ei:=by
 have h1:zaL (zaL σ.objs ei.upd) ej.upd=zaL (zaL σ.objs ej.upd) ei.upd:=ziX _ _ _ hu
 unfold St.app
 congr 1
 cases hi:oi.dst with
 |none=>cases oj.dst<;>rfl
 |some d=>
  cases hj:oj.dst with
  |none=>rfl
  |some d'=>
   have:d≠d':=fun e=>hd d hi (by rw [hj,e])
   exact List.set_comm _ _ this
structure Free (ops:Array Oper) (tr:Nat→Rec) (i k:Nat):Prop where
 slot1:∀ oi ok d,ops[i]?=some oi→ops[k]?=some ok→oi.dst=some d→d ∉ ok.looksAt ops∧ok.dst≠some d
 slot2:∀ oi ok d,ops[i]?=some oi→ops[k]?=some ok→ok.dst=some d→d ∉ oi.looksAt ops∧oi.dst≠some d
 obj1:∀ q,q ∈ (tr i).e.upd→q.1 ∉ (tr k).T
 obj2:∀ q,q ∈ (tr k).e.upd→q.1 ∉ (tr i).T
 upd:∀ p,p ∈ (tr i).e.upd→∀ q,q ∈ (tr k).e.upd→p.1≠q.1
theorem Free.symm {i k:Nat} (h:Free ops tr i k):Free ops tr k i:=
 ⟨fun oi ok d h1 h2 h3=>h.slot2 ok oi d h2 h1 h3,fun oi ok d h1 h2 h3=>h.slot1 ok oi d h2 h1 h3,h.obj2,h.obj1,fun p hp q hq e=>h.upd q hq p hp e.symm⟩
theorem zfy (hok:zmA ops A tr=true) {i k:Nat} (hik:i<k) (hk:k<ops.size) (hA:i ∉ A k):Free ops tr i k:=by
 have hall:=List.all_eq_true.1 hok
 have hsub:∀ m,m<ops.size→∀ q,q ∈ (tr m).e.upd→q.1 ∈ (tr m).T:=fun m hm q hq=>by
  have h1:=hall m (List.mem_range.2 hm)
  rw [Array.getElem?_eq_getElem hm] at h1
  simp only [Bool.and_eq_true] at h1
  have:=List.all_eq_true.1 h1.1.1.2 q hq
  simpa using this
 have h1:=hall k (List.mem_range.2 hk)
 rw [Array.getElem?_eq_getElem hk] at h1
 simp only [Bool.and_eq_true] at h1
 have h2:=List.all_eq_true.1 h1.2 i (List.mem_range.2 hik)
 have hi:i<ops.size:=by omega
 rw [Array.getElem?_eq_getElem hi] at h2
 have h3:(A k).contains i=false:=by simpa using hA
 rw [h3] at h2
 simp only [Bool.false_or,Bool.not_eq_true',zxv,Bool.or_eq_false_iff,Bool.not_eq_false'] at h2
 obtain ⟨hap,hmeet⟩:=h2
 obtain ⟨a1,a2,a3⟩:=Oper.apart_spec hap
 have hno:∀ id,id ∈ (tr i).T→id ∈ (tr k).T→(tr i).e.upd=[]∧(tr k).e.upd=[]:=fun id h4 h5=>by
  have hm:meets (tr i).T (tr k).T=true:=List.any_eq_true.2 ⟨id,h4,by simpa using h5⟩
  rw [hm] at hmeet
  simp at hmeet
  exact hmeet
 refine ⟨fun oi ok d e1 e2 e3=>?_,fun oi ok d e1 e2 e3=>?_,fun q hq hT=>?_,fun q hq hT=>?_,fun p hp q hq e=>?_⟩
 ·rw [Array.getElem?_eq_getElem hi] at e1;cases e1
  rw [Array.getElem?_eq_getElem hk] at e2;cases e2
  exact ⟨a1 d e3,a2 d e3⟩
 ·rw [Array.getElem?_eq_getElem hi] at e1;cases e1
  rw [Array.getElem?_eq_getElem hk] at e2;cases e2
  exact ⟨a3 d e3,fun h=>a2 d h e3⟩
 ·have:=(hno q.1 (hsub i hi q hq) hT).1;rw [this] at hq;cases hq
 ·have:=(hno q.1 hT (hsub k hk q hq)).2;rw [this] at hq;cases hq
 ·have:=(hno p.1 (hsub i hi p hp) (e ▸ hsub k hk q hq)).1;rw [this] at hp;cases hp
theorem zrS {i k:Nat} (h:Free ops tr i k) (σ:St):zgh ops tr (zgh ops tr σ i) k=zgh ops tr (zgh ops tr σ k) i:=by
 unfold zgh
 cases hi:ops[i]? with
 |none=>rfl
 |some oi=>
  cases hk:ops[k]? with
  |none=>rfl
  |some ok=>exact zuq (fun d hd=>(h.slot1 oi ok d hi hk hd).2) h.upd σ
theorem zgi {S:Nat→Bool} {k:Nat} (hk:S k=false):∀ m,k<m→(∀ j,k<j→j<m→S j=true→Free ops tr k j) →
  zgh ops tr (zb1 ops tr S σ m) k=zb1 ops tr (fun j=>j==k || S j) σ m
 |0,h,_=>by omega
 |m+1,h,hf=>by
  by_cases hm:k=m
  ·subst hm
   simp only [zb1,hk,Bool.false_eq_true,if_false,beq_self_eq_true,Bool.true_or,if_true]
   rw [zdb (S':=fun j=>j==k || S j) k (fun j hj=>by simp [Nat.ne_of_lt hj])]
  ·have ih:=zgi hk m (by omega) (fun j h1 h2 h3=>hf j h1 (by omega) h3)
   have hne:(m==k)=false:=by simp;omega
   simp only [zb1,hne,Bool.false_or]
   split
   ·rename_i hSm
    rw [←ih,zrS (hf m (by omega) (by omega) hSm).symm]
   ·exact ih
theorem ziY {S:Nat→Bool} {t:Nat}:∀ m,(∀ j oj,j<m→S j=false→ops[j]?=some oj→oj.dst≠some t) →
  (zb1 ops tr S σ m).slot t=(zb1 ops tr (fun _=>true) σ m).slot t
 |0,_=>rfl
 |m+1,h=>by
  have ih:=ziY m (fun j oj hj=>h j oj (by omega))
  simp only [zb1,if_true]
  cases hm:ops[m]? with
  |none=>unfold zgh;simp only [hm];split<;>exact ih
  |some o=>
   split
   ·simp only [zgh,hm,zlm,zda,ih]
   ·rename_i hS
    simp only [zgh,hm,zlm]
    rw [if_neg (fun hc=>h m o (by omega) (by simpa using hS) hm hc.1)]
    exact ih
theorem zek {S:Nat→Bool} {t k:Nat}:∀ m,k≤m→(∀ j oj,k≤j→j<m→S j=true→ops[j]?=some oj→oj.dst≠some t) →
  (zb1 ops tr S σ m).slot t=(zb1 ops tr S σ k).slot t
 |0,hk,_=>by have:k=0:=(by omega);subst this;rfl
 |m+1,hk,h=>by
  by_cases hkm:k=m+1
  ·subst hkm;rfl
  ·have ih:=zek m (by omega) (fun j oj h1 h2=>h j oj h1 (by omega))
   simp only [zb1]
   split
   ·rename_i hS
    unfold zgh
    cases hm:ops[m]? with
    |none=>exact ih
    |some o=>
     simp only [zlm]
     rw [if_neg (fun hc=>h m o (by omega) (by omega) hS hm hc.1)]
     exact ih
   ·exact ih
theorem zo3 {S:Nat→Bool} {id:Nat}:∀ m,(∀ j,j<m→S j=false→∀ q,q ∈ (tr j).e.upd→q.1≠id) →
  (zb1 ops tr S σ m).obj id=(zb1 ops tr (fun _=>true) σ m).obj id
 |0,_=>rfl
 |m+1,h=>by
  have ih:=zo3 m (fun j hj=>h j (by omega))
  simp only [zb1,if_true]
  unfold zgh
  cases hm:ops[m]? with
  |none=>simp only [];split<;>exact ih
  |some o=>
   split
   ·exact zhH (tr m).e.upd _ _ id (by rw [zaM,zaM]) ih
   ·rename_i hS
    simp only []
    rw [zgz _ _ _ _ (h m (by omega) (by simpa using hS))]
    exact ih
theorem zgA {S:Nat→Bool} {id k:Nat}:∀ m,k≤m→(∀ j,k≤j→j<m→S j=true→∀ q,q ∈ (tr j).e.upd→q.1≠id) →
  (zb1 ops tr S σ m).obj id=(zb1 ops tr S σ k).obj id
 |0,hk,_=>by have:k=0:=(by omega);subst this;rfl
 |m+1,hk,h=>by
  by_cases hkm:k=m+1
  ·subst hkm;rfl
  ·have ih:=zgA m (by omega) (fun j h1 h2=>h j h1 (by omega))
   simp only [zb1]
   split
   ·rename_i hS
    unfold zgh
    cases hm:ops[m]? with
    |none=>exact ih
    |some o=>
     simp only []
     rw [zgz _ _ _ _ (h m (by omega) (by omega) hS)]
     exact ih
   ·exact ih
def zrT (P:Program) (env:Env) (ops:Array Oper) (σ:St) (tr:Nat→Rec):Prop:=
 ∀ k o,ops[k]?=some o→GStep P env ops o (zb1 ops tr (fun _=>true) σ k) (tr k).T (tr k).e
theorem zeq (hok:zmA ops A tr=true) {S:Nat→Bool} (hcl:∀ k o,ops[k]?=some o→S k=true→∀ e,e ∈ o.after→Region.binds .any e=true→S e.on=true) :
  ∀ n k o,k<n→ops[k]?=some o→(∀ e,e ∈ o.after→Region.binds .any e=true→S e.on=true)→∀ j,j ∈ A k→S j=true
 |0,k,_,h,_,_,_,_=>by omega
 |n+1,k,o,hk,ho,hpre,j,hj=>by
  have hks:k<ops.size:=(Array.getElem?_eq_some_iff.1 ho).1
  have h1:=List.all_eq_true.1 hok k (List.mem_range.2 hks)
  rw [ho] at h1
  simp only [Bool.and_eq_true] at h1
  have h2:=List.all_eq_true.1 h1.1.2 j hj
  obtain ⟨e,he,hb⟩:=Array.any_eq_true'.1 h2
  simp only [Bool.and_eq_true,Bool.or_eq_true,beq_iff_eq] at hb
  obtain ⟨hb1,hb2⟩:=hb
  rcases hb2 with rfl|hb2
  ·exact hpre e he hb1
  ·have hSe:=hpre e he hb1
   have hlt:e.on<k:=by
    have:=Array.all_eq_true_iff_forall_mem.1 h1.1.1.1 e he
    simpa [hb1] using this
   have hes:e.on<ops.size:=by omega
   exact zeq hok hcl n e.on ops[e.on] (by omega) (Array.getElem?_eq_getElem hes) (fun e' he' hb'=>hcl e.on _ (Array.getElem?_eq_getElem hes) hSe e' he' hb') j (by simpa using hb2)
theorem zqq (hE:zaY P env) (hok:zmA ops A tr=true) (htr:zrT P env ops σ tr) (hlen:σ.objs.length=env.nobj) {Q:Exit→Act→World→Prop}
  {g0:Gh} {M0:Mem} (hG:zj6 env E M0)
  (hQ:∀ g M a w,Rel E (zb1 ops tr (fun _=>true) σ ops.size) g M a w→(∀ id,σ.dom id→g0.agree g id)→Mem.le M0 M→Q .normal a w) :
  ∀ (fuel:Nat) (listed:Array Bool) (g:Gh) (M:Mem) (a:Act) (w:World),listed.size=ops.size →
   (∀ k o,ops[k]?=some o→listed.getD k true=true→∀ e,e ∈ o.after→Region.binds .any e=true→listed.getD e.on true=true) →
   ((List.range ops.size).filter fun k=>!listed.getD k true).length≤fuel →
   Rel E (zb1 ops tr (fun k=>listed.getD k true) σ ops.size) g M a w→(∀ id,σ.dom id→g0.agree g id)→Mem.le M0 M→wpAny P .any ops Q fuel listed a w:=by
 have hedge:∀ k o,ops[k]?=some o→∀ e,e ∈ o.after→Region.binds .any e=true→e.on<k:=fun k o ho e he hb=>by
  have hks:k<ops.size:=(Array.getElem?_eq_some_iff.1 ho).1
  have h1:=List.all_eq_true.1 hok k (List.mem_range.2 hks)
  rw [ho] at h1
  simp only [Bool.and_eq_true] at h1
  have:=Array.all_eq_true_iff_forall_mem.1 h1.1.1.1 e he
  simpa [hb] using this
 have hall:∀ listed:Array Bool,listed.size=ops.size→Region.ready .any ops listed=[]→∀ k,k<ops.size→listed.getD k true=true:=by
  intro listed hls hr k
  induction k using Nat.strongRecOn with
  |_ k ih=>
   intro hk
   cases hc:listed.getD k true with
   |true=>rfl
   |false=>
    exfalso
    have:k ∈ Region.ready .any ops listed:=mem_ready.2 ⟨hc,ops[k],Array.getElem?_eq_getElem hk,fun e he hb=>by
     have hlt:=hedge k _ (Array.getElem?_eq_getElem hk) e he hb
     have h1:=ih e.on hlt (by omega)
     have h2:e.on<listed.size:=by omega
     rw [Array.getD_eq_getD_getElem?,Array.getElem?_eq_getElem h2] at h1 ⊢
     exact h1⟩
    rw [hr] at this
    cases this
 have hdone:∀ (listed:Array Bool) g M a w,listed.size=ops.size→Region.ready .any ops listed=[]→Rel E (zb1 ops tr (fun k=>listed.getD k true) σ ops.size) g M a w →
   (∀ id,σ.dom id→g0.agree g id)→Mem.le M0 M→Q .normal a w:=fun listed g M a w hls hr hR hag hM=>by
  rw [zdb (S':=fun _=>true) ops.size (fun k hk=>hall listed hls hr k hk)] at hR
  exact hQ g M a w hR hag hM
 intro fuel
 induction fuel with
 |zero=>
  intro listed g M a w hls hcl hcnt hR hag hM
  have hr:Region.ready .any ops listed=[]:=by
   cases hr:Region.ready .any ops listed with
   |nil=>rfl
   |cons i r=>
    exfalso
    have hi:i ∈ Region.ready .any ops listed:=by rw [hr];simp
    obtain ⟨h0,o,ho,_⟩:=mem_ready.1 hi
    have:i ∈ (List.range ops.size).filter fun k=>!listed.getD k true:=List.mem_filter.2 ⟨List.mem_range.2 (Array.getElem?_eq_some_iff.1 ho).1,by rw [h0];rfl⟩
    have hn:=List.length_pos_of_mem this
    omega
  exact ⟨hr,hdone listed g M a w hls hr hR hag hM⟩
 |succ fuel ih=>
  intro listed g M a w hls hcl hcnt hR hag hM
  refine ⟨fun hr=>hdone listed g M a w hls hr hR hag hM,fun k hk=>?_⟩
  obtain ⟨h0,o,ho,hpre⟩:=mem_ready.1 hk
  have hks:k<ops.size:=(Array.getElem?_eq_some_iff.1 ho).1
  have hpre':∀ e,e ∈ o.after→Region.binds .any e=true→listed.getD e.on true=true:=fun e he hb=>by
   have h1:=hpre e he hb
   have h2:e.on<listed.size:=by have:=hedge k o ho e he hb;omega
   rw [Array.getD_eq_getD_getElem?,Array.getElem?_eq_getElem h2] at h1 ⊢
   exact h1
  have hanc:∀ j,j ∈ A k→listed.getD j true=true:=zeq hok (S:=fun k=>listed.getD k true) hcl (k+1) k o (by omega) ho hpre'
  have hfree1:∀ j,j<k→listed.getD j true=false→Free ops tr j k:=fun j hj hS=>zfy hok hj hks (fun hA=>by rw [hanc j hA] at hS;cases hS)
  have hfree2:∀ j,k<j→j<ops.size→listed.getD j true=true→Free ops tr k j:=fun j hj hjs hS=>zfy hok hj hjs (fun hA=>by
   have:=zeq hok (S:=fun k=>listed.getD k true) hcl (j+1) j ops[j] (by omega) (Array.getElem?_eq_getElem hjs) (fun e he hb=>hcl j _ (Array.getElem?_eq_getElem hjs) hS e he hb) k hA
   rw [h0] at this;cases this)
  have hstep:=(htr k o ho).local (σ':=zb1 ops tr (fun k=>listed.getD k true) σ ops.size) (fun t ht=>by
    rw [zek (k:=k) ops.size (by omega) (fun j oj h1 h2 hS hoj hd=>by
     by_cases hjk:j=k
     ·subst hjk;rw [h0] at hS;cases hS
     ·exact ((hfree2 j (by omega) h2 hS).slot2 o oj t ho hoj hd).1 ht)]
    exact (ziY k (fun j oj hj hS hoj hd=>((hfree1 j hj hS).slot1 oj o t hoj ho hd).1 ht)).symm) (fun id hid=>by
    rw [zgA (k:=k) ops.size (by omega) (fun j h1 h2 hS q hq e=>by
     by_cases hjk:j=k
     ·subst hjk;rw [h0] at hS;cases hS
     ·exact (hfree2 j (by omega) h2 hS).obj2 q hq (e ▸ hid))]
    exact (zo3 k (fun j hj hS q hq e=>(hfree1 j hj hS).obj1 q hq (e ▸ hid))).symm)
  have hins:=zgi (σ:=σ) (S:=fun j=>listed.getD j true) h0 ops.size hks (fun j h1 h2 h3=>hfree2 j h1 h2 h3)
  have hlisted:∀ j,(listed.setIfInBounds k true).getD j true=(j==k || listed.getD j true):=fun j=>by
   by_cases hjk:j=k
   ·subst hjk
    have:j<listed.size:=by omega
    simp [this]
   ·rw [getD_set_ne true (fun e=>hjk e.symm)]
    have:(j==k)=false:=by simpa using hjk
    rw [this];rfl
  refine hstep.wp ho hR (hG.mono hM) hE (by rw [zaM];exact hlen) (fun v w' g' M' hR' hag' hM'=>?_)
  have hdomS:∀ id,σ.dom id→(zb1 ops tr (fun k=>listed.getD k true) σ ops.size).dom id:=by
   intro id hd
   have key:∀ m,(zb1 ops tr (fun k=>listed.getD k true) σ m).dom id:=by
    intro m
    induction m with
    |zero=>exact hd
    |succ m ihm=>
     simp only [zb1]
     split
     ·unfold zgh
      split
      ·rename_i o' _
       have:∀ (u:List (Nat × AObj)) (l:List (Option AObj)),l.getD id none≠none→(zaL l u).getD id none≠none:=by
        intro u
        induction u with
        |nil=>intro l h;exact h
        |cons q r ihr=>
         intro l h
         refine ihr _ ?_
         by_cases hq:q.1=id
         ·subst hq
          have hlt:q.1<l.length:=by
           rcases Nat.lt_or_ge q.1 l.length with h'|h'
           ·exact h'
           ·exfalso;apply h;simp [List.getElem?_eq_none h']
          simp [List.getD,hlt]
         ·simp only [List.getD,List.getElem?_set_ne hq];exact h
       exact this _ _ ihm
      ·exact ihm
     ·exact ihm
   exact key _
  refine ih (listed.setIfInBounds k true) g' M' _ w' (by simpa using hls) ?_ ?_ ?_ ?_ (fun b i u hu=>hM' b i u (hM b i u hu))
  ·intro j oj hoj hS e he hb
   rw [hlisted] at hS ⊢
   simp only [Bool.or_eq_true,beq_iff_eq] at hS ⊢
   rcases hS with rfl|hS
   ·rw [ho] at hoj;cases hoj
    exact .inr (hpre' e he hb)
   ·exact .inr (hcl j oj hoj hS e he hb)
  ·have hsub:((List.range ops.size).filter fun j=>!(listed.setIfInBounds k true).getD j true)=((List.range ops.size).filter fun j=>!listed.getD j true).filter fun j=>!(j==k):=by
    rw [List.filter_filter]
    apply List.filter_congr
    intro j _
    rw [hlisted];simp [Bool.not_or]
   rw [hsub]
   have hmem:k ∈ (List.range ops.size).filter fun j=>!listed.getD j true:=List.mem_filter.2 ⟨List.mem_range.2 hks,by rw [h0];rfl⟩
   have hlt:(((List.range ops.size).filter fun j=>!listed.getD j true).filter fun j=>!(j==k)).length<((List.range ops.size).filter fun j=>!listed.getD j true).length:=by
    apply List.length_filter_lt_length_iff_exists.2
    exact ⟨k,hmem,by simp⟩
   omega
  ·have hR2:Rel E (zgh ops tr (zb1 ops tr (fun k=>listed.getD k true) σ ops.size) k) g' M' (a.put o.dst v) w':=by
    have e1:zgh ops tr (zb1 ops tr (fun k=>listed.getD k true) σ ops.size) k=(zb1 ops tr (fun k=>listed.getD k true) σ ops.size).app o.dst (tr k).e:=by
     simp only [zgh,ho]
    rw [e1];exact hR'
   rw [hins] at hR2
   rw [zdb (S':=fun j=>j==k || listed.getD j true) ops.size (fun j _=>hlisted j)]
   exact hR2
  ·intro id hd
   obtain ⟨h1,h2,h3⟩:=hag id hd
   obtain ⟨h4,h5,h6⟩:=hag' id (hdomS id hd)
   exact ⟨h4.trans h1,h5.trans h2,h6.trans h3⟩
theorem zdU (hp:∀ k,(tr k).e.upd=[]) (S:Nat→Bool):∀ m,(zb1 ops tr S σ m).objs=σ.objs
 |0=>rfl
 |m+1=>by
  simp only [zb1]
  split
  ·unfold zgh
   split
   ·simp only [St.app,hp m,List.foldl_nil]
    exact zdU hp S m
   ·exact zdU hp S m
  ·exact zdU hp S m
theorem zmB (hE:zaY P env) (hok:zmA ops A tr=true) (kp:Nat) {op:Oper} (hop:ops[kp]?=some op) {x:Value} {upd:List (Nat × AObj)}
  (htr:∀ k o,k<kp→ops[k]?=some o→GStep P env ops o (zb1 ops tr (fun _=>true) σ k) (tr k).T (tr k).e)
  (hpure:∀ k,(tr k).e.upd=[]) (hlate:∀ j,kp<j→j<ops.size→kp ∈ A j)
  (hpan:GPStep P env ops op (zb1 ops tr (fun _=>true) σ kp) x upd) (hlen:σ.objs.length=env.nobj) {Q:Exit→Act→World→Prop}
  {g0:Gh} {M0:Mem} (hG:zj6 env E M0)
  (hQ:∀ slots g M a w,Rel E ⟨slots,zaL σ.objs upd⟩ g M a w→(∀ id,σ.dom id→g0.agree g id)→Mem.le M0 M→Q (.panic (zke x)) a w) :
  ∀ (fuel:Nat) (listed:Array Bool) (g:Gh) (M:Mem) (a:Act) (w:World),listed.size=ops.size →
   (∀ k o,ops[k]?=some o→listed.getD k true=true→∀ e,e ∈ o.after→Region.binds .any e=true→listed.getD e.on true=true)→listed.getD kp true=false →
   ((List.range ops.size).filter fun k=>!listed.getD k true).length≤fuel →
   Rel E (zb1 ops tr (fun k=>listed.getD k true) σ ops.size) g M a w→(∀ id,σ.dom id→g0.agree g id)→Mem.le M0 M→wpAny P .any ops Q fuel listed a w:=by
 have hkps:kp<ops.size:=(Array.getElem?_eq_some_iff.1 hop).1
 have hedge:∀ k o,ops[k]?=some o→∀ e,e ∈ o.after→Region.binds .any e=true→e.on<k:=fun k o ho e he hb=>by
  have hks:k<ops.size:=(Array.getElem?_eq_some_iff.1 ho).1
  have h1:=List.all_eq_true.1 hok k (List.mem_range.2 hks)
  rw [ho] at h1
  simp only [Bool.and_eq_true] at h1
  have:=Array.all_eq_true_iff_forall_mem.1 h1.1.1.1 e he
  simpa [hb] using this
 have hall:∀ listed:Array Bool,listed.size=ops.size→Region.ready .any ops listed=[]→∀ k,k<ops.size→listed.getD k true=true:=by
  intro listed hls hr k
  induction k using Nat.strongRecOn with
  |_ k ih=>
   intro hk
   cases hc:listed.getD k true with
   |true=>rfl
   |false=>
    exfalso
    have:k ∈ Region.ready .any ops listed:=mem_ready.2 ⟨hc,ops[k],Array.getElem?_eq_getElem hk,fun e he hb=>by
     have hlt:=hedge k _ (Array.getElem?_eq_getElem hk) e he hb
     have h1:=ih e.on hlt (by omega)
     have h2:e.on<listed.size:=by omega
     rw [Array.getD_eq_getD_getElem?,Array.getElem?_eq_getElem h2] at h1 ⊢
     exact h1⟩
    rw [hr] at this
    cases this
 have hdone:∀ (listed:Array Bool) (R:Prop),listed.size=ops.size→Region.ready .any ops listed=[]→listed.getD kp true=false→R:=fun listed R hls hr hkp=>by
  rw [hall listed hls hr kp hkps] at hkp
  cases hkp
 intro fuel
 induction fuel with
 |zero=>
  intro listed g M a w hls hcl hkp hcnt hR hag hM
  have hr:Region.ready .any ops listed=[]:=by
   cases hr:Region.ready .any ops listed with
   |nil=>rfl
   |cons i r=>
    exfalso
    have hi:i ∈ Region.ready .any ops listed:=by rw [hr];simp
    obtain ⟨h0,o,ho,_⟩:=mem_ready.1 hi
    have:i ∈ (List.range ops.size).filter fun k=>!listed.getD k true:=List.mem_filter.2 ⟨List.mem_range.2 (Array.getElem?_eq_some_iff.1 ho).1,by rw [h0];rfl⟩
    have hn:=List.length_pos_of_mem this
    omega
  exact hdone listed _ hls hr hkp
 |succ fuel ih=>
  intro listed g M a w hls hcl hkp hcnt hR hag hM
  refine ⟨fun hr=>hdone listed _ hls hr hkp,fun k hk=>?_⟩
  obtain ⟨h0,o,ho,hpre⟩:=mem_ready.1 hk
  have hks:k<ops.size:=(Array.getElem?_eq_some_iff.1 ho).1
  have hpre':∀ e,e ∈ o.after→Region.binds .any e=true→listed.getD e.on true=true:=fun e he hb=>by
   have h1:=hpre e he hb
   have h2:e.on<listed.size:=by have:=hedge k o ho e he hb;omega
   rw [Array.getD_eq_getD_getElem?,Array.getElem?_eq_getElem h2] at h1 ⊢
   exact h1
  have hanc:∀ j,j ∈ A k→listed.getD j true=true:=zeq hok (S:=fun k=>listed.getD k true) hcl (k+1) k o (by omega) ho hpre'
  have hnk:¬ kp<k:=fun h=>by
   have:=hanc kp (hlate k h hks)
   rw [hkp] at this
   cases this
  have hfree1:∀ j,j<k→listed.getD j true=false→Free ops tr j k:=fun j hj hS=>zfy hok hj hks (fun hA=>by rw [hanc j hA] at hS;cases hS)
  have hfree2:∀ j,k<j→j<ops.size→listed.getD j true=true→Free ops tr k j:=fun j hj hjs hS=>zfy hok hj hjs (fun hA=>by
   have:=zeq hok (S:=fun k=>listed.getD k true) hcl (j+1) j ops[j] (by omega) (Array.getElem?_eq_getElem hjs) (fun e he hb=>hcl j _ (Array.getElem?_eq_getElem hjs) hS e he hb) k hA
   rw [h0] at this;cases this)
  have hslot:∀ t,t ∈ o.looksAt ops→(zb1 ops tr (fun _=>true) σ k).slot t=(zb1 ops tr (fun k=>listed.getD k true) σ ops.size).slot t:=fun t ht=>by
   rw [zek (k:=k) ops.size (by omega) (fun j oj h1 h2 hS hoj hd=>by
    by_cases hjk:j=k
    ·subst hjk;rw [h0] at hS;cases hS
    ·exact ((hfree2 j (by omega) h2 hS).slot2 o oj t ho hoj hd).1 ht)]
   exact (ziY k (fun j oj hj hS hoj hd=>((hfree1 j hj hS).slot1 oj o t hoj ho hd).1 ht)).symm
  have hobj:∀ id,(zb1 ops tr (fun _=>true) σ k).obj id=(zb1 ops tr (fun k=>listed.getD k true) σ ops.size).obj id:=fun id=>by
   simp only [St.obj,zdU hpure]
  by_cases hkk:k=kp
  ·subst hkk
   rw [ho] at hop
   cases hop
   refine (hpan.local hslot hobj).wp ho hR (hG.mono hM) (by rw [zaM];exact hlen) (fun w' g' M' hR' hag' hM'=>?_)
   rw [zdU hpure] at hR'
   refine hQ _ g' M' a w' hR' (fun id hd=>?_) (fun b i u hu=>hM' b i u (hM b i u hu))
   obtain ⟨h1,h2,h3⟩:=hag id hd
   obtain ⟨h4,h5,h6⟩:=hag' id (by simp only [St.dom,St.obj,zdU hpure];exact hd)
   exact ⟨h4.trans h1,h5.trans h2,h6.trans h3⟩
  have hstep:=(htr k o (by omega) ho).local hslot (fun id _=>hobj id)
  have hins:=zgi (σ:=σ) (S:=fun j=>listed.getD j true) h0 ops.size hks (fun j h1 h2 h3=>hfree2 j h1 h2 h3)
  have hlisted:∀ j,(listed.setIfInBounds k true).getD j true=(j==k || listed.getD j true):=fun j=>by
   by_cases hjk:j=k
   ·subst hjk
    have:j<listed.size:=by omega
    simp [this]
   ·rw [getD_set_ne true (fun e=>hjk e.symm)]
    have:(j==k)=false:=by simpa using hjk
    rw [this];rfl
  refine hstep.wp ho hR (hG.mono hM) hE (by rw [zaM];exact hlen) (fun v w' g' M' hR' hag' hM'=>?_)
  have hdomS:∀ id,σ.dom id→(zb1 ops tr (fun k=>listed.getD k true) σ ops.size).dom id:=by
   intro id hd
   have key:∀ m,(zb1 ops tr (fun k=>listed.getD k true) σ m).dom id:=by
    intro m
    induction m with
    |zero=>exact hd
    |succ m ihm=>
     simp only [zb1]
     split
     ·unfold zgh
      split
      ·rename_i o' _
       have:∀ (u:List (Nat × AObj)) (l:List (Option AObj)),l.getD id none≠none→(zaL l u).getD id none≠none:=by
        intro u
        induction u with
        |nil=>intro l h;exact h
        |cons q r ihr=>
         intro l h
         refine ihr _ ?_
         by_cases hq:q.1=id
         ·subst hq
          have hlt:q.1<l.length:=by
           rcases Nat.lt_or_ge q.1 l.length with h'|h'
           ·exact h'
           ·exfalso;apply h;simp [List.getElem?_eq_none h']
          simp [List.getD,hlt]
         ·simp only [List.getD,List.getElem?_set_ne hq];exact h
       exact this _ _ ihm
      ·exact ihm
     ·exact ihm
   exact key _
  refine ih (listed.setIfInBounds k true) g' M' _ w' (by simpa using hls) ?_ (by rw [hlisted];simp only [Bool.or_eq_false_iff,beq_eq_false_iff_ne];exact ⟨fun e=>hkk e.symm,hkp⟩) ?_ ?_ ?_ (fun b i u hu=>hM' b i u (hM b i u hu))
  ·intro j oj hoj hS e he hb
   rw [hlisted] at hS ⊢
   simp only [Bool.or_eq_true,beq_iff_eq] at hS ⊢
   rcases hS with rfl|hS
   ·rw [ho] at hoj;cases hoj
    exact .inr (hpre' e he hb)
   ·exact .inr (hcl j oj hoj hS e he hb)
  ·have hsub:((List.range ops.size).filter fun j=>!(listed.setIfInBounds k true).getD j true)=((List.range ops.size).filter fun j=>!listed.getD j true).filter fun j=>!(j==k):=by
    rw [List.filter_filter]
    apply List.filter_congr
    intro j _
    rw [hlisted];simp [Bool.not_or]
   rw [hsub]
   have hmem:k ∈ (List.range ops.size).filter fun j=>!listed.getD j true:=List.mem_filter.2 ⟨List.mem_range.2 hks,by rw [h0];rfl⟩
   have hlt:(((List.range ops.size).filter fun j=>!listed.getD j true).filter fun j=>!(j==k)).length<((List.range ops.size).filter fun j=>!listed.getD j true).length:=by
    apply List.length_filter_lt_length_iff_exists.2
    exact ⟨k,hmem,by simp⟩
   omega
  ·have hR2:Rel E (zgh ops tr (zb1 ops tr (fun k=>listed.getD k true) σ ops.size) k) g' M' (a.put o.dst v) w':=by
    have e1:zgh ops tr (zb1 ops tr (fun k=>listed.getD k true) σ ops.size) k=(zb1 ops tr (fun k=>listed.getD k true) σ ops.size).app o.dst (tr k).e:=by
     simp only [zgh,ho]
    rw [e1];exact hR'
   rw [hins] at hR2
   rw [zdb (S':=fun j=>j==k || listed.getD j true) ops.size (fun j _=>hlisted j)]
   exact hR2
  ·intro id hd
   obtain ⟨h1,h2,h3⟩:=hag id hd
   obtain ⟨h4,h5,h6⟩:=hag' id (hdomS id hd)
   exact ⟨h4.trans h1,h5.trans h2,h6.trans h3⟩
end
end Go.Abs
namespace Go.Abs
open Go
def Agr (pin:Nat) (σ:St) (g:Gh) (σ':St) (g':Gh):Prop:=∀ id,id<pin→σ.dom id→g.agree g' id∧σ'.dom id
theorem Agr.refl (pin:Nat) (σ:St) (g:Gh):Agr pin σ g σ g:=fun _ _ h=>⟨Gh.agree_refl _ _,h⟩
theorem Agr.trans {pin:Nat} {σ σ' σ'':St} {g g' g'':Gh} (h:Agr pin σ g σ' g') (k:Agr pin σ' g' σ'' g''):Agr pin σ g σ'' g'':=fun id hid hd=>by
 obtain ⟨⟨a1,a2,a3⟩,hd'⟩:=h id hid hd
 obtain ⟨⟨b1,b2,b3⟩,hd''⟩:=k id hid hd'
 exact ⟨⟨b1.trans a1,b2.trans a2,b3.trans a3⟩,hd''⟩
def zz8 (env:Env) (pin:Nat) (E:Ent) (σ:St) (g:Gh) (M:Mem) (Q:Exit→St→Prop):Exit→Act→World→Prop:=
 fun e a' w'=>∃ σ' g' M',Q e σ'∧Rel E σ' g' M' a' w'∧Mem.le M M'∧Agr pin σ g σ' g'∧σ'.objs.length=env.nobj
def SW (P:Program) (env:Env) (pin:Nat) (c:Code) (σ:St) (Q:Exit→St→Prop):Prop:=
 σ.objs.length=env.nobj→∀ E g M a w,Rel E σ g M a w→zj6 env E M→c.wp P (zz8 env pin E σ g M Q) a w
def zeY (N:St→Prop) (Q:Exit→St→Prop):Exit→St→Prop
 |.normal,σ=>N σ
 |e,σ=>Q e σ
def zfe (id:Nat) (Q:Exit→St→Prop):Exit→St→Prop
 |.exit id',σ=>if id'=id then Q .normal σ else Q (.exit id') σ
 |e,σ=>Q e σ
def za0 (env:Env) (pin:Nat) (σ σ':St):Prop:=
 σ.objs.length=env.nobj→σ'.objs.length=env.nobj∧∀ E g M a w,Rel E σ g M a w→∃ g' M',Rel E σ' g' M' a w∧Mem.le M M'∧Agr pin σ g σ' g'
section
variable {P:Program} {env:Env} {pin:Nat} {σ σ':St} {Q:Exit→St→Prop}
theorem za0.refl (σ:St):za0 env pin σ σ:=fun hl=>⟨hl,fun _ g M _ _ h=>⟨g,M,h,Mem.le_refl _,Agr.refl _ _ _⟩⟩
theorem Mem.le_trans {M M' M'':Mem} (h:Mem.le M M') (k:Mem.le M' M''):Mem.le M M'':=fun b i u hu=>k b i u (h b i u hu)
theorem za0.trans {σ'':St} (h:za0 env pin σ σ') (k:za0 env pin σ' σ''):za0 env pin σ σ'':=fun hl=>
 let ⟨hl',h1⟩:=h hl
 let ⟨hl'',h2⟩:=k hl'
 ⟨hl'',fun E g M a w hR=>
  let ⟨g',M',hR',hM,hA⟩:=h1 E g M a w hR
  let ⟨g'',M'',hR'',hM',hA'⟩:=h2 E g' M' a w hR'
  ⟨g'',M'',hR'',Mem.le_trans hM hM',hA.trans hA'⟩⟩
theorem SW.mono {c:Code} {Q':Exit→St→Prop} (h:SW P env pin c σ Q) (hq:∀ e σ,Q e σ→Q' e σ):SW P env pin c σ Q':=fun hl E g M a w hR hG=>
 wp_mono (h hl E g M a w hR hG) fun e _ _ ⟨σ',g',M',q,r⟩=>⟨σ',g',M',hq e σ' q,r⟩
theorem SW.weak {c:Code} (hw:za0 env pin σ σ') (h:SW P env pin c σ' Q):SW P env pin c σ Q:=fun hl E g M a w hR hG=>by
 obtain ⟨hl',h1⟩:=hw hl
 obtain ⟨g',M',hR',hM,hA⟩:=h1 E g M a w hR
 exact wp_mono (h hl' E g' M' a w hR' (hG.mono hM)) fun e _ _ ⟨σ'',g'',M'',q,r,hM',hA',hl''⟩=>⟨σ'',g'',M'',q,r,Mem.le_trans hM hM',hA.trans hA',hl''⟩
theorem SW.skip (h:Q .normal σ):SW P env pin .skip σ Q:=fun hl _ g M _ _ hR _=>wp_skip ⟨σ,g,M,h,hR,Mem.le_refl _,Agr.refl _ _ _,hl⟩
theorem SW.ret (h:Q .ret σ):SW P env pin .ret σ Q:=fun hl _ g M _ _ hR _=>wp_ret ⟨σ,g,M,h,hR,Mem.le_refl _,Agr.refl _ _ _,hl⟩
theorem SW.exit {id:Nat} (h:Q (.exit id) σ):SW P env pin (.exit id) σ Q:=fun hl _ g M _ _ hR _=>wp_exit ⟨σ,g,M,h,hR,Mem.le_refl _,Agr.refl _ _ _,hl⟩
theorem SW.seq {x y:Code} (h:SW P env pin x σ (zeY (fun σ'=>SW P env pin y σ' Q) Q)):SW P env pin (.seq x y) σ Q:=fun hl E g M a w hR hG=>by
 refine wp_seq (wp_mono (h hl E g M a w hR hG) fun e a' w' ⟨σ',g',M',q,hR',hM,hA,hl'⟩=>?_)
 cases e with
 |normal=>
  refine wp_mono (q hl' E g' M' a' w' hR' (hG.mono hM)) fun e'' _ _ ⟨σ'',g'',M'',q',r',hM',hA',hl''⟩=>⟨σ'',g'',M'',q',r',Mem.le_trans hM hM',hA.trans hA',hl''⟩
 |_=>exact ⟨σ',g',M',q,hR',hM,hA,hl'⟩
theorem SW.cond {c:Operand} {x y:Code} {b:Bool} (hc:zah env σ c=.pv (.bool b)) (ht:b=true→SW P env pin x σ Q) (hf:b=false→SW P env pin y σ Q):SW P env pin (.cond c x y) σ Q:=fun hl E g M a w hR hG=>by
 have hv:=zaF (env:=env) hR hG.1 c
 rw [hc] at hv
 exact wp_cond_split hv.bool_inv (fun h=>ht h hl E g M a w hR hG) (fun h=>hf h hl E g M a w hR hG)
theorem SW.block {id:Nat} {c:Code} (h:SW P env pin c σ (zfe id Q)):SW P env pin (.block id c) σ Q:=fun hl E g M a w hR hG=>
 wp_block (wp_mono (h hl E g M a w hR hG) fun e a' w' ⟨σ',g',M',q,r⟩=>by
  cases e with
  |exit id'=>
   simp only [Exit.inBlock,zfe] at *
   by_cases hid:id'=id
   ·rw [if_pos hid] at q ⊢;exact ⟨σ',g',M',q,r⟩
   ·rw [if_neg hid] at q ⊢;exact ⟨σ',g',M',q,r⟩
  |_=>exact ⟨σ',g',M',q,r⟩)
theorem zln {ι:Type} {Q:Exit→Act→World→Prop} {a:Act} {w:World} {c:Code} (I:ι→Act→World→Prop) (μ:ι→Nat) (i0:ι) (h₀:I i0 a w)
  (round:∀ i a w,I i a w→c.wp P (Exit.then (fun a' w'=>∃ j,I j a' w'∧μ j<μ i) Q) a w):(Code.loop c).wp P Q a w:=by
 intro b k cs
 have key:∀ n i a w,μ i=n→I i a w →
   ∃ e a' w',Q e a' w'∧Arrives P (lone (b.at a (.code c::.inLoop c::k)) cs w) b k cs e a' w':=by
  intro n
  induction n using Nat.strongRecOn with
  |_ n ih=>
   intro i a w hn hI
   obtain ⟨e,a₁,w₁,hq,harr⟩:=round i a w hI b (.inLoop c::k) cs
   cases e with
   |normal=>
    obtain ⟨j,hI₁,hlt⟩:=hq
    obtain ⟨e₂,a₂,w₂,hq₂,harr₂⟩:=ih (μ j) (hn ▸ hlt) j a₁ w₁ rfl hI₁
    exact ⟨e₂,a₂,w₂,hq₂,.of_steps (Steps.trans harr (.one step_inLoop)) harr₂⟩
   |exit id=>exact ⟨_,a₁,w₁,hq,.pass (x:=.inLoop c) rfl (fun _ _=>.inl (by simp)) harr⟩
   |goto l=>exact ⟨_,a₁,w₁,hq,.pass (x:=.inLoop c) rfl (fun _ _=>.inl (by simp)) harr⟩
   |ret=>exact ⟨_,a₁,w₁,hq,.pass (x:=.inLoop c) rfl (fun _ _=>.inl (by simp)) harr⟩
   |panic ch=>exact ⟨_,a₁,w₁,hq,.pass (x:=.inLoop c) rfl (fun _ _=>.inl (by simp)) harr⟩
   |outgrown=>exact ⟨_,a₁,w₁,hq,.pass (x:=.inLoop c) rfl (fun _ _=>.inl (by simp)) harr⟩
 obtain ⟨e,a',w',hq,harr⟩:=key _ i0 a w rfl h₀
 exact ⟨e,a',w',hq,.of_steps (.one step_loop) harr⟩
theorem SW.loop {ι:Type} {c:Code} (I:ι→St) (μ:ι→Nat) (i0:ι) (h0:za0 env pin σ (I i0))
  (round:∀ i,SW P env pin c (I i) (zeY (fun σ'=>∃ j,za0 env pin σ' (I j)∧μ j<μ i) Q)):SW P env pin (.loop c) σ Q:=fun hl E g M a w hR hG=>by
 obtain ⟨hl0,hw0⟩:=h0 hl
 obtain ⟨g',M',hR',hM,hA⟩:=hw0 E g M a w hR
 refine zln (fun i a w=>∃ g1 M1,Rel E (I i) g1 M1 a w∧Mem.le M M1∧Agr pin σ g (I i) g1∧(I i).objs.length=env.nobj) μ i0 ⟨g',M',hR',hM,hA,hl0⟩ ?_
 rintro i a1 w1 ⟨g1,M1,hR1,hM1,hA1,hl1⟩
 refine wp_mono (round i hl1 E g1 M1 a1 w1 hR1 (hG.mono hM1)) fun e a2 w2 ⟨σ2,g2,M2,q,hR2,hM2,hA2,hl2⟩=>?_
 cases e with
 |normal=>
  obtain ⟨j,hw,hlt⟩:=q
  obtain ⟨hl3,hw3⟩:=hw hl2
  obtain ⟨g3,M3,hR3,hM3,hA3⟩:=hw3 E g2 M2 a2 w2 hR2
  exact ⟨j,⟨g3,M3,hR3,Mem.le_trans hM1 (Mem.le_trans hM2 hM3),hA1.trans (hA2.trans hA3),hl3⟩,hlt⟩
 |_=>exact ⟨σ2,g2,M2,q,hR2,Mem.le_trans hM1 hM2,hA1.trans hA2,hl2⟩
def RR (P:Program) (env:Env) (ops:Array Oper) (K:List Rec→St→Prop):List Oper→List Rec→St→Prop
 |[],acc,σ=>K acc σ
 |o::rest,acc,σ=>∃ T e,GStep P env ops o σ T e∧RR P env ops K rest (acc++[⟨T,e⟩]) (σ.app o.dst e)
def zce (l:List Rec) (k:Nat):Rec:=l.getD k ⟨[],⟨.junk,[]⟩⟩
theorem zlo (d:Option Nat) (e:Eff) (id:Nat) (h:σ.dom id):(σ.app d e).dom id:=by
 have:∀ (u:List (Nat × AObj)) (l:List (Option AObj)),l.getD id none≠none→(zaL l u).getD id none≠none:=by
  intro u
  induction u with
  |nil=>intro l h;exact h
  |cons q r ihr=>
   intro l h
   refine ihr _ ?_
   by_cases hq:q.1=id
   ·subst hq
    have hlt:q.1<l.length:=by
     rcases Nat.lt_or_ge q.1 l.length with h'|h'
     ·exact h'
     ·exfalso;apply h;simp [List.getElem?_eq_none h']
    simp [List.getD,hlt]
   ·simp only [List.getD,List.getElem?_set_ne hq];exact h
 exact this _ _ h
theorem zeb {ops:Array Oper} {tr:Nat→Rec} {S:Nat→Bool} (id:Nat) (h:σ.dom id):∀ m,(zb1 ops tr S σ m).dom id
 |0=>h
 |m+1=>by
  simp only [zb1]
  split
  ·unfold zgh
   split
   ·exact zlo _ _ _ (zeb id h m)
   ·exact zeb id h m
  ·exact zeb id h m
theorem ziZ {ops:Array Oper} {tr:Nat→Rec} (hE:zaY P env) (htr:zrT P env ops σ tr) (hl:σ.objs.length=env.nobj) {E:Ent} {g0:Gh} {M0:Mem} (hG:zj6 env E M0) {Q:Exit→Act→World→Prop}
  (hQ:∀ g M a w,Rel E (zb1 ops tr (fun _=>true) σ ops.size) g M a w→(∀ id,σ.dom id→g0.agree g id)→Mem.le M0 M→Q .normal a w) :
  ∀ n k,k+n=ops.size→∀ g M a w,Rel E (zb1 ops tr (fun _=>true) σ k) g M a w→(∀ id,σ.dom id→g0.agree g id)→Mem.le M0 M→wpOps P ops Q (List.range' k n) a w
 |0,k,hk,g,M,a,w,hR,hag,hM=>by
  have:k=ops.size:=by omega
  subst this
  exact hQ g M a w hR hag hM
 |n+1,k,hk,g,M,a,w,hR,hag,hM=>by
  have hks:k<ops.size:=by omega
  have ho:ops[k]?=some ops[k]:=Array.getElem?_eq_getElem hks
  rw [List.range'_succ,wpOps_cons]
  refine (htr k _ ho).wp ho hR (hG.mono hM) hE (by rw [zaM];exact hl) (fun v w' g' M' hR' hag' hM'=>?_)
  refine ziZ hE htr hl hG hQ n (k+1) (by omega) g' M' _ w' ?_ (fun id hd=>?_) (Mem.le_trans hM hM')
  ·simp only [zb1,if_true,zgh,ho];exact hR'
  ·obtain ⟨h1,h2,h3⟩:=hag id hd
   obtain ⟨h4,h5,h6⟩:=hag' id (zeb id hd _)
   exact ⟨h4.trans h1,h5.trans h2,h6.trans h3⟩
def steps (env:Env) (ops:Array Oper):Nat→List Oper→List Rec→St→Option (List Oper × List Rec × St)
 |0,l,acc,σ=>some (l,acc,σ)
 |_+1,[],acc,σ=>some ([],acc,σ)
 |n+1,o::rest,acc,σ=>
  match zdS ops σ o with
  |some true=>match aop env o.dst (zah env σ) σ.obj o.op with
   |some e=>steps env ops n rest (acc++[⟨zbv env o.dst (zah env σ) o.op,e⟩]) (σ.app o.dst e)
   |none=>none
  |some false=>steps env ops n rest (acc++[⟨[],⟨.tup [],[]⟩⟩]) (σ.app o.dst ⟨.tup [],[]⟩)
  |none=>none
def RRP (P:Program) (env:Env) (ops:Array Oper) (K:List Rec→St→Prop) (KP:List Rec→Value→List (Nat × AObj)→St→Prop):List Oper→List Rec→St→Prop
 |[],acc,σ=>K acc σ
 |o::rest,acc,σ=>(∃ T e,GStep P env ops o σ T e∧RRP P env ops K KP rest (acc++[⟨T,e⟩]) (σ.app o.dst e))∨∃ x upd,GPStep P env ops o σ x upd∧KP acc x upd σ
theorem RRP.traced {ops:Array Oper} {K:List Rec→St→Prop} {KP:List Rec→Value→List (Nat × AObj)→St→Prop}:∀ (rest:List Oper) (acc:List Rec) (pre:List Oper),ops.toList=pre++rest→acc.length=pre.length →
  (∀ k o,k<pre.length→ops[k]?=some o→GStep P env ops o (zb1 ops (zce acc) (fun _=>true) σ k) (zce acc k).T (zce acc k).e) →
  RRP P env ops K KP rest acc (zb1 ops (zce acc) (fun _=>true) σ pre.length) →
  (∃ tr:List Rec,zrT P env ops σ (zce tr)∧K tr (zb1 ops (zce tr) (fun _=>true) σ ops.size)) ∨
  ∃ (tr:List Rec) (op:Oper) (x:Value) (upd:List (Nat × AObj)),ops[tr.length]?=some op∧(∀ k o,k<tr.length→ops[k]?=some o→GStep P env ops o (zb1 ops (zce tr) (fun _=>true) σ k) (zce tr k).T (zce tr k).e) ∧
   GPStep P env ops op (zb1 ops (zce tr) (fun _=>true) σ tr.length) x upd∧KP tr x upd (zb1 ops (zce tr) (fun _=>true) σ tr.length)
 |[],acc,pre,hops,hlen,htr,h=>by
  have hsz:ops.size=pre.length:=by have:=congrArg List.length hops;simpa using this
  refine .inl ⟨acc,fun k o ho=>htr k o (by rw [←hsz];exact (Array.getElem?_eq_some_iff.1 ho).1) ho,?_⟩
  rw [hsz];exact h
 |o::rest,acc,pre,hops,hlen,htr,h=>by
  have hoK:ops[pre.length]?=some o:=by rw [←Array.getElem?_toList,hops];simp
  rcases h with ⟨T,e,hg,hr⟩|⟨x,upd,hg,hk⟩
  ·have hat:∀ k,k<pre.length→zce (acc++[⟨T,e⟩]) k=zce acc k:=fun k hk=>by
    simp [zce,List.getD,List.getElem?_append_left (by omega:k<acc.length)]
   have hlast:zce (acc++[⟨T,e⟩]) pre.length=⟨T,e⟩:=by
    simp [zce,List.getD,←hlen]
   have hrun:∀ k,k≤pre.length→zb1 ops (zce (acc++[⟨T,e⟩])) (fun _=>true) σ k=zb1 ops (zce acc) (fun _=>true) σ k:=by
    intro k
    induction k with
    |zero=>intro _;rfl
    |succ k ih=>
     intro hk
     simp only [zb1,if_true,zgh,ih (by omega),hat k (by omega)]
   refine RRP.traced rest (acc++[⟨T,e⟩]) (pre++[o]) (by simp [hops]) (by simp [hlen]) (fun k o' hk ho'=>?_) ?_
   ·simp only [List.length_append,List.length_cons,List.length_nil] at hk
    by_cases hkp:k<pre.length
    ·rw [hrun k (by omega),hat k hkp];exact htr k o' hkp ho'
    ·have hke:k=pre.length:=by omega
     subst hke
     rw [hoK] at ho'
     cases ho'
     rw [hrun _ (Nat.le_refl _),hlast];exact hg
   ·have e1:(pre++[o]).length=pre.length+1:=by simp
    rw [e1]
    simp only [zb1,if_true,zgh,hoK,hrun _ (Nat.le_refl _),hlast]
    exact hr
  ·refine .inr ⟨acc,o,x,upd,by rw [hlen];exact hoK,fun k o' hk ho'=>htr k o' (by omega) ho',?_,?_⟩
   ·rw [hlen];exact hg
   ·rw [hlen];exact hk
theorem zkx (id:Nat):∀ (u:List (Nat × AObj)) (l:List (Option AObj)),l.getD id none≠none→(zaL l u).getD id none≠none:=by
 intro u
 induction u with
 |nil=>intro l h;exact h
 |cons q r ihr=>
  intro l h
  refine ihr _ ?_
  by_cases hq:q.1=id
  ·subst hq
   have hlt:q.1<l.length:=by
    rcases Nat.lt_or_ge q.1 l.length with h'|h'
    ·exact h'
    ·exfalso;apply h;simp [List.getElem?_eq_none h']
   simp [List.getD,hlt]
  ·simp only [List.getD,List.getElem?_set_ne hq];exact h
theorem zi0 {ops:Array Oper} {tr:Nat→Rec} (hE:zaY P env) (kp:Nat) {op:Oper} (hop:ops[kp]?=some op) {x:Value} {upd:List (Nat × AObj)}
  (htr:∀ k o,k<kp→ops[k]?=some o→GStep P env ops o (zb1 ops tr (fun _=>true) σ k) (tr k).T (tr k).e)
  (hpan:GPStep P env ops op (zb1 ops tr (fun _=>true) σ kp) x upd) (hl:σ.objs.length=env.nobj) {E:Ent} {g0:Gh} {M0:Mem} (hG:zj6 env E M0) {Q:Exit→Act→World→Prop}
  (hQ:∀ g M a w,Rel E ⟨(zb1 ops tr (fun _=>true) σ kp).slots,zaL (zb1 ops tr (fun _=>true) σ kp).objs upd⟩ g M a w→(∀ id,σ.dom id→g0.agree g id)→Mem.le M0 M→Q (.panic (zke x)) a w) :
  ∀ n k,k+n=ops.size→k≤kp→∀ g M a w,Rel E (zb1 ops tr (fun _=>true) σ k) g M a w→(∀ id,σ.dom id→g0.agree g id)→Mem.le M0 M→wpOps P ops Q (List.range' k n) a w
 |0,k,hk,hkp,g,M,a,w,hR,hag,hM=>by
  have:=(Array.getElem?_eq_some_iff.1 hop).1
  omega
 |n+1,k,hk,hkp,g,M,a,w,hR,hag,hM=>by
  have hks:k<ops.size:=by omega
  have ho:ops[k]?=some ops[k]:=Array.getElem?_eq_getElem hks
  rw [List.range'_succ,wpOps_cons]
  have hcomb:∀ {g':Gh},(∀ id,(zb1 ops tr (fun _=>true) σ k).dom id→g.agree g' id)→∀ id,σ.dom id→g0.agree g' id:=fun hag' id hd=>by
   obtain ⟨h1,h2,h3⟩:=hag id hd
   obtain ⟨h4,h5,h6⟩:=hag' id (zeb id hd _)
   exact ⟨h4.trans h1,h5.trans h2,h6.trans h3⟩
  by_cases he:k=kp
  ·subst he
   exact hpan.wp hop hR (hG.mono hM) (by rw [zaM];exact hl) (fun w' g' M' hR' hag' hM'=>hQ g' M' a w' hR' (hcomb hag') (Mem.le_trans hM hM'))
  ·refine (htr k _ (by omega) ho).wp ho hR (hG.mono hM) hE (by rw [zaM];exact hl) (fun v w' g' M' hR' hag' hM'=>?_)
   refine zi0 hE kp hop htr hpan hl hG hQ n (k+1) (by omega) (by omega) g' M' _ w' ?_ (hcomb hag') (Mem.le_trans hM hM')
   simp only [zb1,if_true,zgh,ho];exact hR'
theorem SW.regionP (hE:zaY P env) {id:Nat} {ops:Array Oper} (h:RRP P env ops (fun _ σ'=>Q .normal σ') (fun _ x upd σ'=>Q (.panic (zke x)) ⟨σ'.slots,zaL σ'.objs upd⟩) ops.toList [] σ):SW P env pin (.region id ops false) σ Q:=fun hl E g M a w hR hG=>by
 rcases RRP.traced (σ:=σ) (ops:=ops) ops.toList [] [] (by simp) rfl (fun k o hk=>by simp at hk) h with ⟨tr,htr,hq⟩|⟨tr,op,x,upd,hop,htr,hpan,hq⟩
 ·refine wp_region ?_
  rw [List.range_eq_range']
  refine ziZ hE htr hl hG (g0:=g) (fun g' M' a' w' hR' hag hM=>?_) ops.size 0 (by omega) g M a w hR (fun _ _=>Gh.agree_refl _ _) (Mem.le_refl _)
  exact ⟨_,g',M',hq,hR',hM,fun i hi hd=>⟨hag i hd,zeb i hd _⟩,by rw [zaM];exact hl⟩
 ·refine wp_region ?_
  rw [List.range_eq_range']
  refine zi0 hE tr.length hop htr hpan hl hG (g0:=g) (fun g' M' a' w' hR' hag hM=>?_) ops.size 0 (by omega) (by omega) g M a w hR (fun _ _=>Gh.agree_refl _ _) (Mem.le_refl _)
  exact ⟨_,g',M',hq,hR',hM,fun i hi hd=>⟨hag i hd,zkx i _ _ (zeb i hd _)⟩,by show (zaL _ _).length=_;rw [zdG,zaM];exact hl⟩
def zrU (ops:Array Oper) (kp:Nat):Bool:=(List.range ops.size).all fun j=>decide (j≤kp) || (anc ops j).contains kp
theorem SW.drawP (hE:zaY P env) (hm:P.follows .mixedOrders=true) {id:Nat} {ops:Array Oper}
  (h:RRP P env ops (fun tr σ'=>zmA ops (anc ops) (zce tr)=true∧Q .normal σ') (fun tr x upd σ'=>zmA ops (anc ops) (zce tr)=true∧zrU ops tr.length=true∧(∀ r,r ∈ tr→r.e.upd=[])∧∀ slots,Q (.panic (zke x)) ⟨slots,zaL σ'.objs upd⟩) ops.toList [] σ):SW P env pin (.region id ops true) σ Q:=fun hl E g M a w hR hG=>by
 rcases RRP.traced (σ:=σ) (ops:=ops) ops.toList [] [] (by simp) rfl (fun k o hk=>by simp at hk) h with ⟨tr,htr,hok,hq⟩|⟨tr,op,x,upd,hop,htr,hpan,hok,hlt,hpu,hq⟩
 ·refine wp_region_any hm (zqq (E:=E) hE hok htr hl hG (g0:=g) (fun g' M' a' w' hR' hag hM=>?_) ops.size _ g M a _ (by simp) ?_ ?_ ?_ (fun _ _=>Gh.agree_refl _ _) (Mem.le_refl _))
  ·exact ⟨_,g',M',hq,hR',hM,fun i hi hd=>⟨hag i hd,zeb i hd _⟩,by rw [zaM];exact hl⟩
  ·intro k o ho hk
   have hks:k<ops.size:=(Array.getElem?_eq_some_iff.1 ho).1
   simp [hks] at hk
  ·exact Nat.le_trans (List.length_filter_le _ _) (by simp)
  ·rw [zdb (S':=fun _=>false) ops.size (fun k hk=>by simp [hk])]
   have:∀ m,zb1 ops (zce tr) (fun _=>false) σ m=σ:=fun m=>by induction m with
    |zero=>rfl
    |succ m ih=>simp [zb1,ih]
   rw [this]
   exact hR.drew
 ·have hpure:∀ k,(zce tr k).e.upd=[]:=fun k=>by
   unfold zce
   by_cases hk:k<tr.length
   ·have:tr.getD k ⟨[],⟨.junk,[]⟩⟩=tr[k]:=by simp [List.getD,hk]
    rw [this];exact hpu _ (List.getElem_mem hk)
   ·have:tr.getD k ⟨[],⟨.junk,[]⟩⟩=⟨[],⟨.junk,[]⟩⟩:=by simp [List.getD,List.getElem?_eq_none (by omega:tr.length≤k)]
    rw [this]
  have hlate:∀ j,tr.length<j→j<ops.size→tr.length ∈ anc ops j:=fun j h1 h2=>by
   have:=List.all_eq_true.1 hlt j (List.mem_range.2 h2)
   have h3:¬ j≤tr.length:=by omega
   simpa [h3] using this
  rw [zdU hpure] at hq
  have hkps:tr.length<ops.size:=(Array.getElem?_eq_some_iff.1 hop).1
  refine wp_region_any hm (zmB (E:=E) hE hok tr.length hop htr hpure hlate hpan hl hG (g0:=g) (fun slots g' M' a' w' hR' hag hM=>?_) ops.size _ g M a _ (by simp) ?_ (by simp [hkps]) ?_ ?_ (fun _ _=>Gh.agree_refl _ _) (Mem.le_refl _))
  ·exact ⟨_,g',M',hq slots,hR',hM,fun i hi hd=>⟨hag i hd,zkx i _ _ hd⟩,by show (zaL _ _).length=_;rw [zdG];exact hl⟩
  ·intro k o ho hk
   have hks:k<ops.size:=(Array.getElem?_eq_some_iff.1 ho).1
   simp [hks] at hk
  ·exact Nat.le_trans (List.length_filter_le _ _) (by simp)
  ·rw [zdb (S':=fun _=>false) ops.size (fun k hk=>by simp [hk])]
   have:∀ m,zb1 ops (zce tr) (fun _=>false) σ m=σ:=fun m=>by induction m with
    |zero=>rfl
    |succ m ih=>simp [zb1,ih]
   rw [this]
   exact hR.drew
end
end Go.Abs
namespace Go.Abs
open Go
def zcr (τ:Nat→Nat) (n:Nat→Bool):List AVal→List AVal→Prop
 |[],[]=>True
 |a::r,b::s=>(b=.junk∨(a=ren τ b∧zaw n b=true))∧zcr τ n r s
 |_,_=>False
def zbc (τ:Nat→Nat) (n:Nat→Bool) (σ:St):Nat→List (Option AObj)→Prop
 |_,[]=>True
 |k,o::r=>(match o with|none=>True|some .dead=>True|some ob=>σ.obj (τ k)=some (zgt τ ob)∧zbX n ob=true)∧zbc τ n σ (k+1) r
theorem zdV {τ:Nat→Nat} {n:Nat→Bool}:∀ {l l':List AVal},zcr τ n l l'→l.length=l'.length∧∀ i,l'.getD i .junk=.junk∨(l.getD i .junk=ren τ (l'.getD i .junk)∧zaw n (l'.getD i .junk)=true)
 |[],[],_=>⟨rfl,fun i=>.inl (by simp [List.getD])⟩
 |a::r,b::s,h=>by
  obtain ⟨h1,h2⟩:=h
  obtain ⟨h3,h4⟩:=zdV h2
  refine ⟨by simp [h3],fun i=>?_⟩
  cases i with
  |zero=>simpa [List.getD] using h1
  |succ i=>simpa [List.getD] using h4 i
 |[],_::_,h=>h.elim
 |_::_,[],h=>h.elim
theorem zer {τ:Nat→Nat} {n:Nat→Bool} {σ:St}:∀ {l:List (Option AObj)} {k:Nat},zbc τ n σ k l→∀ i ob,l.getD i none=some ob→ob=.dead∨(σ.obj (τ (k+i))=some (zgt τ ob)∧zbX n ob=true)
 |[],k,_,i,ob,h=>by simp [List.getD] at h
 |o::r,k,h,i,ob,hi=>by
  obtain ⟨h1,h2⟩:=h
  cases i with
  |zero=>
   simp only [List.getD_cons_zero] at hi
   subst hi
   cases ob with
   |dead=>exact .inl rfl
   |cells cs=>exact .inr h1
   |row sz xs=>exact .inr h1
   |map kd es=>exact .inr h1
   |bh T e B n=>exact .inr h1
   |bb e s=>exact .inr h1
  |succ i=>
   have:=zer h2 i ob (by simpa [List.getD] using hi)
   rwa [show k+1+i=k+(i+1) by omega] at this
section
variable {P:Program} {env:Env} {pin:Nat} {σ σ':St} {Q:Exit→St→Prop}
theorem Rel.wk {E:Ent} {g:Gh} {M:Mem} {a a':Act} {w:World} (hR:Rel E σ g M a w) (τ:Nat→Nat) (hsize:a'.tmps.size=σ'.slots.length) (hdef:a'.defers=E.ds)
  (hs:∀ i,i<σ'.slots.length→σ'.slot i=.junk∨∃ x,V g σ.dom M x (a'.tmps.getD i undef)∧x=ren τ (σ'.slot i)∧zaw (zaq σ'.objs) (σ'.slot i)=true)
  (ho:zbc τ (zaq σ'.objs) σ 0 σ'.objs) (hinj:∀ i j,i<σ'.objs.length→j<σ'.objs.length→τ i=τ j→i=j) :
  Rel E σ' ⟨fun k=>g.ρ (τ k),fun k=>g.κ (τ k),fun k=>g.ν (τ k)⟩ M a' w:=by
 have hdom:∀ k,zaq σ'.objs k=true→σ'.dom k:=fun k hk h0=>by
  have h1:σ'.objs.getD k none=none:=h0
  simp only [zaq] at hk
  rw [h1] at hk;cases hk
 have hsc:∀ k,zaq σ'.objs k=true→σ'.dom k∧(⟨fun k=>g.ρ (τ k),fun k=>g.κ (τ k),fun k=>g.ν (τ k)⟩:Gh).ρ k=g.ρ (τ k)∧(⟨fun k=>g.ρ (τ k),fun k=>g.κ (τ k),fun k=>g.ν (τ k)⟩:Gh).κ k=g.κ (τ k)∧(⟨fun k=>g.ρ (τ k),fun k=>g.κ (τ k),fun k=>g.ν (τ k)⟩:Gh).ν k=g.ν (τ k):=
  fun k hk=>⟨hdom k hk,rfl,rfl,rfl⟩
 have hown:∀ k ob,zbj (⟨fun k=>g.ρ (τ k),fun k=>g.κ (τ k),fun k=>g.ν (τ k)⟩:Gh) k ob=zbj g (τ k) ob:=fun k ob=>by cases ob<;>rfl
 have hget:∀ k ob b,σ'.obj k=some ob→zbj (⟨fun k=>g.ρ (τ k),fun k=>g.κ (τ k),fun k=>g.ν (τ k)⟩:Gh) k ob=some b→σ.obj (τ k)=some (zgt τ ob)∧zbj g (τ k) (zgt τ ob)=some b∧k<σ'.objs.length:=fun k ob b hk hb=>by
  rcases zer ho k ob hk with rfl|⟨h1,_⟩
  ·simp [zbj] at hb
  ·rw [Nat.zero_add] at h1
   exact ⟨h1,by rw [zcN,←hown];exact hb,zcd hk⟩
 refine ⟨hsize,hdef,?_,?_,?_,?_,hR.sat,hR.M0,hR.Mnew,hR.size0,hR.same,?_,hR.os,hR.tape,hR.output⟩
 ·intro i hi
  rcases hs i hi with h1|⟨x,h1,h2,h3⟩
  ·rw [h1];exact .junk _
  ·exact zup hsc h1 _ h2 h3
 ·intro k ob hk
  rcases zer ho k ob hk with rfl|⟨h1,h2⟩
  ·trivial
  ·rw [Nat.zero_add] at h1
   have hor:=hR.objs _ _ h1
   cases ob with
   |cells cs=>
    obtain ⟨vals,T,hh,hsz,hv⟩:=hor
    refine ⟨vals,T,hh,by rw [hsz,zaJ],fun j hj=>?_⟩
    exact zup hsc (hv j (by rw [zaJ];exact hj)) _ (zcz τ cs j) (zbU _ _ _ h2)
   |row sz xs=>exact hor
   |map kd es=>
    obtain ⟨ents,clock,hh,hsz,hv⟩:=hor
    refine ⟨ents,clock,hh,hsz,fun i e he=>?_⟩
    obtain ⟨en,q1,q2,q3,q4⟩:=hv i e he
    exact ⟨en,q1,q2,q3,zup hsc q4 _ (zh6 _ _).symm (zfc _ _)⟩
   |bh T e B n=>
    obtain ⟨hd,hn,p,hh,hp⟩:=hor
    obtain ⟨k1,k2,k3,k4⟩:=hsc B h2
    exact ⟨k1,hn,p,hh,hp⟩
   |bb e s=>exact hor
   |dead=>trivial
 ·intro k k' ob ob' b hk hk' hb hb'
  obtain ⟨h1,h2,h3⟩:=hget k ob b hk hb
  obtain ⟨h4,h5,h6⟩:=hget k' ob' b hk' hb'
  exact hinj k k' h3 h6 (hR.apart _ _ _ _ b h1 h4 h2 h5)
 ·intro k ob b hk hb i
  obtain ⟨h1,h2,_⟩:=hget k ob b hk hb
  exact hR.offM _ _ b h1 h2 i
 ·intro k ob b hk hb
  obtain ⟨h1,h2,_⟩:=hget k ob b hk hb
  exact hR.own0 _ _ b h1 h2
def tau (l:List Nat) (k:Nat):Nat:=l.getD k 0
theorem za0.wk (τ:List Nat) (hlen:σ'.objs.length=env.nobj) (hτ:τ.length=env.nobj) (hnd:τ.Nodup) (hpin:∀ k,k<pin→tau τ k=k∧(σ.dom k→σ'.dom k))
  (hs:zcr (tau τ) (zaq σ'.objs) σ.slots σ'.slots) (ho:zbc (tau τ) (zaq σ'.objs) σ 0 σ'.objs):za0 env pin σ σ':=fun _=>⟨hlen,fun E g M a w hR=>by
 obtain ⟨hl,hg⟩:=zdV hs
 refine ⟨_,M,hR.wk (tau τ) (by rw [hR.size,hl]) hR.defers (fun i hi=>?_) ho (fun i j hi hj e=>zcO hnd (by omega) (by omega) e),Mem.le_refl _,fun id hid hd=>?_⟩
 ·rcases hg i with h1|⟨h1,h2⟩
  ·exact .inl h1
  ·exact .inr ⟨σ.slot i,hR.slot i,h1,h2⟩
 ·obtain ⟨h1,h2⟩:=hpin id hid
  refine ⟨?_,h2 hd⟩
  simp [Gh.agree,h1]⟩
theorem za0.forget (hlen:σ'.objs.length=env.nobj) (hpin:∀ k,k<pin→σ.dom k→σ'.dom k)
  (hs:zcr id (zaq σ'.objs) σ.slots σ'.slots) (ho:zbc id (zaq σ'.objs) σ 0 σ'.objs):za0 env pin σ σ':=fun _=>⟨hlen,fun E g M a w hR=>by
 obtain ⟨hl,hg⟩:=zdV hs
 refine ⟨_,M,hR.wk id (by rw [hR.size,hl]) hR.defers (fun i hi=>?_) ho (fun i j hi hj e=>e),Mem.le_refl _,fun k hk hd=>⟨⟨rfl,rfl,rfl⟩,hpin k hk hd⟩⟩
 rcases hg i with h1|⟨h1,h2⟩
 ·exact .inl h1
 ·exact .inr ⟨σ.slot i,hR.slot i,h1,h2⟩⟩
mutual
def frz (id:Nat) (xs:List (List PVal)):AVal→AVal
 |.row id' n=>if id'=id then (if n=xs.length then .pv (.slice xs) else .junk) else .row id' n
 |.eref id' i j sz=>if id'=id then .junk else .eref id' i j sz
 |.ref id' off=>if id'=id then .junk else .ref id' off
 |.map id'=>.map id'
 |.csl id' n sz=>.csl id' n sz
 |.agg cs=>.agg (zf6 id xs cs)
 |.tup cs=>.tup (zf6 id xs cs)
 |.clo f cs=>.clo f (zf6 id xs cs)
 |.pv p=>.pv p
 |.snil=>.snil
 |.junk=>.junk
def zf6 (id:Nat) (xs:List (List PVal)):List AVal→List AVal
 |[]=>[]
 |a::r=>frz id xs a::zf6 id xs r
end
def zf7 (id:Nat) (xs:List (List PVal)):Option AObj→Option AObj
 |some (.cells cs)=>some (.cells (zf6 id xs cs))
 |o=>o
def St.frz (σ:St) (id:Nat) (xs:List (List PVal)):St:=⟨zf6 id xs σ.slots,(σ.objs.map (zf7 id xs)).set id (some .dead)⟩
theorem zbK (id:Nat) (xs:List (List PVal)):∀ cs:List AVal,(zf6 id xs cs).length=cs.length
 |[]=>rfl
 |_::r=>by simp [zf6,zbK id xs r]
theorem zfz (id:Nat) (xs:List (List PVal)):∀ (cs:List AVal) (i:Nat),(zf6 id xs cs).getD i .junk=Abs.frz id xs (cs.getD i .junk)
 |[],i=>by simp [zf6,List.getD,Abs.frz]
 |c::r,0=>by simp [zf6,List.getD]
 |c::r,i+1=>by have:=zfz id xs r i;simpa [zf6,List.getD] using this
theorem znX (id:Nat) (xs:List (List PVal)):∀ ps:List PVal,zf6 id xs (ps.map .pv)=ps.map .pv
 |[]=>rfl
 |p::r=>by simp [zf6,Abs.frz,znX id xs r]
theorem zur (id:Nat) (xs:List (List PVal)) (q:Bool × List PVal):Abs.frz id xs (zf3 q)=zf3 q:=by
 unfold zf3
 cases q.1<;>simp [Abs.frz,znX]
theorem za0.freeze (id:Nat) {sz:Nat} {xs:List (List PVal)} (hob:σ.obj id=some (.row sz xs)):za0 env pin σ (σ.frz id xs):=fun hl=>⟨by simp [St.frz,hl],fun E g M a w hR=>by
 obtain ⟨r1,r2,r3⟩:=hR.objs id _ hob
 have hlt:=zcd hob
 let M':Mem:=fun b i=>if g.ν id=false∧b=g.ρ id∧i<xs.length * sz then w.cell? ⟨b,i,none⟩ else M b i
 have hMle:Mem.le M M':=fun b i u hu=>by
  simp only [M']
  split
  ·exact hR.sat b i u hu
  ·exact hu
 have hslice:V g σ.dom M (.row id xs.length) (if g.ν id then .slice none 0 0 else .slice (some ⟨g.ρ id,0,none⟩) xs.length (g.κ id))→True:=fun _=>trivial
 have hrd:∀ v n,V g σ.dom M (.row id n) v→n=xs.length→Rd M' (.slice xs) v:=fun v n hv hn=>by
  cases hv with
  |rown _ _ hnu=>rw [r2 hnu];exact .nils
  |row _ _ _ hnu=>
   subst hn
   obtain ⟨vals,T,hh,h4,h5,h6⟩:=r3 hnu
   refine .slice xs sz (g.ρ id) 0 (g.κ id) (fun i j=>vals.getD (i * sz+j) undef) r1 (fun i j hi hj=>?_) (fun i j hi hj=>(h6 i j hi hj).mono hMle) h4
   have hlt2:i * sz+j<xs.length * sz:=by
    have:(i+1) * sz≤xs.length * sz:=Nat.mul_le_mul_right _ hi
    rw [Nat.add_mul] at this;omega
   have hle:xs.length * sz≤g.κ id * sz:=Nat.mul_le_mul_right _ h4
   simp only [M',Nat.zero_add,hnu,hlt2,and_self,if_true]
   rw [cell_of_heap hh]
   have:i * sz+j<vals.size:=by omega
   simp [this]
 have hobj':∀ k ob,(σ.frz id xs).obj k=some ob→(k=id∧ob=.dead)∨(k≠id∧∃ ob0,σ.obj k=some ob0∧zf7 id xs (some ob0)=some ob):=fun k ob hk=>by
  by_cases hki:id=k
  ·subst hki
   have:(σ.frz id xs).obj id=some .dead:=by simp [St.frz,St.obj,hlt]
   rw [this] at hk;cases hk;exact .inl ⟨rfl,rfl⟩
  ·refine .inr ⟨fun e=>hki e.symm,?_⟩
   have e1:(σ.frz id xs).obj k=zf7 id xs (σ.obj k):=by
    simp only [St.frz,St.obj,List.getD,List.getElem?_set_ne hki,List.getElem?_map]
    cases σ.objs[k]?<;>rfl
   rw [e1] at hk
   cases ho:σ.obj k with
   |none=>rw [ho] at hk;cases hk
   |some ob0=>rw [ho] at hk;exact ⟨ob0,rfl,hk⟩
 have hdom':∀ k,σ.dom k→(σ.frz id xs).dom k:=fun k hd=>by
  by_cases hki:id=k
  ·subst hki;simp [St.dom,St.frz,St.obj,hlt]
  ·have e1:(σ.frz id xs).obj k=zf7 id xs (σ.obj k):=by
    simp only [St.frz,St.obj,List.getD,List.getElem?_set_ne hki,List.getElem?_map]
    cases σ.objs[k]?<;>rfl
   unfold St.dom
   rw [e1]
   cases ho:σ.obj k with
   |none=>exact absurd ho hd
   |some ob0=>cases ob0<;>simp [zf7]
 have hV:∀ x v,V g σ.dom M x v→V g (σ.frz id xs).dom M' (Abs.frz id xs x) v:=by
  intro x v h
  induction h with
  |pv r=>exact .pv (r.mono hMle)
  |snil=>exact .snil
  |ref k off hd=>
   simp only [Abs.frz]
   split
   ·exact .junk _
   ·exact .ref _ _ (hdom' _ hd)
  |row k m hd hnu=>
   simp only [Abs.frz]
   split
   ·rename_i hk
    subst hk
    split
    ·rename_i hm;exact .pv (hrd _ m (.row _ _ hd hnu) hm)
    ·exact .junk _
   ·exact .row _ _ (hdom' _ hd) hnu
  |rown k hd hnu=>
   simp only [Abs.frz]
   split
   ·rename_i hk
    subst hk
    split
    ·rename_i hm;exact .pv (hrd _ 0 (.rown _ hd hnu) hm)
    ·exact .junk _
   ·exact .rown _ (hdom' _ hd) hnu
  |eref k i j s hd=>
   simp only [Abs.frz]
   split
   ·exact .junk _
   ·exact .eref _ _ _ _ (hdom' _ hd)
  |map k hd=>exact .map _ (hdom' _ hd)
  |csl k n sz hd=>exact .csl _ _ _ (hdom' _ hd)
  |agg cs vs hl _ ih=>exact .agg _ vs (by rw [zbK];exact hl) (fun i hi=>by rw [zbK] at hi;rw [zfz];exact ih i hi)
  |tup cs vs hl _ ih=>exact .tup _ vs (by rw [zbK];exact hl) (fun i hi=>by rw [zbK] at hi;rw [zfz];exact ih i hi)
  |clo f cs vs hl _ ih=>exact .clo f _ vs (by rw [zbK];exact hl) (fun i hi=>by rw [zbK] at hi;rw [zfz];exact ih i hi)
  |junk v=>exact .junk v
 have hownf:∀ k ob ob0,zf7 id xs (some ob0)=some ob→zbj g k ob=zbj g k ob0:=fun k ob ob0 h=>by cases ob0<;>simp [zf7] at h<;>subst h<;>rfl
 refine ⟨g,M',⟨by simp [St.frz,zbK,hR.size],hR.defers,?_,?_,?_,?_,?_,Mem.le_trans hR.M0 hMle,?_,hR.size0,hR.same,?_,hR.os,hR.tape,hR.output⟩,hMle,fun k hk hd=>⟨Gh.agree_refl _ _,hdom' k hd⟩⟩
 ·intro i hi
  have e1:(σ.frz id xs).slot i=Abs.frz id xs (σ.slot i):=zfz id xs σ.slots i
  rw [e1];exact hV _ _ (hR.slot i)
 ·intro k ob hk
  rcases hobj' k ob hk with ⟨rfl,rfl⟩|⟨hne,ob0,h1,h2⟩
  ·trivial
  ·have hor:=hR.objs k ob0 h1
   cases ob0 with
   |cells cs=>
    simp only [zf7,Option.some.injEq] at h2
    subst h2
    obtain ⟨vals,T,hh,hs,hv⟩:=hor
    exact ⟨vals,T,hh,by rw [hs,zbK],fun j hj=>by rw [zbK] at hj;rw [zfz];exact hV _ _ (hv j hj)⟩
   |row sz' xs'=>
    simp only [zf7,Option.some.injEq] at h2
    subst h2
    obtain ⟨q1,q2,q3⟩:=hor
    exact ⟨q1,q2,fun hnu=>let ⟨vals,T,hh,q4,q5,q6⟩:=q3 hnu;⟨vals,T,hh,q4,q5,fun i j hi hj=>(q6 i j hi hj).mono hMle⟩⟩
   |map kd es=>
    simp only [zf7,Option.some.injEq] at h2
    subst h2
    obtain ⟨ents,clock,hh,hs,hv⟩:=hor
    refine ⟨ents,clock,hh,hs,fun i e he=>?_⟩
    obtain ⟨en,q1,q2,q3,q4⟩:=hv i e he
    exact ⟨en,q1,q2,q3.mono hMle,zur id xs e.2 ▸ hV _ _ q4⟩
   |bh T e B n=>
    simp only [zf7,Option.some.injEq] at h2
    subst h2
    obtain ⟨hd,hn,p,hh,hp⟩:=hor
    exact ⟨hdom' _ hd,hn,p,hh,hp⟩
   |bb e s=>simp only [zf7,Option.some.injEq] at h2;subst h2;exact hor
   |dead=>simp only [zf7,Option.some.injEq] at h2;subst h2;trivial
 ·intro k k' ob ob' b hk hk' hb hb'
  rcases hobj' k ob hk with ⟨rfl,rfl⟩|⟨hne,ob0,h1,h2⟩
  ·simp [zbj] at hb
  ·rcases hobj' k' ob' hk' with ⟨rfl,rfl⟩|⟨hne',ob0',h1',h2'⟩
   ·simp [zbj] at hb'
   ·exact hR.apart k k' ob0 ob0' b h1 h1' (by rw [←hownf k ob ob0 h2];exact hb) (by rw [←hownf k' ob' ob0' h2'];exact hb')
 ·intro k ob b hk hb i
  rcases hobj' k ob hk with ⟨rfl,rfl⟩|⟨hne,ob0,h1,h2⟩
  ·simp [zbj] at hb
  ·have hb0:zbj g k ob0=some b:=by rw [←hownf k ob ob0 h2];exact hb
   simp only [M']
   rw [if_neg]
   ·exact hR.offM k ob0 b h1 hb0 i
   ·rintro ⟨hnu,hbe,_⟩
    exact hne (hR.apart k id ob0 _ b h1 hob hb0 (by simp [zbj,hnu,hbe]))
 ·intro b i u hu
  simp only [M'] at hu
  split at hu
  ·exact hu
  ·exact hR.sat b i u hu
 ·intro b i hb hB
  simp only [M']
  rw [if_neg]
  ·exact hR.Mnew b i hb hB
  ·rintro ⟨hnu,hbe,_⟩
   rcases hR.own0 id _ b hob (by simp [zbj,hnu,hbe]) with h1|h1
   ·exact hB h1
   ·omega
 ·intro k ob b hk hb
  rcases hobj' k ob hk with ⟨rfl,rfl⟩|⟨hne,ob0,h1,h2⟩
  ·simp [zbj] at hb
  ·exact hR.own0 k ob0 b h1 (by rw [←hownf k ob ob0 h2];exact hb)⟩
theorem za0.nilRow (t id sz:Nat) (hs:σ.slot t=.snil) (hn:σ.obj id=none) (hid:id<env.nobj):za0 env pin σ ⟨σ.slots.set t (.row id 0),σ.objs.set id (some (.row sz []))⟩:=fun hl=>⟨by simp [hl],fun E g M a w hR=>by
 have hne:∀ i,σ.dom i→i≠id:=fun i hi e=>hi (by rw [e];exact hn)
 have hag:∀ i,σ.dom i→g.agree (g.set id 0 0 true) i:=fun i hi=>Gh.set_agree (hne i hi)
 have hself:(σ.set id (.row sz [])).obj id=some (.row sz []):=St.obj_set_self (by omega)
 have hR':Rel E (σ.set id (.row sz [])) (g.set id 0 0 true) M a w:=by
  refine hR.update (fun i=>i=id) rfl (fun i hi=>St.obj_set_ne (fun e=>hi e.symm)) (fun i hi=>zbD i hi) hag ?_ (fun _ _ _=>rfl) ?_ ?_ (Nat.le_refl _) rfl rfl rfl
  ·rintro i ob rfl ho
   rw [hself] at ho
   cases ho
   exact ⟨by simp,fun _=>rfl,fun h=>by simp [Gh.set] at h⟩
  ·rintro i ob b rfl ho hb
   rw [hself] at ho
   cases ho
   simp [zbj,Gh.set] at hb
  ·rintro i i' _ _ _ rfl rfl _ _ _ _;rfl
 refine ⟨_,M,?_,Mem.le_refl _,fun k hk hd=>⟨hag k hd,zbD k hd⟩⟩
 refine ⟨by simp [hR.size],hR.defers,?_,hR'.objs,hR'.apart,hR'.offM,hR'.sat,hR'.M0,hR'.Mnew,hR'.size0,hR'.same,hR'.own0,hR'.os,hR'.tape,hR'.output⟩
 intro i hi
 simp only [List.length_set] at hi
 by_cases hti:t=i
 ·subst hti
  have e1:St.slot ⟨σ.slots.set t (.row id 0),σ.objs.set id (some (.row sz []))⟩ t=.row id 0:=by simp [St.slot,hi]
  rw [e1]
  have hv:=hR.slots t hi
  rw [hs] at hv
  generalize a.tmps.getD t undef=v at hv
  cases hv
  exact .rown id (by show (σ.set id (.row sz [])).dom id;simp [St.dom,hself]) (by simp [Gh.set])
 ·have e1:St.slot ⟨σ.slots.set t (.row id 0),σ.objs.set id (some (.row sz []))⟩ i=σ.slot i:=by simp [St.slot,List.getElem?_set_ne hti]
  rw [e1]
  exact hR'.slots i hi⟩
end
end Go.Abs
namespace Go.Abs
open Go
def zhl (env:Env) (σ:St):ResultVar→Option AVal
 |.tmp t=>some (σ.slot t)
 |.cell a t=>match env.ty t,σ.slot a with
  |some ty,.ref id off=>match σ.obj id with
   |some (.cells cs)=>if off+ty.size≤cs.length∧0<ty.size then some (if ty.agg then .agg ((cs.drop off).take ty.size) else cs.getD off .junk) else none
   |_=>none
  |_,_=>none
def zkf (env:Env) (σ:St):List ResultVar→Option (List AVal)
 |[]=>some []
 |r::rs=>match zhl env σ r,zkf env σ rs with
  |some v,some vs=>some (v::vs)
  |_,_=>none
def znY:List AVal→AVal
 |[v]=>v
 |vs=>.tup vs
section
variable {P:Program} {env:Env} {σ:St} {E:Ent} {g:Gh} {M:Mem} {a:Act} {w:World}
theorem znZ (hR:Rel E σ g M a w) (hE:zaY P env) {r:ResultVar} {x:AVal} (h:zhl env σ r=some x) :
  ∃ v,(match r with|.tmp t=>pure (a.tmps.getD t undef)|.cell b t=>do loadVar t (←asAddr (a.tmps.getD b undef)):Sem Value).run P w=.ok v w∧V g σ.dom M x v:=by
 cases r with
 |tmp t=>cases h;exact ⟨_,rfl,hR.slot t⟩
 |cell b t=>
  simp only [zhl] at h
  split at h
  ·rename_i ty id off ht hx
   have hv:=hR.slot b
   rw [hx] at hv
   obtain ⟨hp,hd⟩:=hv.ref_inv
   split at h
   ·rename_i cs hob
    split at h
    ·rename_i hc
     cases h
     obtain ⟨vals,T,hh,hs,hvv⟩:=hR.objs id _ hob
     refine ⟨if ty.agg then .agg ((List.range ty.size).map fun j=>vals.getD (off+j) undef).toArray else vals.getD off undef,?_,?_⟩
     ·have h1:=zep (P:=P) hE ht w (g.ρ id) off (fun j=>vals.getD (off+j) undef) hc.2 (fun j hj=>by
       rw [cell_of_heap hh]
       have:off+j<vals.size:=by omega
       simp [this])
      simp only [hp,Sem.run_bind,asAddr,Sem.run_pure,Result.andThen]
      exact h1
     ·cases ty.agg
      ·exact hvv off (by omega)
      ·refine zrI (by simp;omega) (fun j hj=>?_)
       have:((cs.drop off).take ty.size).getD j .junk=cs.getD (off+j) .junk:=by
        simp [List.getD,List.getElem?_take,hj,List.getElem?_drop]
       rw [this];exact hvv (off+j) (by omega)
    ·cases h
   ·cases h
  ·cases h
theorem zo4 (hR:Rel E σ g M a w) (hE:zaY P env):∀ {rs:List ResultVar} {xs:List AVal},zkf env σ rs=some xs →
  ∃ vs:List Value,(rs.mapM (fun|.tmp t=>pure (a.tmps.getD t undef)|.cell b t=>do loadVar t (←asAddr (a.tmps.getD b undef)):ResultVar→Sem Value)).run P w=.ok vs w∧vs.length=xs.length∧∀ i,i<xs.length→V g σ.dom M (xs.getD i .junk) (vs.getD i undef)
 |[],xs,h=>by cases h;exact ⟨[],rfl,rfl,fun i hi=>by simp at hi⟩
 |r::rs,xs,h=>by
  simp only [zkf] at h
  split at h
  ·rename_i x xs' h1 h2
   cases h
   obtain ⟨v,hv,hvv⟩:=znZ (P:=P) hR hE h1
   obtain ⟨vs,hvs,hl,hvvs⟩:=zo4 hR hE h2
   refine ⟨v::vs,?_,by simp [hl],fun i hi=>?_⟩
   ·rw [List.mapM_cons,Sem.run_bind,hv]
    simp only [Result.andThen,Sem.run_bind,hvs,Sem.run_pure]
   ·cases i with
    |zero=>simpa [List.getD] using hvv
    |succ i=>simpa [List.getD] using hvvs i (by simpa using hi)
  ·cases h
theorem zgj (hR:Rel E σ g M a w) (hE:zaY P env) {fn:Func} {xs:List AVal} (h:zkf env σ fn.results.toList=some xs) :
  ∃ v,(results fn a.tmps).run P w=.ok v w∧V g σ.dom M (znY xs) v:=by
 obtain ⟨vs,hvs,hl,hv⟩:=zo4 (P:=P) hR hE h
 have hm:(fn.results.mapM (fun|.tmp t=>pure (a.tmps.getD t undef)|.cell b t=>do loadVar t (←asAddr (a.tmps.getD b undef)):ResultVar→Sem Value)).run P w=.ok vs.toArray w:=by
  rw [Array.mapM_eq_mapM_toList,Sem.run_map,hvs];rfl
 refine ⟨if h:vs.toArray.size=1 then vs.toArray[0] else .tuple vs.toArray,?_,?_⟩
 ·have e:results fn a.tmps=((fn.results.mapM (fun|.tmp t=>pure (a.tmps.getD t undef)|.cell b t=>do loadVar t (←asAddr (a.tmps.getD b undef)):ResultVar→Sem Value)) >>= fun vs=>pure (if h:vs.size=1 then vs[0] else .tuple vs)):=by
   unfold results
   congr 1
  rw [e,Sem.run_bind,hm]
  simp only [Result.andThen,Sem.run_pure]
 ·match xs,vs,hl,hv with
  |[],[],_,hv=>exact .tup [] [] rfl (fun i hi=>by simp at hi)
  |[x],[v],_,hv=>have:=hv 0 (by simp);simpa [List.getD,znY] using this
  |x::y::r,v::u::s,hl,hv=>
   have e1:¬ (v::u::s).toArray.size=1:=by simp
   rw [dif_neg e1]
   exact .tup _ _ hl hv
def zay (env:Env) (n:Nat) (rs:List ResultVar) (res:AVal) (objs':List (Option AObj)):Exit→St→Prop:=fun e σ=>
 (e=.ret∨e=.normal)∧∃ vs τ,zkf env σ rs=some vs∧zcr (tau τ) (zaq objs') [znY vs] [res]∧zbc (tau τ) (zaq objs') σ 0 objs'∧(∀ k,k<n→tau τ k=k)∧τ.Nodup∧objs'.length≤τ.length
theorem AC.of_body (hE:zaY P env) {f:FuncId} {fn:Func} {code:Code} (hf:P.funcs[f]?=some fn) (hb:fn.body=some code) {args:List AVal} {objs:List (Option AObj)} {res:AVal} {objs':List (Option AObj)}
  (hargs:args.length≤fn.ntmps) (hobjs:objs.length≤env.nobj)
  (h:SW P env objs.length code ⟨args++List.replicate (fn.ntmps - args.length) .junk,objs++List.replicate (env.nobj - objs.length) none⟩ (zay env objs.length fn.results.toList res objs')) :
  AC P env.gl f args objs res objs':=by
 intro w M g vargs hR hG
 have hla:vargs.length=args.length:=by simpa using hR.size
 refine calls_of_wp hf hb ?_
 have hobj:∀ id,St.obj ⟨args++List.replicate (fn.ntmps - args.length) .junk,objs++List.replicate (env.nobj - objs.length) none⟩ id=St.obj ⟨args,objs⟩ id:=fun id=>by
  simp only [St.obj,List.getD]
  by_cases hid:id<objs.length
  ·rw [List.getElem?_append_left hid]
  ·rw [List.getElem?_append_right (by omega),List.getElem?_eq_none (by omega:objs.length≤id)]
   rw [List.getElem?_replicate]
   split<;>rfl
 have hdom:St.dom ⟨args++List.replicate (fn.ntmps - args.length) .junk,objs++List.replicate (env.nobj - objs.length) none⟩=St.dom ⟨args,objs⟩:=by
  funext id;simp only [St.dom,hobj]
 have hR0:Rel ⟨w,M,zaP g objs,[]⟩ ⟨args++List.replicate (fn.ntmps - args.length) .junk,objs++List.replicate (env.nobj - objs.length) none⟩ g M
   { tmps:=vargs.toArray++Array.replicate (fn.ntmps - vargs.toArray.size) undef,defers:=[] } w:=by
  refine ⟨by simp [hla],rfl,?_,?_,?_,?_,hR.sat,hR.M0,hR.Mnew,hR.size0,hR.same,?_,hR.os,hR.tape,hR.output⟩
  ·intro i hi
   rw [hdom]
   by_cases hia:i<args.length
   ·have e1:St.slot ⟨args++List.replicate (fn.ntmps - args.length) .junk,objs++List.replicate (env.nobj - objs.length) none⟩ i=St.slot ⟨args,objs⟩ i:=by
     simp [St.slot,List.getElem?_append_left hia]
    have e2:(vargs.toArray++Array.replicate (fn.ntmps - vargs.toArray.size) undef).getD i undef=vargs.toArray.getD i undef:=by
     simp only [Array.getD_eq_getD_getElem?]
     rw [Array.getElem?_append_left (by simp;omega)]
    rw [e1,e2];exact hR.slots i hia
   ·have e1:St.slot ⟨args++List.replicate (fn.ntmps - args.length) .junk,objs++List.replicate (env.nobj - objs.length) none⟩ i=.junk:=by
     simp only [St.slot,List.getD]
     rw [List.getElem?_append_right (by omega),List.getElem?_replicate]
     split<;>rfl
    rw [e1];exact .junk _
  ·intro id o ho;rw [hobj] at ho;rw [hdom];exact hR.objs id o ho
  ·intro id id' o o' b ho ho';rw [hobj] at ho ho';exact hR.apart id id' o o' b ho ho'
  ·intro id o b ho;rw [hobj] at ho;exact hR.offM id o b ho
  ·intro id o b ho;rw [hobj] at ho;exact hR.own0 id o b ho
 refine wp_mono (h (by simp;omega) _ g M _ w hR0 hG) fun e a' w' ⟨σ',g',M',⟨he,vs,τ,hvs,hws,hwo,hpin,hnd,hlen⟩,hR',hM,hA,hl'⟩=>?_
 have key:a'.defers=[]∧∃ v,(results fn a'.tmps).run P w'=.ok v w'∧∃ v' g' M',Ending.returned v=.returned v'∧Rel ⟨w,M,zaP g objs,[]⟩ ⟨[res],objs'⟩ g' M' ⟨#[v'],[]⟩ w'∧∀ id,zaq objs id=true→g.agree g' id:=by
  obtain ⟨v,hrun,hV⟩:=zgj (P:=P) hR' hE hvs
  refine ⟨hR'.defers,v,hrun,v,_,M',rfl,hR'.wk (σ':=⟨[res],objs'⟩) (tau τ) (by simp) rfl (fun i hi=>?_) hwo (fun i j hi hj e=>zcO hnd (by simp at hi;omega) (by simp at hj;omega) e),fun id hid=>?_⟩
  ·have hi0:i=0:=by simpa using hi
   subst hi0
   obtain ⟨_,hg⟩:=zdV hws
   rcases hg 0 with h1|⟨h1,h2⟩
   ·exact .inl h1
   ·exact .inr ⟨znY vs,hV,by simpa [List.getD,St.slot] using h1,by simpa [List.getD,St.slot] using h2⟩
  ·have hlt:id<objs.length:=by
    rcases Nat.lt_or_ge id objs.length with h|h
    ·exact h
    ·simp [zaq,List.getD,List.getElem?_eq_none h] at hid
   have hd:St.dom ⟨args++List.replicate (fn.ntmps - args.length) .junk,objs++List.replicate (env.nobj - objs.length) none⟩ id:=by
    rw [hdom];intro h0
    have h1:objs.getD id none=none:=h0
    simp only [zaq] at hid
    rw [h1] at hid;cases hid
   obtain ⟨⟨h1,h2,h3⟩,_⟩:=hA id hlt hd
   simp only [Gh.agree,hpin id hlt]
   exact ⟨h1,h2,h3⟩
 rcases he with rfl|rfl
 ·exact key
 ·exact key
def zci (n:Nat) (x:Value) (objs':List (Option AObj)):Exit→St→Prop:=fun e σ=>
 e=.panic (zke x)∧∃ τ,zbc (tau τ) (zaq objs') σ 0 objs'∧(∀ k,k<n→tau τ k=k)∧τ.Nodup∧objs'.length≤τ.length
theorem AP.of_body (hE:zaY P env) {f:FuncId} {fn:Func} {code:Code} (hf:P.funcs[f]?=some fn) (hb:fn.body=some code) {args:List AVal} {objs:List (Option AObj)} {x:Value} {objs':List (Option AObj)}
  (hargs:args.length≤fn.ntmps) (hobjs:objs.length≤env.nobj)
  (h:SW P env objs.length code ⟨args++List.replicate (fn.ntmps - args.length) .junk,objs++List.replicate (env.nobj - objs.length) none⟩ (zci objs.length x objs')) :
  AP P env.gl f args objs x objs':=by
 intro w M g vargs hR hG
 have hla:vargs.length=args.length:=by simpa using hR.size
 refine calls_of_wp hf hb ?_
 have hobj:∀ id,St.obj ⟨args++List.replicate (fn.ntmps - args.length) .junk,objs++List.replicate (env.nobj - objs.length) none⟩ id=St.obj ⟨args,objs⟩ id:=fun id=>by
  simp only [St.obj,List.getD]
  by_cases hid:id<objs.length
  ·rw [List.getElem?_append_left hid]
  ·rw [List.getElem?_append_right (by omega),List.getElem?_eq_none (by omega:objs.length≤id)]
   rw [List.getElem?_replicate]
   split<;>rfl
 have hdom:St.dom ⟨args++List.replicate (fn.ntmps - args.length) .junk,objs++List.replicate (env.nobj - objs.length) none⟩=St.dom ⟨args,objs⟩:=by
  funext id;simp only [St.dom,hobj]
 have hR0:Rel ⟨w,M,zaP g objs,[]⟩ ⟨args++List.replicate (fn.ntmps - args.length) .junk,objs++List.replicate (env.nobj - objs.length) none⟩ g M
   { tmps:=vargs.toArray++Array.replicate (fn.ntmps - vargs.toArray.size) undef,defers:=[] } w:=by
  refine ⟨by simp [hla],rfl,?_,?_,?_,?_,hR.sat,hR.M0,hR.Mnew,hR.size0,hR.same,?_,hR.os,hR.tape,hR.output⟩
  ·intro i hi
   rw [hdom]
   by_cases hia:i<args.length
   ·have e1:St.slot ⟨args++List.replicate (fn.ntmps - args.length) .junk,objs++List.replicate (env.nobj - objs.length) none⟩ i=St.slot ⟨args,objs⟩ i:=by
     simp [St.slot,List.getElem?_append_left hia]
    have e2:(vargs.toArray++Array.replicate (fn.ntmps - vargs.toArray.size) undef).getD i undef=vargs.toArray.getD i undef:=by
     simp only [Array.getD_eq_getD_getElem?]
     rw [Array.getElem?_append_left (by simp;omega)]
    rw [e1,e2];exact hR.slots i hia
   ·have e1:St.slot ⟨args++List.replicate (fn.ntmps - args.length) .junk,objs++List.replicate (env.nobj - objs.length) none⟩ i=.junk:=by
     simp only [St.slot,List.getD]
     rw [List.getElem?_append_right (by omega),List.getElem?_replicate]
     split<;>rfl
    rw [e1];exact .junk _
  ·intro id o ho;rw [hobj] at ho;rw [hdom];exact hR.objs id o ho
  ·intro id id' o o' b ho ho';rw [hobj] at ho ho';exact hR.apart id id' o o' b ho ho'
  ·intro id o b ho;rw [hobj] at ho;exact hR.offM id o b ho
  ·intro id o b ho;rw [hobj] at ho;exact hR.own0 id o b ho
 refine wp_mono (h (by simp;omega) _ g M _ w hR0 hG) fun e a' w' ⟨σ',g',M',⟨he,τ,hwo,hpin,hnd,hlen⟩,hR',hM,hA,hl'⟩=>?_
 subst he
 refine ⟨hR'.defers,undef,_,M',rfl,hR'.wk (σ':=⟨[.junk],objs'⟩) (tau τ) (by simp) rfl (fun i hi=>.inl ?_) hwo (fun i j hi hj e=>zcO hnd (by simp at hi;omega) (by simp at hj;omega) e),fun id hid=>?_⟩
 ·have hi0:i=0:=by simpa using hi
  subst hi0
  rfl
 ·have hlt:id<objs.length:=by
   rcases Nat.lt_or_ge id objs.length with h|h
   ·exact h
   ·simp [zaq,List.getD,List.getElem?_eq_none h] at hid
  have hd:St.dom ⟨args++List.replicate (fn.ntmps - args.length) .junk,objs++List.replicate (env.nobj - objs.length) none⟩ id:=by
   rw [hdom];intro h0
   have h1:objs.getD id none=none:=h0
   simp only [zaq] at hid
   rw [h1] at hid;cases hid
  obtain ⟨⟨h1,h2,h3⟩,_⟩:=hA id hlt hd
  simp only [Gh.agree,hpin id hlt]
  exact ⟨h1,h2,h3⟩
end
end Go.Abs
namespace Go.Abs
open Go
def zwW (ops:Array Oper) (oi oj:Oper) (ri rj:List Nat × List Nat):Bool:=
 !(oi.apart ops oj) || (meets ri.1 rj.1&&!(ri.2.isEmpty&&rj.2.isEmpty))
def zzP (ops:Array Oper) (A:Nat→List Nat) (tr:Nat→List Nat × List Nat):Bool:=
 (List.range ops.size).all fun k=>match ops[k]? with
  |none=>false
  |some o=>
   (o.after.all fun e=>!Region.binds .any e || decide (e.on<k)) &&
   ((tr k).2.all fun q=>(tr k).1.contains q) &&
   ((A k).all fun j=>o.after.any fun e=>Region.binds .any e&&(e.on==j || (A e.on).contains j)) &&
   ((List.range k).all fun i=>(A k).contains i || match ops[i]? with|some oi=>!zwW ops oi o (tr i) (tr k)|none=>false)
def zi1 (l:List (List Nat × List Nat)) (k:Nat):List Nat × List Nat:=l.getD k ([],[])
def zgB (r:Rec):List Nat × List Nat:=(r.T,r.e.upd.map Prod.fst)
section
variable {P:Program} {env:Env} {pin:Nat} {σ:St} {Q:Exit→St→Prop}
theorem zrV {ops:Array Oper} {A:Nat→List Nat} {tr:List Rec} (h:zzP ops A (zi1 (tr.map zgB))=true):zmA ops A (zce tr)=true:=by
 have hp:∀ k,zi1 (tr.map zgB) k=zgB (zce tr k):=fun k=>by
  simp only [zi1,zce,List.getD,List.getElem?_map]
  cases tr[k]?<;>rfl
 unfold zzP at h
 unfold zmA
 rw [List.all_eq_true] at h ⊢
 intro k hk
 have:=h k hk
 cases ho:ops[k]? with
 |none=>rw [ho] at this;cases this
 |some o=>
  rw [ho] at this
  simp only [Bool.and_eq_true] at this ⊢
  obtain ⟨⟨⟨h1,h2⟩,h3⟩,h4⟩:=this
  refine ⟨⟨⟨h1,?_⟩,h3⟩,?_⟩
  ·rw [hp] at h2
   simp only [zgB,List.all_map] at h2
   exact h2
  ·rw [List.all_eq_true] at h4 ⊢
   intro i hi
   have h5:=h4 i hi
   cases hoi:ops[i]? with
   |none=>rw [hoi] at h5;exact h5
   |some oi=>
    rw [hoi] at h5
    rw [hp,hp] at h5
    have e1:zwW ops oi o (zgB (zce tr i)) (zgB (zce tr k))=zxv ops oi o (zce tr i) (zce tr k):=by
     unfold zwW zxv zgB
     cases (zce tr i).e.upd<;>cases (zce tr k).e.upd<;>rfl
    have h6:((A k).contains i || !zwW ops oi o (zgB (zce tr i)) (zgB (zce tr k)))=true:=h5
    rw [e1] at h6
    exact h6
theorem on {N S:St→Prop} {σ:St} (h:∀ σ',S σ'→N σ') (k:S σ):N σ:=h σ k
theorem CallFits.pure {σ:St} {o:Oper} {f:FuncId} {vals cargs:List AVal} (ho:calls env σ o.op f vals) (hent:∀ vargs w,(callFunc f vargs).run P w=.ok (.enter f vargs) w)
  (hargs:vals=zeX (fun k=>([]:List Nat).getD k 0) cargs) (hsc:zaz (zaq []) cargs=true):CallFits P env σ o f vals cargs [] [] [] [] where
 op:=ho
 zag:=hent
 args:=hargs
 objs:=rfl
 scopeA:=hsc
 scopeO:=by simp
 nodup:=by simp
 lt:=by simp
 fresh:=by simp
 len:=by simp
end
end Go.Abs
namespace Go.Abs
open Go
mutual
theorem zo5 (τ:Nat→Nat):∀ (v:AVal),zaw (zaq []) v=true→ren τ v=v
 |.ref id off,h=>by simp [zaw,zaq] at h
 |.row id n,h=>by simp [zaw,zaq] at h
 |.eref id i j sz,h=>by simp [zaw,zaq] at h
 |.csl id n sz,h=>by simp [zaw,zaq] at h
 |.map id,h=>by simp [zaw,zaq] at h
 |.agg cs,h=>by simp only [ren];rw [zff τ cs (by simpa [zaw] using h)]
 |.tup cs,h=>by simp only [ren];rw [zff τ cs (by simpa [zaw] using h)]
 |.clo f cs,h=>by simp only [ren];rw [zff τ cs (by simpa [zaw] using h)]
 |.pv p,_=>rfl
 |.snil,_=>rfl
 |.junk,_=>rfl
theorem zff (τ:Nat→Nat):∀ (l:List AVal),zaz (zaq []) l=true→zeX τ l=l
 |[],_=>rfl
 |a::r,h=>by
  simp [zaz] at h
  simp only [zeX]
  rw [zo5 τ a h.1,zff τ r h.2]
end
mutual
def sub:AVal→AVal→Prop
 |.snil,.pv (.slice [])=>True
 |.agg cs,.agg ds=>zus cs ds
 |a,b=>a=b
def zus:List AVal→List AVal→Prop
 |[],[]=>True
 |a::r,b::s=>sub a b∧zus r s
 |_,_=>False
end
theorem zlp:∀ {l m:List AVal},zus l m→l.length=m.length∧∀ i,i<l.length→sub (l.getD i .junk) (m.getD i .junk)
 |[],[],_=>⟨rfl,fun i hi=>by simp at hi⟩
 |a::r,b::s,h=>by
  rw [zus] at h
  obtain ⟨h1,h2⟩:=zlp h.2
  refine ⟨by simp [h1],fun i hi=>?_⟩
  cases i with
  |zero=>simpa [List.getD] using h.1
  |succ i=>simpa [List.getD] using h2 i (by simpa using hi)
 |[],_::_,h=>by simp [zus] at h
 |_::_,[],h=>by simp [zus] at h
theorem V.sub {g:Gh} {D:Nat→Prop} {M:Mem} {a:AVal} {v:Value} (h:V g D M a v):∀ {b:AVal},Abs.sub a b→V g D M b v:=by
 induction h with
 |snil=>
  intro b hb
  unfold Abs.sub at hb
  split at hb
  ·exact .pv .nils
  ·rename_i h1;cases h1
  ·subst hb;exact .snil
 |agg cs vs hl hv ih=>
  intro b hb
  unfold Abs.sub at hb
  split at hb
  ·rename_i h1;cases h1
  ·rename_i h1
   cases h1
   rename_i ds
   obtain ⟨h2,h3⟩:=zlp hb
   exact .agg ds vs (by omega) (fun i hi=>ih i (by omega) (h3 i (by omega)))
  ·subst hb;exact .agg cs vs hl hv
 |pv r=>
  intro b hb
  rename_i p _
  have:b=.pv p:=by cases b<;>simp_all [Abs.sub]
  subst this;exact .pv r
 |ref id off hd=>intro b hb;have:b=.ref id off:=(by cases b<;>simp_all [Abs.sub]);subst this;exact .ref id off hd
 |row id n hd hn=>intro b hb;have:b=.row id n:=(by cases b<;>simp_all [Abs.sub]);subst this;exact .row id n hd hn
 |rown id hd hn=>intro b hb;have:b=.row id 0:=(by cases b<;>simp_all [Abs.sub]);subst this;exact .rown id hd hn
 |eref id i j sz hd=>intro b hb;have:b=.eref id i j sz:=(by cases b<;>simp_all [Abs.sub]);subst this;exact .eref id i j sz hd
 |csl id n sz hd=>intro b hb;have:b=.csl id n sz:=(by cases b<;>simp_all [Abs.sub]);subst this;exact .csl id n sz hd
 |map id hd=>intro b hb;have:b=.map id:=(by cases b<;>simp_all [Abs.sub]);subst this;exact .map id hd
 |tup cs vs hl hv ih=>intro b hb;have:b=.tup cs:=(by cases b<;>simp_all [Abs.sub]);subst this;exact .tup cs vs hl hv
 |clo f cs vs hl hv ih=>intro b hb;have:b=.clo f cs:=(by cases b<;>simp_all [Abs.sub]);subst this;exact .clo f cs vs hl hv
 |junk v=>intro b hb;have:b=.junk:=(by cases b<;>simp_all [Abs.sub]);subst this;exact .junk v
theorem AC.sub {P:Program} {gl:Nat→Option (List PVal)} {f:FuncId} {args args':List AVal} {objs:List (Option AObj)} {res:AVal} {objs':List (Option AObj)} (h:AC P gl f args' objs res objs') (hs:zus args args'):AC P gl f args objs res objs':=by
 intro w M g vargs hR hG
 obtain ⟨h1,h2⟩:=zlp hs
 refine h w M g vargs ⟨by rw [hR.size];exact h1,hR.defers,fun i hi=>?_,hR.objs,hR.apart,hR.offM,hR.sat,hR.M0,hR.Mnew,hR.size0,hR.same,hR.own0,hR.os,hR.tape,hR.output⟩ hG
 have hi':i<args.length:=by rw [h1];exact hi
 exact (hR.slots i hi').sub (h2 i hi')
theorem zaA {α:Type} (enc:α→List PVal) (l:List α) (k:Nat) (h:k<l.length):(l.map enc).getD k []=enc l[k]:=by
 simp [List.getD,h]
theorem zaS (n:Int) (h1:-9223372036854775808≤n) (h2:n≤9223372036854775807):IntKind.i64.wrap n=n:=IntWalk.i64_in n ⟨h1,h2⟩
section
variable {P:Program} {env:Env} {σ:St}
end
end Go.Abs
namespace Go.Abs
open Go
theorem zDp:((0:Nat):Int)=0:=by simp
structure COp where
 dst:Option Nat
 op:Op
 guard:Option (Option (Nat × Bool))
def zxw (all:List Oper):Option (Nat × Bool)→Option (Option (Nat × Bool))
 |none=>none
 |some (j,want)=>some (((all[j]?).bind (·.dst)).map fun t=>(t,want))
def zlq (all:List Oper):List Oper→List COp
 |[]=>[]
 |o::r=>⟨o.dst,o.op,zxw all o.guard⟩::zlq all r
def zo6 (σ:St):Option (Option (Nat × Bool))→Option Bool
 |none=>some true
 |some none=>none
 |some (some (t,want))=>match σ.slot t with
  |.pv (.bool b)=>some (b==want)
  |.tup []=>some false
  |_=>none
section
variable {P:Program} {env:Env} {pin:Nat} {σ:St} {Q:Exit→St→Prop}
theorem zo7 (ops:Array Oper) (o:Oper):zdS ops σ o=zo6 σ (zxw ops.toList o.guard):=by
 unfold zdS
 cases o.guard with
 |none=>rfl
 |some q=>
  obtain ⟨j,want⟩:=q
  simp only [zxw,Array.getElem?_toList]
  cases (ops[j]?).bind (·.dst)<;>rfl
theorem zxx {α β:Type} (f:α→β) (p:Prop) [Decidable p] (x:Option α):(if p then x else none).map f=if p then x.map f else none:=by split<;>rfl
theorem zut {α β:Type} (f:α→β) (p:Prop) [Decidable p] (x:Option α):(if p then none else x).map f=if p then none else x.map f:=by split<;>rfl
end
end Go.Abs
namespace Go.Abs
open Go
theorem zxy {σ σ':St} {n:Nat} (h:(σ'.objs.take n).all Option.isSome=true) (hn:n≤σ'.objs.length):∀ k,k<n→σ.dom k→σ'.dom k:=fun k hk _ hno=>by
 have hkl:k<σ'.objs.length:=by omega
 rw [List.all_eq_true] at h
 have h1:=h σ'.objs[k] (by rw [List.mem_take_iff_getElem];exact ⟨k,by omega,rfl⟩)
 have h2:σ'.objs[k]=none:=by simpa [St.obj,List.getD,hkl] using hno
 rw [h2] at h1;cases h1
theorem zz9 {σ σ':St} {n:Nat} {τ:List Nat} (ht:∀ k,k<n→tau τ k=k) (h:(σ'.objs.take n).all Option.isSome=true) (hn:n≤σ'.objs.length):∀ k,k<n→tau τ k=k∧(σ.dom k→σ'.dom k):=fun k hk=>⟨ht k hk,zxy h hn k hk⟩
variable {env:Env} {pin:Nat} {σ:St}
theorem Rel.nilRow1 {E:Ent} {g:Gh} {M:Mem} {a:Act} {w:World} (id sz:Nat) (hn:σ.obj id=none) (hlt:id<σ.objs.length) (hR:Rel E σ g M a w):Rel E (σ.set id (.row sz [])) (g.set id 0 0 true) M a w:=by
 have hne:∀ i,σ.dom i→i≠id:=fun i hi e=>hi (by rw [e];exact hn)
 have hag:∀ i,σ.dom i→g.agree (g.set id 0 0 true) i:=fun i hi=>Gh.set_agree (hne i hi)
 have hself:(σ.set id (.row sz [])).obj id=some (.row sz []):=St.obj_set_self hlt
 refine hR.update (fun i=>i=id) rfl (fun i hi=>St.obj_set_ne (fun e=>hi e.symm)) (fun i hi=>zbD i hi) hag ?_ (fun _ _ _=>rfl) ?_ ?_ (Nat.le_refl _) rfl rfl rfl
 ·rintro i ob rfl ho
  rw [hself] at ho
  cases ho
  exact ⟨by simp,fun _=>rfl,fun h=>by simp [Gh.set] at h⟩
 ·rintro i ob b rfl ho hb
  rw [hself] at ho
  cases ho
  simp [zbj,Gh.set] at hb
 ·rintro i i' _ _ _ rfl rfl _ _ _ _;rfl
theorem za0.nilRowC (b j id sz:Nat) {cs:List AVal} (hb:σ.obj b=some (.cells cs)) (hj:cs.getD j .junk=.snil) (hn:σ.obj id=none) (hid:id<env.nobj):za0 env pin σ ⟨σ.slots,(σ.objs.set id (some (.row sz []))).set b (some (.cells (cs.set j (.row id 0))))⟩:=fun hl=>⟨by simp [hl],fun E g M a w hR=>by
 have hne:∀ i,σ.dom i→i≠id:=fun i hi e=>hi (by rw [e];exact hn)
 have hag:∀ i,σ.dom i→g.agree (g.set id 0 0 true) i:=fun i hi=>Gh.set_agree (hne i hi)
 have hbd:σ.dom b:=by simp [St.dom,hb]
 have hbi:id≠b:=fun e=>hne b hbd e.symm
 have h1:=hR.nilRow1 id sz hn (by omega)
 generalize hσ:σ.set id (.row sz [])=σ1 at *
 have hl1:σ1.objs.length=σ.objs.length:=by rw [←hσ];simp [St.set]
 have hdid:σ1.dom id:=by rw [←hσ];simp [St.dom,St.obj_set_self (σ:=σ) (ob:=.row sz []) (by omega:id<σ.objs.length)]
 have hb1:σ1.obj b=some (.cells cs):=by rw [←hσ,St.obj_set_ne hbi];exact hb
 have hblt:b<σ1.objs.length:=by
  rcases Nat.lt_or_ge b σ1.objs.length with h|h
  ·exact h
  ·simp [St.obj,List.getElem?_eq_none h] at hb1
 have e0:(⟨σ.slots,(σ.objs.set id (some (.row sz []))).set b (some (.cells (cs.set j (.row id 0))))⟩:St)=σ1.set b (.cells (cs.set j (.row id 0))):=by rw [←hσ];rfl
 rw [e0]
 have hself:(σ1.set b (.cells (cs.set j (.row id 0)))).obj b=some (.cells (cs.set j (.row id 0))):=St.obj_set_self hblt
 refine ⟨g.set id 0 0 true,M,?_,Mem.le_refl _,fun k hk hd=>⟨hag k hd,zbD k (by rw [←hσ];exact zbD k hd)⟩⟩
 refine h1.update (fun i=>i=b) rfl (fun i hi=>St.obj_set_ne (fun e=>hi e.symm)) (fun i hi=>zbD i hi) (fun i _=>⟨rfl,rfl,rfl⟩) ?_ (fun _ _ _=>rfl) ?_ ?_ (Nat.le_refl _) rfl rfl rfl
 ·rintro i ob rfl ho
  rw [hself] at ho
  cases ho
  obtain ⟨vals,T,hh,hsz,hc⟩:=h1.objs _ _ hb1
  refine ⟨vals,T,hh,by simpa using hsz,fun k hk=>?_⟩
  simp only [List.length_set] at hk
  by_cases hkj:j=k
  ·subst hkj
   have hv:=hc j hk
   rw [hj] at hv
   generalize vals.getD j undef=v at hv
   cases hv
   have e2:(cs.set j (.row id 0)).getD j .junk=.row id 0:=by simp [List.getD,hk]
   rw [e2]
   exact .rown id (zbD id hdid) (by simp [Gh.set])
  ·have e2:(cs.set j (.row id 0)).getD k .junk=cs.getD k .junk:=by simp [List.getD,List.getElem?_set_ne hkj]
   rw [e2]
   exact (hc k hk).mono (fun _ _=>⟨rfl,rfl,rfl⟩) (fun i hi=>zbD i hi) (Mem.le_refl _)
 ·rintro i ob b' rfl ho hb'
  rw [hself] at ho
  cases ho
  exact .inr ⟨_,_,rfl,hb1,hb'⟩
 ·rintro i i' _ _ _ rfl rfl _ _ _ _;rfl⟩
end Go.Abs
namespace Go.Abs
open Go
variable {P:Program} {env:Env} {σ:St}
mutual
theorem zuu:∀ a:AVal,sub a a
 |.agg cs=>by simp only [sub];exact zi2 cs
 |.snil=>by simp [sub]
 |.pv _=>by simp [sub]
 |.ref ..=>by simp [sub]
 |.row ..=>by simp [sub]
 |.eref ..=>by simp [sub]
 |.csl ..=>by simp [sub]
 |.map _=>by simp [sub]
 |.tup _=>by simp [sub]
 |.clo _ _=>by simp [sub]
 |.junk=>by simp [sub]
theorem zi2:∀ l:List AVal,zus l l
 |[]=>trivial
 |a::r=>⟨zuu a,zi2 r⟩
end
end Go.Abs
namespace Go.Abs
open Go
mutual
def nz:AVal→AVal
 |.snil=>.pv (.slice [])
 |.agg cs=>.agg (nzL cs)
 |.pv p=>.pv p
 |.ref i o=>.ref i o
 |.row i n=>.row i n
 |.eref i a b c=>.eref i a b c
 |.csl i a b=>.csl i a b
 |.map i=>.map i
 |.tup vs=>.tup vs
 |.clo f cs=>.clo f cs
 |.junk=>.junk
def nzL:List AVal→List AVal
 |[]=>[]
 |a::r=>nz a::nzL r
end
def nzO:Option AObj→Option AObj
 |some (.cells cs)=>some (.cells (nzL cs))
 |o=>o
def zbS:List (Option AObj)→List (Option AObj)
 |[]=>[]
 |o::r=>nzO o::zbS r
def St.nz (σ:St):St:=⟨nzL σ.slots,zbS σ.objs⟩
theorem zdc:∀ l:List AVal,(nzL l).length=l.length
 |[]=>rfl
 |_::r=>by simp [nzL,zdc r]
theorem zlr:∀ (l:List AVal) (i:Nat),(nzL l).getD i .junk=Abs.nz (l.getD i .junk)
 |[],i=>by simp [nzL,List.getD,Abs.nz]
 |a::r,0=>by simp [nzL,List.getD]
 |a::r,i+1=>by have:=zlr r i;simpa [nzL,List.getD] using this
theorem zi3:∀ l:List (Option AObj),(zbS l).length=l.length
 |[]=>rfl
 |_::r=>by simp [zbS,zi3 r]
theorem zo8:∀ (l:List (Option AObj)) (i:Nat),(zbS l).getD i none=nzO (l.getD i none)
 |[],i=>by simp [zbS,List.getD,nzO]
 |a::r,0=>by simp [zbS,List.getD]
 |a::r,i+1=>by have:=zo8 r i;simpa [zbS,List.getD] using this
theorem V.nz {g:Gh} {D:Nat→Prop} {M:Mem} {a:AVal} {v:Value} (h:V g D M a v):V g D M (Abs.nz a) v:=by
 induction h with
 |snil=>exact .pv .nils
 |agg cs vs hl _ ih=>exact .agg _ vs (by rw [zdc];exact hl) (fun i hi=>by rw [zdc] at hi;rw [zlr];exact ih i hi)
 |pv r=>exact .pv r
 |ref id off hd=>exact .ref id off hd
 |row id n hd hn=>exact .row id n hd hn
 |rown id hd hn=>exact .rown id hd hn
 |eref id i j sz hd=>exact .eref id i j sz hd
 |csl id n sz hd=>exact .csl id n sz hd
 |map id hd=>exact .map id hd
 |tup cs vs hl h _=>exact .tup cs vs hl h
 |clo f cs vs hl h _=>exact .clo f cs vs hl h
 |junk v=>exact .junk v
variable {env:Env} {pin:Nat} {σ:St}
theorem zwX (id:Nat):σ.nz.obj id=nzO (σ.obj id):=zo8 _ _
theorem zi4 {id:Nat} {o:AObj} (h:σ.nz.obj id=some o):∃ o',σ.obj id=some o'∧nzO (some o')=some o:=by
 rw [zwX] at h
 cases ho:σ.obj id with
 |none=>rw [ho] at h;simp [nzO] at h
 |some o'=>rw [ho] at h;exact ⟨o',rfl,h⟩
theorem zls {g:Gh} {id:Nat} {o o':AObj} (h:nzO (some o')=some o):zbj g id o=zbj g id o':=by
 cases o'<;>simp [nzO] at h<;>subst h<;>rfl
theorem za0.nz:za0 env pin σ σ.nz:=fun hl=>⟨by simp [St.nz,zi3,hl],fun E g M a w hR=>by
 have hdom:∀ id,σ.dom id→σ.nz.dom id:=fun id h=>by
  unfold St.dom at *
  rw [zwX]
  cases ho:σ.obj id with
  |none=>exact absurd ho h
  |some o=>cases o<;>simp [nzO]
 refine ⟨g,M,⟨by simp [St.nz,zdc,hR.size],hR.defers,?_,?_,?_,?_,hR.sat,hR.M0,hR.Mnew,hR.size0,hR.same,?_,hR.os,hR.tape,hR.output⟩,Mem.le_refl _,fun k hk hd=>⟨⟨rfl,rfl,rfl⟩,hdom k hd⟩⟩
 ·intro i hi
  have e:σ.nz.slot i=Abs.nz (σ.slot i):=zlr _ _
  rw [e]
  exact ((hR.slots i (by simpa [St.nz,zdc] using hi)).nz).mono (fun _ _=>⟨rfl,rfl,rfl⟩) hdom (Mem.le_refl _)
 ·intro id o ho
  obtain ⟨o',ho',he⟩:=zi4 ho
  have hor:=hR.objs id o' ho'
  cases o' with
  |cells cs=>
   simp [nzO] at he
   subst he
   obtain ⟨vals,T,h1,h2,h3⟩:=hor
   refine ⟨vals,T,h1,by rw [zdc];exact h2,fun j hj=>?_⟩
   rw [zdc] at hj
   rw [zlr]
   exact ((h3 j hj).nz).mono (fun _ _=>⟨rfl,rfl,rfl⟩) hdom (Mem.le_refl _)
  |row sz xs=>simp [nzO] at he;subst he;exact hor
  |map kd es=>
   simp [nzO] at he;subst he
   obtain ⟨ents,clock,h1,h2,h3⟩:=hor
   refine ⟨ents,clock,h1,h2,fun i e hi=>?_⟩
   obtain ⟨en,a1,a2,a3,a4⟩:=h3 i e hi
   exact ⟨en,a1,a2,a3,a4.mono (fun _ _=>⟨rfl,rfl,rfl⟩) hdom (Mem.le_refl _)⟩
  |bh T e B n=>
   simp [nzO] at he;subst he
   obtain ⟨hd,hn,p,hh,hp⟩:=hor
   exact ⟨hdom _ hd,hn,p,hh,hp⟩
  |bb e s=>simp [nzO] at he;subst he;exact hor
  |dead=>simp [nzO] at he;subst he;trivial
 ·intro id id' o o' b h1 h2 h3 h4
  obtain ⟨p,hp,hpe⟩:=zi4 h1
  obtain ⟨q,hq,hqe⟩:=zi4 h2
  exact hR.apart id id' p q b hp hq (by rw [←zls hpe];exact h3) (by rw [←zls hqe];exact h4)
 ·intro id o b h1 h2
  obtain ⟨p,hp,hpe⟩:=zi4 h1
  exact hR.offM id p b hp (by rw [←zls hpe];exact h2)
 ·intro id o b h1 h2
  obtain ⟨p,hp,hpe⟩:=zi4 h1
  exact hR.own0 id p b hp (by rw [←zls hpe];exact h2)⟩
end Go.Abs
namespace Go.Abs
open Go
variable {P:Program} {env:Env} {pin:Nat} {σ:St} {Q:Exit→St→Prop}
abbrev Tr:=List (List Nat × List Nat)
end Go.Abs
namespace Go.Abs
open Go
variable {P:Program} {env:Env} {σ:St}
def zi5 (ι:Nat→Nat):List (Option AObj)→List (Option AObj)
 |[]=>[]
 |o::r=>o.map (zgt ι)::zi5 ι r
theorem zmC (ι:Nat→Nat):∀ l:List (Option AObj),zi5 ι l=l.map (Option.map (zgt ι))
 |[]=>rfl
 |o::r=>by simp [zi5,zmC ι r]
def zrt (n:Nat→Bool):List (Option AObj)→Bool
 |[]=>true
 |none::r=>zrt n r
 |some o::r=>zbX n o&&zrt n r
theorem zlt (n:Nat→Bool):∀ (l:List (Option AObj)) (o:AObj),zrt n l=true→some o ∈ l→zbX n o=true
 |[],o,_,h=>by simp at h
 |none::r,o,h,hm=>by simp at hm;exact zlt n r o h hm
 |some x::r,o,h,hm=>by
  simp only [zrt,Bool.and_eq_true] at h
  rcases List.mem_cons.1 hm with e|hm
  ·cases e;exact h.1
  ·exact zlt n r o h.2 hm
def zf8 (σ:St):List Nat→Bool
 |[]=>true
 |i::r=>(σ.obj i).isNone&&zf8 σ r
theorem zky:∀ (l:List Nat) (i:Nat),zf8 σ l=true→i ∈ l→σ.obj i=none
 |[],i,_,h=>by simp at h
 |x::r,i,h,hm=>by
  simp only [zf8,Bool.and_eq_true,Option.isNone_iff_eq_none] at h
  rcases List.mem_cons.1 hm with rfl|hm
  ·exact h.1
  ·exact zky r i h.2 hm
theorem zAa {o:Oper} {f:FuncId} {A vals:List AVal} {O vobjs:List (Option AObj)} {objs':List (Option AObj)} (ids news:List Nat)
  (ho:calls env σ o.op f A) (hent:∀ vargs w,(callFunc f vargs).run P w=.ok (.enter f vargs) w) (hobjs:ids.map σ.obj=O)
  (hA:zeX (tau (ids++news)) vals=A) (hO:zi5 (tau (ids++news)) vobjs=O) (hsA:zaz (zaq vobjs) vals=true) (hsO:zrt (zaq vobjs) vobjs=true)
  (hn:((ids++news).Nodup∧∀ id ∈ ids++news,id<env.nobj)) (hf:zf8 σ news=true) (hl:objs'.length≤(ids++news).length) :
  CallFits P env σ o f A vals vobjs ids news objs':=
 ⟨ho,hent,hA.symm,by rw [hobjs];rw [←hO,zmC];rfl,hsA,fun ob h=>zlt _ _ ob hsO h,hn.1,hn.2,fun id h=>zky _ id hf h,hl⟩
end Go.Abs
namespace Go.Abs
open Go
variable {P:Program} {env:Env} {pin:Nat} {σ:St} {Q:Exit→St→Prop}
inductive Tg {α:Type} (a:α):Type
 |mk:Tg a
noncomputable def cw (p:Prop) (v:AVal):AVal:=@ite AVal p (Classical.propDecidable p) v (.tup [])
theorem zi6 {p:Prop} (h:p) (v:AVal):cw p v=v:=if_pos h
theorem zo9 {p:Prop} (h:¬ p) (v:AVal):cw p v=.tup []:=if_neg h
theorem zrW (v:AVal):cw True v=v:=zi6 trivial v
theorem zpa (v:AVal):cw False v=.tup []:=zo9 id v
theorem zxz (v:AVal):cw (true=true) v=v:=zi6 rfl v
def gw (v:AVal) (w:Bool):Option Prop:=
 match v with
 |.pv (.bool b)=>some (b=w)
 |.tup []=>some False
 |_=>none
theorem zrX (b w:Bool):gw (.pv (.bool b)) w=some (b=w):=rfl
theorem zwY (w:Bool):gw (.tup []) w=some False:=rfl
theorem zDq (p:Prop) (y w:Bool):gw (cw p (.pv (.bool y))) w=some (p∧y=w):=by
 by_cases h:p
 ·rw [zi6 h,zrX];congr 1;simp [h]
 ·rw [zo9 h,zwY];congr 1;simp [h]
def gd (σ:St):Option (Option (Nat × Bool))→Option Prop
 |none=>some True
 |some none=>none
 |some (some (t,w))=>gw (σ.slot t) w
theorem zxA (t x:Bool):(if t=true then AVal.pv (.bool true) else cw (t=false) (.pv (.bool x)))=.pv (.bool (t || x)):=by
 cases t
 ·simp [zi6]
 ·rfl
theorem zuv (t x:Bool):(if t=true then cw (t=true) (.pv (.bool x)) else AVal.pv (.bool false))=.pv (.bool (t&&x)):=by
 cases t
 ·rfl
 ·simp [zi6]
theorem zAb (t x:Bool):(if t=true then AVal.pv (.bool true) else .pv (.bool x))=.pv (.bool (t || x)):=by cases t<;>rfl
theorem zAc (t x:Bool):(if t=true then AVal.pv (.bool x) else .pv (.bool false))=.pv (.bool (t&&x)):=by cases t<;>rfl
abbrev KT:=Option Tr→Option Value→St→Prop
def zi7:Op→Option (FuncId × List Operand)
 |.call ⟨.value (.func f),args,_⟩=>some (f,args.toList)
 |_=>none
def zn0:Op→Option (Nat × List Operand)
 |.call ⟨.value (.tmp t),args,_⟩=>some (t,args.toList)
 |_=>none
def zn1:Op→Option Operand
 |.panic x=>some x
 |_=>none
def zi8:Op→Bool
 |.call ⟨.value _,_,_⟩=>false
 |.panic _=>false
 |_=>true
def zbP (acc:Option Tr) (x:List Nat × List Nat):Option Tr:=acc.map (·++[x])
theorem zn2 (x:List Nat × List Nat):zbP none x=none:=rfl
theorem zn3 (l:Tr) (x:List Nat × List Nat):zbP (some l) x=some (l++[x]):=rfl
def zqr:PVal→Option Value
 |.int k n=>some (.int k n)
 |.bool b=>some (.bool b)
 |.str s=>some (.string ⟨s.toArray⟩)
 |_=>none
def zkz:List PVal→Option (List Value)
 |[]=>some []
 |p::r=>match zqr p,zkz r with
  |some v,some vs=>some (v::vs)
  |_,_=>none
def zue:AVal→Option Value
 |.pv (.ifc t true cs)=>match zkz cs with
  |some vs=>some (.iface t (.agg vs.toArray))
  |none=>none
 |.pv (.ifc t false [c])=>match zqr c with
  |some v=>some (.iface t v)
  |none=>none
 |_=>none
theorem zpb {p:PVal} {v u:Value} {M:Mem} (h:zqr p=some v) (r:Rd M p u):u=v:=by
 unfold zqr at h
 split at h<;>cases h
 all_goals cases r;rfl
theorem zmD {M:Mem}:∀ {cs:List PVal} {vs us:List Value},zkz cs=some vs→us.length=cs.length→(∀ i,i<cs.length→Rd M (cs.getD i .nilptr) (us.getD i undef))→us=vs
 |[],vs,us,h,hl,_=>by cases h;simpa using hl
 |c::r,vs,us,h,hl,hr=>by
  unfold zkz at h
  split at h
  ·rename_i v ws h1 h2
   cases h
   match us,hl with
   |u::us',hl=>
    have e1:=zpb h1 (hr 0 (by simp))
    have e2:=zmD h2 (us:=us') (by simpa using hl) (fun i hi=>hr (i+1) (by simpa using hi))
    rw [e2]
    congr 1
  ·cases h
theorem zxB {x:AVal} {v:Value} (h:zue x=some v):∃ p,x=.pv p∧∀ M u,Rd M p u→u=v∧∃ t y,v=.iface t y:=by
 unfold zue at h
 split at h
 ·split at h
  ·rename_i t cs vs hs
   cases h
   refine ⟨_,rfl,fun M u r=>?_⟩
   cases r with
   |ifca t cs us hl hr=>rw [zmD hs hl hr];exact ⟨rfl,_,_,rfl⟩
  ·cases h
 ·split at h
  ·rename_i t c v hs
   cases h
   refine ⟨_,rfl,fun M u r=>?_⟩
   cases r with
   |ifco t c u hr=>rw [zpb hs hr];exact ⟨rfl,_,_,rfl⟩
  ·cases h
 ·cases h
def Ctr (P:Program) (env:Env) (f:FuncId) (vals:List AVal) (σ:St) (K:List Nat→Eff→Prop) (KP:Value→St→Prop):Prop:=
 (∃ cargs cobjs ids news res objs',AC P env.gl f cargs cobjs res objs' ∧
  (∀ (o:Oper),calls env σ o.op f vals→CallFits P env σ o f vals cargs cobjs ids news objs') ∧
  K (ids++news) ⟨ren (tau (ids++news)) res,zaR (tau (ids++news)) (ids++news) 0 objs'⟩) ∨
 (∃ cargs cobjs ids news x objs',AP P env.gl f cargs cobjs x objs' ∧
  (∀ (o:Oper),calls env σ o.op f vals→CallFits P env σ o f vals cargs cobjs ids news objs') ∧
  KP x ⟨σ.slots,zaL σ.objs (zaR (tau (ids++news)) (ids++news) 0 objs')⟩)
def VL (P:Program) (env:Env) (K:KT) (t:Tg K):List COp→Option Tr→St→Prop
 |[],acc,σ=>K acc none σ
 |c::rest,acc,σ=>match gd σ c.guard with
  |none=>False
  |some p=>(p→match zi7 c.op,zn0 c.op,zn1 c.op with
    |some (f,args),_,_=>Ctr P env f (args.map (zah env σ)) σ (fun T e=>VL P env K t rest (zbP acc (T,e.upd.map Prod.fst)) (σ.app c.dst e)) fun x σ'=>K acc (some x) σ'
    |none,some (u,args),_=>match σ.slot u with
     |.clo f cs=>Ctr P env f (args.map (zah env σ)++cs) σ (fun T e=>VL P env K t rest (zbP acc (T,e.upd.map Prod.fst)) (σ.app c.dst e)) fun x σ'=>K acc (some x) σ'
     |_=>False
    |none,none,some x=>match zue (zah env σ x) with
     |some v=>K acc (some v) σ
     |none=>False
    |none,none,none=>zi8 c.op=true∧match aop env c.dst (zah env σ) σ.obj c.op with
     |some e=>VL P env K t rest (zbP acc (zbv env c.dst (zah env σ) c.op,e.upd.map Prod.fst)) (σ.app c.dst e)
     |none=>False) ∧
   (¬ p→VL P env K t rest (zbP acc ([],[])) (σ.app c.dst ⟨.tup [],[]⟩))
def VX (P:Program) (env:Env) (K:KT) (t:Tg K) (p:Prop) (r:Option Eff) (T:List Nat) (d:Option Nat) (rest:List COp) (acc:Option Tr) (σ:St):Prop:=
 (p→match r with
  |some e=>VL P env K t rest (zbP acc (T,e.upd.map Prod.fst)) (σ.app d e)
  |none=>False)∧(¬ p→VL P env K t rest (zbP acc ([],[])) (σ.app d ⟨.tup [],[]⟩))
def CK (P:Program) (env:Env) (K:KT) (t:Tg K) (p:Prop) (f:FuncId) (vals:List AVal) (d:Option Nat) (rest:List COp) (acc:Option Tr) (σ:St):Prop:=
 (p→Ctr P env f vals σ (fun T e=>VL P env K t rest (zbP acc (T,e.upd.map Prod.fst)) (σ.app d e)) fun x σ'=>K acc (some x) σ')∧(¬ p→VL P env K t rest (zbP acc ([],[])) (σ.app d ⟨.tup [],[]⟩))
def CL (P:Program) (env:Env) (K:KT) (t:Tg K) (p:Prop) (v:AVal) (vals:List AVal) (d:Option Nat) (rest:List COp) (acc:Option Tr) (σ:St):Prop:=
 (p→match v with
  |.clo f cs=>Ctr P env f (vals++cs) σ (fun T e=>VL P env K t rest (zbP acc (T,e.upd.map Prod.fst)) (σ.app d e)) fun x σ'=>K acc (some x) σ'
  |_=>False)∧(¬ p→VL P env K t rest (zbP acc ([],[])) (σ.app d ⟨.tup [],[]⟩))
def PX (P:Program) (env:Env) (K:KT) (t:Tg K) (p:Prop) (v:Option Value) (d:Option Nat) (rest:List COp) (acc:Option Tr) (σ:St):Prop:=
 (p→match v with
  |some v=>K acc (some v) σ
  |none=>False)∧(¬ p→VL P env K t rest (zbP acc ([],[])) (σ.app d ⟨.tup [],[]⟩))
def VG (P:Program) (env:Env) (K:KT) (t:Tg K) (g:Option Prop) (d:Option Nat) (op:Op) (rest:List COp) (acc:Option Tr) (σ:St):Prop:=
 match g with
 |none=>False
 |some p=>match zi7 op,zn0 op,zn1 op with
  |some (f,args),_,_=>CK P env K t p f (args.map (zah env σ)) d rest acc σ
  |none,some (u,args),_=>CL P env K t p (σ.slot u) (args.map (zah env σ)) d rest acc σ
  |none,none,some x=>PX P env K t p (zue (zah env σ x)) d rest acc σ
  |none,none,none=>(p→zi8 op=true)∧VX P env K t p (aop env d (zah env σ) σ.obj op) (zbv env d (zah env σ) op) d rest acc σ
theorem zAd (K:KT) (t:Tg K) (acc:Option Tr) (σ:St):VL P env K t [] acc σ=K acc none σ:=rfl
theorem zxC (K:KT) (t:Tg K) (d:Option Nat) (op:Op) (g:Option (Option (Nat × Bool))) (rest:List COp) (acc:Option Tr) (σ:St):VL P env K t (⟨d,op,g⟩::rest) acc σ=VG P env K t (gd σ g) d op rest acc σ:=by
 unfold VL VG CK VX CL PX
 cases gd σ g with
 |none=>rfl
 |some p=>
  dsimp only
  cases zi7 op with
  |some q=>rfl
  |none=>
   cases zn0 op with
   |some q=>rfl
   |none=>
    cases zn1 op with
    |some q=>rfl
    |none=>
     apply propext
     constructor
     ·rintro ⟨h1,h2⟩;exact ⟨fun hp=>(h1 hp).1,fun hp=>(h1 hp).2,h2⟩
     ·rintro ⟨h0,h1,h2⟩;exact ⟨fun hp=>⟨h0 hp,h1 hp⟩,h2⟩
theorem zxD (K:KT) (t:Tg K) (p:Prop) (d:Option Nat) (f:FuncId) (args:Array Operand) (tys:Array TypeId) (rest:List COp) (acc:Option Tr) (σ:St) :
  VG P env K t (some p) d (.call ⟨.value (.func f),args,tys⟩) rest acc σ=CK P env K t p f (args.toList.map (zah env σ)) d rest acc σ:=rfl
theorem zAe (K:KT) (t:Tg K) (p:Prop) (d:Option Nat) (u:Nat) (args:Array Operand) (tys:Array TypeId) (rest:List COp) (acc:Option Tr) (σ:St) :
  VG P env K t (some p) d (.call ⟨.value (.tmp u),args,tys⟩) rest acc σ=CL P env K t p (σ.slot u) (args.toList.map (zah env σ)) d rest acc σ:=rfl
theorem zAf (K:KT) (t:Tg K) (p:Prop) (d:Option Nat) (x:Operand) (rest:List COp) (acc:Option Tr) (σ:St) :
  VG P env K t (some p) d (.panic x) rest acc σ=PX P env K t p (zue (zah env σ x)) d rest acc σ:=rfl
theorem zcP (K:KT) (t:Tg K) (p:Prop) (d:Option Nat) (op:Op) (h:(zi7 op).isNone=true∧zi8 op=true) (rest:List COp) (acc:Option Tr) (σ:St) :
  VG P env K t (some p) d op rest acc σ=VX P env K t p (aop env d (zah env σ) σ.obj op) (zbv env d (zah env σ) op) d rest acc σ:=by
 unfold VG
 dsimp only
 have h0:zi7 op=none:=by simpa using h.1
 have h1:zn0 op=none:=by
  unfold zn0
  split
  ·simp [zi8] at h
  ·rfl
 have h2:zn1 op=none:=by
  unfold zn1
  split
  ·simp [zi8] at h
  ·rfl
 rw [h0,h1,h2]
 simp [h.2]
theorem zAg (K:KT) (t:Tg K) (p:Prop) (f:Nat) (cs vals:List AVal) (d:Option Nat) (rest:List COp) (acc:Option Tr) (σ:St):CL P env K t p (.clo f cs) vals d rest acc σ=CK P env K t p f (vals++cs) d rest acc σ:=rfl
theorem zxE (K:KT) (t:Tg K) (v:Value) (d:Option Nat) (rest:List COp) (acc:Option Tr) (σ:St):PX P env K t True (some v) d rest acc σ=K acc (some v) σ:=by simp [PX]
theorem zxF (K:KT) (t:Tg K) (e:Eff) (T:List Nat) (d:Option Nat) (rest:List COp) (acc:Option Tr) (σ:St):VX P env K t True (some e) T d rest acc σ=VL P env K t rest (zbP acc (T,e.upd.map Prod.fst)) (σ.app d e):=by simp [VX]
theorem zuw (K:KT) (t:Tg K) (r:Option Eff) (T:List Nat) (d:Option Nat) (rest:List COp) (acc:Option Tr) (σ:St):VX P env K t False r T d rest acc σ=VL P env K t rest (zbP acc ([],[])) (σ.app d ⟨.tup [],[]⟩):=by simp [VX]
theorem zxG (K:KT) (t:Tg K) (p:Prop) (v:AVal) (T:List Nat) (d:Option Nat) (rest:List COp) (σ:St):VX P env K t p (some ⟨v,[]⟩) T d rest none σ=VL P env K t rest none (σ.app d ⟨cw p v,[]⟩):=by
 by_cases h:p
 ·simp [VX,h,zrW,zbP]
 ·simp [VX,h,zpa,zbP]
theorem zAh (K:KT) (t:Tg K) (p q:Prop) [Decidable q] (x:Option Eff) (T:List Nat) (d:Option Nat) (rest:List COp) (acc:Option Tr) (σ:St):VX P env K t p (if q then x else none) T d rest acc σ=((p→q)∧VX P env K t p x T d rest acc σ):=by
 by_cases h:p
 ·by_cases hq:q<;>simp [VX,h,hq]
 ·simp [VX,h]
theorem zxH (K:KT) (t:Tg K) (p q:Prop) [Decidable q] (x:Option Eff) (T:List Nat) (d:Option Nat) (rest:List COp) (acc:Option Tr) (σ:St):VX P env K t p (if q then none else x) T d rest acc σ=((p→¬ q)∧VX P env K t p x T d rest acc σ):=by
 by_cases h:p
 ·by_cases hq:q<;>simp [VX,h,hq]
 ·simp [VX,h]
theorem zux (K:KT) (t:Tg K) (f:FuncId) (vals:List AVal) (d:Option Nat) (rest:List COp) (acc:Option Tr) (σ:St):CK P env K t False f vals d rest acc σ=VL P env K t rest (zbP acc ([],[])) (σ.app d ⟨.tup [],[]⟩):=by simp [CK]
@[congr] theorem zCV {K:KT} {t:Tg K} {l l':List COp} {acc acc':Option Tr} {σ σ':St} (h1:l=l') (h2:acc=acc') (h3:σ=σ'):VL P env K t l acc σ=VL P env K t l' acc' σ':=by rw [h1,h2,h3]
@[congr] theorem zCW {K:KT} {t:Tg K} {p p':Prop} {r r':Option Eff} {T T':List Nat} {d:Option Nat} {rest:List COp} {acc:Option Tr} {σ:St} (h1:p=p') (h2:p'→r=r') (h3:p'→T=T') :
  VX P env K t p r T d rest acc σ=VX P env K t p' r' T' d rest acc σ:=by
 subst h1
 by_cases h:p
 ·rw [h2 h,h3 h]
 ·simp [VX,h]
@[congr] theorem zCX {K:KT} {t:Tg K} {p p':Prop} {f:FuncId} {vals vals':List AVal} {d:Option Nat} {rest:List COp} {acc:Option Tr} {σ:St} (h1:p=p') (h2:p'→vals=vals') :
  CK P env K t p f vals d rest acc σ=CK P env K t p' f vals' d rest acc σ:=by
 subst h1
 by_cases h:p
 ·rw [h2 h]
 ·simp [CK,h]
@[congr] theorem zCY {K:KT} {t:Tg K} {p p':Prop} {v v':AVal} {vals vals':List AVal} {d:Option Nat} {rest:List COp} {acc:Option Tr} {σ:St} (h1:p=p') (h2:p'→vals=vals') (h3:p'→v=v') :
  CL P env K t p v vals d rest acc σ=CL P env K t p' v' vals' d rest acc σ:=by
 subst h1
 by_cases h:p
 ·rw [h2 h,h3 h]
 ·simp [CL,h]
@[congr] theorem zCZ {K:KT} {t:Tg K} {p p':Prop} {v v':Option Value} {d:Option Nat} {rest:List COp} {acc:Option Tr} {σ:St} (h1:p=p') (h3:p'→v=v') :
  PX P env K t p v d rest acc σ=PX P env K t p' v' d rest acc σ:=by
 subst h1
 by_cases h:p
 ·rw [h3 h]
 ·simp [PX,h]
@[congr] theorem zC0 {K:KT} {t:Tg K} {g g':Option Prop} {d:Option Nat} {op:Op} {rest:List COp} {acc:Option Tr} {σ:St} (h1:g=g'):VG P env K t g d op rest acc σ=VG P env K t g' d op rest acc σ:=by rw [h1]
def REG (ops:Array Oper) (t:Tg ops) (tr:Tr):Prop:=zzP ops (anc ops) (zi1 tr)=true
def zxI (ops:Array Oper) (t:Tg ops) (tr:Tr):Prop:=(zzP ops (anc ops) (zi1 tr)&&zrU ops tr.length&&tr.all fun r=>r.2.isEmpty)=true
def KQ (ops:Array Oper) (Q:Exit→St→Prop) (t:Tg (ops,Q)):KT
 |none,none,σ=>Q .normal σ
 |some tr,none,σ=>REG ops .mk tr∧Q .normal σ
 |none,some x,σ=>Q (.panic (zke x)) σ
 |some tr,some x,σ=>zxI ops .mk tr∧∀ slots,Q (.panic (zke x)) ⟨slots,σ.objs⟩
theorem zxJ (ops:Array Oper) (t:Tg (ops,Q)) (σ:St):KQ ops Q t none none σ=Q .normal σ:=rfl
theorem zxK (ops:Array Oper) (t:Tg (ops,Q)) (tr:Tr) (σ:St):KQ ops Q t (some tr) none σ=(REG ops .mk tr∧Q .normal σ):=rfl
theorem zDr (ops:Array Oper) (t:Tg (ops,Q)) (x:Value) (σ:St):KQ ops Q t none (some x) σ=Q (.panic (zke x)) σ:=rfl
theorem zDs (ops:Array Oper) (t:Tg (ops,Q)) (tr:Tr) (x:Value) (σ:St):KQ ops Q t (some tr) (some x) σ=(zxI ops .mk tr∧∀ slots,Q (.panic (zke x)) ⟨slots,σ.objs⟩):=rfl
@[congr] theorem zC1 {ops:Array Oper} {t:Tg (ops,Q)} {acc acc':Option Tr} {x x':Option Value} {σ σ':St} (h1:acc=acc') (h3:x=x') (h2:σ=σ'):KQ ops Q t acc x σ=KQ ops Q t acc' x' σ':=by rw [h1,h2,h3]
def SCd (v:AVal) (A B:Prop) (t:Tg (A,B)):Prop:=∃ b,v=.pv (.bool b)∧(b=true→A)∧(b=false→B)
def SB (b:Bool) (A B:Prop) (t:Tg (A,B)):Prop:=(b=true→A)∧(b=false→B)
@[congr] theorem zAi {v v':AVal} {A B:Prop} (h:v=v'):SCd v A B .mk=SCd v' A B .mk:=by rw [h]
theorem zlu (b:Bool) (A B:Prop):SCd (.pv (.bool b)) A B .mk=SB b A B .mk:=by
 apply propext
 constructor
 ·rintro ⟨b',h,h1,h2⟩;cases h;exact ⟨h1,h2⟩
 ·rintro ⟨h1,h2⟩;exact ⟨b,rfl,h1,h2⟩
theorem zuy (A B:Prop):SCd (.pv (.bool true)) A B .mk=A:=by simp [zlu,SB]
theorem zrY (A B:Prop):SCd (.pv (.bool false)) A B .mk=B:=by simp [zlu,SB]
theorem zxL (A B:Prop):SB true A B .mk=A:=by simp [SB]
theorem zuz (A B:Prop):SB false A B .mk=B:=by simp [SB]
@[congr] theorem zC2 {b b':Bool} {A A' B B':Prop} (h:b=b') (h1:b'=true→A=A') (h2:b'=false→B=B'):SB b A B .mk=SB b' A' B' .mk:=by
 subst h
 cases b
 ·simp [SB,h2 rfl]
 ·simp [SB,h1 rfl]
theorem SW.label {l:Nat} (h:Q .normal σ):SW P env pin (.label l) σ Q:=fun hl _ g M _ _ hR _=>wp_label ⟨σ,g,M,h,hR,Mem.le_refl _,Agr.refl _ _ _,hl⟩
def zi9 (Q:Exit→St→Prop):Exit→St→Prop
 |.goto _,_=>False
 |e,σ=>Q e σ
theorem SW.scope {c:Code} (h:SW P env pin c σ (zi9 Q)):SW P env pin (.scope c) σ Q:=fun hl E g M a w hR hG=>
 wp_scope_straight (wp_mono (h hl E g M a w hR hG) fun e a' w' ⟨σ',g',M',q,r⟩=>by
  cases e with
  |goto l=>exact q.elim
  |_=>exact ⟨σ',g',M',q,r⟩)
def LW (P:Program) (env:Env) (pin:Nat) (c:Code) (σ:St) (Q:Exit→St→Prop) (t:Tg (c,Q)):Prop:=SW P env pin c σ Q
def VC (P:Program) (env:Env) (pin:Nat):Code→St→(Exit→St→Prop)→Prop
 |.skip,σ,Q=>Q .normal σ
 |.label _,σ,Q=>Q .normal σ
 |.ret,σ,Q=>Q .ret σ
 |.exit id,σ,Q=>Q (.exit id) σ
 |.seq x y,σ,Q=>VC P env pin x σ (zeY (fun σ'=>VC P env pin y σ' Q) Q)
 |.block id c,σ,Q=>VC P env pin c σ (zfe id Q)
 |.scope c,σ,Q=>VC P env pin c σ (zi9 Q)
 |.cond c x y,σ,Q=>SCd (zah env σ c) (VC P env pin x σ Q) (VC P env pin y σ Q) .mk
 |.region _ ops dr,σ,Q=>VL P env (KQ ops Q .mk) .mk (zlq ops.toList ops.toList) (if dr then some [] else none) σ
 |c,σ,Q=>LW P env pin c σ Q .mk
theorem zxM (σ:St):VC P env pin .skip σ Q=Q .normal σ:=rfl
theorem zuA (l:Nat) (σ:St):VC P env pin (.label l) σ Q=Q .normal σ:=rfl
theorem zuB (c:Code) (σ:St):VC P env pin (.scope c) σ Q=VC P env pin c σ (zi9 Q):=rfl
theorem zuC (σ:St):zi9 Q .normal σ=Q .normal σ:=rfl
theorem zuD (σ:St):zi9 Q .ret σ=Q .ret σ:=rfl
theorem zuE (c:List PanicEntry) (σ:St):zi9 Q (.panic c) σ=Q (.panic c) σ:=rfl
theorem zxN (N:St→Prop) (c:List PanicEntry) (σ:St):zeY N Q (.panic c) σ=Q (.panic c) σ:=rfl
theorem zuF (id:Nat) (c:List PanicEntry) (σ:St):zfe id Q (.panic c) σ=Q (.panic c) σ:=rfl
theorem zuG (id:Nat) (σ:St):zi9 Q (.exit id) σ=Q (.exit id) σ:=rfl
theorem zAj (σ:St):VC P env pin .ret σ Q=Q .ret σ:=rfl
theorem zxO (id:Nat) (σ:St):VC P env pin (.exit id) σ Q=Q (.exit id) σ:=rfl
theorem zAk (x y:Code) (σ:St):VC P env pin (.seq x y) σ Q=VC P env pin x σ (zeY (fun σ'=>VC P env pin y σ' Q) Q):=rfl
theorem zuH (id:Nat) (c:Code) (σ:St):VC P env pin (.block id c) σ Q=VC P env pin c σ (zfe id Q):=rfl
theorem zxP (c:Operand) (x y:Code) (σ:St):VC P env pin (.cond c x y) σ Q=SCd (zah env σ c) (VC P env pin x σ Q) (VC P env pin y σ Q) .mk:=rfl
theorem zAl (id:Nat) (ops:Array Oper) (σ:St):VC P env pin (.region id ops false) σ Q=VL P env (KQ ops Q .mk) .mk (zlq ops.toList ops.toList) none σ:=rfl
theorem zxQ (id:Nat) (ops:Array Oper) (σ:St):VC P env pin (.region id ops true) σ Q=VL P env (KQ ops Q .mk) .mk (zlq ops.toList ops.toList) (some []) σ:=rfl
theorem zxR (c:Code) (σ:St):VC P env pin (.loop c) σ Q=LW P env pin (.loop c) σ Q .mk:=rfl
theorem zxS (N:St→Prop) (σ:St):zeY N Q .normal σ=N σ:=rfl
theorem zxT (N:St→Prop) (σ:St):zeY N Q .ret σ=Q .ret σ:=rfl
theorem zxU (N:St→Prop) (id:Nat) (σ:St):zeY N Q (.exit id) σ=Q (.exit id) σ:=rfl
theorem zuI (id:Nat) (σ:St):zfe id Q .normal σ=Q .normal σ:=rfl
theorem zuJ (id:Nat) (σ:St):zfe id Q .ret σ=Q .ret σ:=rfl
theorem zuK (id:Nat) (σ:St):zfe id Q (.exit id) σ=Q .normal σ:=by simp [zfe]
theorem zuL (id id':Nat) (h:id'≠id) (σ:St):zfe id Q (.exit id') σ=Q (.exit id') σ:=by simp [zfe,h]
theorem zDt {c:COp} {p:Prop} (h:gd σ c.guard=some p):(p→zo6 σ c.guard=some true)∧(¬ p→zo6 σ c.guard=some false):=by
 unfold gd at h
 unfold zo6
 split at h
 ·rename_i e;cases h;(try rw [e]);simp
 ·cases h
 ·rename_i t w e
  (try rw [e])
  (try dsimp only)
  unfold gw at h
  split at h
  ·rename_i b eb
   cases h
   (try rw [eb])
   (try dsimp only)
   cases b<;>cases w<;>simp
  ·rename_i et;cases h;(try rw [et]);simp
  ·cases h
theorem zmE {op:Op} {f:FuncId} {args:List Operand} (h:zi7 op=some (f,args)):calls env σ op f (args.map (zah env σ)):=by
 unfold zi7 at h
 split at h
 ·rename_i f' a t;cases h;exact .inl ⟨a,t,rfl,rfl⟩
 ·cases h
theorem zpc {op:Op} {u:Nat} {args:List Operand} (h:zn0 op=some (u,args)) {f:Nat} {cs:List AVal} (hs:σ.slot u=.clo f cs):calls env σ op f (args.map (zah env σ)++cs):=by
 unfold zn0 at h
 split at h
 ·rename_i u' a t;cases h;exact .inr ⟨_,a,t,cs,rfl,hs,rfl⟩
 ·cases h
theorem zuM {op:Op} {x:Operand} (h:zn1 op=some x):op=.panic x:=by
 unfold zn1 at h
 split at h
 ·cases h;rfl
 ·cases h
theorem VL.step {K:KT} {t:Tg K} {ops:Array Oper} {o:Oper} {rest:List COp} {acc:Option Tr} (h:VL P env K t (⟨o.dst,o.op,zxw ops.toList o.guard⟩::rest) acc σ) :
  (∃ T e,GStep P env ops o σ T e∧VL P env K t rest (zbP acc (T,e.upd.map Prod.fst)) (σ.app o.dst e))∨∃ x upd,GPStep P env ops o σ x upd∧K acc (some x) ⟨σ.slots,zaL σ.objs upd⟩:=by
 unfold VL at h
 split at h
 ·exact h.elim
 ·rename_i p hp
  obtain ⟨g1,g2⟩:=zDt hp
  by_cases hq:p
  ·have hg:zdS ops σ o=some true:=by rw [zo7];exact g1 hq
   have h1:=h.1 hq
   split at h1
   ·rename_i f args hcall
    rcases h1 with ⟨cargs,cobjs,ids,news,res,objs',hac,hfit,hk2⟩|⟨cargs,cobjs,ids,news,x,objs',hac,hfit,hk2⟩
    ·exact .inl ⟨_,_,.run _ _ hg (.call f _ cargs cobjs ids news res objs' (hfit o (zmE hcall)) hac),hk2⟩
    ·exact .inr ⟨x,_,⟨hg,.call f _ cargs cobjs ids news x objs' (hfit o (zmE hcall)) hac⟩,hk2⟩
   ·rename_i u args hcall0 hcall
    split at h1
    ·rename_i f cs hs
     rcases h1 with ⟨cargs,cobjs,ids,news,res,objs',hac,hfit,hk2⟩|⟨cargs,cobjs,ids,news,x,objs',hac,hfit,hk2⟩
     ·exact .inl ⟨_,_,.run _ _ hg (.call f _ cargs cobjs ids news res objs' (hfit o (zpc hcall hs)) hac),hk2⟩
     ·exact .inr ⟨x,_,⟨hg,.call f _ cargs cobjs ids news x objs' (hfit o (zpc hcall hs)) hac⟩,hk2⟩
    ·exact h1.elim
   ·rename_i x hc1 hc2 hpan
    split at h1
    ·rename_i v hv
     obtain ⟨q,hq1,hq2⟩:=zxB hv
     exact .inr ⟨v,[],⟨hg,.pan x q v (zuM hpan) hq1 hq2⟩,h1⟩
    ·exact h1.elim
   ·obtain ⟨hn,h1⟩:=h1
    split at h1
    ·rename_i e he
     exact .inl ⟨_,e,.run _ e hg (.op e he),h1⟩
    ·exact h1.elim
  ·exact .inl ⟨_,_,.skip (by rw [zo7];exact g2 hq),h.2 hq⟩
theorem VL.to0 {K:KT} {t:Tg K} {ops:Array Oper}:∀ (l:List Oper) (acc:List Rec) (σ:St),VL P env K t (zlq ops.toList l) none σ→RRP P env ops (fun _ σ=>K none none σ) (fun _ x upd σ=>K none (some x) ⟨σ.slots,zaL σ.objs upd⟩) l acc σ
 |[],_,_,h=>h
 |o::rest,acc,σ,h=>by
  rcases VL.step h with ⟨T,e,h1,h2⟩|⟨x,upd,h1,h2⟩
  ·exact .inl ⟨T,e,h1,VL.to0 rest _ _ h2⟩
  ·exact .inr ⟨x,upd,h1,h2⟩
theorem VL.to1 {K:KT} {t:Tg K} {ops:Array Oper}:∀ (l:List Oper) (acc:List Rec) (σ:St),VL P env K t (zlq ops.toList l) (some (acc.map zgB)) σ→RRP P env ops (fun tr σ=>K (some (tr.map zgB)) none σ) (fun tr x upd σ=>K (some (tr.map zgB)) (some x) ⟨σ.slots,zaL σ.objs upd⟩) l acc σ
 |[],_,_,h=>h
 |o::rest,acc,σ,h=>by
  rcases VL.step h with ⟨T,e,h1,h2⟩|⟨x,upd,h1,h2⟩
  ·exact .inl ⟨T,e,h1,VL.to1 rest (acc++[⟨T,e⟩]) _ (by simpa [zgB,zbP] using h2)⟩
  ·exact .inr ⟨x,upd,h1,h2⟩
theorem RRP.imp {ops:Array Oper} {K K':List Rec→St→Prop} {KP KP':List Rec→Value→List (Nat × AObj)→St→Prop} (hk:∀ tr σ,K tr σ→K' tr σ) (hp:∀ tr x u σ,KP tr x u σ→KP' tr x u σ) :
  ∀ (l:List Oper) (acc:List Rec) (σ:St),RRP P env ops K KP l acc σ→RRP P env ops K' KP' l acc σ
 |[],_,_,h=>hk _ _ h
 |_::rest,acc,σ,h=>by
  rcases h with ⟨T,e,h1,h2⟩|⟨x,upd,h1,h2⟩
  ·exact .inl ⟨T,e,h1,RRP.imp hk hp rest _ _ h2⟩
  ·exact .inr ⟨x,upd,h1,hp _ _ _ _ h2⟩
theorem zmF {N N':St→Prop} (h:∀ σ,N σ→N' σ):∀ e σ,zeY N Q e σ→zeY N' Q e σ:=by
 intro e σ hh
 cases e<;>first|exact h _ hh|exact hh
theorem VC.to (hE:zaY P env) (hm:P.follows .mixedOrders=true):∀ (c:Code) {σ:St} {Q:Exit→St→Prop},VC P env pin c σ Q→SW P env pin c σ Q
 |.skip,_,_,h=>SW.skip h
 |.ret,_,_,h=>SW.ret h
 |.exit _,_,_,h=>SW.exit h
 |.seq x y,_,_,h=>SW.seq ((VC.to hE hm x h).mono (zmF fun _ hh=>VC.to hE hm y hh))
 |.block _ c,_,_,h=>SW.block (VC.to hE hm c h)
 |.cond _ x y,_,_,h=>by
  obtain ⟨b,hb,h1,h2⟩:=h
  exact SW.cond hb (fun e=>VC.to hE hm x (h1 e)) (fun e=>VC.to hE hm y (h2 e))
 |.region _ ops dr,σ,Q,h=>by
  cases dr with
  |false=>exact SW.regionP hE (VL.to0 _ [] _ h)
  |true=>
   refine SW.drawP hE hm (RRP.imp (fun tr σ hh=>?_) (fun tr x u σ hh=>?_) _ _ _ (VL.to1 ops.toList [] σ h))
   ·exact ⟨zrV hh.1,hh.2⟩
   ·obtain ⟨h1,h2⟩:=hh
    simp only [zxI,Bool.and_eq_true,List.length_map,List.all_map] at h1
    refine ⟨zrV h1.1.1,h1.1.2,fun r hr=>?_,h2⟩
    have:=List.all_eq_true.1 h1.2 r hr
    simpa [zgB] using this
 |.loop _,_,_,h=>h
 |.rangeFunc ..,_,_,h=>h
 |.scope c,_,_,h=>SW.scope (VC.to hE hm c h)
 |.label _,_,_,h=>SW.label h
 |.goto _,_,_,h=>h
 |.refuse _,_,_,h=>h
end Go.Abs
namespace Go.Abs
open Go
variable {P:Program} {env:Env} {pin:Nat} {σ:St} {Q:Exit→St→Prop}
def zkg (o:Option AObj) (n:Nat) (xs:List (List PVal)):Prop:=∃ sz,o=some (.row sz xs)∧n=xs.length
mutual
def rdV (ob:Nat→Option AObj):AVal→AVal→Prop
 |.pv p,b=>match b with|.pv q=>p=q|.junk=>True|_=>False
 |.snil,b=>match b with|.pv (.slice xs)=>xs=[]|.snil=>True|.junk=>True|_=>False
 |.row id n,b=>match b with|.pv (.slice xs)=>zkg (ob id) n xs|.junk=>True|_=>False
 |.agg cs,b=>match b with|.agg ds=>rdL ob cs ds|.junk=>True|_=>False
 |.tup cs,b=>match b with|.tup ds=>rdL ob cs ds|.junk=>True|_=>False
 |.ref _ _,b=>match b with|.junk=>True|_=>False
 |.eref _ _ _ _,b=>match b with|.junk=>True|_=>False
 |.csl _ _ _,b=>match b with|.junk=>True|_=>False
 |.map _,b=>match b with|.junk=>True|_=>False
 |.clo _ _,b=>match b with|.junk=>True|_=>False
 |.junk,b=>match b with|.junk=>True|_=>False
def rdL (ob:Nat→Option AObj):List AVal→List AVal→Prop
 |[],l=>match l with|[]=>True|_=>False
 |a::r,l=>match l with|b::s=>rdV ob a b∧rdL ob r s|[]=>False
end
theorem zAm (ob:Nat→Option AObj) (p q:PVal):rdV ob (.pv p) (.pv q)=(p=q):=by simp [rdV]
theorem zxV (ob:Nat→Option AObj) (xs:List (List PVal)):rdV ob .snil (.pv (.slice xs))=(xs=[]):=by simp [rdV]
theorem zwZ (ob:Nat→Option AObj) (id n:Nat) (xs:List (List PVal)):rdV ob (.row id n) (.pv (.slice xs))=zkg (ob id) n xs:=by simp [rdV]
theorem zAn (ob:Nat→Option AObj) (cs ds:List AVal):rdV ob (.agg cs) (.agg ds)=rdL ob cs ds:=by simp [rdV]
theorem zAo (ob:Nat→Option AObj) (cs ds:List AVal):rdV ob (.tup cs) (.tup ds)=rdL ob cs ds:=by simp [rdV]
theorem zhm (ob:Nat→Option AObj) (v:AVal):rdV ob v .junk=True:=by cases v<;>simp [rdV]
theorem zAp (ob:Nat→Option AObj):rdL ob [] []=True:=by simp [rdL]
theorem zn4 (ob:Nat→Option AObj) (a b:AVal) (r s:List AVal):rdL ob (a::r) (b::s)=(rdV ob a b∧rdL ob r s):=by simp [rdL]
theorem zqs (sz n:Nat) (ys xs:List (List PVal)):zkg (some (.row sz ys)) n xs=(ys=xs∧n=xs.length):=by
 apply propext
 constructor
 ·rintro ⟨_,h,h2⟩;cases h;exact ⟨rfl,h2⟩
 ·rintro ⟨rfl,h2⟩;exact ⟨sz,rfl,h2⟩
theorem zuN {k:Nat} {xs:List (List PVal)} {o:Option AObj} {n:Nat} {ys:List (List PVal)} (h:zkg o n ys):zkg (zf7 k xs o) n ys:=by
 obtain ⟨sz,rfl,h2⟩:=h
 exact ⟨sz,rfl,h2⟩
mutual
theorem zw0 {ob ob':Nat→Option AObj} {k sz:Nat} {xs:List (List PVal)} (hk:ob k=some (.row sz xs)) (ho:∀ i,i≠k→ob' i=zf7 k xs (ob i)):∀ (x b:AVal),rdV ob x b→rdV ob' (frz k xs x) b
 |.pv p,b,h=>by simp only [frz];cases b<;>simp only [rdV] at h ⊢<;>exact h
 |.snil,b,h=>by simp only [frz];simp only [rdV] at h ⊢;exact h
 |.junk,b,h=>by simp only [frz];simp only [rdV] at h ⊢;exact h
 |.map i,b,h=>by simp only [frz];simp only [rdV] at h ⊢;exact h
 |.clo f cs,b,h=>by
  cases b<;>simp only [rdV] at h
  rw [zhm];trivial
 |.ref i o,b,h=>by
  cases b<;>simp only [rdV] at h
  rw [zhm];trivial
 |.eref i a c d,b,h=>by
  cases b<;>simp only [rdV] at h
  rw [zhm];trivial
 |.csl i a c,b,h=>by
  cases b<;>simp only [rdV] at h
  rw [zhm];trivial
 |.row i n,b,h=>by
  by_cases hj:b=.junk
  ·subst hj;rw [zhm];trivial
  have:∃ ys,b=.pv (.slice ys)∧zkg (ob i) n ys:=by
   unfold rdV at h
   split at h
   ·exact ⟨_,rfl,h⟩
   ·exact absurd rfl hj
   ·exact h.elim
  obtain ⟨ys,rfl,hr⟩:=this
  simp only [frz]
  by_cases hik:i=k
  ·subst hik
   obtain ⟨sz',h1,h2⟩:=hr
   rw [hk] at h1
   cases h1
   rw [if_pos rfl,if_pos h2,zAm]
  ·rw [if_neg hik,zwZ,ho i hik]
   exact zuN hr
 |.agg cs,b,h=>by
  simp only [frz]
  cases b<;>simp only [rdV] at h ⊢
  exact zn5 hk ho cs _ h
 |.tup cs,b,h=>by
  simp only [frz]
  cases b<;>simp only [rdV] at h ⊢
  exact zn5 hk ho cs _ h
theorem zn5 {ob ob':Nat→Option AObj} {k sz:Nat} {xs:List (List PVal)} (hk:ob k=some (.row sz xs)) (ho:∀ i,i≠k→ob' i=zf7 k xs (ob i)):∀ (x b:List AVal),rdL ob x b→rdL ob' (zf6 k xs x) b
 |[],b,h=>by simp only [zf6];cases b<;>simp only [rdL] at h ⊢
 |a::r,b,h=>by
  simp only [zf6]
  cases b with
  |nil=>simp only [rdL] at h
  |cons c s=>
   rw [zn4] at h ⊢
   exact ⟨zw0 hk ho a c h.1,zn5 hk ho r s h.2⟩
end
theorem zn6 {ob:Nat→Option AObj}:∀ {x b:List AVal},rdL ob x b→x.length=b.length∧∀ i,i<x.length→rdV ob (x.getD i .junk) (b.getD i .junk)
 |[],[],_=>⟨rfl,fun i hi=>by simp at hi⟩
 |[],_::_,h=>by simp [rdL] at h
 |_::_,[],h=>by simp [rdL] at h
 |a::r,c::s,h=>by
  rw [zn4] at h
  obtain ⟨h1,h2⟩:=zn6 h.2
  refine ⟨by simp [h1],fun i hi=>?_⟩
  cases i with
  |zero=>simpa [List.getD] using h.1
  |succ i=>simpa [List.getD] using h2 i (by simpa using hi)
theorem V.read {g:Gh} {D D':Nat→Prop} {M:Mem} {ob:Nat→Option AObj} (hno:∀ i n ys,¬ zkg (ob i) n ys) {x:AVal} {v:Value} (h:V g D M x v):∀ {b:AVal},rdV ob x b→V g D' M b v:=by
 induction h with
 |pv r=>intro b hb;cases b<;>simp only [rdV] at hb<;>first|(subst hb;exact .pv r)|exact .junk _
 |snil=>
  intro b hb
  unfold rdV at hb
  split at hb
  ·subst hb;exact .pv .nils
  ·exact .snil
  ·exact .junk _
  ·exact hb.elim
 |ref id off hd=>intro b hb;cases b<;>simp only [rdV] at hb;exact .junk _
 |row id n hd hn=>
  intro b hb
  unfold rdV at hb
  split at hb
  ·exact absurd hb (hno _ _ _)
  ·exact .junk _
  ·exact hb.elim
 |rown id hd hn=>
  intro b hb
  unfold rdV at hb
  split at hb
  ·exact absurd hb (hno _ _ _)
  ·exact .junk _
  ·exact hb.elim
 |eref id i j sz hd=>intro b hb;cases b<;>simp only [rdV] at hb;exact .junk _
 |csl id n sz hd=>intro b hb;cases b<;>simp only [rdV] at hb;exact .junk _
 |map id hd=>intro b hb;cases b<;>simp only [rdV] at hb;exact .junk _
 |agg cs vs hl _ ih=>
  intro b hb
  cases b<;>simp only [rdV] at hb
  ·obtain ⟨h1,h2⟩:=zn6 hb
   exact .agg _ vs (by omega) (fun i hi=>ih i (by omega) (h2 i (by omega)))
  ·exact .junk _
 |tup cs vs hl _ ih=>
  intro b hb
  cases b<;>simp only [rdV] at hb
  ·obtain ⟨h1,h2⟩:=zn6 hb
   exact .tup _ vs (by omega) (fun i hi=>ih i (by omega) (h2 i (by omega)))
  ·exact .junk _
 |clo f cs vs hl _ ih=>intro b hb;cases b<;>simp only [rdV] at hb;exact .junk _
 |junk v=>intro b hb;cases b<;>simp only [rdV] at hb;exact .junk _
theorem zrZ (id:Nat) (xs:List (List PVal)) (i:Nat) (h:i≠id):(σ.frz id xs).obj i=zf7 id xs (σ.obj i):=by
 simp only [St.frz,St.obj,List.getD]
 rw [List.getElem?_set_ne (fun e=>h e.symm),List.getElem?_map]
 cases σ.objs[i]?<;>rfl
theorem zuO (id:Nat) (xs:List (List PVal)) (h:id<σ.objs.length):(σ.frz id xs).obj id=some .dead:=by
 simp [St.frz,St.obj,List.getD,h]
theorem Rel.read1 {E:Ent} {g:Gh} {M:Mem} {w:World} {v:Value} {x b:AVal} (hR:Rel E ⟨[x],σ.objs⟩ g M ⟨#[v],[]⟩ w) (h:rdV σ.obj x b) :
  ∀ k,k≤σ.objs.length→∃ (σk:St) (xk:AVal) (gk:Gh) (Mk:Mem),σk.slots=[xk]∧σk.objs.length=σ.objs.length∧Rel E σk gk Mk ⟨#[v],[]⟩ w∧Mem.le M Mk∧rdV σk.obj xk b∧∀ i n ys,i<k→¬ zkg (σk.obj i) n ys
 |0,_=>⟨⟨[x],σ.objs⟩,x,g,M,rfl,rfl,hR,Mem.le_refl _,h,fun i _ _ hi=>by omega⟩
 |k+1,hk=>by
  obtain ⟨σk,xk,gk,Mk,h1,h2,h3,h4,h5,h6⟩:=Rel.read1 hR h k (by omega)
  by_cases hr:∃ sz xs,σk.obj k=some (.row sz xs)
  ·obtain ⟨sz,xs,hr⟩:=hr
   obtain ⟨_,hw⟩:=za0.freeze (env:=⟨fun _=>none,fun _=>none,fun _=>0,σk.objs.length⟩) (pin:=0) k hr rfl
   obtain ⟨g',M',hR',hM,_⟩:=hw E gk Mk _ w h3
   refine ⟨σk.frz k xs,frz k xs xk,g',M',by simp [St.frz,h1,zf6],by simp [St.frz,h2],hR',Mem.le_trans h4 hM,zw0 hr (fun i hi=>zrZ k xs i hi) xk b h5,fun i n ys hi hh=>?_⟩
   by_cases hik:i=k
   ·subst hik
    rw [zuO i xs (by omega)] at hh
    obtain ⟨_,hh,_⟩:=hh
    cases hh
   ·rw [zrZ k xs i hik] at hh
    obtain ⟨sz',e,e2⟩:=hh
    refine h6 i n ys (by omega) ⟨sz',?_,e2⟩
    cases ho:σk.obj i with
    |none=>rw [ho] at e;cases e
    |some o=>
     rw [ho] at e
     cases o<;>simp only [zf7,Option.some.injEq,reduceCtorEq] at e
     rw [e]
  ·refine ⟨σk,xk,gk,Mk,h1,h2,h3,h4,h5,fun i n ys hi hh=>?_⟩
   by_cases hik:i=k
   ·subst hik
    obtain ⟨sz,e,_⟩:=hh
    exact hr ⟨sz,ys,e⟩
   ·exact h6 i n ys (by omega) hh
def PK (ob:Nat→Option AObj) (r:Option (List AVal)) (res:AVal):Prop:=match r with|some vs=>rdV ob (znY vs) res|none=>False
def RQ (env:Env) (rs:List ResultVar) (res:AVal):Exit→St→Prop
 |.ret,σ=>PK σ.obj (zkf env σ rs) res
 |.normal,σ=>PK σ.obj (zkf env σ rs) res
 |_,_=>False
theorem zAq (rs:List ResultVar) (res:AVal) (σ:St):RQ env rs res .ret σ=PK σ.obj (zkf env σ rs) res:=rfl
theorem zr0 (rs:List ResultVar) (res:AVal) (σ:St):RQ env rs res .normal σ=PK σ.obj (zkf env σ rs) res:=rfl
theorem zn7 (ob:Nat→Option AObj) (vs:List AVal) (res:AVal):PK ob (some vs) res=rdV ob (znY vs) res:=rfl
theorem AC.of_vc (hE:zaY P env) (hm:P.follows .mixedOrders=true) {f:FuncId} {fn:Func} {code:Code} (hf:P.funcs[f]?=some fn) (hb:fn.body=some code) {args:List AVal} {res:AVal}
  (hargs:args.length≤fn.ntmps)
  (h:VC P env 0 code ⟨args++List.replicate (fn.ntmps - args.length) .junk,List.replicate env.nobj none⟩ (RQ env fn.results.toList res)) :
  AC P env.gl f args [] res []:=by
 intro w M g vargs hR hG
 have hla:vargs.length=args.length:=by simpa using hR.size
 refine calls_of_wp hf hb ?_
 have hobj:∀ id,St.obj ⟨args++List.replicate (fn.ntmps - args.length) .junk,List.replicate env.nobj none⟩ id=none:=fun id=>by
  simp only [St.obj,List.getD]
  rw [List.getElem?_replicate]
  split<;>rfl
 have hdom:St.dom ⟨args++List.replicate (fn.ntmps - args.length) .junk,List.replicate env.nobj none⟩=St.dom ⟨args,[]⟩:=by
  funext id;simp only [St.dom,hobj];simp [St.obj]
 have hR0:Rel ⟨w,M,zaP g [],[]⟩ ⟨args++List.replicate (fn.ntmps - args.length) .junk,List.replicate env.nobj none⟩ g M
   { tmps:=vargs.toArray++Array.replicate (fn.ntmps - vargs.toArray.size) undef,defers:=[] } w:=by
  refine ⟨by simp [hla],rfl,?_,?_,?_,?_,hR.sat,hR.M0,hR.Mnew,hR.size0,hR.same,?_,hR.os,hR.tape,hR.output⟩
  ·intro i hi
   rw [hdom]
   by_cases hia:i<args.length
   ·have e1:St.slot ⟨args++List.replicate (fn.ntmps - args.length) .junk,List.replicate env.nobj none⟩ i=St.slot ⟨args,[]⟩ i:=by
     simp [St.slot,List.getElem?_append_left hia]
    have e2:(vargs.toArray++Array.replicate (fn.ntmps - vargs.toArray.size) undef).getD i undef=vargs.toArray.getD i undef:=by
     simp only [Array.getD_eq_getD_getElem?]
     rw [Array.getElem?_append_left (by simp;omega)]
    rw [e1,e2];exact hR.slots i hia
   ·have e1:St.slot ⟨args++List.replicate (fn.ntmps - args.length) .junk,List.replicate env.nobj none⟩ i=.junk:=by
     simp only [St.slot,List.getD]
     rw [List.getElem?_append_right (by omega),List.getElem?_replicate]
     split<;>rfl
    rw [e1];exact .junk _
  ·intro id o ho;rw [hobj] at ho;cases ho
  ·intro id id' o o' b ho;rw [hobj] at ho;cases ho
  ·intro id o b ho;rw [hobj] at ho;cases ho
  ·intro id o b ho;rw [hobj] at ho;cases ho
 refine wp_mono (VC.to hE hm code h (by simp) _ g M _ w hR0 hG) fun e a' w' ⟨σ',g',M',hq,hR',hM,hA,hl'⟩=>?_
 have key:PK σ'.obj (zkf env σ' fn.results.toList) res→a'.defers=[]∧∃ v,(results fn a'.tmps).run P w'=.ok v w'∧∃ v' g' M',Ending.returned v=.returned v'∧Rel ⟨w,M,zaP g [],[]⟩ ⟨[res],[]⟩ g' M' ⟨#[v'],[]⟩ w'∧∀ id,zaq [] id=true→g.agree g' id:=by
  intro hpk
  cases hvs:zkf env σ' fn.results.toList with
  |none=>rw [hvs] at hpk;exact hpk.elim
  |some vs=>
   rw [hvs,zn7] at hpk
   obtain ⟨v,hrun,hV⟩:=zgj (P:=P) hR' hE hvs
   have hR1:Rel ⟨w,M,zaP g [],[]⟩ ⟨[znY vs],σ'.objs⟩ g' M' ⟨#[v],[]⟩ w':=by
    refine ⟨rfl,rfl,fun i hi=>?_,hR'.objs,hR'.apart,hR'.offM,hR'.sat,hR'.M0,hR'.Mnew,hR'.size0,hR'.same,hR'.own0,hR'.os,hR'.tape,hR'.output⟩
    have hi0:i=0:=by simpa using hi
    subst hi0
    exact hV
   obtain ⟨σk,xk,gk,Mk,h1,h2,h3,h4,h5,h6⟩:=hR1.read1 (σ:=σ') hpk σ'.objs.length (Nat.le_refl _)
   have hno:∀ i n ys,¬ zkg (σk.obj i) n ys:=fun i n ys=>by
    by_cases hi:i<σ'.objs.length
    ·exact h6 i n ys hi
    ·rintro ⟨sz,e,_⟩
     simp [St.obj,List.getD,List.getElem?_eq_none (by omega:σk.objs.length≤i)] at e
   refine ⟨hR'.defers,v,hrun,v,gk,Mk,rfl,⟨rfl,rfl,fun i hi=>?_,fun id o ho=>by simp [St.obj] at ho,fun id id' o o' b ho=>by simp [St.obj] at ho,fun id o b ho=>by simp [St.obj] at ho,h3.sat,h3.M0,h3.Mnew,h3.size0,h3.same,fun id o b ho=>by simp [St.obj] at ho,h3.os,h3.tape,h3.output⟩,fun id hid=>by simp [zaq] at hid⟩
   have hi0:i=0:=by simpa using hi
   subst hi0
   have h7:=h3.slot 0
   have e:σk.slot 0=xk:=by simp [St.slot,h1]
   rw [e] at h7
   exact V.read hno h7 h5
 cases e with
 |ret=>exact key hq
 |normal=>exact key hq
 |_=>exact hq.elim
end Go.Abs
namespace Go.Abs
open Go
def kw1:=And.intro @zAd<|And.intro @zxC<|And.intro @zxD<|And.intro @zAe<|And.intro @zAf<|And.intro @zAg<|And.intro @zxE<|And.intro @zux<|And.intro @zxF<|And.intro @zuw<|And.intro @zxG<|And.intro @zAh<|@zxH
def kw2:=And.intro @zxJ<|And.intro @zxK<|And.intro @zDr<|And.intro @zDs<|And.intro @zuy<|And.intro @zrY<|@zlu
def kw3:=And.intro @zxM<|And.intro @zuA<|And.intro @zuB<|And.intro @zAj<|And.intro @zxO<|And.intro @zAk<|And.intro @zuH<|And.intro @zxP<|And.intro @zAl<|And.intro @zxQ<|@zxR
def kw4:=And.intro @zxL<|And.intro @zuz<|And.intro @zuC<|And.intro @zuD<|And.intro @zuG<|And.intro @zuE<|And.intro @zxN<|And.intro @zuF<|And.intro @zxS<|And.intro @zxT<|And.intro @zxU<|And.intro @zuI<|And.intro @zuJ<|And.intro @zuK<|@zuL
def kw5:=And.intro @zrW<|And.intro @zpa<|And.intro @zxz<|And.intro @zrX<|And.intro @zwY<|And.intro @zDq<|And.intro @zxA<|And.intro @zuv<|And.intro @zAb<|And.intro @zAc<|And.intro @zn2<|@zn3
def kw6:=And.intro @zAq<|And.intro @zr0<|And.intro @zn7<|And.intro @zAm<|And.intro @zxV<|And.intro @zwZ<|And.intro @zAn<|And.intro @zAo<|And.intro @zhm<|And.intro @zAp<|And.intro @zn4<|@zqs
variable {P:Program} {env:Env} {pin:Nat} {σ:St} {Q:Exit→St→Prop}
abbrev jl (n:Nat) (l:List AVal):List AVal:=List.replicate n .junk++l
theorem zDu (env dst ev ob x):aop env dst ev ob (.move x)=(some ⟨ev x,[]⟩):=rfl
theorem zDv (env dst ev ob x):aop env dst ev ob (.assign x)=(some ⟨ev x,[]⟩):=rfl
theorem zDw (env dst ev ob c a b):aop env dst ev ob (.pick c a b)=(match ev c with
  |.pv (.bool t)=>some ⟨if t then ev a else ev b,[]⟩
  |_=>none):=rfl
theorem zDx (env dst ev ob t):aop env dst ev ob (.alloc t)=(match env.ty t,dst with
  |some ty,some d=>match ty.bld with
   |some e=>match ob (env.site d),ob (env.site d+1) with
    |none,none=>if env.site d+1<env.nobj then some ⟨.ref (env.site d) 0,[(env.site d+1,.bb e []),(env.site d,.bh t e (env.site d+1) 0)]⟩ else none
    |_,_=>none
   |none=>match ty.zero,ob (env.site d) with
    |some z,none=>if env.site d<env.nobj∧z.all AVal.isCell=true then some ⟨.ref (env.site d) 0,[(env.site d,.cells z)]⟩ else none
    |_,_=>none
  |_,_=>none):=rfl
theorem zDy (env dst ev ob z1 x):aop env dst ev ob (.box z1 x)=(match dst with
  |some d=>match ob (env.site d) with
   |none=>if env.site d<env.nobj∧(ev x).cells.all AVal.isCell=true then some ⟨.ref (env.site d) 0,[(env.site d,.cells (ev x).cells)]⟩ else none
   |_=>none
  |none=>none):=rfl
theorem zDz (env dst ev ob t parts):aop env dst ev ob (.build t parts)=(match env.ty t with
  |some ty=>match ty.zero,ty.kind with
   |some z,.struct=>if (ty.fields.all fun q=>decide (0<q.2))=false then none else (zhi (fun i=>ty.fields[i]?) z (parts.toList.map fun q=>(q.1,ev q.2))).map fun cs=>⟨.agg cs,[]⟩
   |some z,.array _=>if ty.eSize=0 then none else (zhi (fun i=>some (i * ty.eSize,ty.eSize)) z (parts.toList.map fun q=>(q.1,ev q.2))).map fun cs=>⟨.agg cs,[]⟩
   |_,_=>none
  |none=>none):=rfl
theorem zDA (env dst ev ob t len parts):aop env dst ev ob (.buildSlice t len parts)=(match env.ty t with
  |some ty=>match ty.kind with
   |.slice=>if 0<ty.eSize∧parts.size=len∧len * ty.eSize≤65536∧ty.eZero=true then
     match zgu ty.eSize 0 (parts.toList.map fun q=>(q.1,ev q.2)) with
     |some xs=>some ⟨.pv (exSl (dst.elim 0 env.site) xs),[]⟩
     |none=>match dst with
      |some d=>match zgv ty.eSize 0 (parts.toList.map fun q=>(q.1,ev q.2)),ob (env.site d) with
       |some cs,none=>if env.site d<env.nobj then some ⟨.csl (env.site d) len ty.eSize,[(env.site d,.cells cs)]⟩ else none
       |_,_=>none
      |none=>none
    else none
   |_=>none
  |none=>none):=rfl
theorem zDB (env dst ev ob t p):aop env dst ev ob (.load t p)=(match env.ty t,ev p with
  |some ty,.ref id off=>match ob id with
   |some (.cells cs)=>if off+ty.size≤cs.length∧0<ty.size then
     some ⟨if ty.agg then .agg ((cs.drop off).take ty.size) else cs.getD off .junk,[]⟩ else none
   |_=>none
  |some ty,.pv (.ptr cs)=>if ty.size≤cs.length∧0<ty.size then
     some ⟨if ty.agg then .agg ((cs.take ty.size).map .pv) else .pv (cs.getD 0 .nilptr),[]⟩ else none
  |some ty,.eref id i j sz=>match ob id with
   |some (.row sz' xs)=>if sz=sz'∧i<xs.length∧j+ty.size≤sz∧0<ty.size then
     some ⟨if ty.agg then .agg ((((xs.getD i []).drop j).take ty.size).map .pv) else .pv (zbW xs i j),[]⟩ else none
   |_=>none
  |_,_=>none):=rfl
theorem zDC (env dst ev ob t p x):aop env dst ev ob (.store t p x)=(match env.ty t,ev p with
  |some ty,.ref id off=>match ob id with
   |some (.cells cs)=>if (ev x).cells.length=ty.size∧off+ty.size≤cs.length∧(ev x).cells.all AVal.isCell=true then
     some ⟨.junk,[(id,.cells (ze5 cs off (ev x).cells))]⟩ else none
   |_=>none
  |some ty,.eref id i j sz=>match ob id,ze2 (ev x).cells with
   |some (.row sz' xs),some ps=>if sz=sz'∧i<xs.length∧j+ty.size≤sz∧ps.length=ty.size then
     some ⟨.junk,[(id,.row sz' (zf4 xs i j ps))]⟩ else none
   |_,_=>none
  |_,_=>none):=rfl
theorem zAr (env dst ev ob x):aop env dst ev ob (.nilCheck x)=(match ev x with
  |.ref id off=>some ⟨.ref id off,[]⟩
  |.eref id i j sz=>some ⟨.eref id i j sz,[]⟩
  |.pv (.ptr cs)=>some ⟨.pv (.ptr cs),[]⟩
  |_=>none):=rfl
theorem zAs (env dst ev ob op t x y z1):aop env dst ev ob (.binOp op t x y z1)=(match ev x,ev y with
  |.pv p,.pv q=>(if ze4 y=true then zwU op ((env.ty t).map Ty.kind) p else zgb op ((env.ty t).map Ty.kind) p q).map fun r=>⟨.pv r,[]⟩
  |.agg cs,.agg ds=>(zzN op ((env.ty t).bind Ty.eqs) cs ds).map fun b=>⟨.pv (.bool b),[]⟩
  |_,_=>none):=rfl
theorem zAt (env dst ev ob op z1 x):aop env dst ev ob (.unOp op z1 x)=(match op,ev x with
  |.not,.pv (.bool b)=>some ⟨.pv (.bool !b),[]⟩
  |.neg,.pv (.int k n)=>some ⟨.pv (.int k (k.wrap (0 - n))),[]⟩
  |_,_=>none):=rfl
theorem zAu (env dst ev ob st dt x):aop env dst ev ob (.convert st dt x)=(match env.ty st,env.ty dt,ev x with
  |some _,some ty,.pv (.int _ n)=>match ty.kind with
   |.int k=>some ⟨.pv (.int k (k.wrap n)),[]⟩
   |_=>none
  |some sty,some ty,.pv (.slice xs)=>match sty.kind,ty.kind,zdP xs with
   |.slice,.string,some ns=>if sty.kKind=.int .u8 then some ⟨.pv (.str (zgc ns)),[]⟩ else none
   |_,_,_=>none
  |some sty,some ty,.row id n=>match ob id with
   |some (.row sz xs)=>match sty.kind,ty.kind,zdP xs with
    |.slice,.string,some ns=>if sty.kKind=.int .u8∧xs.length=n then some ⟨.pv (.str (zgc ns)),[]⟩ else none
    |.slice,.slice,some _=>if st=dt∧sty.kKind=.int .u8∧xs.length=n∧0<n then some ⟨.row id n,[(id,.row sz xs)]⟩ else none
    |_,_,_=>none
   |_=>none
  |_,_,_=>none):=rfl
theorem zAv (env dst ev ob s x k):aop env dst ev ob (.fieldAddr s x k)=(match env.ty s with
  |some ty=>match ty.kind,ty.fields[k]? with
   |.struct,some (fo,fs)=>if 0<fs then match ev x with
     |.ref id off=>some ⟨.ref id (off+fo),[]⟩
     |.pv (.ptr cs)=>if fo+fs≤cs.length then some ⟨.pv (.ptr ((cs.drop fo).take fs)),[]⟩ else none
     |.eref id i j sz=>some ⟨.eref id i (j+fo) sz,[]⟩
     |_=>none
    else none
   |_,_=>none
  |none=>none):=rfl
theorem zAw (env dst ev ob t x ix):aop env dst ev ob (.indexAddr t x ix)=(match env.ty t,ev ix with
  |some ty,.pv (.int _ i)=>if ty.eSize=0 then none else match ty.kind,ev x with
   |.slice,.pv (.slice xs)=>if 0≤i∧i.toNat<xs.length∧(xs.getD i.toNat []).length=ty.eSize then some ⟨.pv (.ptr (xs.getD i.toNat [])),[]⟩ else none
   |.slice,.row id n=>match ob id with
    |some (.row sz _)=>if 0≤i∧i.toNat<n∧sz=ty.eSize then some ⟨.eref id i.toNat 0 sz,[]⟩ else none
    |_=>none
   |.slice,.csl id n sz=>if 0≤i∧i.toNat<n∧sz=ty.eSize then some ⟨.ref id (i.toNat * sz),[]⟩ else none
   |.array n,.ref id off=>if 0≤i∧i.toNat<n then some ⟨.ref id (off+i.toNat * ty.eSize),[]⟩ else none
   |.array n,.pv (.ptr cs)=>if 0≤i∧i.toNat<n∧i.toNat * ty.eSize<cs.length then some ⟨.pv (.ptr ((cs.drop (i.toNat * ty.eSize)).take ty.eSize)),[]⟩ else none
   |_,_=>none
  |_,_=>none):=rfl
theorem zAx (env dst ev ob t x ix):aop env dst ev ob (.index t x ix)=(match env.ty t,ev ix with
  |some ty,.pv (.int _ i)=>match ty.kind,ev x with
   |.string,.pv (.str s)=>if 0≤i∧i.toNat<s.length then some ⟨.pv (.int .u8 ((s.getD i.toNat 0).toNat:Int)),[]⟩ else none
   |.array n,.agg cs=>if 0≤i∧i.toNat<n∧i.toNat<cs.length∧ty.kKind≠.other∧ty.eSize=1 then some ⟨cs.getD i.toNat .junk,[]⟩ else none
   |_,_=>none
  |_,_=>none):=rfl
theorem zAy (env dst ev ob x k):aop env dst ev ob (.extract x k)=(match ev x with
  |.tup vs=>match vs[k]? with
   |some v=>some ⟨v,[]⟩
   |none=>none
  |_=>none):=rfl
theorem zAz (env dst ev ob t x lo hi mx):aop env dst ev ob (.slice t x lo hi mx)=(match env.ty t,mx with
  |some ty,none=>
   match ty.kind,ev x with
   |.string,.pv (.str s)=>match zcH ev lo 0,zcH ev hi s.length with
    |some l,some h=>if 0≤l∧l≤h∧h≤s.length then some ⟨.pv (.str ((s.take h.toNat).drop l.toNat)),[]⟩ else none
    |_,_=>none
   |.slice,.pv (.slice xs)=>match zcH ev lo 0,zcH ev hi xs.length with
    |some l,some h=>if 0≤l∧l≤h∧h≤xs.length∧(l=0∨(xs.getD 0 []).length=ty.eSize)∧0<ty.eSize then some ⟨.pv (.slice ((xs.take h.toNat).drop l.toNat)),[]⟩ else none
    |_,_=>none
   |_,_=>none
  |_,_=>none):=rfl
theorem zAA (env dst ev ob f first cap):aop env dst ev ob (.makeFunc (.func f) first cap)=(if first.size=0 then some ⟨.clo f (cap.toList.map ev),[]⟩ else none):=rfl
theorem zAB (env dst ev ob t x):aop env dst ev ob (.makeInterface t x)=(match env.ty t with
  |some ty=>if ty.kind=.iface then none else match ev x with
   |.agg cs=>match ze2 cs with
    |some ps=>some ⟨.pv (.ifc t true ps),[]⟩
    |none=>none
   |.pv p=>some ⟨.pv (.ifc t false [p]),[]⟩
   |_=>none
  |none=>none):=rfl
theorem zAC (env dst ev ob x z1 t ok):aop env dst ev ob (.typeAssert x z1 t ok)=(match env.ty t,ev x with
  |some ty,.pv (.ifc t' ag cs)=>if ty.kind≠.iface∧t'=t∧ok=true then some ⟨.tup [if ag then .agg (cs.map .pv) else .pv (cs.getD 0 .nilptr),.pv (.bool true)],[]⟩ else none
  |_,_=>none):=rfl
theorem zAD (env dst ev ob t):aop env dst ev ob (.makeMap t none)=(match env.ty t,dst with
  |some ty,some d=>match ty.kind,ob (env.site d) with
   |.map,none=>if env.site d<env.nobj∧ty.kKind≠.other then some ⟨.map (env.site d),[(env.site d,.map ty.kKind [])]⟩ else none
   |_,_=>none
  |_,_=>none):=rfl
theorem zAE (env dst ev ob t len cap):aop env dst ev ob (.makeSlice t len cap)=(match env.ty t,dst with
  |some ty,some d=>match ty.kind,ev len,ev cap with
   |.slice,.pv (.int _ n),.pv (.int _ c)=>match ty.eZV,ob (env.site d) with
    |some z,none=>match ze2 (zf3 z).cells with
     |some ps=>if env.site d<env.nobj∧0≤n∧n=c∧n * ty.eBytes≤140737488355328∧0<ty.eBytes∧0<ty.eSize∧ps.length=ty.eSize then
       some ⟨.row (env.site d) n.toNat,[(env.site d,.row ty.eSize (List.replicate n.toNat ps))]⟩ else none
     |none=>none
    |_,_=>none
   |_,_,_=>none
  |_,_=>none):=rfl
theorem zAF (env dst ev ob t x k ok):aop env dst ev ob (.lookup t x k ok)=(match env.ty t,ev x,ev k with
  |some ty,.map id,.pv key=>match ty.kind,ob id,ty.eZV with
   |.map,some (.map kd es),some z=>if kd=ty.kKind∧zc4 kd key=true then
     some ⟨if ok then .tup [zf3 ((zfV key es).getD z),.pv (.bool (zfV key es).isSome)] else zf3 ((zfV key es).getD z),[]⟩ else none
   |_,_,_=>none
  |_,_,_=>none):=rfl
theorem zAG (env dst ev ob t m k x):aop env dst ev ob (.mapUpdate t m k x)=(match env.ty t,ev m,ev k,zud (ev x) with
  |some ty,.map id,.pv key,some v=>match ty.kind,ob id with
   |.map,some (.map kd es)=>if kd=ty.kKind∧zc4 kd key=true then some ⟨.junk,[(id,.map kd (zqc key v es))]⟩ else none
   |_,_=>none
  |_,_,_,_=>none):=rfl
theorem zAH (env dst ev ob args tys):aop env dst ev ob (.call ⟨.builtin .len,args,tys⟩)=(match args.toList,tys.toList with
  |[x],[t]=>match env.ty t with
   |some ty=>match ty.kind,ev x with
    |.string,.pv (.str s)=>some ⟨.pv (.int .i64 s.length),[]⟩
    |.slice,.pv (.slice xs)=>some ⟨.pv (.int .i64 xs.length),[]⟩
    |.slice,.snil=>some ⟨.pv (.int .i64 0),[]⟩
    |.slice,.row _ n=>some ⟨.pv (.int .i64 n),[]⟩
    |.slice,.csl _ n _=>some ⟨.pv (.int .i64 n),[]⟩
    |.array n,_=>some ⟨.pv (.int .i64 n),[]⟩
    |_,_=>none
   |none=>none
  |_,_=>none):=rfl
theorem zAI (env dst ev ob args z1):aop env dst ev ob (.call ⟨.builtin .max,args,z1⟩)=(match args.toList with
  |x::r=>match ev x with
   |.pv p=>(zfT zxp p (r.map ev)).map fun q=>⟨.pv q,[]⟩
   |_=>none
  |[]=>none):=rfl
theorem zAJ (env dst ev ob args z1):aop env dst ev ob (.call ⟨.builtin .min,args,z1⟩)=(match args.toList with
  |x::r=>match ev x with
   |.pv p=>(zfT zxq p (r.map ev)).map fun q=>⟨.pv q,[]⟩
   |_=>none
  |[]=>none):=rfl
theorem zAK (env dst ev ob args tys):aop env dst ev ob (.call ⟨.builtin .append,args,tys⟩)=(match args.toList,tys.toList,dst with
  |[x,y],[t,t'],some d=>match env.ty t,env.ty t',ob (env.site d) with
   |some ty,some ty',none=>match ty.kind,znN ty'.kind,zcD ob (ev y) with
    |.slice,true,some ys=>match ev x with
     |.snil=>if env.site d<env.nobj∧0<ty.eBytes∧0<ty.eSize∧zeS (ys.length) ty.eBytes=true∧(ys.all fun y=>y.length==ty.eSize)=true∧ty.eZero=true then
       some ⟨.row (env.site d) ys.length,[(env.site d,.row ty.eSize ys)]⟩ else none
     |.row id n=>match ob id with
      |some (.row sz xs)=>if env.site d<env.nobj∧env.site d≠id∧0<ty.eBytes∧xs.length=n∧sz=ty.eSize∧0<sz∧zeS (xs.length+ys.length) ty.eBytes=true∧(ys.all fun y=>y.length==sz)=true∧ty.eZero=true then
        some ⟨.row (env.site d) (n+ys.length),[(id,.dead),(env.site d,.row sz (xs++ys))]⟩ else none
      |_=>none
     |.pv (.xsl xs)=>if 0<ty.eBytes∧0<ys.length∧0<ty.eSize∧zeS (xs.length+ys.length) ty.eBytes=true∧(ys.all fun y=>y.length==ty.eSize)=true∧ty.eZero=true∧(xs.all fun y=>y.length==ty.eSize)=true then
       some ⟨.pv (.slice (xs++ys)),[]⟩ else none
     |_=>none
    |_,_,_=>none
   |_,_,_=>none
  |_,_,_=>none):=rfl
theorem zDD (env dst ev t):zbv env dst ev (.alloc t)=(match dst with
  |some d=>match env.ty t with
   |some ty=>match ty.bld with
    |some _=>[env.site d,env.site d+1]
    |none=>[env.site d]
   |none=>[env.site d]
  |none=>[]):=rfl
theorem zDE (env dst ev z1 z2):zbv env dst ev (.box z1 z2)=(match dst with|some d=>[env.site d]|none=>[]):=rfl
theorem zDF (env dst ev t z1 parts):zbv env dst ev (.buildSlice t z1 parts)=(match env.ty t with
  |some ty=>match zgu ty.eSize 0 (parts.toList.map fun q=>(q.1,ev q.2)) with
   |some _=>[]
   |none=>match dst with|some d=>[env.site d]|none=>[]
  |none=>[]):=rfl
theorem zDG (env dst ev z1 p):zbv env dst ev (.load z1 p)=(match ev p with|.ref id _=>[id]|.eref id _ _ _=>[id]|_=>[]):=rfl
theorem zDH (env dst ev z1 p z2):zbv env dst ev (.store z1 p z2)=(match ev p with|.ref id _=>[id]|.eref id _ _ _=>[id]|_=>[]):=rfl
theorem zDI (env dst ev z1 x z2):zbv env dst ev (.indexAddr z1 x z2)=(match ev x with|.row id _=>[id]|_=>[]):=rfl
theorem zDJ (env dst ev z1 z2 x):zbv env dst ev (.convert z1 z2 x)=(match ev x with|.row id _=>[id]|_=>[]):=rfl
theorem zDK (env dst ev z1):zbv env dst ev (.makeMap z1 none)=(match dst with|some d=>[env.site d]|none=>[]):=rfl
theorem zDL (env dst ev z1 z2 z3):zbv env dst ev (.makeSlice z1 z2 z3)=(match dst with|some d=>[env.site d]|none=>[]):=rfl
theorem zAL (env dst ev z1 x z2 z3):zbv env dst ev (.lookup z1 x z2 z3)=(match ev x with|.map id=>[id]|_=>[]):=rfl
theorem zAM (env dst ev z1 m z2 z3):zbv env dst ev (.mapUpdate z1 m z2 z3)=(match ev m with|.map id=>[id]|_=>[]):=rfl
theorem zAN (env dst ev args z1):zbv env dst ev (.call ⟨.builtin .append,args,z1⟩)=(match args.toList with
  |[x,y]=>(match dst with|some d=>[env.site d]|none=>[])++(match ev x with|.row id _=>[id]|_=>[])++(match ev y with|.row id _=>[id]|_=>[])
  |_=>[]):=rfl
theorem zAO (env dst ev x):zbv env dst ev (.move x)=[]:=rfl
theorem zAP (env dst ev x):zbv env dst ev (.assign x)=[]:=rfl
theorem zAQ (env dst ev c a b):zbv env dst ev (.pick c a b)=[]:=rfl
theorem zAR (env dst ev t parts):zbv env dst ev (.build t parts)=[]:=rfl
theorem zAS (env dst ev x):zbv env dst ev (.nilCheck x)=[]:=rfl
theorem zAT (env dst ev op t x y z1):zbv env dst ev (.binOp op t x y z1)=[]:=rfl
theorem zAU (env dst ev op z1 x):zbv env dst ev (.unOp op z1 x)=[]:=rfl
theorem zAV (env dst ev s x k):zbv env dst ev (.fieldAddr s x k)=[]:=rfl
theorem zAW (env dst ev t x ix):zbv env dst ev (.index t x ix)=[]:=rfl
theorem zAX (env dst ev x k):zbv env dst ev (.extract x k)=[]:=rfl
theorem zAY (env dst ev t x lo hi mx):zbv env dst ev (.slice t x lo hi mx)=[]:=rfl
theorem zAZ (env dst ev f first cap):zbv env dst ev (.makeFunc (.func f) first cap)=[]:=rfl
theorem zA0 (env dst ev t x):zbv env dst ev (.makeInterface t x)=[]:=rfl
theorem zA1 (env dst ev x z1 t ok):zbv env dst ev (.typeAssert x z1 t ok)=[]:=rfl
theorem zA2 (env dst ev args tys):zbv env dst ev (.call ⟨.builtin .len,args,tys⟩)=[]:=rfl
theorem zA3 (env dst ev args z1):zbv env dst ev (.call ⟨.builtin .max,args,z1⟩)=[]:=rfl
theorem zA4 (env dst ev args z1):zbv env dst ev (.call ⟨.builtin .min,args,z1⟩)=[]:=rfl
theorem zGB (K tg gp dd x rest acc σ):VG P env K tg (some gp) dd (.move x) rest acc σ=VX P env K tg gp (aop env dd (zah env σ) σ.obj (.move x)) (zbv env dd (zah env σ) (.move x)) dd rest acc σ:=zcP _ _ _ _ _ ⟨rfl,rfl⟩ _ _ _
theorem zGC (K tg gp dd x rest acc σ):VG P env K tg (some gp) dd (.assign x) rest acc σ=VX P env K tg gp (aop env dd (zah env σ) σ.obj (.assign x)) (zbv env dd (zah env σ) (.assign x)) dd rest acc σ:=zcP _ _ _ _ _ ⟨rfl,rfl⟩ _ _ _
theorem zGD (K tg gp dd c a b rest acc σ):VG P env K tg (some gp) dd (.pick c a b) rest acc σ=VX P env K tg gp (aop env dd (zah env σ) σ.obj (.pick c a b)) (zbv env dd (zah env σ) (.pick c a b)) dd rest acc σ:=zcP _ _ _ _ _ ⟨rfl,rfl⟩ _ _ _
theorem zGE (K tg gp dd t rest acc σ):VG P env K tg (some gp) dd (.alloc t) rest acc σ=VX P env K tg gp (aop env dd (zah env σ) σ.obj (.alloc t)) (zbv env dd (zah env σ) (.alloc t)) dd rest acc σ:=zcP _ _ _ _ _ ⟨rfl,rfl⟩ _ _ _
theorem zGF (K tg gp dd z1 x rest acc σ):VG P env K tg (some gp) dd (.box z1 x) rest acc σ=VX P env K tg gp (aop env dd (zah env σ) σ.obj (.box z1 x)) (zbv env dd (zah env σ) (.box z1 x)) dd rest acc σ:=zcP _ _ _ _ _ ⟨rfl,rfl⟩ _ _ _
theorem zGG (K tg gp dd t parts rest acc σ):VG P env K tg (some gp) dd (.build t parts) rest acc σ=VX P env K tg gp (aop env dd (zah env σ) σ.obj (.build t parts)) (zbv env dd (zah env σ) (.build t parts)) dd rest acc σ:=zcP _ _ _ _ _ ⟨rfl,rfl⟩ _ _ _
theorem zGH (K tg gp dd t len parts rest acc σ):VG P env K tg (some gp) dd (.buildSlice t len parts) rest acc σ=VX P env K tg gp (aop env dd (zah env σ) σ.obj (.buildSlice t len parts)) (zbv env dd (zah env σ) (.buildSlice t len parts)) dd rest acc σ:=zcP _ _ _ _ _ ⟨rfl,rfl⟩ _ _ _
theorem zGI (K tg gp dd t p rest acc σ):VG P env K tg (some gp) dd (.load t p) rest acc σ=VX P env K tg gp (aop env dd (zah env σ) σ.obj (.load t p)) (zbv env dd (zah env σ) (.load t p)) dd rest acc σ:=zcP _ _ _ _ _ ⟨rfl,rfl⟩ _ _ _
theorem zGJ (K tg gp dd t p x rest acc σ):VG P env K tg (some gp) dd (.store t p x) rest acc σ=VX P env K tg gp (aop env dd (zah env σ) σ.obj (.store t p x)) (zbv env dd (zah env σ) (.store t p x)) dd rest acc σ:=zcP _ _ _ _ _ ⟨rfl,rfl⟩ _ _ _
theorem zDM (K tg gp dd x rest acc σ):VG P env K tg (some gp) dd (.nilCheck x) rest acc σ=VX P env K tg gp (aop env dd (zah env σ) σ.obj (.nilCheck x)) (zbv env dd (zah env σ) (.nilCheck x)) dd rest acc σ:=zcP _ _ _ _ _ ⟨rfl,rfl⟩ _ _ _
theorem zDN (K tg gp dd op t x y z1 rest acc σ):VG P env K tg (some gp) dd (.binOp op t x y z1) rest acc σ=VX P env K tg gp (aop env dd (zah env σ) σ.obj (.binOp op t x y z1)) (zbv env dd (zah env σ) (.binOp op t x y z1)) dd rest acc σ:=zcP _ _ _ _ _ ⟨rfl,rfl⟩ _ _ _
theorem zDO (K tg gp dd op z1 x rest acc σ):VG P env K tg (some gp) dd (.unOp op z1 x) rest acc σ=VX P env K tg gp (aop env dd (zah env σ) σ.obj (.unOp op z1 x)) (zbv env dd (zah env σ) (.unOp op z1 x)) dd rest acc σ:=zcP _ _ _ _ _ ⟨rfl,rfl⟩ _ _ _
theorem zDP (K tg gp dd st dt x rest acc σ):VG P env K tg (some gp) dd (.convert st dt x) rest acc σ=VX P env K tg gp (aop env dd (zah env σ) σ.obj (.convert st dt x)) (zbv env dd (zah env σ) (.convert st dt x)) dd rest acc σ:=zcP _ _ _ _ _ ⟨rfl,rfl⟩ _ _ _
theorem zDQ (K tg gp dd s x k rest acc σ):VG P env K tg (some gp) dd (.fieldAddr s x k) rest acc σ=VX P env K tg gp (aop env dd (zah env σ) σ.obj (.fieldAddr s x k)) (zbv env dd (zah env σ) (.fieldAddr s x k)) dd rest acc σ:=zcP _ _ _ _ _ ⟨rfl,rfl⟩ _ _ _
theorem zDR (K tg gp dd t x ix rest acc σ):VG P env K tg (some gp) dd (.indexAddr t x ix) rest acc σ=VX P env K tg gp (aop env dd (zah env σ) σ.obj (.indexAddr t x ix)) (zbv env dd (zah env σ) (.indexAddr t x ix)) dd rest acc σ:=zcP _ _ _ _ _ ⟨rfl,rfl⟩ _ _ _
theorem zDS (K tg gp dd t x ix rest acc σ):VG P env K tg (some gp) dd (.index t x ix) rest acc σ=VX P env K tg gp (aop env dd (zah env σ) σ.obj (.index t x ix)) (zbv env dd (zah env σ) (.index t x ix)) dd rest acc σ:=zcP _ _ _ _ _ ⟨rfl,rfl⟩ _ _ _
theorem zDT (K tg gp dd x k rest acc σ):VG P env K tg (some gp) dd (.extract x k) rest acc σ=VX P env K tg gp (aop env dd (zah env σ) σ.obj (.extract x k)) (zbv env dd (zah env σ) (.extract x k)) dd rest acc σ:=zcP _ _ _ _ _ ⟨rfl,rfl⟩ _ _ _
theorem zDU (K tg gp dd t x lo hi mx rest acc σ):VG P env K tg (some gp) dd (.slice t x lo hi mx) rest acc σ=VX P env K tg gp (aop env dd (zah env σ) σ.obj (.slice t x lo hi mx)) (zbv env dd (zah env σ) (.slice t x lo hi mx)) dd rest acc σ:=zcP _ _ _ _ _ ⟨rfl,rfl⟩ _ _ _
theorem zDV (K tg gp dd f first cap rest acc σ):VG P env K tg (some gp) dd (.makeFunc (.func f) first cap) rest acc σ=VX P env K tg gp (aop env dd (zah env σ) σ.obj (.makeFunc (.func f) first cap)) (zbv env dd (zah env σ) (.makeFunc (.func f) first cap)) dd rest acc σ:=zcP _ _ _ _ _ ⟨rfl,rfl⟩ _ _ _
theorem zDW (K tg gp dd t x rest acc σ):VG P env K tg (some gp) dd (.makeInterface t x) rest acc σ=VX P env K tg gp (aop env dd (zah env σ) σ.obj (.makeInterface t x)) (zbv env dd (zah env σ) (.makeInterface t x)) dd rest acc σ:=zcP _ _ _ _ _ ⟨rfl,rfl⟩ _ _ _
theorem zDX (K tg gp dd x z1 t ok rest acc σ):VG P env K tg (some gp) dd (.typeAssert x z1 t ok) rest acc σ=VX P env K tg gp (aop env dd (zah env σ) σ.obj (.typeAssert x z1 t ok)) (zbv env dd (zah env σ) (.typeAssert x z1 t ok)) dd rest acc σ:=zcP _ _ _ _ _ ⟨rfl,rfl⟩ _ _ _
theorem zDY (K tg gp dd t rest acc σ):VG P env K tg (some gp) dd (.makeMap t none) rest acc σ=VX P env K tg gp (aop env dd (zah env σ) σ.obj (.makeMap t none)) (zbv env dd (zah env σ) (.makeMap t none)) dd rest acc σ:=zcP _ _ _ _ _ ⟨rfl,rfl⟩ _ _ _
theorem zDZ (K tg gp dd t len cap rest acc σ):VG P env K tg (some gp) dd (.makeSlice t len cap) rest acc σ=VX P env K tg gp (aop env dd (zah env σ) σ.obj (.makeSlice t len cap)) (zbv env dd (zah env σ) (.makeSlice t len cap)) dd rest acc σ:=zcP _ _ _ _ _ ⟨rfl,rfl⟩ _ _ _
theorem zD0 (K tg gp dd t x k ok rest acc σ):VG P env K tg (some gp) dd (.lookup t x k ok) rest acc σ=VX P env K tg gp (aop env dd (zah env σ) σ.obj (.lookup t x k ok)) (zbv env dd (zah env σ) (.lookup t x k ok)) dd rest acc σ:=zcP _ _ _ _ _ ⟨rfl,rfl⟩ _ _ _
theorem zD1 (K tg gp dd t m k x rest acc σ):VG P env K tg (some gp) dd (.mapUpdate t m k x) rest acc σ=VX P env K tg gp (aop env dd (zah env σ) σ.obj (.mapUpdate t m k x)) (zbv env dd (zah env σ) (.mapUpdate t m k x)) dd rest acc σ:=zcP _ _ _ _ _ ⟨rfl,rfl⟩ _ _ _
theorem zD2 (K tg gp dd args tys rest acc σ):VG P env K tg (some gp) dd (.call ⟨.builtin .len,args,tys⟩) rest acc σ=VX P env K tg gp (aop env dd (zah env σ) σ.obj (.call ⟨.builtin .len,args,tys⟩)) (zbv env dd (zah env σ) (.call ⟨.builtin .len,args,tys⟩)) dd rest acc σ:=zcP _ _ _ _ _ ⟨rfl,rfl⟩ _ _ _
theorem zD3 (K tg gp dd args z1 rest acc σ):VG P env K tg (some gp) dd (.call ⟨.builtin .max,args,z1⟩) rest acc σ=VX P env K tg gp (aop env dd (zah env σ) σ.obj (.call ⟨.builtin .max,args,z1⟩)) (zbv env dd (zah env σ) (.call ⟨.builtin .max,args,z1⟩)) dd rest acc σ:=zcP _ _ _ _ _ ⟨rfl,rfl⟩ _ _ _
theorem zD4 (K tg gp dd args z1 rest acc σ):VG P env K tg (some gp) dd (.call ⟨.builtin .min,args,z1⟩) rest acc σ=VX P env K tg gp (aop env dd (zah env σ) σ.obj (.call ⟨.builtin .min,args,z1⟩)) (zbv env dd (zah env σ) (.call ⟨.builtin .min,args,z1⟩)) dd rest acc σ:=zcP _ _ _ _ _ ⟨rfl,rfl⟩ _ _ _
theorem zD5 (K tg gp dd args tys rest acc σ):VG P env K tg (some gp) dd (.call ⟨.builtin .append,args,tys⟩) rest acc σ=VX P env K tg gp (aop env dd (zah env σ) σ.obj (.call ⟨.builtin .append,args,tys⟩)) (zbv env dd (zah env σ) (.call ⟨.builtin .append,args,tys⟩)) dd rest acc σ:=zcP _ _ _ _ _ ⟨rfl,rfl⟩ _ _ _
theorem zD6:∀ (n:Nat) (l:List AVal),jl n l=List.replicate n .junk++l:=fun _ _=>rfl
theorem zuP:∀ (t:Nat) (k:IntKind) (n:Int),zue (.pv (.ifc t true [.int k n]))=some (.iface t (.agg #[.int k n])):=fun _ _ _=>rfl
theorem zuQ:∀ (t:Nat),zue (.pv (.ifc t true []))=some (.iface t (.agg #[])):=fun _=>rfl
theorem zr1:∀ (f:Nat) (cs:List AVal),AVal.cells (.clo f cs)=[.clo f cs]:=fun _ _=>rfl
theorem zxW:∀ (f:Nat) (cs:List AVal),AVal.isCell (.clo f cs)=true:=fun _ _=>rfl
theorem zxX:∀ (t:Nat) (ag:Bool) (cs:List PVal),zwU .eql (some .iface) (.ifc t ag cs)=some (.bool false):=fun _ _ _=>rfl
theorem zxY:∀ (t:Nat) (ag:Bool) (cs:List PVal),zwU .neq (some .iface) (.ifc t ag cs)=some (.bool true):=fun _ _ _=>rfl
theorem zr2:∀ (sl:List AVal) (ob:List (Option AObj)) (i:Nat),zah env ⟨sl,ob⟩ (.tmp i)=sl.getD i .junk:=fun _ _ _=>rfl
theorem zr3:∀ (k:IntKind) (n:Int),zah env σ (.const (.int k n))=.pv (.int k n):=fun _ _=>rfl
theorem zqt:∀ (b:Bool),zah env σ (.const (.bool b))=.pv (.bool b):=fun _=>rfl
theorem zr4:∀ (l:List UInt8),zah env σ (.const (.string ⟨l.toArray⟩))=.pv (.str l):=fun _=>rfl
theorem zqu:zah env σ (.const (.slice none 0 0))=.snil:=rfl
theorem zqv:zah env σ (.const (.pointer none))=.pv .nilptr:=rfl
theorem zqw:zah env σ (.const (.map none))=.pv .nilmap:=rfl
theorem zr5:∀ (l:List Value),zah env σ (.const (.agg l.toArray))=.agg (l.map za4):=fun _=>rfl
theorem zuR:∀ (k:IntKind) (n:Int),za4 (.int k n)=.pv (.int k n):=fun _ _=>rfl
theorem zr6:∀ (b:Bool),za4 (.bool b)=.pv (.bool b):=fun _=>rfl
theorem zuS:∀ (l:List UInt8),za4 (.string ⟨l.toArray⟩)=.pv (.str l):=fun _=>rfl
theorem zr7:za4 (.slice none 0 0)=.snil:=rfl
theorem zr8:za4 (.pointer none)=.pv .nilptr:=rfl
theorem zr9:za4 (.map none)=.pv .nilmap:=rfl
theorem zqx:∀ (b:Nat),zah env σ (.global b)=(match env.gl b with|some cs=>.pv (.ptr cs)|none=>.junk):=fun _=>rfl
theorem zxZ:∀ (sl:List AVal) (ob:List (Option AObj)) (i:Nat),St.obj ⟨sl,ob⟩ i=ob.getD i none:=fun _ _ _=>rfl
theorem zuT:∀ (sl:List AVal) (ob:List (Option AObj)) (i:Nat),St.slot ⟨sl,ob⟩ i=sl.getD i .junk:=fun _ _ _=>rfl
theorem zuU:∀ (σ:St) (d:Nat) (v:AVal),σ.app (some d) ⟨v,[]⟩=⟨σ.slots.set d v,σ.objs⟩:=fun _ _ _=>rfl
theorem zA5:∀ (σ:St) (v:AVal),σ.app none ⟨v,[]⟩=⟨σ.slots,σ.objs⟩:=fun _ _=>rfl
theorem zx0:∀ (σ:St) (d:Nat) (v:AVal) (q:Nat × AObj) (r:List (Nat × AObj)),σ.app (some d) ⟨v,q::r⟩=(⟨σ.slots,σ.objs.set q.1 (some q.2)⟩:St).app (some d) ⟨v,r⟩:=fun _ _ _ _ _=>rfl
theorem zuV:∀ (σ:St) (v:AVal) (q:Nat × AObj) (r:List (Nat × AObj)),σ.app none ⟨v,q::r⟩=(⟨σ.slots,σ.objs.set q.1 (some q.2)⟩:St).app none ⟨v,r⟩:=fun _ _ _ _=>rfl
theorem zx1:gd σ none=some True:=rfl
theorem zx2:∀ (i:Nat) (w:Bool),gd σ (some (some (i,w)))=gw (σ.slot i) w:=fun _ _=>rfl
theorem zsa:∀ (cs:List AVal),AVal.cells (.agg cs)=cs:=fun _=>rfl
theorem zuW:∀ (p:PVal),AVal.cells (.pv p)=[.pv p]:=fun _=>rfl
theorem zqy:AVal.cells .snil=[.snil]:=rfl
theorem zsb:∀ (i o:Nat),AVal.cells (.ref i o)=[.ref i o]:=fun _ _=>rfl
theorem zsc:∀ (i o:Nat),AVal.cells (.row i o)=[.row i o]:=fun _ _=>rfl
theorem zsd:∀ (i:Nat),AVal.cells (.map i)=[.map i]:=fun _=>rfl
theorem zA6:∀ (p:PVal),AVal.isCell (.pv p)=true:=fun _=>rfl
theorem zuX:AVal.isCell .snil=true:=rfl
theorem zx3:∀ (i o:Nat),AVal.isCell (.ref i o)=true:=fun _ _=>rfl
theorem zx4:∀ (i o:Nat),AVal.isCell (.row i o)=true:=fun _ _=>rfl
theorem zx5:∀ (i:Nat),AVal.isCell (.map i)=true:=fun _=>rfl
theorem zuY:ze2 []=some []:=rfl
theorem zx6:∀ (p:PVal) (r:List AVal),ze2 (.pv p::r)=(ze2 r).map (p::·):=fun p r=>by simp only [ze2,AVal.toP];cases ze2 r<;>rfl
theorem zse:∀ (r:List AVal),ze2 (.snil::r)=(ze2 r).map (.slice []::·):=fun r=>by simp only [ze2,AVal.toP];cases ze2 r<;>rfl
theorem zuZ:∀ (i o:Nat) (r:List AVal),ze2 (.ref i o::r)=none:=fun _ _ r=>by simp only [ze2,AVal.toP]
theorem zsf:∀ (i o j z:Nat) (r:List AVal),ze2 (.eref i o j z::r)=none:=fun _ _ _ _ r=>by simp only [ze2,AVal.toP]
theorem zqz:∀ (sz k:Nat),zgv sz k []=some []:=fun _ _=>rfl
theorem zn8:∀ (sz k i:Nat) (v:AVal) (r:List (Nat × AVal)),zgv sz k ((i,v)::r)=(if i=k∧v.cells.length=sz∧v.cells.all AVal.isCell=true then (zgv sz (k+1) r).map (v.cells++·) else none):=fun _ _ _ _ _=>rfl
theorem zsg:∀ (sz k:Nat),zgu sz k []=some []:=fun _ _=>rfl
theorem zqA:∀ (sz k i:Nat) (v:AVal) (r:List (Nat × AVal)),zgu sz k ((i,v)::r)=(if i=k∧v.cells.length=sz then (match ze2 v.cells,zgu sz (k+1) r with|some ps,some r=>some (ps::r)|_,_=>none) else none):=fun _ _ _ _ _=>rfl
theorem zsh:∀ (pl:Nat→Option (Nat × Nat)) (cs:List AVal),zhi pl cs []=some cs:=fun _ _=>rfl
theorem zqB:∀ (pl:Nat→Option (Nat × Nat)) (cs:List AVal) (i:Nat) (v:AVal) (r:List (Nat × AVal)),zhi pl cs ((i,v)::r)=(match pl i with|none=>none|some (off,size)=>if v.cells.length=size∧off+size≤cs.length∧v.cells.all AVal.isCell=true then zhi pl (ze5 cs off v.cells) r else none):=fun _ _ _ _ _=>rfl
theorem zu0:∀ (cs:List AVal) (off:Nat) (v:List AVal),ze5 cs off v=cs.take off++v++cs.drop (off+v.length):=fun _ _ _=>rfl
theorem zu1:∀ (ob:Nat→Option AObj),zcD ob .snil=some []:=fun _=>rfl
theorem zA7:∀ (ob:Nat→Option AObj) (xs:List (List PVal)),zcD ob (.pv (.slice xs))=some xs:=fun _ _=>rfl
theorem zx7:∀ (ob:Nat→Option AObj) (s:List UInt8),zcD ob (.pv (.str s))=some (s.map zuh):=fun _ _=>rfl
theorem zx8:znN .slice=true:=rfl
theorem zx9:znN .string=true:=rfl
theorem zu2:∀ (s:List UInt8),((s.map zuh).all fun y=>y.length==1)=true:=fun s=>by simp [zuh]
theorem zmG:∀ (s:List UInt8),zdP (s.map zuh)=some (s.map fun c=>(c.toNat:Int)):=fun s=>by induction s with|nil=>rfl|cons c r ih=>simp only [List.map_cons,zuh,zdP] at *;rw [ih];rfl
theorem zsi:∀ (s:List UInt8),zgc (s.map fun c=>(c.toNat:Int))=s:=fun s=>by induction s with|nil=>rfl|cons c r ih=>simp only [zgc,List.map_cons] at *;rw [ih];simp
theorem zya:∀ (ob:Nat→Option AObj) (id n:Nat),zcD ob (.row id n)=(match ob id with|some (.row _ xs)=>if xs.length=n then some xs else none|_=>none):=fun _ _ _=>rfl
theorem zu3:∀ (ev:Operand→AVal) (n:Nat),zcH ev none n=some (n:Int):=fun _ _=>rfl
theorem zu4:∀ (ev:Operand→AVal) (q:Operand) (n:Nat),zcH ev (some q) n=(match ev q with|.pv (.int _ i)=>some i|_=>none):=fun _ _ _=>rfl
theorem zu5:∀ (f:PVal→PVal→Option PVal) (p:PVal),zfT f p []=some p:=fun _ _=>rfl
theorem zsj:∀ (f:PVal→PVal→Option PVal) (p q:PVal) (r:List AVal),zfT f p (.pv q::r)=(match f p q with|some x=>zfT f x r|none=>none):=fun _ _ _ _=>rfl
theorem zA8:∀ (k k2:IntKind) (x y:Int),zxp (.int k x) (.int k2 y)=some (.int k (zgs x y)):=fun _ _ _ _=>rfl
theorem zA9:∀ (k k2:IntKind) (x y:Int),zxq (.int k x) (.int k2 y)=some (.int k (znI x y)):=fun _ _ _ _=>rfl
theorem zu6:∀ (l:List Oper),zlq l []=[]:=fun _=>rfl
theorem zsk:∀ (l:List Oper) (d:Option Nat) (op:Op) (ty:TypeId) (ps:String) (af:Array Edge) (g:Option (Nat × Bool)) (r:List Oper),zlq l (⟨d,op,ty,ps,af,g⟩::r)=⟨d,op,zxw l g⟩::zlq l r:=fun _ _ _ _ _ _ _ _=>rfl
theorem zsl:∀ (l:List Oper),zxw l none=none:=fun _=>rfl
theorem zsm:∀ (l:List Oper) (j:Nat) (w:Bool),zxw l (some (j,w))=some (((l[j]?).bind (·.dst)).map fun t=>(t,w)):=fun _ _ _=>rfl
theorem zu7:zkf env σ []=some []:=rfl
theorem zu8:∀ (i:Nat) (r:List ResultVar),zkf env σ (.tmp i::r)=(zkf env σ r).map (σ.slot i::·):=fun i r=>by simp only [zkf,zhl];cases zkf env σ r<;>rfl
theorem zsn:∀ (i t:Nat) (r:List ResultVar),zkf env σ (.cell i t::r)=(match zhl env σ (.cell i t),zkf env σ r with|some v,some vs=>some (v::vs)|_,_=>none):=fun _ _ _=>rfl
theorem zqC:∀ (i t:Nat),zhl env σ (.cell i t)=(match env.ty t,σ.slot i with|some ty,.ref id off=>(match σ.obj id with|some (.cells cs)=>if off+ty.size≤cs.length∧0<ty.size then some (if ty.agg then .agg ((cs.drop off).take ty.size) else cs.getD off .junk) else none|_=>none)|_,_=>none):=fun _ _=>rfl
theorem zu9:∀ (v:AVal),znY [v]=v:=fun _=>rfl
theorem zva:znY []=.tup []:=rfl
theorem zvb:∀ (a b:AVal) (r:List AVal),znY (a::b::r)=.tup (a::b::r):=fun _ _ _=>rfl
theorem zvc:∀ (cs:List AVal),zud (.agg cs)=(ze2 cs).map fun ps=>(true,ps):=fun _=>rfl
theorem zvd:∀ (i:Nat),ze4 (.tmp i)=false:=fun _=>rfl
theorem zve:∀ (k:IntKind) (n:Int),ze4 (.const (.int k n))=false:=fun _ _=>rfl
theorem zso:∀ (b:Bool),ze4 (.const (.bool b))=false:=fun _=>rfl
theorem zvf:∀ (s:ByteArray),ze4 (.const (.string s))=false:=fun _=>rfl
theorem zvg:ze4 (.const .nilIface)=true:=rfl
theorem zyb:∀ (b:Bool),zwU .eql (some .iface) (.err b)=some (.bool b):=fun _=>rfl
theorem zyc:∀ (b:Bool),zwU .neq (some .iface) (.err b)=some (.bool (!b)):=fun _=>rfl
theorem zqD:zah env σ (.const .nilIface)=.pv (.err true):=rfl
theorem zsp:za4 .nilIface=.pv (.err true):=rfl
theorem zvh:zdP []=some []:=rfl
theorem zsq:∀ (n:Int) (r:List (List PVal)),zdP ([.int .u8 n]::r)=(zdP r).map (n::·):=fun _ _=>rfl
theorem zBa:∀ (l:List PVal),zf3 (true,l)=.agg (l.map .pv):=fun _=>rfl
theorem zBb:∀ (l:List PVal),zf3 (false,l)=.pv (l.getD 0 .nilptr):=fun _=>rfl
theorem zyd:∀ (p:PVal),zud (.pv p)=some (false,[p]):=fun _=>rfl
theorem zvi:znH [] [] []=some true:=rfl
theorem zsr:∀ (k:Kd) (ks:List Kd) (c d:AVal) (cs ds:List AVal),znH (k::ks) (c::cs) (d::ds)=(match zwT k c d,znH ks cs ds with|some a,some b=>some (a&&b)|_,_=>none):=fun _ _ _ _ _ _=>rfl
theorem zvj:∀ (k:IntKind) (a b:Int),zwT (.int k) (.pv (.int k a)) (.pv (.int k b))=some (a==b):=fun _ _ _=>by simp [zwT]
theorem zss:∀ (a b:Bool),zwT .bool (.pv (.bool a)) (.pv (.bool b))=some (a==b):=fun _ _=>rfl
theorem zvk:∀ (a b:List UInt8),zwT .string (.pv (.str a)) (.pv (.str b))=some (a==b):=fun _ _=>rfl
theorem zye:∀ (ks:List Kd) (cs ds:List AVal),zzN .eql (some ks) cs ds=znH ks cs ds:=fun _ _ _=>rfl
theorem zyf:∀ (ks:List Kd) (cs ds:List AVal),zzN .neq (some ks) cs ds=(znH ks cs ds).map (!·):=fun _ _ _=>rfl
theorem zBc:∀ (s:Nat) (xs:List (List PVal)),exSl s xs=zz2 (s==999) xs:=fun _ _=>rfl
theorem zBd:∀ (x:List PVal) (r:List (List PVal)),zz2 true (x::r)=.xsl (x::r):=fun _ _=>rfl
theorem zBe:∀ (xs:List (List PVal)),zz2 false xs=.slice xs:=fun xs=>rfl
theorem zBf:∀ (b:Bool),zz2 b []=.slice []:=fun b=>by cases b<;>rfl
theorem zBg:∀ (d:Nat) (f:Nat→Nat),(some d).elim 0 f=f d:=fun _ _=>rfl
theorem zBh:∀ (f:Nat→Nat),(none:Option Nat).elim 0 f=0:=fun _=>rfl
theorem zBi:∀ (kd:Option Kd) (k:IntKind) (a b:Int),zgb .add kd (.int k a) (.int k b)=some (.int k (k.wrap (a+b))):=fun _ _ _ _=>by simp [zgb]
theorem zBj:∀ (kd:Option Kd) (k:IntKind) (a b:Int),zgb .sub kd (.int k a) (.int k b)=some (.int k (k.wrap (a - b))):=fun _ _ _ _=>by simp [zgb]
theorem zBk:∀ (kd:Option Kd) (k:IntKind) (a b:Int),zgb .mul kd (.int k a) (.int k b)=some (.int k (k.wrap (a * b))):=fun _ _ _ _=>by simp [zgb]
theorem zBl:∀ (kd:Option Kd) (k:IntKind) (a b:Int),zgb .quo kd (.int k a) (.int k b)=if b=0 then none else some (.int k (k.wrap (a.tdiv b))):=fun _ _ _ _=>by simp [zgb]
theorem zBm:∀ (kd:Option Kd) (k:IntKind) (a b:Int),zgb .rem kd (.int k a) (.int k b)=if b=0 then none else some (.int k (a.tmod b)):=fun _ _ _ _=>by simp [zgb]
theorem zBn:∀ (kd:Option Kd) (k:IntKind) (a b:Int),zgb .eql kd (.int k a) (.int k b)=some (.bool (a==b)):=fun _ _ _ _=>by simp [zgb]
theorem zBo:∀ (kd:Option Kd) (k:IntKind) (a b:Int),zgb .neq kd (.int k a) (.int k b)=some (.bool (a != b)):=fun _ _ _ _=>by simp [zgb]
theorem zBp:∀ (kd:Option Kd) (k:IntKind) (a b:Int),zgb .lss kd (.int k a) (.int k b)=some (.bool (decide (a<b))):=fun _ _ _ _=>by simp [zgb]
theorem zBq:∀ (kd:Option Kd) (k:IntKind) (a b:Int),zgb .leq kd (.int k a) (.int k b)=some (.bool (decide (a≤b))):=fun _ _ _ _=>by simp [zgb]
theorem zyg:∀ (kd:Option Kd) (k:IntKind) (a b:Int),zgb .gtr kd (.int k a) (.int k b)=some (.bool (decide (a > b))):=fun _ _ _ _=>by simp [zgb]
theorem zyh:∀ (kd:Option Kd) (k:IntKind) (a b:Int),zgb .geq kd (.int k a) (.int k b)=some (.bool (decide (a≥b))):=fun _ _ _ _=>by simp [zgb]
theorem zyi:∀ (kd:Option Kd) (a b:List UInt8),zgb .eql kd (.str a) (.str b)=some (.bool (a==b)):=fun _ _ _=>rfl
theorem zyj:∀ (kd:Option Kd) (a b:List UInt8),zgb .neq kd (.str a) (.str b)=some (.bool (!(a==b))):=fun _ _ _=>rfl
theorem zyk:∀ (kd:Option Kd) (a b:List UInt8),zgb .add kd (.str a) (.str b)=if a.length+b.length≤4611686018427387904 then some (.str (a++b)) else none:=fun _ _ _=>rfl
theorem zyl:∀ (a b:Bool),zgb .eql (some .bool) (.bool a) (.bool b)=some (.bool (a==b)):=fun _ _=>rfl
theorem zym:∀ (a b:Bool),zgb .neq (some .bool) (.bool a) (.bool b)=some (.bool (!(a==b))):=fun _ _=>rfl
theorem zGK:∀ {α:Type} (a0:α) (l:List α) (x:α),(a0::l).getD 0 x=a0:=fun _ _ _=>rfl
theorem zGL:∀ {α:Type} (a0:α) (l:List α) (x:α),(a0::l).set 0 x=x::l:=fun _ _ _=>rfl
theorem zGM:∀ {α:Type} (a0 a1:α) (l:List α) (x:α),(a0::a1::l).getD 1 x=a1:=fun _ _ _ _=>rfl
theorem zGN:∀ {α:Type} (a0 a1:α) (l:List α) (x:α),(a0::a1::l).set 1 x=a0::x::l:=fun _ _ _ _=>rfl
theorem zGO:∀ {α:Type} (a0 a1 a2:α) (l:List α) (x:α),(a0::a1::a2::l).getD 2 x=a2:=fun _ _ _ _ _=>rfl
theorem zGP:∀ {α:Type} (a0 a1 a2:α) (l:List α) (x:α),(a0::a1::a2::l).set 2 x=a0::a1::x::l:=fun _ _ _ _ _=>rfl
theorem zGQ:∀ {α:Type} (a0 a1 a2 a3:α) (l:List α) (x:α),(a0::a1::a2::a3::l).getD 3 x=a3:=fun _ _ _ _ _ _=>rfl
theorem zGR:∀ {α:Type} (a0 a1 a2 a3:α) (l:List α) (x:α),(a0::a1::a2::a3::l).set 3 x=a0::a1::a2::x::l:=fun _ _ _ _ _ _=>rfl
theorem zGS:∀ {α:Type} (a0 a1 a2 a3 a4:α) (l:List α) (x:α),(a0::a1::a2::a3::a4::l).getD 4 x=a4:=fun _ _ _ _ _ _ _=>rfl
theorem zGT:∀ {α:Type} (a0 a1 a2 a3 a4:α) (l:List α) (x:α),(a0::a1::a2::a3::a4::l).set 4 x=a0::a1::a2::a3::x::l:=fun _ _ _ _ _ _ _=>rfl
theorem zGU:∀ {α:Type} (a0 a1 a2 a3 a4 a5:α) (l:List α) (x:α),(a0::a1::a2::a3::a4::a5::l).getD 5 x=a5:=fun _ _ _ _ _ _ _ _=>rfl
theorem zGV:∀ {α:Type} (a0 a1 a2 a3 a4 a5:α) (l:List α) (x:α),(a0::a1::a2::a3::a4::a5::l).set 5 x=a0::a1::a2::a3::a4::x::l:=fun _ _ _ _ _ _ _ _=>rfl
theorem zGW:∀ {α:Type} (a0 a1 a2 a3 a4 a5 a6:α) (l:List α) (x:α),(a0::a1::a2::a3::a4::a5::a6::l).getD 6 x=a6:=fun _ _ _ _ _ _ _ _ _=>rfl
theorem zGX:∀ {α:Type} (a0 a1 a2 a3 a4 a5 a6:α) (l:List α) (x:α),(a0::a1::a2::a3::a4::a5::a6::l).set 6 x=a0::a1::a2::a3::a4::a5::x::l:=fun _ _ _ _ _ _ _ _ _=>rfl
theorem zGY:∀ {α:Type} (a0 a1 a2 a3 a4 a5 a6 a7:α) (l:List α) (x:α),(a0::a1::a2::a3::a4::a5::a6::a7::l).getD 7 x=a7:=fun _ _ _ _ _ _ _ _ _ _=>rfl
theorem zGZ:∀ {α:Type} (a0 a1 a2 a3 a4 a5 a6 a7:α) (l:List α) (x:α),(a0::a1::a2::a3::a4::a5::a6::a7::l).set 7 x=a0::a1::a2::a3::a4::a5::a6::x::l:=fun _ _ _ _ _ _ _ _ _ _=>rfl
theorem zG0:∀ {α:Type} (a0 a1 a2 a3 a4 a5 a6 a7:α) (l:List α) (n:Nat) (x:α),(a0::a1::a2::a3::a4::a5::a6::a7::l).getD (n+8) x=l.getD n x:=fun _ _ _ _ _ _ _ _ _ _ _=>rfl
theorem zG1:∀ {α:Type} (a0 a1 a2 a3 a4 a5 a6 a7:α) (l:List α) (n:Nat) (x:α),(a0::a1::a2::a3::a4::a5::a6::a7::l).set (n+8) x=a0::a1::a2::a3::a4::a5::a6::a7::l.set n x:=fun _ _ _ _ _ _ _ _ _ _ _=>rfl
def zG2:=And.intro @zDu<|And.intro @zDv<|And.intro @zDw<|And.intro @zDx<|And.intro @zDy<|And.intro @zDz<|And.intro @zDA<|And.intro @zDB<|And.intro @zDC<|@zAr
def zG3:=And.intro @zAs<|And.intro @zAt<|And.intro @zAu<|And.intro @zAv<|And.intro @zAw<|And.intro @zAx<|And.intro @zAy<|And.intro @zAz<|And.intro @zAA<|@zAB
def zG4:=And.intro @zAC<|And.intro @zAD<|And.intro @zAE<|And.intro @zAF<|And.intro @zAG<|And.intro @zAH<|And.intro @zAI<|And.intro @zAJ<|And.intro @zAK<|@zDD
def zG5:=And.intro @zDE<|And.intro @zDF<|And.intro @zDG<|And.intro @zDH<|And.intro @zDI<|And.intro @zDJ<|And.intro @zDK<|And.intro @zDL<|And.intro @zAL<|@zAM
def zG6:=And.intro @zAN<|And.intro @zAO<|And.intro @zAP<|And.intro @zAQ<|And.intro @zAR<|And.intro @zAS<|And.intro @zAT<|And.intro @zAU<|And.intro @zAV<|@zAW
def zG7:=And.intro @zAX<|And.intro @zAY<|And.intro @zAZ<|And.intro @zA0<|And.intro @zA1<|And.intro @zA2<|And.intro @zA3<|@zA4
def zG8:=And.intro @zGB<|And.intro @zGC<|And.intro @zGD<|And.intro @zGE<|And.intro @zGF<|And.intro @zGG<|And.intro @zGH<|And.intro @zGI<|And.intro @zGJ<|@zDM
def zG9:=And.intro @zDN<|And.intro @zDO<|And.intro @zDP<|And.intro @zDQ<|And.intro @zDR<|And.intro @zDS<|And.intro @zDT<|And.intro @zDU<|And.intro @zDV<|@zDW
def zHa:=And.intro @zDX<|And.intro @zDY<|And.intro @zDZ<|And.intro @zD0<|And.intro @zD1<|And.intro @zD2<|And.intro @zD3<|And.intro @zD4<|@zD5
def zHb:=And.intro @zD6<|And.intro @zuP<|And.intro @zuQ<|And.intro @zr1<|And.intro @zxW<|And.intro @zxX<|And.intro @zxY<|And.intro @zr2<|And.intro @zr3<|@zqt
def zHc:=And.intro @zr4<|And.intro @zqu<|And.intro @zqv<|And.intro @zqw<|And.intro @zr5<|And.intro @zuR<|And.intro @zr6<|And.intro @zuS<|And.intro @zr7<|@zr8
def zHd:=And.intro @zr9<|And.intro @zqx<|And.intro @zxZ<|And.intro @zuT<|And.intro @zuU<|And.intro @zA5<|And.intro @zx0<|And.intro @zuV<|And.intro @zx1<|@zx2
def zHe:=And.intro @zsa<|And.intro @zuW<|And.intro @zqy<|And.intro @zsb<|And.intro @zsc<|And.intro @zsd<|And.intro @zA6<|And.intro @zuX<|And.intro @zx3<|@zx4
def zHf:=And.intro @zx5<|And.intro @zuY<|And.intro @zx6<|And.intro @zse<|And.intro @zuZ<|And.intro @zsf<|And.intro @zqz<|And.intro @zn8<|And.intro @zsg<|@zqA
def zHg:=And.intro @zsh<|And.intro @zqB<|And.intro @zu0<|And.intro @zu1<|And.intro @zA7<|And.intro @zx7<|And.intro @zx8<|And.intro @zx9<|And.intro @zu2<|@zmG
def zHh:=And.intro @zsi<|And.intro @zya<|And.intro @zu3<|And.intro @zu4<|And.intro @zu5<|And.intro @zsj<|And.intro @zA8<|And.intro @zA9<|And.intro @zu6<|@zsk
def zHi:=And.intro @zsl<|And.intro @zsm<|And.intro @zu7<|And.intro @zu8<|And.intro @zsn<|And.intro @zqC<|And.intro @zu9<|And.intro @zva<|And.intro @zvb<|@zvc
def zHj:=And.intro @zvd<|And.intro @zve<|And.intro @zso<|And.intro @zvf<|And.intro @zvg<|And.intro @zyb<|And.intro @zyc<|And.intro @zqD<|And.intro @zsp<|@zvh
def zHk:=And.intro @zsq<|And.intro @zBa<|And.intro @zBb<|And.intro @zyd<|And.intro @zvi<|And.intro @zsr<|And.intro @zvj<|And.intro @zss<|And.intro @zvk<|@zye
def zD7:=And.intro @zyf<|And.intro @zBc<|And.intro @zBd<|And.intro @zBe<|And.intro @zBf<|And.intro @zBg<|And.intro @zBh<|And.intro @zBi<|And.intro @zBj<|@zBk
def zD8:=And.intro @zBl<|And.intro @zBm<|And.intro @zBn<|And.intro @zBo<|And.intro @zBp<|And.intro @zBq<|And.intro @zyg<|And.intro @zyh<|And.intro @zyi<|@zyj
def zD9:=And.intro @zyk<|And.intro @zyl<|And.intro @zym<|And.intro @zGK<|And.intro @zGL<|And.intro @zGM<|And.intro @zGN<|And.intro @zGO<|And.intro @zGP<|@zGQ
def zEa:=And.intro @zGR<|And.intro @zGS<|And.intro @zGT<|And.intro @zGU<|And.intro @zGV<|And.intro @zGW<|And.intro @zGX<|And.intro @zGY<|And.intro @zGZ<|@zG0
def zEb:=@zG1
def zHl:=And.intro @List.map_cons.{0,0}<|And.intro @List.map_nil.{0,0}<|And.intro @List.all_cons.{0}<|And.intro @List.all_nil.{0}<|And.intro @List.take_succ_cons.{0}<|And.intro @List.take_zero.{0}<|And.intro @List.drop_succ_cons.{0}<|And.intro @List.drop_zero.{0}<|And.intro @List.length_cons.{0}<|@List.length_nil.{0}
def zHm:=And.intro @List.length_map.{0,0}<|And.intro @List.nil_append.{0}<|And.intro @List.cons_append.{0}<|And.intro @List.append_nil.{0}<|And.intro @List.getElem?_cons_zero.{0}<|And.intro @List.getElem?_cons_succ.{0}<|And.intro @List.size_toArray.{0}<|And.intro @List.toList_toArray.{0}<|And.intro @Option.bind_some.{0,0}<|@Option.map_some.{0,0}
def zHn:=And.intro @Option.map_none.{0,0}<|And.intro @Option.getD_some.{0}<|And.intro @Bool.and_self<|And.intro @Bool.and_true<|And.intro @Bool.true_and<|And.intro @Bool.not_true<|And.intro @Bool.not_false<|And.intro @Int.toNat_natCast<|And.intro @Nat.zero_add<|@Nat.add_zero
def zHo:=And.intro @Nat.zero_mul<|And.intro @Nat.one_mul<|And.intro @zDp<|And.intro @Int.cast_ofNat_Int<|And.intro @beq_true<|And.intro @beq_false<|And.intro and_self<|And.intro and_true<|And.intro true_and<|true_or
def zHp:=And.intro or_true<|And.intro @if_true.{1}<|And.intro @if_false.{1}<|And.intro @ite_self.{1}<|And.intro Bool.false_eq_true<|And.intro @eq_self.{1}<|And.intro @beq_self_eq_true.{0}<|And.intro Nat.lt_irrefl<|And.intro @ne_eq.{1}<|not_true_eq_false
def zHq:=And.intro not_false_eq_true<|And.intro @decide_true<|And.intro @decide_false<|And.intro Nat.succ_ne_self<|And.intro Int.natCast_nonneg<|And.intro @implies_true.{1}<|And.intro @true_implies<|And.intro @zxx<|And.intro @zut<|@List.replicate_zero.{0}
def zHr:=And.intro @List.replicate_succ.{0}<|And.intro @Bool.true_eq_false<|And.intro @PVal.int.injEq<|And.intro @PVal.bool.injEq<|And.intro @PVal.str.injEq<|@PVal.slice.injEq
def kx:=And.intro @zG2<|And.intro @zG3<|And.intro @zG4<|And.intro @zG5<|And.intro @zG6<|And.intro @zG7<|And.intro @zG8<|And.intro @zG9<|And.intro @zHa<|And.intro @zHb<|And.intro @zHc<|And.intro @zHd<|And.intro @zHe<|And.intro @zHf<|And.intro @zHg<|And.intro @zHh<|And.intro @zHi<|And.intro @zHj<|And.intro @zHk<|And.intro @zD7<|And.intro @zD8<|And.intro @zD9<|And.intro @zEa<|And.intro @zEb<|And.intro @zHl<|And.intro @zHm<|And.intro @zHn<|And.intro @zHo<|And.intro @zHp<|And.intro @zHq<|And.intro @zHr<|And.intro @kw1<|And.intro @kw2<|And.intro @kw5<|@kw6
def ky:=And.intro @kw3<|@kw4
end Go.Abs
namespace Go.Abs
open Go
variable {P:Program} {env:Env} {pin:Nat} {σ:St} {Q:Exit→St→Prop}
section
variable {K:KT} {t:Tg K} {p:Prop} {f:FuncId} {vals cargs:List AVal} {res:AVal} {d:Option Nat} {rest:List COp} {acc:Option Tr}
theorem Ctr.pure (hent:∀ vargs w,(callFunc f vargs).run P w=.ok (.enter f vargs) w) (hac:AC P env.gl f cargs [] res []) (hs:zus vals cargs) (hsc:zaz (zaq []) vals=true) (hres:zaw (zaq []) res=true)
  {K':List Nat→Eff→Prop} {KP:Value→St→Prop} (h:K' [] ⟨res,[]⟩):Ctr P env f vals σ K' KP:=by
 refine .inl ⟨vals,[],[],[],res,[],hac.sub hs,fun o ho=>CallFits.pure ho hent (by rw [zff _ _ hsc]) hsc,?_⟩
 rw [zo5 _ _ hres]
 exact h
theorem CK.cp (hent:∀ vargs w,(callFunc f vargs).run P w=.ok (.enter f vargs) w) (hac:p→AC P env.gl f vals [] res []) (hsc:zaz (zaq []) vals=true) (hres:zaw (zaq []) res=true)
  (h:VL P env K t rest (zbP acc ([],[])) (σ.app d ⟨cw p res,[]⟩)):CK P env K t p f vals d rest acc σ:=
 ⟨fun hp=>Ctr.pure hent (hac hp) (zi2 _) hsc hres (by rw [zi6 hp] at h;exact h),fun hp=>by rw [zo9 hp] at h;exact h⟩
theorem CK.split (h1:p→CK P env K t True f vals d rest acc σ) (h2:¬ p→VL P env K t rest (zbP acc ([],[])) (σ.app d ⟨.tup [],[]⟩)):CK P env K t p f vals d rest acc σ:=
 ⟨fun hp=>(h1 hp).1 trivial,h2⟩
theorem CK.co {A:List AVal} {O vobjs:List (Option AObj)} {objs':List (Option AObj)} (ids news:List Nat) (hent:∀ vargs w,(callFunc f vargs).run P w=.ok (.enter f vargs) w)
  (hac:AC P env.gl f A vobjs res objs') (hobjs:ids.map σ.obj=O)
  (hA:zeX (tau (ids++news)) A=vals) (hO:zi5 (tau (ids++news)) vobjs=O) (hsA:zaz (zaq vobjs) A=true) (hsO:zrt (zaq vobjs) vobjs=true)
  (hn:((ids++news).Nodup∧∀ id ∈ ids++news,id<env.nobj)) (hf:zf8 σ news=true) (hl:objs'.length≤(ids++news).length)
  (h:VL P env K t rest (zbP acc (ids++news,(zaR (tau (ids++news)) (ids++news) 0 objs').map Prod.fst)) (σ.app d ⟨ren (tau (ids++news)) res,zaR (tau (ids++news)) (ids++news) 0 objs'⟩)):CK P env K t True f vals d rest acc σ:=
 ⟨fun _=>.inl ⟨A,vobjs,ids,news,res,objs',hac,fun _ ho=>zAa ids news ho hent hobjs hA hO hsA hsO hn hf hl,h⟩,fun h=>(h trivial).elim⟩
theorem CK.po {A:List AVal} {O vobjs:List (Option AObj)} {objs':List (Option AObj)} {x:Value} (ids news:List Nat) (hent:∀ vargs w,(callFunc f vargs).run P w=.ok (.enter f vargs) w)
  (hac:AP P env.gl f A vobjs x objs') (hobjs:ids.map σ.obj=O)
  (hA:zeX (tau (ids++news)) A=vals) (hO:zi5 (tau (ids++news)) vobjs=O) (hsA:zaz (zaq vobjs) A=true) (hsO:zrt (zaq vobjs) vobjs=true)
  (hn:((ids++news).Nodup∧∀ id ∈ ids++news,id<env.nobj)) (hf:zf8 σ news=true) (hl:objs'.length≤(ids++news).length)
  (h:K acc (some x) ⟨σ.slots,zaL σ.objs (zaR (tau (ids++news)) (ids++news) 0 objs')⟩):CK P env K t True f vals d rest acc σ:=
 ⟨fun _=>.inr ⟨A,vobjs,ids,news,x,objs',hac,fun _ ho=>zAa ids news ho hent hobjs hA hO hsA hsO hn hf hl,h⟩,fun h=>(h trivial).elim⟩
end
theorem zaQ (k:Nat) (h:k<9223372036854775807):IntKind.i64.wrap ((k:Int)+1)=((k+1:Nat):Int):=by rw [zaS _ (by omega) (by omega)];rfl
theorem zBr (ι:Nat→Nat) (i o:Nat):ren ι (.ref i o)=.ref (ι i) o:=by simp [ren]
theorem zBs (ι:Nat→Nat) (i o:Nat):ren ι (.row i o)=.row (ι i) o:=by simp [ren]
theorem zBt (ι:Nat→Nat) (i:Nat):ren ι (.map i)=.map (ι i):=by simp [ren]
theorem zBu (ι:Nat→Nat) (p:PVal):ren ι (.pv p)=.pv p:=by simp [ren]
theorem zBv (ι:Nat→Nat):ren ι .snil=.snil:=by simp [ren]
theorem zBw (ι:Nat→Nat) (l:List AVal):ren ι (.agg l)=.agg (zeX ι l):=by simp [ren]
theorem zBx (ι:Nat→Nat) (l:List AVal):ren ι (.tup l)=.tup (zeX ι l):=by simp [ren]
theorem zBy (ι:Nat→Nat):ren ι .junk=.junk:=by simp [ren]
theorem zBz (ι:Nat→Nat) (f:Nat) (l:List AVal):ren ι (.clo f l)=.clo f (zeX ι l):=by simp [ren]
theorem zBA (ι:Nat→Nat) (i n z:Nat):ren ι (.csl i n z)=.csl (ι i) n z:=by simp [ren]
theorem zyn (ι:Nat→Nat):zeX ι []=[]:=by simp [zeX]
theorem zyo (ι:Nat→Nat) (a:AVal) (r:List AVal):zeX ι (a::r)=ren ι a::zeX ι r:=by simp [zeX]
theorem zst (ι:Nat→Nat) (l:List AVal):zgt ι (.cells l)=.cells (zeX ι l):=rfl
theorem zsu (ι:Nat→Nat) (sz:Nat) (xs:List (List PVal)):zgt ι (.row sz xs)=.row sz xs:=rfl
theorem zsv (ι:Nat→Nat) (kd:Kd) (es:List (PVal × Bool × List PVal)):zgt ι (.map kd es)=.map kd es:=rfl
theorem zyp (ι:Nat→Nat):zgt ι .dead=.dead:=rfl
theorem zyq (ι:Nat→Nat) (T e B n:Nat):zgt ι (.bh T e B n)=.bh T e (ι B) n:=rfl
theorem zyr (ι:Nat→Nat) (e:Nat) (s:List UInt8):zgt ι (.bb e s)=.bb e s:=rfl
theorem zEc (ι:Nat→Nat) (k:Nat) (o:List (Option AObj)):zaR ι [] k o=[]:=rfl
theorem zEd (ι:Nat→Nat) (i:Nat) (l:List Nat) (k:Nat) (o:List (Option AObj)):zaR ι (i::l) k o=(i,zgt ι ((o.getD k none).getD .dead))::zaR ι l (k+1) o:=rfl
theorem zvl (o:List (Option AObj)):zaL o []=o:=rfl
theorem zvm (o:List (Option AObj)) (q:Nat × AObj) (r:List (Nat × AObj)):zaL o (q::r)=zaL (o.set q.1 (some q.2)) r:=rfl
theorem zEe (l:List Nat) (k:Nat):tau l k=l.getD k 0:=rfl
def kz1:=And.intro @zBA<|And.intro @zBr<|And.intro @zBs<|And.intro @zBt<|And.intro @zBu<|And.intro @zBv<|And.intro @zBw<|And.intro @zBx<|And.intro @zBy<|And.intro @zBz<|And.intro @zyn<|@zyo
def kz2:=And.intro @zyq<|And.intro @zyr<|And.intro @zst<|And.intro @zsu<|And.intro @zsv<|And.intro @zyp<|And.intro @zEc<|And.intro @zEd<|And.intro @zvl<|And.intro @zvm<|@zEe
def kz:=And.intro @kz1 @kz2
def zys (env:Env) (pin:Nat) (Q:Exit→St→Prop):Exit→St→Prop:=fun e σ=>∃ σ',za0 env pin σ σ'∧Q e σ'
theorem SW.weakEnd {c:Code} (h:SW P env pin c σ (zys env pin Q)):SW P env pin c σ Q:=fun hl E g M a w hR hG=>
 wp_mono (h hl E g M a w hR hG) fun e a' w' ⟨σ',g',M',⟨σ'',hw,hq⟩,hR',hM,hA,hl'⟩=>by
  obtain ⟨hl2,hw2⟩:=hw hl'
  obtain ⟨g2,M2,hR2,hM2,hA2⟩:=hw2 _ _ _ _ _ hR'
  exact ⟨σ'',g2,M2,hq,hR2,Mem.le_trans hM hM2,hA.trans hA2,hl2⟩
def NX {ι:Type} (env:Env) (pin:Nat) (I:ι→St) (μ:ι→Nat) (t:Tg (I,μ)) (m:Nat) (σ:St):Prop:=∃ j,za0 env pin σ (I j)∧μ j<m
theorem LW.loop {ι:Type} {c:Code} {t:Tg (Code.loop c,Q)} (hE:zaY P env) (hm:P.follows .mixedOrders=true) (I:ι→St) (μ:ι→Nat) (i0:ι) (h0:za0 env pin σ (I i0))
  (round:∀ i,VC P env pin c (I i) (zeY (NX env pin I μ .mk (μ i)) Q)):LW P env pin (.loop c) σ Q t:=
 SW.loop I μ i0 h0 fun i=>VC.to hE hm c (round i)
theorem LW.weak {c:Code} {σ':St} {t:Tg (c,Q)} (hw:za0 env pin σ σ') (h:LW P env pin c σ' Q .mk):LW P env pin c σ Q t:=SW.weak hw h
end Go.Abs
namespace Go.Abs
open Go
variable {P:Program} {env:Env} {pin:Nat} {σ:St} {Q:Exit→St→Prop}
variable {K:KT} {t:Tg K} {p:Prop} {f:FuncId} {vals cargs:List AVal} {res:AVal} {d:Option Nat} {rest:List COp} {acc:Option Tr}
theorem CK.cpo {A:List AVal} {O vobjs:List (Option AObj)} (ids:List Nat) (hent:∀ vargs w,(callFunc f vargs).run P w=.ok (.enter f vargs) w)
  (hac:p→AC P env.gl f A vobjs res vobjs) (hobjs:ids.map σ.obj=O)
  (hA:zeX (tau ids) A=vals) (hO:zi5 (tau ids) vobjs=O) (hsA:zaz (zaq vobjs) A=true) (hsO:zrt (zaq vobjs) vobjs=true)
  (hn:(ids.Nodup∧∀ id ∈ ids,id<env.nobj)) (hl:vobjs.length≤ids.length) (hr:ren (tau ids) res=res) (hs:(zaR (tau ids) ids 0 vobjs).foldl (fun l q=>l.set q.1 (some q.2)) σ.objs=σ.objs)
  (h:VL P env K t rest none (σ.app d ⟨cw p res,[]⟩)):CK P env K t p f vals d rest none σ:=by
 by_cases hp:p
 ·rw [zi6 hp] at h
  refine CK.split (fun _=>?_) (fun hq=>absurd hp hq)
  refine CK.co ids [] hent (hac hp) hobjs (by simpa using hA) (by simpa using hO) hsA hsO (by simpa using hn) (by simp [zf8]) (by simpa using hl) ?_
  simp only [List.append_nil,zbP,Option.map_none,hr]
  have e:σ.app d ⟨res,zaR (tau ids) ids 0 vobjs⟩=σ.app d ⟨res,[]⟩:=by
   unfold St.app
   congr 1
  rw [e]
  exact h
 ·rw [zo9 hp] at h
  exact CK.split (fun hq=>absurd hq hp) (fun _=>h)
end Go.Abs
