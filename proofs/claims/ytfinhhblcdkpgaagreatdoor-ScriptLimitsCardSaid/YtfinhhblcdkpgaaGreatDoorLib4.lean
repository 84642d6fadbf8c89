/- A sound walk of the program by abstract states, part 4: its theorems have no condition beyond what they state. -/
import Derived.Test.YtfinhhblcdkpgaaGreatDoorLib3
import Derived.Test.YtfinhhblcdkpgaaGreatDoorLib2
import Derived.ChangeSame
import Derived.ChangeStays
import Derived.WideKeyArgs
import Derived.Deep.Slices
import Derived.ProofKit
import Derived.WalkKit
import Derived.OpenShut
import Derived.ChangeMaps5
import Derived.ChangeSlices
import Derived.HandedShaped
import Derived.Handed
import Derived.Shelf.Vars
set_option maxRecDepth 100000
set_option maxHeartbeats 64000000
set_option linter.unusedSimpArgs false
set_option linter.unusedVariables false
set_option linter.defProp false
namespace Go.Abs
open Go
mutual
theorem zxg (l:List VarD):∀ e:Ex,szE (r3E l e).1=szE e
 |.mk op v n a b args=>by simp only [r3E,szE,ztA l args]
theorem ztA (l:List VarD):∀ e:List Ex,zlE (zeL l e).1=zlE e
 |[]=>by simp [zeL]
 |e::r=>by simp only [zeL,zlE,zxg l e,ztA l r]
end
mutual
theorem zCD (l:List VarD):∀ s:Sm,szS (r3S l s).1=szS s
 |.mk k n a b p v body els=>by simp only [r3S,szS,zxg,zl3 l body,zl3 l els]
theorem zl3 (l:List VarD):∀ s:List Sm,zbT (zb4 l s).1=zbT s
 |[]=>by simp [zb4]
 |e::r=>by simp only [zb4,zbT,zCD l e,zl3 l r]
end
structure CdSz (c:CdD) (n:Nat):Prop where
 h0:c.init.length≤32
 h1:zbT c.start≤n
 h2:zbT c.message≤n
 h3:zbT c.tick≤n
 h4:zbT c.input≤n
theorem zoA (p:PgD):CdSz (zdv p).1 (szP p):=by
 have hz:CdSz cd0 (szP p):=⟨by simp [cd0],by simp [cd0,zbT],by simp [cd0,zbT],by simp [cd0,zbT],by simp [cd0,zbT]⟩
 unfold zdv
 split
 ·exact hz
 ·split
  ·exact hz
  ·split
   ·exact hz
   ·split
    ·exact hz
    ·rename_i hs
     split
     ·exact hz
     ·split
      ·exact hz
      ·cases h:zmm 0 p.vars with
       |none=>exact absurd h hs
       |some m=>
        have:=zlO p.vars 0 m (by omega) h
        have h32:mx 0 32=32:=by decide
        rw [h32] at this
        refine ⟨by simp only;omega,?_,?_,?_,?_⟩<;>simp only [zl3]<;>unfold szP<;>omega
def zjI (p:PgD):List PVal:=[.slice (p.vars.map zat),.slice (p.start.map zai),.slice (p.message.map zai),.slice (p.tick.map zai),.slice (p.input.map zai)]
open Go
theorem zl4 {α:Type} (q:α→Bool):∀ (l:List α) (k:Nat) (h:k<l.length),(∀ x ∈ l.take k,q x=false)→q l[k]=true→l.find? q=some l[k]
 |x::r,0,_,_,hq=>by simp at hq;simp [List.find?,hq]
 |x::r,k+1,h,hn,hq=>by
  have hx:q x=false:=hn x (by simp)
  have:=zl4 q r k (by simpa using h) (fun y hy=>hn y (by simp [hy])) (by simpa using hq)
  simp [List.find?,hx,this]
theorem zoB {α:Type} (q:α→Bool) (l:List α) (h:∀ x ∈ l,q x=false):l.find? q=none:=by
 rw [List.find?_eq_none]
 intro x hx
 simp [h x hx]
theorem ztB (k:Int):(wdF k).length≤10:=by
 by_cases h:k<1∨14<k
 ·unfold wdF;rw [if_pos h];simp
 ·refine zeM (fun k=>(wdF k).length≤10) ?_ k (by omega) (by omega)
  decide
theorem zoC (j:Nat) (h1:1≤j) (h2:j≤8):(prF j).length≤11:=by
 refine zwq (fun k=>(prF (k:Nat)).length≤11) ?_ j h1 h2
 decide
theorem zCE (j:Nat) (h1:1≤j) (h2:j≤8):prF j≠[]:=by
 refine zwq (fun k=>prF (k:Nat)≠[]) ?_ j h1 h2
 decide
theorem zix (x:StD):(zaO x).length≤60:=by
 have h0:=ztB x.kind
 have h1:=zdB x.place
 have h2:=zdB x.proc
 have h3:=zdB x.value
 unfold zaO zit
 split<;>simp<;>omega
theorem zl5 (p:PgD):(zkk p).1.length≤4096:=by
 unfold zkk
 split
 ·simp
 ·split
  ·simp
  ·rename_i h;simp only;omega
theorem zjJ (p:PgD):(zc2 p).length≤4110:=by
 have:=zl5 p
 simp [zc2]
 omega
theorem zkS (j:Nat) (h1:1≤j) (h2:j≤8) (f:Int):(zga j f).length≤50:=by
 have h3:=zoC j h1 h2
 have h4:=zdB f
 simp [zga]
 omega
theorem zha {α:Type} (g:α→List UInt8) (B:Nat) (h:∀ x,(g x).length≤B):∀ l:List α,(l.flatMap g).length≤B * l.length
 |[]=>by simp
 |x::r=>by
  have:=zha g B h r
  have:=h x
  simp only [List.flatMap_cons,List.length_append,List.length_cons,Nat.mul_add]
  omega
def zc3 (x:StD):List UInt8 × Int:=if wdF x.kind=[] then ([],17) else if zc1 x=false then ([],7) else (zaO x++[10],0)
theorem zkT (x:StD):zkm x=decide ((zc3 x).2≠0):=by
 unfold zkm zc3
 by_cases h:wdF x.kind=[]
 ·simp [h]
 ·rw [if_neg h]
  cases hz:zc1 x<;>simp [h]
theorem zq4 (x:StD) (h:zkm x=true):(zc3 x).2=if wdF x.kind=[] then 17 else 7:=by
 unfold zkm at h
 unfold zc3
 by_cases h1:wdF x.kind=[]
 ·simp [h1]
 ·rw [if_neg h1,if_neg h1]
  simp [h1] at h
  rw [if_pos h]
theorem ztC (x:StD) (h:zkm x=false):zc3 x=(zaO x++[10],0):=by
 unfold zkm at h
 simp at h
 unfold zc3
 rw [if_neg h.1,if_neg (by simp [h.2])]
theorem zq5 (x:StD):(zc3 x).1.length≤61:=by
 have:=zix x
 unfold zc3
 split
 ·simp
 ·split
  ·simp
  ·simp;omega
section
variable {ps:List PgD} {protocol faults:Int} {l:List StD}
theorem zeO (h:protocol<1∨8<protocol):zcg ps protocol faults l=([],17):=by unfold zcg;rw [if_pos h]
theorem zhT (h:¬ (protocol<1∨8<protocol)) (h2:ps=[]∨5<ps.length∨400<l.length):zcg ps protocol faults l=([],4):=by unfold zcg;rw [if_neg h,if_pos h2]
theorem zhU (h:¬ (protocol<1∨8<protocol)) (h2:¬ (ps=[]∨5<ps.length∨400<l.length)) (k:Nat) (hk:k<ps.length) (hn:∀ p ∈ ps.take k,znM p=false) (hb:znM ps[k]=true):zcg ps protocol faults l=([],(zkk ps[k]).2):=by
 unfold zcg
 rw [if_neg h,if_neg h2,zl4 znM ps k hk hn hb]
theorem zft (h:¬ (protocol<1∨8<protocol)) (h2:¬ (ps=[]∨5<ps.length∨400<l.length)) (hp:∀ p ∈ ps,znM p=false) (k:Nat) (hk:k<l.length) (hn:∀ x ∈ l.take k,zkm x=false) (hb:zkm l[k]=true):zcg ps protocol faults l=([],(zc3 l[k]).2):=by
 unfold zcg
 rw [if_neg h,if_neg h2,zoB znM ps hp,zl4 zkm l k hk hn hb,zq4 _ hb]
theorem zjK (h:¬ (protocol<1∨8<protocol)) (h2:¬ (ps=[]∨5<ps.length∨400<l.length)) (hp:∀ p ∈ ps,znM p=false) (hn:∀ x ∈ l,zkm x=false):zcg ps protocol faults l=if 65536<(zfs ps protocol faults l).length then ([],5) else (zfs ps protocol faults l,0):=by
 unfold zcg
 rw [if_neg h,if_neg h2,zoB znM ps hp,zoB zkm l hn]
end
structure FpI (ps:List PgD) where
 k:Nat
 hk:k≤ps.length
 no:∀ p ∈ ps.take k,znM p=false
def FpI.next {ps:List PgD} (i:FpI ps) (h:i.k<ps.length) (hb:znM ps[i.k]=false):FpI ps:=⟨i.k+1,h,by
 rw [List.take_succ_eq_append_getElem h]
 intro p hp
 rcases List.mem_append.1 hp with hp|hp
 ·exact i.no p hp
 ·simp at hp;subst hp;exact hb⟩
structure FsI (l:List StD) where
 k:Nat
 hk:k≤l.length
 no:∀ x ∈ l.take k,zkm x=false
def FsI.next {l:List StD} (i:FsI l) (h:i.k<l.length) (hb:zkm l[i.k]=false):FsI l:=⟨i.k+1,h,by
 rw [List.take_succ_eq_append_getElem h]
 intro x hx
 rcases List.mem_append.1 hx with hx|hx
 ·exact i.no x hx
 ·simp at hx;subst hx;exact hb⟩
end Go.Abs
namespace Go.Abs
open Go
variable {P:Program} {env:Env} {pin:Nat} {σ:St} {Q:Exit→St→Prop}
variable {K:KT} {t:Tg K} {f:FuncId} {vals:List AVal} {d:Option Nat} {rest:List COp} {acc:Option Tr}
theorem VX.sb {b w:Bool} {r:Option Eff} {T:List Nat} (h1:b=true→VX P env K t (b=w) r T d rest acc σ) (h2:b=false→VX P env K t (b=w) r T d rest acc σ):VX P env K t (b=w) r T d rest acc σ:=by
 cases b
 ·exact h2 rfl
 ·exact h1 rfl
theorem CK.sb {b w:Bool} (h1:b=true→CK P env K t (b=w) f vals d rest acc σ) (h2:b=false→CK P env K t (b=w) f vals d rest acc σ):CK P env K t (b=w) f vals d rest acc σ:=by
 cases b
 ·exact h2 rfl
 ·exact h1 rfl
theorem VX.sa {b w:Bool} {q:Prop} {r:Option Eff} {T:List Nat} (h1:b=true→VX P env K t (b=w∧q) r T d rest acc σ) (h2:b=false→VX P env K t (b=w∧q) r T d rest acc σ):VX P env K t (b=w∧q) r T d rest acc σ:=by
 cases b
 ·exact h2 rfl
 ·exact h1 rfl
theorem CK.sa {b w:Bool} {q:Prop} (h1:b=true→CK P env K t (b=w∧q) f vals d rest acc σ) (h2:b=false→CK P env K t (b=w∧q) f vals d rest acc σ):CK P env K t (b=w∧q) f vals d rest acc σ:=by
 cases b
 ·exact h2 rfl
 ·exact h1 rfl
end Go.Abs
namespace Go.Abs
open Go
section
variable {P:Program} {env:Env} {pin:Nat} {σ σ':St} {Q:Exit→St→Prop}
theorem Rel.wkL {E:Ent} {g:Gh} {M:Mem} {a a':Act} {w:World} (hR:Rel E σ g M a w) (τ:Nat→Nat) (hsize:a'.tmps.size=σ'.slots.length) (hdef:a'.defers=E.ds)
  (hs:∀ i,i<σ'.slots.length→σ'.slot i=.junk∨∃ x,V g σ.dom M x (a'.tmps.getD i undef)∧x=ren τ (σ'.slot i)∧zaw (zaq σ'.objs) (σ'.slot i)=true)
  (ho:zbc τ (zaq σ'.objs) σ 0 σ'.objs) (hinj:∀ i j o o',σ'.obj i=some o→o≠.dead→σ'.obj j=some o'→o'≠.dead→τ i=τ j→i=j) :
  Rel E σ' ⟨fun k=>g.ρ (τ k),fun k=>g.κ (τ k),fun k=>g.ν (τ k)⟩ M a' w:=by
 have hdom:∀ k,zaq σ'.objs k=true→σ'.dom k:=fun k hk h0=>by
  have h1:σ'.objs.getD k none=none:=h0
  simp only [zaq] at hk
  rw [h1] at hk;cases hk
 have hsc:∀ k,zaq σ'.objs k=true→σ'.dom k∧(⟨fun k=>g.ρ (τ k),fun k=>g.κ (τ k),fun k=>g.ν (τ k)⟩:Gh).ρ k=g.ρ (τ k)∧(⟨fun k=>g.ρ (τ k),fun k=>g.κ (τ k),fun k=>g.ν (τ k)⟩:Gh).κ k=g.κ (τ k)∧(⟨fun k=>g.ρ (τ k),fun k=>g.κ (τ k),fun k=>g.ν (τ k)⟩:Gh).ν k=g.ν (τ k):=
  fun k hk=>⟨hdom k hk,rfl,rfl,rfl⟩
 have hown:∀ k ob,zbj (⟨fun k=>g.ρ (τ k),fun k=>g.κ (τ k),fun k=>g.ν (τ k)⟩:Gh) k ob=zbj g (τ k) ob:=fun k ob=>by cases ob<;>rfl
 have hget:∀ k ob b,σ'.obj k=some ob→zbj (⟨fun k=>g.ρ (τ k),fun k=>g.κ (τ k),fun k=>g.ν (τ k)⟩:Gh) k ob=some b→σ.obj (τ k)=some (zgt τ ob)∧zbj g (τ k) (zgt τ ob)=some b∧k<σ'.objs.length:=fun k ob b hk hb=>by
  rcases zer ho k ob hk with rfl|⟨h1,_⟩
  ·simp [zbj] at hb
  ·rw [Nat.zero_add] at h1
   exact ⟨h1,by rw [zcN,←hown];exact hb,zcd hk⟩
 refine ⟨hsize,hdef,?_,?_,?_,?_,hR.sat,hR.M0,hR.Mnew,hR.size0,hR.same,?_,hR.os,hR.tape,hR.output⟩
 ·intro i hi
  rcases hs i hi with h1|⟨x,h1,h2,h3⟩
  ·rw [h1];exact .junk _
  ·exact zup hsc h1 _ h2 h3
 ·intro k ob hk
  rcases zer ho k ob hk with rfl|⟨h1,h2⟩
  ·trivial
  ·rw [Nat.zero_add] at h1
   have hor:=hR.objs _ _ h1
   cases ob with
   |cells cs=>
    obtain ⟨vals,T,hh,hsz,hv⟩:=hor
    refine ⟨vals,T,hh,by rw [hsz,zaJ],fun j hj=>?_⟩
    exact zup hsc (hv j (by rw [zaJ];exact hj)) _ (zcz τ cs j) (zbU _ _ _ h2)
   |row sz xs=>exact hor
   |map kd es=>
    obtain ⟨ents,clock,hh,hsz,hv⟩:=hor
    refine ⟨ents,clock,hh,hsz,fun i e he=>?_⟩
    obtain ⟨en,q1,q2,q3,q4⟩:=hv i e he
    exact ⟨en,q1,q2,q3,zup hsc q4 _ (zh6 _ _).symm (zfc _ _)⟩
   |bh T e B n=>
    obtain ⟨hd,hn,p,hh,hp⟩:=hor
    obtain ⟨k1,k2,k3,k4⟩:=hsc B h2
    exact ⟨k1,hn,p,hh,hp⟩
   |bb e s=>exact hor
   |dead=>trivial
 ·intro k k' ob ob' b hk hk' hb hb'
  obtain ⟨h1,h2,h3⟩:=hget k ob b hk hb
  obtain ⟨h4,h5,h6⟩:=hget k' ob' b hk' hb'
  exact hinj k k' ob ob' hk (fun e=>by subst e;simp [zbj] at hb) hk' (fun e=>by subst e;simp [zbj] at hb') (hR.apart _ _ _ _ b h1 h4 h2 h5)
 ·intro k ob b hk hb i
  obtain ⟨h1,h2,_⟩:=hget k ob b hk hb
  exact hR.offM _ _ b h1 h2 i
 ·intro k ob b hk hb
  obtain ⟨h1,h2,_⟩:=hget k ob b hk hb
  exact hR.own0 _ _ b h1 h2
def zf2:List (Option AObj)→List Nat→List Nat
 |[],_=>[]
 |_,[]=>[]
 |none::r,_::t=>zf2 r t
 |some .dead::r,_::t=>zf2 r t
 |some (.cells _)::r,k::t=>k::zf2 r t
 |some (.row _ _)::r,k::t=>k::zf2 r t
 |some (.map _ _)::r,k::t=>k::zf2 r t
 |some (.bh _ _ _ _)::r,k::t=>k::zf2 r t
 |some (.bb _ _)::r,k::t=>k::zf2 r t
theorem zjP:∀ (os:List (Option AObj)) (τ:List Nat) (i:Nat) (o:AObj),os.length=τ.length→os.getD i none=some o→o≠.dead→τ.getD i 0 ∈ zf2 os τ
 |[],_,i,o,_,h,_=>by simp [List.getD] at h
 |_::_,[],_,_,hl,_,_=>by simp at hl
 |x::r,k::t,0,o,hl,h,hd=>by
  simp only [List.getD_cons_zero] at h ⊢
  subst h
  cases o<;>simp [zf2] at hd ⊢
 |x::r,k::t,i+1,o,hl,h,hd=>by
  have hm:=zjP r t i o (by simpa using hl) (by simpa [List.getD] using h) hd
  have e:(k::t).getD (i+1) 0=t.getD i 0:=by simp [List.getD]
  rw [e]
  cases x with
  |none=>exact hm
  |some ob=>cases ob<;>first|exact hm|exact List.mem_cons_of_mem _ hm
def zjQ:List Nat→Bool
 |[]=>true
 |k::r=>!r.contains k&&zjQ r
theorem zpX:∀ (os:List (Option AObj)) (τ:List Nat),os.length=τ.length→zjQ (zf2 os τ)=true→∀ i j o o',os.getD i none=some o→o≠.dead→os.getD j none=some o'→o'≠.dead→τ.getD i 0=τ.getD j 0→i=j
 |[],_,_,_,i,j,o,o',h,_,_,_,_=>by simp [List.getD] at h
 |_::_,[],hl,_,_,_,_,_,_,_,_,_,_=>by simp at hl
 |x::r,k::t,hl,hn,i,j,o,o',hi,hd,hj,hd',e=>by
  have hl':r.length=t.length:=by simpa using hl
  have tail:zjQ (zf2 r t)=true:=by
   cases x with
   |none=>exact hn
   |some ob=>cases ob<;>simp only [zf2,zjQ,Bool.and_eq_true] at hn<;>first|exact hn|exact hn.2
  have head:∀ ob:AObj,x=some ob→ob≠.dead→k ∉ zf2 r t:=fun ob hx hob=>by
   subst hx
   cases ob<;>simp [zf2,zjQ] at hn hob ⊢<;>exact hn.1
  match i,j with
  |0,0=>rfl
  |0,j+1=>
   exfalso
   have h1:x=some o:=by simpa using hi
   have h2:=zjP r t j o' hl' (by simpa [List.getD] using hj) hd'
   have e':k=t.getD j 0:=by simpa [List.getD] using e
   rw [←e'] at h2
   exact head o h1 hd h2
  |i+1,0=>
   exfalso
   have h1:x=some o':=by simpa using hj
   have h2:=zjP r t i o hl' (by simpa [List.getD] using hi) hd
   have e':k=t.getD i 0:=by simpa [List.getD] using e.symm
   rw [←e'] at h2
   exact head o' h1 hd' h2
  |i+1,j+1=>
   have:=zpX r t hl' tail i j o o' (by simpa [List.getD] using hi) hd (by simpa [List.getD] using hj) hd' (by simpa [List.getD] using e)
   omega
theorem za0.wkL (τ:List Nat) (hlen:σ'.objs.length=env.nobj) (hτ:τ.length=env.nobj) (hnd:zjQ (zf2 σ'.objs τ)=true) (hpin:∀ k,k<pin→tau τ k=k∧(σ.dom k→σ'.dom k))
  (hs:zcr (tau τ) (zaq σ'.objs) σ.slots σ'.slots) (ho:zbc (tau τ) (zaq σ'.objs) σ 0 σ'.objs):za0 env pin σ σ':=fun _=>⟨hlen,fun E g M a w hR=>by
 obtain ⟨hl,hg⟩:=zdV hs
 refine ⟨_,M,hR.wkL (tau τ) (by rw [hR.size,hl]) hR.defers (fun i hi=>?_) ho (fun i j o o' hi hd hj hd' e=>zpX σ'.objs τ (by omega) hnd i j o o' hi hd hj hd' e),Mem.le_refl _,fun id hid hd=>?_⟩
 ·rcases hg i with h1|⟨h1,h2⟩
  ·exact .inl h1
  ·exact .inr ⟨σ.slot i,hR.slot i,h1,h2⟩
 ·obtain ⟨h1,h2⟩:=hpin id hid
  refine ⟨?_,h2 hd⟩
  simp [Gh.agree,h1]⟩
theorem WMe (τ:List Nat) (hs:zcr (tau τ) (zaq σ'.objs) σ.slots σ'.slots) (ho:zbc (tau τ) (zaq σ'.objs) σ 0 σ'.objs) (hlen:σ'.objs.length=env.nobj:=by rfl) (hτ:τ.length=env.nobj:=by rfl) (hnd:zjQ (zf2 σ'.objs τ)=true:=by rfl) (hp:∀ k,k<pin→tau τ k=k:=by first|decide|(simp only [List.length_cons,List.length_nil];decide)) (h1:(σ'.objs.take pin).all Option.isSome=true:=by simp) (h2:pin≤σ'.objs.length:=by simp):za0 env pin σ σ':=
 za0.wkL τ hlen hτ hnd (zz9 hp h1 h2) hs ho
end
end Go.Abs
namespace Go.Abs
open Go
theorem znz:∀ (f:Nat) (r:List (List UInt8)) (a:Int) (cs:List CdD) (x e:Int),zca f r a cs=.bad x e→e≠0
 |0,_,_,_,x,e,h=>by rw [zca] at h;cases h;decide
 |f+1,[],_,_,x,e,h=>by rw [zca] at h;cases h;decide
 |f+1,l::r,a,cs,x,e,h=>by
  rw [zca] at h
  split at h
  ·split at h
   ·cases h;decide
   ·split at h
    ·cases h;decide
    ·split at h
     ·rename_i he
      cases h;exact he
     ·exact znz f _ _ _ x e h
  ·split at h
   ·cases h
   ·cases h;decide
theorem zwG (ls:List (List UInt8)) (torn:Bool) (h:(zdM ls torn).2.2=0):∃ d,zdM ls torn=(d,0,0):=by
 unfold zdM at h ⊢
 split at h
 ·cases h
 ·rename_i h1
  rw [if_neg h1]
  split at h
  ·rename_i a e he
   exact absurd h (znz _ _ _ _ _ _ he)
  ·rename_i cs r a he
   split at h
   ·rename_i h2;exact absurd h h2
   ·rename_i h2
    try rw [he]
    try dsimp only
    rw [if_neg h2]
    exact ⟨_,rfl⟩
theorem ztR (ls:List (List UInt8)) (torn:Bool) (h:(zdM ls torn).2.2≠0):∃ a e,zdM ls torn=(sc0,a,e)∧e≠0:=by
 unfold zdM at h ⊢
 split at h
 ·rename_i h1
  rw [if_pos h1]
  exact ⟨_,_,rfl,by decide⟩
 ·rename_i h1
  rw [if_neg h1]
  split at h
  ·rename_i a e he
   try rw [he]
   exact ⟨_,_,rfl,h⟩
  ·rename_i cs r a he
   split at h
   ·rename_i h2
    try rw [he]
    try dsimp only
    rw [if_pos h2]
    exact ⟨_,_,rfl,h2⟩
   ·exact absurd rfl h
theorem zkY (c:UInt8):∀ s:List UInt8,zkn (zaj c s)=s.length+1
 |[]=>by simp [zaj,zkn]
 |x::r=>by
  have ih:=zkY c r
  rw [zaj]
  split
  ·rw [zb5,ih];simp;omega
  ·match hs:zaj c r,zbG c r with
   |a::t,_=>
    rw [hs,zb5] at ih
    rw [zb5];simp;omega
theorem znA:∀ l:List (List UInt8),zkn l.dropLast≤zkn l
 |[]=>by simp [zkn]
 |[a]=>by simp [zkn]
 |a::b::r=>by
  have:=znA (b::r)
  rw [List.dropLast_cons_cons,zb5,zb5]
  omega
theorem zp0:∀ l:List (List UInt8),l.length≤zkn l
 |[]=>by simp
 |a::r=>by have:=zp0 r;rw [zb5];simp;omega
theorem zkZ (s:List UInt8):zkn (zb9 s)≤s.length+1∧(zb9 s).length≤s.length+1:=by
 have h1:=znA (zaj 10 s)
 rw [zkY] at h1
 have h2:=zp0 (zb9 s)
 unfold zb9 at h2 ⊢
 omega
theorem zoM (s:List UInt8):((zaj 10 s).map fun x=>[PVal.str x]).take ((zaj 10 s).length - 1)=(zb9 s).map ze0:=by
 unfold zb9
 rw [List.dropLast_eq_take,List.map_take]
 rfl
theorem zrk (s:List UInt8):((zaj 10 s).map fun x=>[PVal.str x]).getD ((zaj 10 s).length - 1) []=[.str ((zaj 10 s).getLast (zbG 10 s))]∧((zaj 10 s).getLast (zbG 10 s)==[])=!zfr s:=by
 have hp:0<(zaj 10 s).length:=List.length_pos_iff.2 (zbG 10 s)
 refine ⟨?_,?_⟩
 ·have hk:(zaj 10 s).length - 1<(zaj 10 s).length:=by omega
  rw [List.getD_eq_getElem?_getD,List.getElem?_map,List.getElem?_eq_getElem hk,List.getLast_eq_getElem]
  rfl
 ·unfold zfr
  by_cases h:(zaj 10 s).getLast (zbG 10 s)=[]
  ·simp [h]
  ·simp [h]
def scA (q:ScD × Int × Int):AVal:=.tup [.agg [.pv (.slice (q.1.codes.map fun c=>[.slice (c.init.map zhO),.slice (c.start.map zai),.slice (c.message.map zai),.slice (c.tick.map zai),.slice (c.input.map zai)])),.pv (.int .i64 q.1.protocol),.pv (.int .i64 q.1.faults)],.pv (.slice (q.1.steps.map zcw)),.pv (.int .i64 q.2.1),.pv (.int .i64 q.2.2)]
def zjU (x n:Int):Int:=if x.tmod n<0 then x.tmod n+n else x.tmod n
theorem ziC (x n:Int) (hn:0<n):0≤zjU x n∧zjU x n<n:=by
 unfold zjU
 have h1:=Int.tmod_lt_of_pos x hn
 have h2:-n<x.tmod n:=by
  have:=Int.lt_tmod_of_pos x hn
  exact this
 split<;>omega
theorem zjV {line:List UInt8} {k:Int} {l:List (List UInt8)} (hs:zaj 32 line=wdF k::l) (h1:1≤k) (h2:k≤14) :
  zcG line=if ((l.take (nfF k)).all fun w=>(zaW w).2)=true then (if line=zaO (zfL k ((l.take (nfF k)).map fun w=>(zaW w).1)) then (zfL k ((l.take (nfF k)).map fun w=>(zaW w).1),true) else (st0,false)) else (st0,false):=by
 unfold zcG
 rw [←zwd line (wdF k) l hs]
 unfold zno
 rw [zze k h1 h2,if_neg (by omega)]
 cases ha:((l.take (nfF k)).all fun w=>(zaW w).2)
 ·rw [if_pos (.inl rfl),if_neg (by simp)]
 ·rw [if_pos rfl]
  by_cases he:line=zaO (zfL k ((l.take (nfF k)).map fun w=>(zaW w).1))
  ·rw [if_neg (by rintro (h|h);cases h;exact h he),if_pos he]
  ·rw [if_pos (.inr he),if_neg he]
theorem zmd {line:List UInt8} {k:Int} {l:List (List UInt8)} (hs:zaj 32 line=wdF k::l) (h1:1≤k) (h2:k≤14) (h:nfF k=0∨l=[]):zcG line=if line=zaO ⟨k,0,0,0⟩ then (⟨k,0,0,0⟩,true) else (st0,false):=by
 rw [zjV hs h1 h2]
 have:l.take (nfF k)=[]:=by
  rcases h with h|h
  ·rw [h];simp
  ·rw [h];simp
 rw [this]
 have hm:zfL k []=⟨k,0,0,0⟩:=by unfold zfL;split<;>rfl
 simp [hm]
theorem zzz {line b:List UInt8} {k:Int} {r:List (List UInt8)} (hs:zaj 32 line=wdF k::b::r) (h1:1≤k) (h2:k≤14) (h:shF k=1):zcG line=if (zaW b).2=true then (if line=zaO ⟨k,0,(zaW b).1,0⟩ then (⟨k,0,(zaW b).1,0⟩,true) else (st0,false)) else (st0,false):=by
 rw [zjV hs h1 h2]
 simp [nfF,zfL,h]
theorem zzA {line b:List UInt8} {k:Int} {r:List (List UInt8)} (hs:zaj 32 line=wdF k::b::r) (h1:1≤k) (h2:k≤14) (h:shF k=3):zcG line=if (zaW b).2=true then (if line=zaO ⟨k,(zaW b).1,0,0⟩ then (⟨k,(zaW b).1,0,0⟩,true) else (st0,false)) else (st0,false):=by
 rw [zjV hs h1 h2]
 simp [nfF,zfL,h]
theorem zzB {line b:List UInt8} {k:Int} (hs:zaj 32 line=[wdF k,b]) (h1:1≤k) (h2:k≤14) (h:shF k=2):zcG line=if (zaW b).2=true then (if line=zaO ⟨k,(zaW b).1,0,0⟩ then (⟨k,(zaW b).1,0,0⟩,true) else (st0,false)) else (st0,false):=by
 rw [zjV hs h1 h2]
 simp [nfF,zfL,h]
theorem zwI {line b c:List UInt8} {k:Int} {r:List (List UInt8)} (hs:zaj 32 line=wdF k::b::c::r) (h1:1≤k) (h2:k≤14) (h:shF k=2):zcG line=if (zaW b).2=true then (if (zaW c).2=true then (if line=zaO ⟨k,(zaW b).1,0,(zaW c).1⟩ then (⟨k,(zaW b).1,0,(zaW c).1⟩,true) else (st0,false)) else (st0,false)) else (st0,false):=by
 rw [zjV hs h1 h2]
 cases hb:(zaW b).2<;>cases hc:(zaW c).2<;>simp [nfF,zfL,h,hb,hc]
theorem zfw {k p q v:Int} (hk:1≤k∧k≤14) (h1:-9223372036854775808≤p∧p≤9223372036854775807) (h2:-9223372036854775808≤q∧q≤9223372036854775807) (h3:-9223372036854775808≤v∧v≤9223372036854775807):znl ⟨k,p,q,v⟩=true:=by
 simp [znl,zlP]
 omega
theorem zzC (line:List UInt8) (h:(zaj 32 line).length≠3):zd8 line=(0,0,false):=by
 unfold zd8
 match hs:zaj 32 line with
 |[]=>rfl
 |[a]=>rfl
 |[a,b]=>rfl
 |[a,b,c]=>rw [hs] at h;exact absurd rfl h
 |a::b::c::d::r=>rfl
theorem zCL {line a b c:List UInt8} (hs:zaj 32 line=[a,b,c]):zd8 line=if a=[112,114,111,116,111,99,111,108]∧b ∈ zlR.tail then ((zlR.idxOf b:Int),(zaW c).1,(zaW c).2) else (0,0,false):=by
 unfold zd8;rw [hs]
def zzJ (c:CdD):Prop:=CdSz c 1000000000
theorem zGd:zzJ cd0:=⟨by simp [cd0],by simp [cd0,zbT],by simp [cd0,zbT],by simp [cd0,zbT],by simp [cd0,zbT]⟩
theorem zwN (b:List UInt8):zzJ (zd7 b).1:=by
 unfold zd7
 split
 ·exact zGd
 ·rw [zhQ]
  have h:=zoA (zgq b).1
  have hs:=zox b
  exact ⟨h.1,by have:=h.2;omega,by have:=h.3;omega,by have:=h.4;omega,by have:=h.5;omega⟩
theorem znE:∀ (f:Nat) (r:List (List UInt8)) (a:Int) (cs cs':List CdD) (r':List (List UInt8)) (a':Int),(∀ c ∈ cs,zzJ c)→cs.length≤5→zca f r a cs=.ok cs' r' a'→(∀ c ∈ cs',zzJ c)∧cs'.length≤5
 |0,_,_,_,_,_,_,_,_,h=>by rw [zca] at h;cases h
 |f+1,[],_,_,_,_,_,_,_,h=>by rw [zca] at h;cases h
 |f+1,l::r,a,cs,cs',r',a',hc,hl,h=>by
  rw [zca] at h
  split at h
  ·split at h
   ·cases h
   ·split at h
    ·cases h
    ·rename_i h5 _ b r2 hb
     split at h
     ·cases h
     ·refine znE f _ _ _ _ _ _ ?_ ?_ h
      ·intro c hm
       rcases List.mem_append.1 hm with hm|hm
       ·exact hc c hm
       ·simp at hm;subst hm;exact zwN b
      ·simp;omega
  ·split at h
   ·cases h;exact ⟨hc,hl⟩
   ·cases h
theorem zk3 (torn:Bool):∀ (r:List (List UInt8)) (a:Int) (xs:List StD),xs.length≤400→(zbN torn r a xs).1.length≤400
 |[],a,xs,h=>by
  rw [zbN]
  split
  ·simp
  ·exact h
 |l::r,a,xs,h=>by
  rw [zbN]
  split
  ·simp
  ·split
   ·simp
   ·exact zk3 torn r _ _ (by simp;omega)
def zGe (q:ScD × Int × Int):Prop:=(∀ c ∈ q.1.codes,zzJ c)∧q.1.codes.length≤5∧q.1.steps.length≤400
theorem zwO (a e:Int):zGe (sc0,a,e):=⟨fun c h=>(by cases h),by simp [sc0],by simp [sc0]⟩
theorem zt3 (ls:List (List UInt8)) (torn:Bool):zGe (zdM ls torn):=by
 unfold zdM
 split
 ·exact zwO _ _
 ·split
  ·exact zwO _ _
  ·rename_i cs r a hp
   split
   ·exact zwO _ _
   ·obtain ⟨h1,h2⟩:=znE _ _ _ _ _ _ _ (by simp) (by simp) hp
    exact ⟨h1,h2,zk3 _ _ _ _ (by simp)⟩
theorem zwP (s:List UInt8):zGe (zhB s):=by
 rw [zl2]
 split
 ·exact zwO _ _
 ·exact zt3 _ _
def zGf:List UInt8:=[112,114,111,116,111,99,111,108,32,99,97,117,115,97,108,32,49,10,112,114,111,99,101,115,115,10]
def zfS (k:Nat):List UInt8:=zGf++List.replicate k 10
theorem zp9:∀ k:Nat,zaj 10 (List.replicate k 10)=List.replicate (k+1) []
 |0=>by simp [zaj]
 |k+1=>by
  have:=zdd 10 (List.replicate k 10) [] (by simp)
  rw [List.nil_append] at this
  rw [List.replicate_succ,this,zp9 k,List.replicate_succ (n:=k+1)]
theorem zt5 (k:Nat):zaj 10 (zfS k)=[112,114,111,116,111,99,111,108,32,99,97,117,115,97,108,32,49]::[112,114,111,99,101,115,115]::List.replicate (k+1) []:=by
 have e:zfS k=[112,114,111,116,111,99,111,108,32,99,97,117,115,97,108,32,49]++10::([112,114,111,99,101,115,115]++10::List.replicate k 10):=by
  unfold zfS zGf;simp
 rw [e,zdd 10 _ _ (by decide),zdd 10 _ _ (by decide),zp9]
theorem znG:∀ (k:Nat) (b:List UInt8),zbV (List.replicate k []) b=none
 |0,_=>by simp [zbV]
 |k+1,b=>by rw [List.replicate_succ,zbV,if_neg (by decide)];exact znG k _
theorem zt6 (k:Nat):zb9 (zfS k)=[112,114,111,116,111,99,111,108,32,99,97,117,115,97,108,32,49]::[112,114,111,99,101,115,115]::List.replicate k []:=by
 unfold zb9
 rw [zt5,List.replicate_succ']
 rw [show ∀ (a b:List UInt8) (l:List (List UInt8)) (c:List UInt8),a::b::(l++[c])=(a::b::l)++[c] from fun _ _ _ _=>rfl,List.dropLast_concat]
theorem zzK (k:Nat):(zhB (zfS k)).2.2=5 ↔ 65536<(zfS k).length:=by
 rw [zl2]
 by_cases h:65536<(zfS k).length
 ·rw [if_pos h];simp [h]
 ·rw [if_neg h]
  have hf:(zcx [112,114,111,116,111,99,111,108,32,99,97,117,115,97,108,32,49] 0).2.2=true:=by decide +kernel
  have hr:∃ d a,zdM (zb9 (zfS k)) (zfr (zfS k))=(d,a,1):=by
   rw [zt6]
   unfold zdM
   simp only [List.getD_cons_zero,hf,List.drop_succ_cons,List.drop_zero,List.length_cons]
   rw [zca,if_pos rfl,if_neg (by simp),znG]
   exact ⟨_,_,rfl⟩
  obtain ⟨d,a,hr⟩:=hr
  rw [hr]
  simp [h]
theorem zmk (k:Nat) (w:List UInt8):(List.replicate k w).flatten++w=(List.replicate (k+1) w).flatten:=by
 rw [List.replicate_succ',List.flatten_append];simp
theorem zt7 (k:Nat) (w:List UInt8):(List.replicate k w).flatten.length=k * w.length:=by
 induction k with
 |zero=>simp
 |succ k ih=>rw [←zmk,List.length_append,ih,Nat.succ_mul]
def zt8 (i:Nat):List UInt8:=[112,114,111,116,111,99,111,108,32,99,97,117,115,97,108,32,49,10]++(List.replicate i [112,114,111,99,101,115,115,10,101,110,100,10]).flatten
def zt9 (k j:Nat):List UInt8:=zt8 k++[115,116,101,112,115,10]++(List.replicate j [99,111,109,109,105,116,10]).flatten
theorem zxm:zt8 0=[112,114,111,116,111,99,111,108,32,99,97,117,115,97,108,32,49,10]:=rfl
theorem zCQ (i:Nat):zt8 i++[112,114,111,99,101,115,115,10,101,110,100,10]=zt8 (i+1):=by
 unfold zt8;rw [List.append_assoc,zmk]
theorem zCR (k:Nat):zt8 k++[115,116,101,112,115,10]=zt9 k 0:=by unfold zt9;simp
theorem zCS (k j:Nat):zt9 k j++[99,111,109,109,105,116,10]=zt9 k (j+1):=by
 unfold zt9;rw [List.append_assoc,zmk]
theorem zqa (i:Nat):(zt8 i).length=18+12 * i:=by unfold zt8;rw [List.length_append,zt7];simp;omega
theorem zqb (k j:Nat):(zt9 k j).length=24+12 * k+7 * j:=by unfold zt9;rw [List.length_append,List.length_append,zt7,zqa];simp;omega
theorem AC.frz0 {P:Program} {gl:Nat→Option (List PVal)} {f:FuncId} {sz:Nat} {xs:List (List PVal)} {ps:List PVal} {res:AVal}
  (h:AC P gl f (.pv (.slice xs)::ps.map .pv) [] res []):AC P gl f (.row 0 xs.length::ps.map .pv) [some (.row sz xs)] res [some .dead]:=by
 intro w M g vargs hR hG
 obtain ⟨_,hW⟩:=za0.freeze (env:=⟨fun _=>none,gl,fun _=>0,1⟩) (pin:=1) (σ:=⟨.row 0 xs.length::ps.map .pv,[some (.row sz xs)]⟩) 0 (xs:=xs) rfl rfl
 obtain ⟨g',M',hR',hM,hA⟩:=hW _ _ _ _ _ hR
 have hs:(St.frz ⟨.row 0 xs.length::ps.map .pv,[some (.row sz xs)]⟩ 0 xs)=⟨.pv (.slice xs)::ps.map .pv,[some .dead]⟩:=by
  simp [St.frz,zf6,frz,znX,zf7]
 rw [hs] at hR'
 have hpure:∀ i,i<(AVal.pv (.slice xs)::ps.map .pv).length→∃ p,(AVal.pv (.slice xs)::ps.map .pv).getD i .junk=.pv p:=by
  intro i hi
  cases i with
  |zero=>exact ⟨_,rfl⟩
  |succ i=>simp at hi;exact ⟨ps[i],by simp [List.getD,hi]⟩
 have hq:=h w M' g' vargs ⟨hR'.size,hR'.defers,fun i hi=>by
   obtain ⟨p,hp⟩:=hpure i hi
   have h1:=hR'.slots i hi
   have e1:St.slot ⟨.pv (.slice xs)::ps.map .pv,[some .dead]⟩ i=.pv p:=hp
   have e2:St.slot ⟨.pv (.slice xs)::ps.map .pv,[]⟩ i=.pv p:=hp
   rw [e1] at h1
   rw [e2]
   exact .pv h1.pv_inv,
  fun id o ho=>by simp [St.obj] at ho,fun id id' o o' b ho=>by simp [St.obj] at ho,fun id o b ho=>by simp [St.obj] at ho,hR'.sat,Mem.le_refl _,fun _ _ _ _=>rfl,Nat.le_refl _,fun _ _ _=>rfl,fun id o b ho=>by simp [St.obj] at ho,rfl,rfl,rfl⟩
  ⟨hG.1.mono hM,fun b cs hb hc=>by
   obtain ⟨h1,h2⟩:=hG.2 b cs hb hc
   exact ⟨fun hB=>by obtain ⟨id,ob,ho,_⟩:=hB;simp at ho,h2⟩⟩
 refine Calls.mono hq ?_
 rintro e w' ⟨v,g2,M2,he,hR2,_⟩
 have hno:∀ b,¬ zaP g' [] b:=fun b hb=>by obtain ⟨id,ob,ho,_⟩:=hb;simp at ho
 have hd:∀ id,St.dom ⟨[res],[]⟩ id→False:=fun id hd=>hd (by simp [St.obj])
 have h1:∀ id o,St.obj ⟨[res],[some AObj.dead]⟩ id=some o→o=.dead:=fun id o ho=>by
  cases id with
  |zero=>simpa [St.obj] using ho.symm
  |succ k=>simp [St.obj] at ho
 refine ⟨v,g',M2,he,⟨hR2.size,hR2.defers,fun i hi=>?_,fun id o ho=>?_,fun id id' o o' b ho _ hb=>?_,fun id o b ho hb=>?_,hR2.sat,Mem.le_trans hR'.M0 hR2.M0,fun b i hb hB=>(hR2.Mnew b i hb (hno b)).trans (hR'.Mnew b i hb hB),hR2.size0,fun b hb _=>hR2.same b hb (hno b),fun id o b ho hb=>?_,hR2.os,hR2.tape,hR2.output⟩,fun id hid=>?_⟩
 ·exact (hR2.slots i hi).mono (fun id h=>(hd id h).elim) (fun id h=>(hd id h).elim) (Mem.le_refl _)
 ·rw [h1 id o ho];trivial
 ·rw [h1 id o ho] at hb;cases hb
 ·rw [h1 id o ho] at hb;cases hb
 ·rw [h1 id o ho] at hb;cases hb
 ·cases id with
  |zero=>exact (hA 0 (by decide) (by simp [St.dom,St.obj])).1
  |succ k=>simp [zaq] at hid
section
variable {P:Program} {env:Env} {pin:Nat} {σ:St} {Q:Exit→St→Prop} {E:Ent} {g:Gh} {M:Mem} {a:Act} {w:World} {o:Oper}
theorem zml (hR:Rel E σ g M a w) (hG:GOK env M) (hE:zaY P env) (hl:σ.objs.length=env.nobj) {t:TypeId} {len d k:Nat} {parts:Array (Nat × Operand)} (ho:o.op=.buildSlice t len parts) (hd:o.dst=some d)
  (hk:k<env.nobj) (hn:σ.obj k=none) {ty:Ty} (ht:env.ty t=some ty) (hks:ty.kind=.slice) (hc1:0<ty.eSize) (hc2:parts.size=len) (hc3:len * ty.eSize≤65536) (hc4:ty.eZero=true) {xs:List (List PVal)}
  (hxs:zgu ty.eSize 0 (parts.toList.map fun q=>(q.1,zah env σ q.2))=some xs):zbJ P env o E σ g M a w ⟨.row k len,[(k,.row ty.eSize xs)]⟩:=by
 obtain ⟨el,hu,hes,_,hez⟩:=zck hE ht hks
 obtain ⟨z,hz,_⟩:=zms (hez ▸ hc4)
 have hpos:0<zaE P el:=by rw [←hes];exact hc1
 obtain ⟨zc,hz1,hz2⟩:∃ zc:Array Value,(len * zaE P el=0→zc=#[])∧(len * zaE P el≠0→zc=z.cells):=by
  by_cases h0:len * zaE P el=0
  ·exact ⟨#[],fun _=>rfl,fun h=>absurd h0 h⟩
  ·exact ⟨z.cells,fun h=>absurd h h0,fun _=>rfl⟩
 have hvsz:((Array.range (len * zaE P el)).map (zc[· % zc.size]!)).size=len * zaE P el:=by simp
 obtain ⟨h1,h2,vals,h3,h4,_,h6⟩:=ziN hR hG ty.eSize parts.toList 0 ((Array.range (len * zaE P el)).map (zc[· % zc.size]!)) xs hxs (by
  rw [hvsz,←hes];simp [hc2])
 have hxl:xs.length=len:=by rw [h1];simp [hc2]
 have hrun:(execOp a.eval o).run P w=.ok (.value (.slice (some ⟨w.heap.size,0,none⟩) len len)) (w.alloc (.cells vals el)):=by
  rw [hes] at h3 hc3
  have hno:¬ (len * zaE P el > 2 ^ 24):=by omega
  simp only [execOp,ho,Instr.buildSlice,Sem.run_bind,zaf w hu,Result.andThen,zbm w hpos]
  rw [if_neg hno]
  by_cases h0:len * zaE P el=0
  ·obtain rfl:=hz1 h0
   rw [if_pos h0]
   simp only [Sem.run_bind,Sem.run_pure,Result.andThen,Array.toList_map]
   rw [h3]
   simp [newRow]
  ·obtain rfl:=hz2 h0
   rw [if_neg h0]
   simp only [Sem.run_bind,Sem.run_pure,Result.andThen,Array.toList_map,hz]
   rw [h3]
   simp [newRow]
 have hne:∀ i,σ.dom i→i≠k:=fun i hi e=>hi (by rw [e];exact hn)
 have hag:∀ i,σ.dom i→g.agree (g.set k w.heap.size len false) i:=fun i hi=>Gh.set_agree (hne i hi)
 have hR':=hR.fresh (id:=k) (by omega) hn vals el len (.row ty.eSize xs) (by
  refine ⟨h2,fun hb=>by simp [Gh.set] at hb,fun _=>⟨vals,.zero _ el,?_,by simp [Gh.set,hxl],?_,fun i j hi hj=>?_⟩⟩
  ·have e1:(g.set k w.heap.size len false).ρ k=w.heap.size:=by simp [Gh.set]
   rw [e1];exact zbu _ _
  ·have e1:(g.set k w.heap.size len false).κ k=len:=by simp [Gh.set]
   rw [e1,h4,hvsz,hes];exact Nat.le_refl _
  ·have:=h6 i j hi hj
   rw [Nat.zero_add] at this
   exact this)
 refine ⟨_,_,_,_,M,hrun,.inl rfl,?_,hag,Mem.le_refl _⟩
 rw [zeB]
 refine hR'.put o.dst ?_
 have e2:(⟨w.heap.size,0,none⟩:Addr)=⟨(g.set k w.heap.size len false).ρ k,0,none⟩:=by simp [Gh.set]
 have e3:(g.set k w.heap.size len false).κ k=len:=by simp [Gh.set]
 have:=V.row (g:=g.set k w.heap.size len false) (D:=(σ.set k (.row ty.eSize xs)).dom) (M:=M) k len (by simp [St.dom,St.obj_set_self (σ:=σ) (id:=k) (by omega)]) (by simp [Gh.set])
 rw [e3] at this
 rw [e2]
 exact this
theorem SW.bytesLit (hE:zaY P env) {id d1 d2 d3 k len:Nat} {o1 o2 o3:Oper} {t:TypeId} {parts:Array (Nat × Operand)} {ty:Ty} {xs:List (List PVal)} {ns:List Int}
  (h1:o1.op=.buildSlice t len parts) (h1d:o1.dst=some d1) (h1g:o1.guard=none) (h2:o2.op=.convert t t (.tmp d1)) (h2d:o2.dst=some d2) (h2g:o2.guard=none) (h3:o3.op=.assign (.tmp d2)) (h3d:o3.dst=some d3) (h3g:o3.guard=none)
  (hk:k<env.nobj) (hn:σ.obj k=none) (ht:env.ty t=some ty) (hks:ty.kind=.slice) (hu8:ty.kKind=.int .u8) (hc1:0<ty.eSize) (hc2:parts.size=len) (hc3:len * ty.eSize≤65536) (hc4:ty.eZero=true) (hl0:0<len)
  (hxs:zgu ty.eSize 0 (parts.toList.map fun q=>(q.1,zah env σ q.2))=some xs) (hxl:xs.length=len) (hns:zdP xs=some ns) (hd1:d1<σ.slots.length) (hd2:d2<σ.slots.length) (hd12:d1≠d2)
  (hq:Q .normal ⟨((σ.slots.set d1 (.row k len)).set d2 (.row k len)).set d3 (.row k len),σ.objs.set k (some (.row ty.eSize xs))⟩):SW P env pin (.region id #[o1,o2,o3] false) σ Q:=fun hl E g M a w hR hG=>by
 have hkl:k<σ.objs.length:=by omega
 refine wp_region ?_
 show wpOps P _ _ [0,1,2] a w
 have hd:=(zml hR hG.1 hE hl h1 h1d hk hn ht hks hc1 hc2 hc3 hc4 hxs).toW
 unfold wpOps
 simp only [List.getElem?_toArray,List.getElem?_cons_zero,Region.wanted,h1g,if_true]
 refine .inl (hd _ _ fun v w2 g2 M2 hR2 hag2 hM2=>?_)
 obtain ⟨σ2,hσ2⟩:∃ σ2,σ2=σ.app o1.dst ⟨.row k len,[(k,.row ty.eSize xs)]⟩:=⟨_,rfl⟩
 rw [←hσ2] at hR2
 have hs2:σ2=⟨σ.slots.set d1 (.row k len),σ.objs.set k (some (.row ty.eSize xs))⟩:=by rw [hσ2,h1d];rfl
 have hl2:σ2.objs.length=env.nobj:=by rw [hs2];simpa using hl
 have hob2:σ2.obj k=some (.row ty.eSize xs):=by rw [hs2];simp [St.obj,hkl]
 have hsl2:zah env σ2 (.tmp d1)=.row k len:=by rw [hs2];simp [zah,St.slot,hd1]
 have hop2:aop env o2.dst (zah env σ2) σ2.obj o2.op=some ⟨.row k len,[(k,.row ty.eSize xs)]⟩:=by
  rw [h2]
  simp only [aop,ht,hsl2,hob2,hks,hns]
  rw [if_pos ⟨trivial,hu8,hxl,hl0⟩]
 have hG2:=hG.mono hM2
 have hd2':=(zh5 (P:=P) hR2 hG2.1 hE hl2 hop2).toW
 show wpOps P _ _ [1,2] _ w2
 unfold wpOps
 simp only [List.getElem?_toArray,List.getElem?_cons_succ,List.getElem?_cons_zero,Region.wanted,h2g,if_true]
 refine .inl (hd2' _ _ fun v3 w3 g3 M3 hR3 hag3 hM3=>?_)
 obtain ⟨σ3,hσ3⟩:∃ σ3,σ3=σ2.app o2.dst ⟨.row k len,[(k,.row ty.eSize xs)]⟩:=⟨_,rfl⟩
 rw [←hσ3] at hR3
 have hs3:σ3=⟨(σ.slots.set d1 (.row k len)).set d2 (.row k len),σ.objs.set k (some (.row ty.eSize xs))⟩:=by
  rw [hσ3,h2d,hs2]
  simp [St.app]
 have hl3:σ3.objs.length=env.nobj:=by rw [hs3];simpa using hl
 have hsl3:zah env σ3 (.tmp d2)=.row k len:=by rw [hs3];simp [zah,St.slot,hd2]
 have hop3:aop env o3.dst (zah env σ3) σ3.obj o3.op=some ⟨.row k len,[]⟩:=by
  rw [h3]
  simp only [aop,hsl3]
 have hG3:=hG2.mono hM3
 have hd3':=(zh5 (P:=P) hR3 hG3.1 hE hl3 hop3).toW
 show wpOps P _ _ [2] _ w3
 unfold wpOps
 simp only [List.getElem?_toArray,List.getElem?_cons_succ,List.getElem?_cons_zero,Region.wanted,h3g,if_true]
 refine .inl (hd3' _ _ fun v4 w4 g4 M4 hR4 hag4 hM4=>?_)
 show wpOps P _ _ [] _ w4
 unfold wpOps
 have hs4:σ3.app o3.dst ⟨.row k len,[]⟩=⟨((σ.slots.set d1 (.row k len)).set d2 (.row k len)).set d3 (.row k len),σ.objs.set k (some (.row ty.eSize xs))⟩:=by
  rw [h3d,hs3];rfl
 rw [hs4] at hR4
 have hdm:∀ i,σ.dom i→σ2.dom i:=fun i hi=>by rw [hσ2];exact zlo _ _ _ hi
 have hdm3:∀ i,σ.dom i→σ3.dom i:=fun i hi=>by rw [hσ3];exact zlo _ _ _ (hdm i hi)
 refine ⟨_,g4,M4,hq,hR4,Mem.le_trans (Mem.le_trans hM2 hM3) hM4,fun i hi hdi=>⟨?_,?_⟩,by simpa using hl⟩
 ·obtain ⟨a1,a2,a3⟩:=hag2 i hdi
  obtain ⟨b1,b2,b3⟩:=hag3 i (hdm i hdi)
  obtain ⟨c1,c2,c3⟩:=hag4 i (hdm3 i hdi)
  exact ⟨c1.trans (b1.trans a1),c2.trans (b2.trans a2),c3.trans (b3.trans a3)⟩
 ·have:=zlo (σ:=σ3) o3.dst ⟨.row k len,[]⟩ i (hdm3 i hdi)
  rw [hs4] at this
  exact this
/-! The walk stops where it is told to. -/
def spl:Nat→Code→List Code × Code
 |k+1,.seq a b=>(a::(spl k b).1,(spl k b).2)
 |_,c=>([],c)
def VCs (P:Program) (env:Env) (pin:Nat):List Code→Code→St→(Exit→St→Prop)→Prop
 |[],y,σ,Q=>LW P env pin y σ Q .mk
 |a::r,y,σ,Q=>VC P env pin a σ (zeY (fun σ'=>VCs P env pin r y σ' Q) Q)
theorem zGA (hE:zaY P env) (hm:P.follows .mixedOrders=true):∀ (k:Nat) (c:Code) {σ:St},VCs P env pin (spl k c).1 (spl k c).2 σ Q→SW P env pin c σ Q
 |0,c,σ,h=>h
 |k+1,c,σ,h=>by
  cases c with
  |seq a b=>
   have h:VC P env pin a σ (zeY (fun σ'=>VCs P env pin (spl k b).1 (spl k b).2 σ' Q) Q):=h
   exact SW.seq ((VC.to hE hm a h).mono (zmF fun _ hh=>zGA hE hm k b hh))
  |_=>exact h
end
end Go.Abs
namespace Go.Abs
open Go Go.ChangeShapes Go.WideShapes Go.ChangeAt Go.RowKit
def zj2 (W:World):Mem:=fun b i=>W.cell? ⟨b,i,none⟩
structure Held (W W':World):Prop where
 os:W'.os=W.os
 output:W'.output=W.output
 size:W.heap.size≤W'.heap.size
 same:∀ b,b<W.heap.size→W'.heap[b]?=W.heap[b]?
theorem zwR {P:Program} {gl:Nat→Option (List PVal)} {f:FuncId} {W:World} (pvs:List PVal) (vargs:List Value) (hac:AC P gl f (pvs.map .pv) [] (.pv (.bool true)) [])
  (hgl:GOK ⟨fun _=>none,gl,fun _=>0,0⟩ (zj2 W)) (hex:∀ b cs,gl b=some cs→cs≠[]→∃ vals T l,W.heap[b]?=some (.cells vals T l)∧vals.size=cs.length) (hlen:vargs.length=pvs.length) (hrd:∀ i,i<pvs.length→Rd (zj2 W) (pvs.getD i .nilptr) (vargs.getD i undef)) :
  Calls P f vargs.toArray W fun e W'=>e=.returned (.bool true)∧Held W W':=by
 have hR:Rel ⟨W,zj2 W,zaP ⟨fun _=>0,fun _=>0,fun _=>false⟩ [],[]⟩ ⟨pvs.map .pv,[]⟩ ⟨fun _=>0,fun _=>0,fun _=>false⟩ (zj2 W) ⟨vargs.toArray,[]⟩ W:=by
  refine ⟨by simpa using hlen,rfl,fun i hi=>?_,?_,?_,?_,fun b i u h=>h,Mem.le_refl _,fun _ _ _ _=>rfl,Nat.le_refl _,fun _ _ _=>rfl,?_,rfl,rfl,rfl⟩
  ·simp only [List.length_map] at hi
   have h1:=hrd i hi
   have e1:St.slot ⟨pvs.map .pv,[]⟩ i=.pv (pvs.getD i .nilptr):=by simp [St.slot,List.getD,hi]
   have e2:vargs.toArray.getD i undef=vargs.getD i undef:=by simp [Array.getD,List.getD,hlen,hi]
   rw [e1]
   show V _ _ _ _ (vargs.toArray.getD i undef)
   rw [e2]
   exact .pv h1
  ·intro id o h;simp [St.obj] at h
  ·intro id id' o o' b h;simp [St.obj] at h
  ·intro id o b h;simp [St.obj] at h
  ·intro id o b h;simp [St.obj] at h
 refine (hac W (zj2 W) _ vargs hR ⟨hgl,fun b cs hb hne=>⟨by rintro ⟨id,ob,h,_⟩;simp at h,hex b cs hb hne⟩⟩).mono fun e W' ⟨v,g',M',he,hR',_⟩=>?_
 have hs:=hR'.slots 0 (by simp)
 have hv:v=.bool true:=by
  have h1:V g' (St.dom ⟨[.pv (.bool true)],[]⟩) M' (.pv (.bool true)) v:=by simpa [St.slot,Array.getD] using hs
  cases h1 with
  |pv h=>cases h;rfl
 have hB:∀ b,¬ zaP ⟨fun _=>0,fun _=>0,fun _=>false⟩ [] b:=by rintro b ⟨id,ob,h,_⟩;simp at h
 exact ⟨by rw [he,hv],hR'.os,hR'.output,hR'.size0,fun b hb=>hR'.same b hb (hB b)⟩
section
variable {H:Type} {enc:TypeId × Value→H} {P:Program}
theorem Held.sameAt {W W':World} (h:Held W W') {p:MemPlace} (hp:p.block<W.heap.size):W.sameAt W' p:=by
 cases p with
 |cell b off=>show W'.cell? _=W.cell? _;simp only [World.cell?];rw [h.same b hp]
 |map b=>exact h.same b hp
theorem zhg (hl:laidOutB P=true) {W W':World} (hh:Held W W') {sp':Nat→Bool}:∀ {ts:List TypeId} {vs:List Value} {ds:List (DataW H)} {ps:List MemPlace},(∀ t ∈ ts,P.readableRec t=true∧t<P.types.size) →
  DataW.TrodAll enc P W 0 (fun _=>true) true ts vs ds ps→(∀ p ∈ ps,p.block<W.heap.size)→(∀ p ∈ ps,sp' p.block=true)→DataW.TrodAll enc P W' 0 sp' true ts vs ds ps
 |[],[],[],_,_,h,_,_=>h
 |[],[],_::_,_,_,h,_,_=>h.elim
 |[],_::_,_,_,_,h,_,_=>h.elim
 |_::_,[],_,_,_,h,_,_=>h.elim
 |_::_,_::_,[],_,_,h,_,_=>h.elim
 |t::ts,v::vs,d::ds,ps,hr,⟨p,q,h1,h2,he⟩,hlt,hsp=>by
  subst he
  have hr1:=hr t (by simp)
  exact ⟨p,q,WideElems.Trod_stays hl hr1.1 hr1.2 h1 (fun x hx=>hh.sameAt (hlt x (by simp [hx]))) (fun x hx=>hsp x (by simp [hx])),
   zhg hl hh (fun t ht=>hr t (by simp [ht])) h2 (fun x hx=>hlt x (by simp [hx])) (fun x hx=>hsp x (by simp [hx])),rfl⟩
theorem Held.keptBut {W W':World} (h:Held W W') (may:MemPlace→Prop):W.keptBut W' may:=by
 refine ⟨h.os,h.output,fun i hi=>?_⟩
 rw [h.same i hi]
 split
 ·rename_i h1 h2;rw [h1] at h2;cases h2;exact ⟨rfl,rfl,rfl,fun _ _=>rfl⟩
 ·rename_i h1 h2;rw [h1] at h2;cases h2;exact .inr ⟨rfl,rfl⟩
 ·rfl
theorem zwS {f:Func} {s:ChangeSpec} {fresh handsOn again:Bool} {W W':World} {args:Array Value} {ds gs:List (DataW H)} {before:List MemPlace} {tb:TypeId}
  (hl:laidOutB P=true) (hr:∀ t ∈ f.params.toList,P.readableRec t=true∧t<P.types.size) (hrt:f.resultTypes=#[tb]) (htb:P.underlying tb=some .bool)
  (hvars:s.vars=[]) (hfn:∀ ds:List (DataW H),ds.length=f.params.size→(s.fn H ds).results=[.lit (.bool true)]∧(s.fn H ds).args=ds∧(s.fn H ds).vars=[])
  (hW:DataW.Whole enc P f.params.toList s.vars false W args.toList ds gs before) (hh:Held W W') :
  s.post enc P f false fresh handsOn again W args (.bool true) W':=by
 have hlt:=hW.lt
 have hW':=hW
 obtain ⟨p,q,hA,hV,rfl,hz,hn⟩:=hW
 rw [hvars] at hV
 obtain ⟨rfl,rfl⟩:=trodVars_none hV
 rw [List.append_nil] at hlt hz hn hW'
 have hdl:ds.length=f.params.size:=by
  have:∀ {ts:List TypeId} {vs:List Value} {ds:List (DataW H)} {ps:List MemPlace},DataW.TrodAll enc P W 0 (fun _=>true) true ts vs ds ps→ds.length=ts.length:=by
   intro ts
   induction ts with
   |nil=>intro vs ds ps h;obtain ⟨_,rfl,_⟩:=trodAll_nil h;rfl
   |cons t ts ih=>
    intro vs ds ps h
    obtain ⟨_,_,_,_,_,_,_,rfl,_,_,h2⟩:=trodAll_cons h
    simp [ih h2]
  simpa using this hA
 obtain ⟨f1,f2,f3⟩:=hfn (ds++[]) (by simpa using hdl)
 have hres:∀ (b:Nat) (sp:Nat→Bool) (hd:Bool),DataW.TrodAll enc P W' b sp hd f.resultTypes.toList ((Value.bool true).resultList f.resultTypes.size) (s.fn H (ds++[])).results []:=fun b sp hd=>by
  rw [f1,hrt]
  exact trodAll_cons_mk (shut_bool htb _) trodAll_mk0
 have hargs:∀ sp:Nat→Bool,(∀ x ∈ p,sp x.block=true)→DataW.TrodAll enc P W' 0 sp true f.params.toList args.toList (s.fn H (ds++[])).args p:=fun sp hsp=>by
  rw [f2,List.append_nil]
  exact zhg hl hh hr hA hlt hsp
 have hvs:∀ sp:Nat→Bool,DataW.TrodVars enc P W' sp s.vars (s.fn H (ds++[])).vars []:=fun sp=>by rw [hvars,f3];rfl
 refine ⟨ds,[],p,[],p,[],hW',hres _ _ _,hargs _ (fun x hx=>by simpa using hlt x hx),hvs _,hh.keptBut _,fun _=>?_⟩
 refine ⟨?_,_,_,([]++p)++[],⟨[]++p,[],trodAll_append (hargs _ (fun _ _=>rfl)) (hres _ _ _),hvs _,rfl,?_,?_⟩,?_⟩
 ·exact ok_one (by rw [hrt]) rfl (okWide_bool_mk htb _)
 ·intro b off hp
  have hp':MemPlace.cell b off ∈ p:=by simpa using hp
  have:=hz b off hp'
  rw [World.frozen?,hh.same b (hlt _ hp')]
  exact this
 ·intro ha;cases ha
 ·intro x hx _
  simpa using hx
end
end Go.Abs
namespace Go.Abs
open Go
theorem zk4 {H:Type} {enc:TypeId × Value→H} {P:Program} {w:World} {base:Nat} {spare:Nat→Bool} {held:Bool} {fuel:Nat} {t e:TypeId} {cs:List Value} {ps:List MemPlace} {n:Nat} {ds:List (List UInt8)}
  (ht:P.underlying t=some (.array n e)) (he:P.underlying e=some .string) (hC:P.cellsOf e=1)
  (h:DataW.trod enc P w base spare held fuel t cs=some (.agg (ds.map fun s=>.lit (.string s)),ps)) (i:Nat) (hi:i<ds.length):cs[i]?=some (.string ⟨(ds.getD i []).toArray⟩):=by
 obtain ⟨xs,m,_,hx,_,hn,hel⟩:=DataW.trod_array ht h
 simp only [Prod.mk.injEq,DataW.agg.injEq] at hx
 have hlen:ds.length=xs.length:=by have:=congrArg List.length hx.1;simpa using this
 have h1:=hel i (by omega)
 rw [hC,List.getElem?_eq_getElem (by omega)] at h1
 obtain ⟨s,e1,e2,_⟩:=DataW.trod_string he h1
 have h2:(ds.map fun s=>(DataW.lit (.string s):DataW H))[i]?=(xs.map (fun x=>x.fst))[i]?:=by rw [hx.1]
 rw [List.getElem?_map,List.getElem?_map,List.getElem?_eq_getElem hi,List.getElem?_eq_getElem (by omega:i<xs.length)] at h2
 simp only [Option.map_some,Option.some.injEq] at h2
 rw [e2] at h2
 simp only [DataW.lit.injEq,Lit.string.injEq] at h2
 have h3:ds.getD i []=s.data.toList:=by simp [List.getD,hi,h2]
 rw [h3]
 have h4:cs[i]?=some (.string s):=by
  have:=congrArg (fun l=>l[0]?) e1
  simpa using this
 rw [h4]
theorem zua {H:Type} {enc:TypeId × Value→H} {P:Program} {w:World} {base:Nat} {spare:Nat→Bool} {held:Bool} {fuel:Nat} {t e:TypeId} {cs:List Value} {ps:List MemPlace} {n:Nat} {k:IntKind} {ds:List Int}
  (ht:P.underlying t=some (.array n e)) (he:P.underlying e=some (.int k)) (hC:P.cellsOf e=1)
  (h:DataW.trod enc P w base spare held fuel t cs=some (.agg (ds.map fun s=>.lit (.int k s)),ps)) (i:Nat) (hi:i<ds.length):cs[i]?=some (.int k (ds.getD i 0)):=by
 obtain ⟨xs,m,_,hx,_,hn,hel⟩:=DataW.trod_array ht h
 simp only [Prod.mk.injEq,DataW.agg.injEq] at hx
 have hlen:ds.length=xs.length:=by have:=congrArg List.length hx.1;simpa using this
 have h1:=hel i (by omega)
 rw [hC,List.getElem?_eq_getElem (by omega)] at h1
 obtain ⟨s,e1,e2,_⟩:=DataW.trod_int he h1
 have h2:(ds.map fun s=>(DataW.lit (.int k s):DataW H))[i]?=(xs.map (fun x=>x.fst))[i]?:=by rw [hx.1]
 rw [List.getElem?_map,List.getElem?_map,List.getElem?_eq_getElem hi,List.getElem?_eq_getElem (by omega:i<xs.length)] at h2
 simp only [Option.map_some,Option.some.injEq] at h2
 rw [e2] at h2
 simp only [DataW.lit.injEq,Lit.int.injEq] at h2
 have h3:ds.getD i 0=s:=by simp [List.getD,hi,h2]
 rw [h3]
 have h4:cs[i]?=some (.int k s):=by
  have:=congrArg (fun l=>l[0]?) e1
  simpa using this
 rw [h4]
theorem zk5 {H:Type} {enc:TypeId × Value→H} {P:Program} {w:World} {base:Nat} {spare:Nat→Bool} {held:Bool} {fuel:Nat} {t:TypeId} {cs:List Value} {ps:List MemPlace} {ms:Array (String × TypeId)} {nm:String} {d:DataW H}
  (ht:P.underlying t=some (.interface ms)) (h:DataW.trod enc P w base spare held fuel t cs=some (.iface nm d,ps)):∃ u v,cs[0]?=some (.iface u v):=by
 cases fuel with
 |zero=>simp [DataW.trod] at h
 |succ f=>
  unfold DataW.trod at h
  rw [ht] at h
  split at h<;>simp_all
theorem zfx {P:Program} {W:World} {name:String} {b:Nat} {cs:Array Value} (hg:P.globalNamed name=some b) (hv:W.var? P name=some cs):∃ T l,W.heap[b]?=some (.cells cs T l):=by
 unfold World.var? at hv
 rw [hg] at hv
 simp only [Option.bind_some] at hv
 split at hv
 ·rename_i cs' T l h
  cases hv
  exact ⟨T,l,h⟩
 ·cases hv
theorem zhF {H:Type} {enc:TypeId × Value→H} {P:Program} {w:World} {base:Nat} {spare:Nat→Bool} {held:Bool} {fuel:Nat} {t e:TypeId} {cs:Array Value} {x:DataW H × List MemPlace} {n m:Nat}
  (ht:P.underlying t=some (.array n e)) (hC:P.cellsOf t=m) (h:DataW.trod enc P w base spare held fuel t cs.toList=some x):cs.size=m:=by
 obtain ⟨_,_,_,_,hl,_⟩:=DataW.trod_array ht h
 simpa [hC] using hl
theorem zk6 {H:Type} {enc:TypeId × Value→H} {P:Program} {w:World} {base:Nat} {spare:Nat→Bool} {held:Bool} {fuel:Nat} {t:TypeId} {cs:Array Value} {ps:List MemPlace} {ms:Array (String × TypeId)} {nm:String} {d:DataW H}
  (ht:P.underlying t=some (.interface ms)) (h:DataW.trod enc P w base spare held fuel t cs.toList=some (.iface nm d,ps)):cs.size=1:=by
 rw [←Array.length_toList]
 generalize cs.toList=l at *
 cases fuel with
 |zero=>simp [DataW.trod] at h
 |succ f=>
  unfold DataW.trod at h
  rw [ht] at h
  split at h<;>simp_all
variable {H:Type} {enc:TypeId × Value→H}
theorem zko {a:Assume} {C:Checked} {os:Os} {f:FuncId} {fn:Func} {s:ChangeSpec} {conds:List PathCond} {apart fresh handsOn again:Bool} {X:World→Array Value→Prop}
  (hX:∀ (w w':World) (args:Array Value),w.heap=w'.heap→X w args→X w' args)
  (own:ownKnob C.prog.godebug=none) (started:os.Started) (noInit:C.prog.inits.idxOf? f=none) (hfn:C.prog.funcs[f]?=some fn)
  (witness:∃ (w:World) (tape:Tape) (i:Input),w.os=os∧(w.forCall tape i).Shaped C.prog∧i.vars=[]∧Input.okWide C.prog (w.forCall tape i) .any w.heap.size f i ∧
   ((s.pre enc C.prog fn conds apart (w.forCall tape i).memory i.args∧X (w.forCall tape i).memory i.args)∧sizedMet enc C.prog fn (OpenSpec.ofChange s) apart (w.forCall tape i).memory i.args)∧a.holds C.prog (lone (Frame.enter C.prog f i.args .normal) [] (w.forCall tape i)))
  (contract:∀ (W:World) (base:Nat) (args:Array Value) (ds gs:List (DataW H)) (before:List MemPlace),
   (∀ (j:Nat) t v,fn.params[j]?=some t→args[j]?=some v→Value.okWide C.prog W .any base t v) →
   DataW.Whole enc C.prog fn.params.toList s.vars apart W args.toList ds gs before →
   conds.all (PathCond.test C.prog ⟨fn.params.toList,ds,s.plain.varTypes C.prog,gs⟩)=true →
   (DataW.weightsEach C.prog (fn.params.toList++s.plain.varTypes C.prog) (ds++gs)).all (·≤reachBytes)=true→X W args→W.ShapedOpen C.prog →
   Calls C.prog f args W fun e W'=>∃ v,e=.returned v∧s.post enc C.prog fn apart fresh handsOn again W args v W') :
  ReturnsInHanded a C os f .any (fun w args=>(s.pre enc C.prog fn conds apart w args∧X w args)∧sizedMet enc C.prog fn (OpenSpec.ofChange s) apart w args) (s.post enc C.prog fn apart fresh handsOn again):=by
 refine returnsInHanded_of_calls own started noInit witness ?_
 intro w tape i _ hsh _ hok hpre hholds
 obtain ⟨_,_,_,fn',hfn',_,_,_,_,hval⟩:=hok
 have e:fn'=fn:=Option.some.inj (hfn'.symm.trans hfn)
 subst e
 obtain ⟨⟨⟨ds,gs,before,hw,hc⟩,hx⟩,hz⟩:=hpre
 have hw':=DataW.Whole.of_heap (w':=w.forCall tape i) (by rfl) hw
 refine (contract (w.forCall tape i) w.heap.size i.args ds gs before hval hw' hc (hz.weights hw) (hX _ _ _ (by rfl) hx) hsh).mono fun e W' ⟨v,he,hp⟩=>?_
 subst he
 exact ChangeSpec.post_blind hp
theorem zub {P:Program} {w:World} {g:Nat} {t:TypeId} {zero:Array Value} {k:IntKind}
  (h:w.ShapedOpen P) (hg:g<P.globals.size)
  (h0:((begin P (fun _ _=>0) default).world.heap[g]?).bind Obj.row?=some (zero,t)) (hz:zero.size=1)
  (hb:P.buildable t=true) (hc:P.cellTypes P.depth t=some [t]) (hu:P.underlying t=some (.int k)) :
  (∃ m,w.cell? ⟨g,0,none⟩=some (.int k m))∧∃ vals T l,w.heap[g]?=some (.cells vals T l)∧vals.size=1:=by
 refine ⟨Go.Proofs.cell_of_shapedOpen_int h hg h0 hz hb hc hu,?_⟩
 obtain ⟨cs,hh,hs,_⟩:=h.1 g zero t hg h0
 exact ⟨cs,t,_,hh,by omega⟩
end Go.Abs
