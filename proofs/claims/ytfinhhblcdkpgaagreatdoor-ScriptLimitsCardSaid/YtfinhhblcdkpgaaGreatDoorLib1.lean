/- A sound walk of the program by abstract states, part 1: its theorems have no condition beyond what they state. -/
import Derived.Orders
import Derived.Laws.Cells
import Derived.Lib.Strings
import Derived.Laws.StructEq
import Derived.Laws.BytesArg
import Derived.IntWalk
set_option maxRecDepth 100000
set_option maxHeartbeats 64000000
set_option linter.unusedSimpArgs false
set_option linter.unusedVariables false
set_option linter.defProp false
namespace Go.Abs
open Go
abbrev Mem:=Nat→Nat→Option Value
inductive PVal where
 |int (k:IntKind) (n:Int)
 |bool (b:Bool)
 |str (s:List UInt8)
 |slice (xs:List (List PVal))
 |ptr (cs:List PVal)
 |nilptr
 |nilmap
 |err (b:Bool)
 |ifc (t:Nat) (ag:Bool) (cs:List PVal)
 |ani (k:IntKind)
 |xsl (xs:List (List PVal))
 deriving Inhabited
inductive AVal where
 |pv (p:PVal)
 |snil
 |ref (id off:Nat)
 |row (id n:Nat)
 |eref (id i j sz:Nat)
 |csl (id n sz:Nat)
 |map (id:Nat)
 |agg (cs:List AVal)
 |tup (vs:List AVal)
 |clo (f:Nat) (cs:List AVal)
 |junk
 deriving Inhabited
inductive Kd where
 |int (k:IntKind)
 |bool
 |string
 |slice
 |array (n:Nat)
 |struct
 |map
 |iface
 |other
 deriving Inhabited,DecidableEq
inductive AObj where
 |cells (cs:List AVal)
 |row (sz:Nat) (xs:List (List PVal))
 |map (kd:Kd) (es:List (PVal × Bool × List PVal))
 |bh (T e B n:Nat)
 |bb (e:Nat) (s:List UInt8)
 |dead
 deriving Inhabited
structure St where
 slots:List AVal
 objs:List (Option AObj)
def St.obj (σ:St) (id:Nat):Option AObj:=σ.objs.getD id none
def St.dom (σ:St) (id:Nat):Prop:=σ.obj id≠none
def St.slot (σ:St) (i:Nat):AVal:=σ.slots.getD i .junk
def zbW (xs:List (List PVal)) (i j:Nat):PVal:=(xs.getD i []).getD j .nilptr
inductive Rd (M:Mem):PVal→Value→Prop
 |int (k:IntKind) (n:Int):Rd M (.int k n) (.int k n)
 |bool (b:Bool):Rd M (.bool b) (.bool b)
 |str (s:List UInt8):Rd M (.str s) (.string ⟨s.toArray⟩)
 |nils:Rd M (.slice []) (.slice none 0 0)
 |slice (xs:List (List PVal)) (sz b off cap:Nat) (us:Nat→Nat→Value) :
   (∀ x,x ∈ xs→x.length=sz) →
   (∀ i j,i<xs.length→j<sz→M b (off+i * sz+j)=some (us i j)) →
   (∀ i j,i<xs.length→j<sz→Rd M (zbW xs i j) (us i j)) →
   xs.length≤cap →
   Rd M (.slice xs) (.slice (some ⟨b,off,none⟩) xs.length cap)
 |ptr (cs:List PVal) (b off:Nat) (us:Nat→Value) :
   (∀ j,j<cs.length→M b (off+j)=some (us j)) →
   (∀ j,j<cs.length→Rd M (cs.getD j .nilptr) (us j)) →
   Rd M (.ptr cs) (.pointer (some ⟨b,off,none⟩))
 |nilptr:Rd M .nilptr (.pointer none)
 |nilmap:Rd M .nilmap (.map none)
 |errn:Rd M (.err true) .nilIface
 |erri (t:TypeId) (v:Value):Rd M (.err false) (.iface t v)
 |ifca (t:TypeId) (cs:List PVal) (vs:List Value):vs.length=cs.length→(∀ i,i<cs.length→Rd M (cs.getD i .nilptr) (vs.getD i undef))→Rd M (.ifc t true cs) (.iface t (.agg vs.toArray))
 |ifco (t:TypeId) (c:PVal) (v:Value):Rd M c v→Rd M (.ifc t false [c]) (.iface t v)
 |ani (k:IntKind) (n:Int):Rd M (.ani k) (.int k n)
 |xsl (xs:List (List PVal)) (sz b off:Nat) (us:Nat→Nat→Value) :
   (∀ x,x ∈ xs→x.length=sz) →
   (∀ i j,i<xs.length→j<sz→M b (off+i * sz+j)=some (us i j)) →
   (∀ i j,i<xs.length→j<sz→Rd M (zbW xs i j) (us i j)) →
   Rd M (.xsl xs) (.slice (some ⟨b,off,none⟩) xs.length xs.length)
def Mem.le (M M':Mem):Prop:=∀ b i u,M b i=some u→M' b i=some u
theorem Rd.mono {M M':Mem} (h:Mem.le M M') {p:PVal} {v:Value} (r:Rd M p v):Rd M' p v:=by
 induction r with
 |int k n=>exact .int k n
 |bool b=>exact .bool b
 |str s=>exact .str s
 |nils=>exact .nils
 |slice xs sz b off cap us h1 h2 _ h4 ih=>exact .slice xs sz b off cap us h1 (fun i j hi hj=>h _ _ _ (h2 i j hi hj)) ih h4
 |ptr cs b off us h1 _ ih=>exact .ptr cs b off us (fun j hj=>h _ _ _ (h1 j hj)) ih
 |nilptr=>exact .nilptr
 |nilmap=>exact .nilmap
 |errn=>exact .errn
 |erri t v=>exact .erri t v
 |ifca t cs vs hl _ ih=>exact .ifca t cs vs hl ih
 |ifco t c v _ ih=>exact .ifco t c v ih
 |ani k n=>exact .ani k n
 |xsl xs sz b off us h1 h2 _ ih=>exact .xsl xs sz b off us h1 (fun i j hi hj=>h _ _ _ (h2 i j hi hj)) ih
structure Gh where
 ρ:Nat→Nat
 κ:Nat→Nat
 ν:Nat→Bool
inductive V (g:Gh) (D:Nat→Prop) (M:Mem):AVal→Value→Prop
 |pv {p:PVal} {v:Value}:Rd M p v→V g D M (.pv p) v
 |snil:V g D M .snil (.slice none 0 0)
 |ref (id off:Nat):D id→V g D M (.ref id off) (.pointer (some ⟨g.ρ id,off,none⟩))
 |row (id n:Nat):D id→g.ν id=false→V g D M (.row id n) (.slice (some ⟨g.ρ id,0,none⟩) n (g.κ id))
 |rown (id:Nat):D id→g.ν id=true→V g D M (.row id 0) (.slice none 0 0)
 |eref (id i j sz:Nat):D id→V g D M (.eref id i j sz) (.pointer (some ⟨g.ρ id,i * sz+j,none⟩))
 |csl (id n sz:Nat):D id→V g D M (.csl id n sz) (.slice (some ⟨g.ρ id,0,none⟩) n n)
 |map (id:Nat):D id→V g D M (.map id) (.map (some (g.ρ id)))
 |agg (cs:List AVal) (vs:List Value):vs.length=cs.length →
   (∀ i,i<cs.length→V g D M (cs.getD i .junk) (vs.getD i undef))→V g D M (.agg cs) (.agg vs.toArray)
 |tup (cs:List AVal) (vs:List Value):vs.length=cs.length →
   (∀ i,i<cs.length→V g D M (cs.getD i .junk) (vs.getD i undef))→V g D M (.tup cs) (.tuple vs.toArray)
 |clo (f:Nat) (cs:List AVal) (vs:List Value):vs.length=cs.length →
   (∀ i,i<cs.length→V g D M (cs.getD i .junk) (vs.getD i undef))→V g D M (.clo f cs) (.func (.func f) #[] vs.toArray)
 |junk (v:Value):V g D M .junk v
def Gh.agree (g g':Gh) (id:Nat):Prop:=g'.ρ id=g.ρ id∧g'.κ id=g.κ id∧g'.ν id=g.ν id
theorem V.mono {g g':Gh} {D D':Nat→Prop} {M M':Mem} (hg:∀ id,D id→g.agree g' id) (hD:∀ id,D id→D' id) (hM:Mem.le M M')
  {a:AVal} {v:Value} (h:V g D M a v):V g' D' M' a v:=by
 induction h with
 |pv r=>exact .pv (r.mono hM)
 |snil=>exact .snil
 |ref id off hd=>have:=hg id hd;rw [←this.1];exact .ref id off (hD id hd)
 |row id n hd hn=>have:=hg id hd;rw [←this.1,←this.2.1];exact .row id n (hD id hd) (by rw [this.2.2];exact hn)
 |rown id hd hn=>have:=hg id hd;exact .rown id (hD id hd) (by rw [this.2.2];exact hn)
 |eref id i j sz hd=>have:=hg id hd;rw [←this.1];exact .eref id i j sz (hD id hd)
 |csl id n sz hd=>have:=hg id hd;rw [←this.1];exact .csl id n sz (hD id hd)
 |map id hd=>have:=hg id hd;rw [←this.1];exact .map id (hD id hd)
 |agg cs vs hl _ ih=>exact .agg cs vs hl ih
 |tup cs vs hl _ ih=>exact .tup cs vs hl ih
 |clo f cs vs hl _ ih=>exact .clo f cs vs hl ih
 |junk v=>exact .junk v
def AVal.isCell:AVal→Bool
 |.pv _|.snil|.ref ..|.row ..|.eref ..|.csl ..|.map _|.clo ..=>true
 |_=>false
theorem V.oneCell {g:Gh} {D:Nat→Prop} {M:Mem} {a:AVal} {v:Value} (h:V g D M a v) (hc:a.isCell=true):v.oneCell'=true:=by
 cases h with
 |pv r=>cases r<;>rfl
 |agg=>simp [AVal.isCell] at hc
 |tup=>simp [AVal.isCell] at hc
 |junk=>simp [AVal.isCell] at hc
 |_=>rfl
def zbj (g:Gh) (id:Nat):AObj→Option Nat
 |.cells _=>some (g.ρ id)
 |.row _ _=>if g.ν id then none else some (g.ρ id)
 |.map _ _=>some (g.ρ id)
 |.bh _ _ _ _=>some (g.ρ id)
 |.bb _ _=>if g.ν id then none else some (g.ρ id)
 |.dead=>none
def zc4 (kd:Kd):PVal→Bool
 |.int k _=>kd==.int k
 |.str _=>kd==.string
 |.bool _=>kd==.bool
 |_=>false
def zf3 (q:Bool × List PVal):AVal:=if q.1 then .agg (q.2.map .pv) else .pv (q.2.getD 0 .nilptr)
def zb0 (s:List UInt8):List Value:=s.map fun c=>.int .u8 (c.toNat:Int)
def ziH (g:Gh) (B n:Nat):Value:=if g.ν B then .slice none 0 0 else .slice (some ⟨g.ρ B,0,none⟩) n (g.κ B)
structure Tf (vals:Array Value) where
 p:TypeId × (Nat × Nat)
 fz:p.2.1=p.2.2∨vals.size≤p.2.1
def Tf.zero (vals:Array Value) (t:TypeId):Tf vals:=⟨(t,(0,0)),.inl rfl⟩
def Tf.over {vals vals':Array Value} (T:Tf vals) (h:vals'.size=vals.size):Tf vals':=⟨T.p,by rw [h];exact T.fz⟩
theorem Tf.ok {vals:Array Value} (T:Tf vals) (i:Nat) (hi:i<vals.size):¬ (T.p.2.1≤i∧i<T.p.2.2):=by have:=T.fz;omega
def OR (g:Gh) (D:Nat→Prop) (M:Mem) (w:World) (id:Nat):AObj→Prop
 |.cells cs=>∃ (vals:Array Value) (T:Tf vals),w.heap[g.ρ id]?=some (.cells vals T.p.1 T.p.2)∧vals.size=cs.length ∧
   ∀ j,j<cs.length→V g D M (cs.getD j .junk) (vals.getD j undef)
 |.row sz xs=>(∀ x,x ∈ xs→x.length=sz)∧(g.ν id=true→xs=[])∧(g.ν id=false→∃ (vals:Array Value) (T:Tf vals),w.heap[g.ρ id]?=some (.cells vals T.p.1 T.p.2) ∧
   xs.length≤g.κ id∧g.κ id * sz≤vals.size∧∀ i j,i<xs.length→j<sz→Rd M (zbW xs i j) (vals.getD (i * sz+j) undef))
 |.map kd es=>∃ ents clock,w.heap[g.ρ id]?=some (.map ents clock)∧ents.size=es.length ∧
   ∀ (i:Nat) (e:PVal × Bool × List PVal),es[i]?=some e→∃ en:MapEntry,ents[i]?=some en∧zc4 kd e.1=true∧Rd M e.1 en.key∧V g D M (zf3 e.2) en.val
 |.bh T e B n=>D B∧(g.ν B=true→n=0)∧∃ p,w.heap[g.ρ id]?=some (.cells #[p,ziH g B n] T (0,0))∧(p=.pointer none∨p=.pointer (some ⟨g.ρ id,0,none⟩))
 |.bb e s=>(g.ν id=true→s=[])∧(g.ν id=false→∃ cur,w.heap[g.ρ id]?=some (.cells cur e (0,0))∧s.length≤g.κ id∧g.κ id≤9223372036854775807∧cur.size=g.κ id∧cur.toList.take s.length=zb0 s)
 |.dead=>True
structure Ent where
 w0:World
 M0:Mem
 B0:Nat→Prop
 ds:List Deferred
structure Rel (E:Ent) (σ:St) (g:Gh) (M:Mem) (a:Act) (w:World):Prop where
 size:a.tmps.size=σ.slots.length
 defers:a.defers=E.ds
 slots:∀ i,i<σ.slots.length→V g σ.dom M (σ.slot i) (a.tmps.getD i undef)
 objs:∀ id o,σ.obj id=some o→OR g σ.dom M w id o
 apart:∀ id id' o o' b,σ.obj id=some o→σ.obj id'=some o'→zbj g id o=some b→zbj g id' o'=some b→id=id'
 offM:∀ id o b,σ.obj id=some o→zbj g id o=some b→∀ i,M b i=none
 sat:∀ b i u,M b i=some u→w.cell? ⟨b,i,none⟩=some u
 M0:Mem.le E.M0 M
 Mnew:∀ b i,b<E.w0.heap.size→¬ E.B0 b→M b i=E.M0 b i
 size0:E.w0.heap.size≤w.heap.size
 same:∀ b,b<E.w0.heap.size→¬ E.B0 b→w.heap[b]?=E.w0.heap[b]?
 own0:∀ id o b,σ.obj id=some o→zbj g id o=some b→E.B0 b∨E.w0.heap.size≤b
 os:w.os=E.w0.os
 tape:w.tape=E.w0.tape
 output:w.output=E.w0.output
theorem Rel.slot {E:Ent} {σ:St} {g:Gh} {M:Mem} {a:Act} {w:World} (h:Rel E σ g M a w) (i:Nat) :
  V g σ.dom M (σ.slot i) (a.tmps.getD i undef):=by
 by_cases hi:i<σ.slots.length
 ·exact h.slots i hi
 ·have:σ.slot i=.junk:=by simp [St.slot,List.getElem?_eq_none (Nat.le_of_not_lt hi)]
  rw [this];exact .junk _
def za4:Value→AVal
 |.int k n=>.pv (.int k n)
 |.bool b=>.pv (.bool b)
 |.string s=>.pv (.str s.data.toList)
 |.slice none 0 0=>.snil
 |.pointer none=>.pv .nilptr
 |.map none=>.pv .nilmap
 |.nilIface=>.pv (.err true)
 |_=>.junk
def zk7:Value→AVal
 |.agg cs=>.agg (cs.toList.map za4)
 |v=>za4 v
structure Ty where
 size:Nat
 bytes:Nat
 agg:Bool:=false
 zero:Option (List AVal)
 fields:List (Nat × Nat):=[]
 eSize:Nat:=0
 eBytes:Nat:=0
 eZero:Bool:=false
 kKind:Kd:=.other
 eZV:Option (Bool × List PVal):=none
 kind:Kd:=.other
 eqs:Option (List Kd):=none
 bld:Option Nat:=none
 deriving Inhabited
def AVal.cells:AVal→List AVal
 |.agg cs=>cs
 |v=>[v]
def AVal.toP:AVal→Option PVal
 |.pv p=>some p
 |.snil=>some (.slice [])
 |_=>none
def ze2:List AVal→Option (List PVal)
 |[]=>some []
 |a::r=>match a.toP,ze2 r with
  |some p,some ps=>some (p::ps)
  |_,_=>none
def zuc (P:Program) (t:TypeId):Kd:=match P.underlying t with|some (.int k)=>.int k|some .bool=>.bool|some .string=>.string|_=>.other
def zaE (P:Program) (t:TypeId):Nat:=match P.info? t with|some i=>i.size|none=>0
def zcM (P:Program) (t:TypeId):Nat:=match P.info? t with|some i=>i.bytes|none=>0
def zoW (P:Program) (t:TypeId):Option (List AVal):=
 match P.info? t with
 |some i=>match i.zero with
  |some z=>some (z.cells.toList.map za4)
  |none=>none
 |none=>none
def zCU (P:Program) (t:TypeId):Bool:=match zoW P t with|some z=>z.length==zaE P t|none=>false
def zxn (P:Program) (t:TypeId):Option (Bool × List PVal):=
 match P.info? t with
 |some i=>match i.zero with
  |some (.agg cs)=>(ze2 (cs.toList.map za4)).map fun ps=>(true,ps)
  |some v=>(za4 v).toP.map fun p=>(false,[p])
  |none=>none
 |none=>none
def zhG (P:Program) (g:TypeId→Option (List Kd)):Nat→List Field→Option (List Kd)
 |_,[]=>some []
 | off, f :: r => if f.name = "_" ∨ f.offset ≠ off then none else match g f.type with
  |some ks=>if zaE P f.type=ks.length then (zhG P g (off+ks.length) r).map (ks++·) else none
  |none=>none
def zk8 (P:Program):Nat→TypeId→Option (List Kd)
 |0,_=>none
 |d+1,t=>match P.underlying t with
  |some (.int k)=>some [.int k]
  |some .bool=>some [.bool]
  |some .string=>some [.string]
  |some (.struct fs)=>if P.stoodInHeld t then none else zhG P (zk8 P d) 0 fs.toList
  |_=>none
def zxo (P:Program) (t:TypeId):Option (List Kd):=match P.underlying t with
 |some (.struct _)=>if P.eqGuardType P.depth t then none else zk8 P 8 t
 |_=>none
def zz1 (P:Program) (t:TypeId):Option Nat:=match P.info? t,P.underlying t with
 |some i,some (.struct fs)=>match i.zero,fs.toList with
  |some (.agg cs),[f0,f1]=>match cs.toList,P.underlying f0.type,P.underlying f1.type with
   |[.pointer none,.slice none 0 0],some (.pointer u),some (.slice e)=>if u=t∧zuc P e=.int .u8 then some e else none
   |_,_,_=>none
  |_,_=>none
 |_,_=>none
def zj3 (P:Program) (t:TypeId):Option Ty:=
 match P.info? t,P.underlying t with
 |some i,some d=>some {
   size:=i.size,bytes:=i.bytes,zero:=zoW P t,
   agg:=match d with|.struct _|.array _ _=>true|_=>false,
   fields:=match d with|.struct fs=>fs.toList.map fun f=>(f.offset,zaE P f.type)|_=>[],
   eSize:=match d with|.slice e|.array _ e=>zaE P e|_=>0,
   eBytes:=match d with|.slice e|.array _ e=>zcM P e|_=>0,
   eZero:=match d with|.slice e|.array _ e=>zCU P e|_=>false,
   kKind:=match d with|.map k _=>zuc P k|.slice e=>zuc P e|.array _ e=>zuc P e|_=>.other,
   eZV:=match d with|.map _ e=>zxn P e|.slice e=>zxn P e|_=>none,
   kind:=match d with|.map _ _=>.map|.int k=>.int k|.bool=>.bool|.string=>.string|.slice _=>.slice|.array n _=>.array n|.struct _=>.struct|.interface _=>.iface|_=>.other,
   eqs:=zxo P t,bld:=zz1 P t }
 |_,_=>none
structure Env where
 ty:Nat→Option Ty
 gl:Nat→Option (List PVal)
 site:Nat→Nat
 nobj:Nat
def zaY (P:Program) (env:Env):Prop:=∀ t ty,env.ty t=some ty→zj3 P t=some ty
def GOK (env:Env) (M:Mem):Prop:=∀ b cs,env.gl b=some cs→∀ j,j<cs.length→∃ u,M b j=some u∧Rd M (cs.getD j .nilptr) u
def EX (gl:Nat→Option (List PVal)) (E:Ent):Prop:=∀ b cs,gl b=some cs→cs≠[]→¬ E.B0 b∧∃ vals T l,E.w0.heap[b]?=some (.cells vals T l)∧vals.size=cs.length
def zj6 (env:Env) (E:Ent) (M:Mem):Prop:=GOK env M∧EX env.gl E
theorem GOK.mono {env:Env} {M M':Mem} (h:GOK env M) (hM:Mem.le M M'):GOK env M':=fun b cs hb j hj=>
 let ⟨u,hu,hr⟩:=h b cs hb j hj;⟨u,hM _ _ _ hu,hr.mono hM⟩
theorem zj6.mono {env:Env} {E:Ent} {M M':Mem} (h:zj6 env E M) (hM:Mem.le M M'):zj6 env E M':=⟨h.1.mono hM,h.2⟩
def zah (env:Env) (σ:St):Operand→AVal
 |.tmp t=>σ.slot t
 |.const v=>zk7 v
 |.global b=>match env.gl b with|some cs=>.pv (.ptr cs)|none=>.junk
 |.func _=>.junk
structure Eff where
 val:AVal
 upd:List (Nat × AObj)
def zgb (op:BinOp) (kd:Option Kd):PVal→PVal→Option PVal
 |.int k a,.int k' b=>if k=k' then
   match op with
   |.add=>some (.int k (k.wrap (a+b)))
   |.sub=>some (.int k (k.wrap (a - b)))
   |.mul=>some (.int k (k.wrap (a * b)))
   |.quo=>if b=0 then none else some (.int k (k.wrap (a.tdiv b)))
   |.rem=>if b=0 then none else some (.int k (a.tmod b))
   |.eql=>some (.bool (a==b))
   |.neq=>some (.bool (a != b))
   |.lss=>some (.bool (decide (a<b)))
   |.leq=>some (.bool (decide (a≤b)))
   |.gtr=>some (.bool (decide (a > b)))
   |.geq=>some (.bool (decide (a≥b)))
   |_=>none
  else none
 |.str s,.str t=>
   match op with
   |.eql=>some (.bool (s==t))
   |.neq=>some (.bool (!(s==t)))
   |.add=>if s.length+t.length≤4611686018427387904 then some (.str (s++t)) else none
   |_=>none
 |.bool a,.bool b=>if kd=some .bool then
   match op with
   |.eql=>some (.bool (a==b))
   |.neq=>some (.bool (!(a==b)))
   |_=>none
  else none
 |_,_=>none
def zwT:Kd→AVal→AVal→Option Bool
 |.int k,.pv (.int k1 a),.pv (.int k2 b)=>if k1=k∧k2=k then some (a==b) else none
 |.bool,.pv (.bool a),.pv (.bool b)=>some (a==b)
 |.string,.pv (.str a),.pv (.str b)=>some (a==b)
 |_,_,_=>none
def znH:List Kd→List AVal→List AVal→Option Bool
 |[],[],[]=>some true
 |k::ks,c::cs,d::ds=>match zwT k c d,znH ks cs ds with
  |some a,some b=>some (a&&b)
  |_,_=>none
 |_,_,_=>none
def zzN (op:BinOp) (ks:Option (List Kd)) (cs ds:List AVal):Option Bool:=
 match op,ks with
 |.eql,some ks=>znH ks cs ds
 |.neq,some ks=>(znH ks cs ds).map (!·)
 |_,_=>none
def ze4:Operand→Bool
 |.const .nilIface=>true
 |_=>false
def zwU (op:BinOp) (kd:Option Kd):PVal→Option PVal
 |.err b=>if kd=some .iface then
   match op with
   |.eql=>some (.bool b)
   |.neq=>some (.bool (!b))
   |_=>none
  else none
 |.ifc _ _ _=>if kd=some .iface then
   match op with
   |.eql=>some (.bool false)
   |.neq=>some (.bool true)
   |_=>none
  else none
 |_=>none
def zgs (x y:Int):Int:=if y > x then y else x
def znI (x y:Int):Int:=if y<x then y else x
def zxp (a b:PVal):Option PVal:=
 match a,b with
 |.int k x,.int _ y=>some (.int k (zgs x y))
 |_,_=>none
def zxq (a b:PVal):Option PVal:=
 match a,b with
 |.int k x,.int _ y=>some (.int k (znI x y))
 |_,_=>none
def zfT (f:PVal→PVal→Option PVal):PVal→List AVal→Option PVal
 |p,[]=>some p
 |p,.pv q::r=>match f p q with|some x=>zfT f x r|none=>none
 |_,_::_=>none
def ze5 (cs:List AVal) (off:Nat) (v:List AVal):List AVal:=cs.take off++v++cs.drop (off+v.length)
def zhi (place:Nat→Option (Nat × Nat)) (cells:List AVal):List (Nat × AVal)→Option (List AVal)
 |[]=>some cells
 |(i,v)::rest=>
  match place i with
  |none=>none
  |some (off,size)=>
   if v.cells.length=size∧off+size≤cells.length∧v.cells.all AVal.isCell=true then zhi place (ze5 cells off v.cells) rest else none
def zgu (sz:Nat):Nat→List (Nat × AVal)→Option (List (List PVal))
 |_,[]=>some []
 |k,(i,v)::rest=>
  if i=k∧v.cells.length=sz then
   match ze2 v.cells,zgu sz (k+1) rest with
   |some ps,some r=>some (ps::r)
   |_,_=>none
  else none
def zgv (sz:Nat):Nat→List (Nat × AVal)→Option (List AVal)
 |_,[]=>some []
 |k,(i,v)::rest=>
  if i=k∧v.cells.length=sz∧v.cells.all AVal.isCell=true then (zgv sz (k+1) rest).map (v.cells++·) else none
def zuh (c:UInt8):List PVal:=[.int .u8 (c.toNat:Int)]
def znN:Kd→Bool
 |.slice=>true
 |.string=>true
 |_=>false
def zz2:Bool→List (List PVal)→PVal
 |true,x::r=>.xsl (x::r)
 |_,xs=>.slice xs
def exSl (s:Nat) (xs:List (List PVal)):PVal:=zz2 (s==999) xs
def zcD (ob:Nat→Option AObj):AVal→Option (List (List PVal))
 |.snil=>some []
 |.pv (.slice xs)=>some xs
 |.pv (.str s)=>some (s.map zuh)
 |.row id n=>match ob id with
  |some (.row _ xs)=>if xs.length=n then some xs else none
  |_=>none
 |_=>none
def zfU:PVal→PVal→Bool
 |.int k a,.int k' b=>k==k'&&a==b
 |.str s,.str t=>s==t
 |.bool a,.bool b=>a==b
 |_,_=>false
def zfV (k:PVal):List (PVal × Bool × List PVal)→Option (Bool × List PVal)
 |[]=>none
 |e::r=>if zfU k e.1 then some e.2 else zfV k r
def zqc (k:PVal) (v:Bool × List PVal):List (PVal × Bool × List PVal)→List (PVal × Bool × List PVal)
 |[]=>[(k,v)]
 |e::r=>if zfU k e.1 then (k,v)::r else e::zqc k v r
def zud:AVal→Option (Bool × List PVal)
 |.agg cs=>(ze2 cs).map fun ps=>(true,ps)
 |v=>v.toP.map fun p=>(false,[p])
def zdP:List (List PVal)→Option (List Int)
 |[]=>some []
 |[.int .u8 n]::r=>(zdP r).map (n::·)
 |_=>none
def zgc (ns:List Int):List UInt8:=ns.map fun n=>UInt8.ofNat n.toNat
def zf4 (xs:List (List PVal)) (i j:Nat) (ps:List PVal):List (List PVal):=xs.set i ((xs.getD i []).take j++ps++(xs.getD i []).drop (j+ps.length))
def zeS (n bytes:Nat):Bool:=decide (n * bytes≤140737488355328)
theorem zc8 (n b:Nat) (h:n * b≤140737488355328):zeS n b=true:=by simpa [zeS] using h
def zcH (ev:Operand→AVal) (o:Option Operand) (dflt:Nat):Option Int:=
 match o with
 |none=>some dflt
 |some q=>match ev q with
  |.pv (.int _ i)=>some i
  |_=>none
def aop (env:Env) (dst:Option Nat) (ev:Operand→AVal) (ob:Nat→Option AObj):Op→Option Eff
 |.move x=>some ⟨ev x,[]⟩
 |.assign x=>some ⟨ev x,[]⟩
 |.pick c a b=>match ev c with
  |.pv (.bool t)=>some ⟨if t then ev a else ev b,[]⟩
  |_=>none
 |.alloc t=>match env.ty t,dst with
  |some ty,some d=>match ty.bld with
   |some e=>match ob (env.site d),ob (env.site d+1) with
    |none,none=>if env.site d+1<env.nobj then some ⟨.ref (env.site d) 0,[(env.site d+1,.bb e []),(env.site d,.bh t e (env.site d+1) 0)]⟩ else none
    |_,_=>none
   |none=>match ty.zero,ob (env.site d) with
    |some z,none=>if env.site d<env.nobj∧z.all AVal.isCell=true then some ⟨.ref (env.site d) 0,[(env.site d,.cells z)]⟩ else none
    |_,_=>none
  |_,_=>none
 |.box _ x=>match dst with
  |some d=>match ob (env.site d) with
   |none=>if env.site d<env.nobj∧(ev x).cells.all AVal.isCell=true then some ⟨.ref (env.site d) 0,[(env.site d,.cells (ev x).cells)]⟩ else none
   |_=>none
  |none=>none
 |.build t parts=>match env.ty t with
  |some ty=>match ty.zero,ty.kind with
   |some z,.struct=>if (ty.fields.all fun q=>decide (0<q.2))=false then none else (zhi (fun i=>ty.fields[i]?) z (parts.toList.map fun q=>(q.1,ev q.2))).map fun cs=>⟨.agg cs,[]⟩
   |some z,.array _=>if ty.eSize=0 then none else (zhi (fun i=>some (i * ty.eSize,ty.eSize)) z (parts.toList.map fun q=>(q.1,ev q.2))).map fun cs=>⟨.agg cs,[]⟩
   |_,_=>none
  |none=>none
 |.buildSlice t len parts=>match env.ty t with
  |some ty=>match ty.kind with
   |.slice=>if 0<ty.eSize∧parts.size=len∧len * ty.eSize≤65536∧ty.eZero=true then
     match zgu ty.eSize 0 (parts.toList.map fun q=>(q.1,ev q.2)) with
     |some xs=>some ⟨.pv (exSl (dst.elim 0 env.site) xs),[]⟩
     |none=>match dst with
      |some d=>match zgv ty.eSize 0 (parts.toList.map fun q=>(q.1,ev q.2)),ob (env.site d) with
       |some cs,none=>if env.site d<env.nobj then some ⟨.csl (env.site d) len ty.eSize,[(env.site d,.cells cs)]⟩ else none
       |_,_=>none
      |none=>none
    else none
   |_=>none
  |none=>none
 |.load t p=>match env.ty t,ev p with
  |some ty,.ref id off=>match ob id with
   |some (.cells cs)=>if off+ty.size≤cs.length∧0<ty.size then
     some ⟨if ty.agg then .agg ((cs.drop off).take ty.size) else cs.getD off .junk,[]⟩ else none
   |_=>none
  |some ty,.pv (.ptr cs)=>if ty.size≤cs.length∧0<ty.size then
     some ⟨if ty.agg then .agg ((cs.take ty.size).map .pv) else .pv (cs.getD 0 .nilptr),[]⟩ else none
  |some ty,.eref id i j sz=>match ob id with
   |some (.row sz' xs)=>if sz=sz'∧i<xs.length∧j+ty.size≤sz∧0<ty.size then
     some ⟨if ty.agg then .agg ((((xs.getD i []).drop j).take ty.size).map .pv) else .pv (zbW xs i j),[]⟩ else none
   |_=>none
  |_,_=>none
 |.store t p x=>match env.ty t,ev p with
  |some ty,.ref id off=>match ob id with
   |some (.cells cs)=>if (ev x).cells.length=ty.size∧off+ty.size≤cs.length∧(ev x).cells.all AVal.isCell=true then
     some ⟨.junk,[(id,.cells (ze5 cs off (ev x).cells))]⟩ else none
   |_=>none
  |some ty,.eref id i j sz=>match ob id,ze2 (ev x).cells with
   |some (.row sz' xs),some ps=>if sz=sz'∧i<xs.length∧j+ty.size≤sz∧ps.length=ty.size then
     some ⟨.junk,[(id,.row sz' (zf4 xs i j ps))]⟩ else none
   |_,_=>none
  |_,_=>none
 |.nilCheck x=>match ev x with
  |.ref id off=>some ⟨.ref id off,[]⟩
  |.eref id i j sz=>some ⟨.eref id i j sz,[]⟩
  |.pv (.ptr cs)=>some ⟨.pv (.ptr cs),[]⟩
  |_=>none
 |.binOp op t x y _=>match ev x,ev y with
  |.pv p,.pv q=>(if ze4 y=true then zwU op ((env.ty t).map Ty.kind) p else zgb op ((env.ty t).map Ty.kind) p q).map fun r=>⟨.pv r,[]⟩
  |.agg cs,.agg ds=>(zzN op ((env.ty t).bind Ty.eqs) cs ds).map fun b=>⟨.pv (.bool b),[]⟩
  |_,_=>none
 |.unOp op _ x=>match op,ev x with
  |.not,.pv (.bool b)=>some ⟨.pv (.bool !b),[]⟩
  |.neg,.pv (.int k n)=>some ⟨.pv (.int k (k.wrap (0 - n))),[]⟩
  |_,_=>none
 |.convert st dt x=>match env.ty st,env.ty dt,ev x with
  |some _,some ty,.pv (.int _ n)=>match ty.kind with
   |.int k=>some ⟨.pv (.int k (k.wrap n)),[]⟩
   |_=>none
  |some sty,some ty,.pv (.slice xs)=>match sty.kind,ty.kind,zdP xs with
   |.slice,.string,some ns=>if sty.kKind=.int .u8 then some ⟨.pv (.str (zgc ns)),[]⟩ else none
   |_,_,_=>none
  |some sty,some ty,.row id n=>match ob id with
   |some (.row sz xs)=>match sty.kind,ty.kind,zdP xs with
    |.slice,.string,some ns=>if sty.kKind=.int .u8∧xs.length=n then some ⟨.pv (.str (zgc ns)),[]⟩ else none
    |.slice,.slice,some _=>if st=dt∧sty.kKind=.int .u8∧xs.length=n∧0<n then some ⟨.row id n,[(id,.row sz xs)]⟩ else none
    |_,_,_=>none
   |_=>none
  |_,_,_=>none
 |.fieldAddr s x k=>match env.ty s with
  |some ty=>match ty.kind,ty.fields[k]? with
   |.struct,some (fo,fs)=>if 0<fs then match ev x with
     |.ref id off=>some ⟨.ref id (off+fo),[]⟩
     |.pv (.ptr cs)=>if fo+fs≤cs.length then some ⟨.pv (.ptr ((cs.drop fo).take fs)),[]⟩ else none
     |.eref id i j sz=>some ⟨.eref id i (j+fo) sz,[]⟩
     |_=>none
    else none
   |_,_=>none
  |none=>none
 |.indexAddr t x ix=>match env.ty t,ev ix with
  |some ty,.pv (.int _ i)=>if ty.eSize=0 then none else match ty.kind,ev x with
   |.slice,.pv (.slice xs)=>if 0≤i∧i.toNat<xs.length∧(xs.getD i.toNat []).length=ty.eSize then some ⟨.pv (.ptr (xs.getD i.toNat [])),[]⟩ else none
   |.slice,.row id n=>match ob id with
    |some (.row sz _)=>if 0≤i∧i.toNat<n∧sz=ty.eSize then some ⟨.eref id i.toNat 0 sz,[]⟩ else none
    |_=>none
   |.slice,.csl id n sz=>if 0≤i∧i.toNat<n∧sz=ty.eSize then some ⟨.ref id (i.toNat * sz),[]⟩ else none
   |.array n,.ref id off=>if 0≤i∧i.toNat<n then some ⟨.ref id (off+i.toNat * ty.eSize),[]⟩ else none
   |.array n,.pv (.ptr cs)=>if 0≤i∧i.toNat<n∧i.toNat * ty.eSize<cs.length then some ⟨.pv (.ptr ((cs.drop (i.toNat * ty.eSize)).take ty.eSize)),[]⟩ else none
   |_,_=>none
  |_,_=>none
 |.index t x ix=>match env.ty t,ev ix with
  |some ty,.pv (.int _ i)=>match ty.kind,ev x with
   |.string,.pv (.str s)=>if 0≤i∧i.toNat<s.length then some ⟨.pv (.int .u8 ((s.getD i.toNat 0).toNat:Int)),[]⟩ else none
   |.array n,.agg cs=>if 0≤i∧i.toNat<n∧i.toNat<cs.length∧ty.kKind≠.other∧ty.eSize=1 then some ⟨cs.getD i.toNat .junk,[]⟩ else none
   |_,_=>none
  |_,_=>none
 |.extract x k=>match ev x with
  |.tup vs=>match vs[k]? with
   |some v=>some ⟨v,[]⟩
   |none=>none
  |_=>none
 |.slice t x lo hi mx=>match env.ty t,mx with
  |some ty,none=>
   match ty.kind,ev x with
   |.string,.pv (.str s)=>match zcH ev lo 0,zcH ev hi s.length with
    |some l,some h=>if 0≤l∧l≤h∧h≤s.length then some ⟨.pv (.str ((s.take h.toNat).drop l.toNat)),[]⟩ else none
    |_,_=>none
   |.slice,.pv (.slice xs)=>match zcH ev lo 0,zcH ev hi xs.length with
    |some l,some h=>if 0≤l∧l≤h∧h≤xs.length∧(l=0∨(xs.getD 0 []).length=ty.eSize)∧0<ty.eSize then some ⟨.pv (.slice ((xs.take h.toNat).drop l.toNat)),[]⟩ else none
    |_,_=>none
   |_,_=>none
  |_,_=>none
 |.makeFunc (.func f) first cap=>if first.size=0 then some ⟨.clo f (cap.toList.map ev),[]⟩ else none
 |.makeInterface t x=>match env.ty t with
  |some ty=>if ty.kind=.iface then none else match ev x with
   |.agg cs=>match ze2 cs with
    |some ps=>some ⟨.pv (.ifc t true ps),[]⟩
    |none=>none
   |.pv p=>some ⟨.pv (.ifc t false [p]),[]⟩
   |_=>none
  |none=>none
 |.typeAssert x _ t ok=>match env.ty t,ev x with
  |some ty,.pv (.ifc t' ag cs)=>if ty.kind≠.iface∧t'=t∧ok=true then some ⟨.tup [if ag then .agg (cs.map .pv) else .pv (cs.getD 0 .nilptr),.pv (.bool true)],[]⟩ else none
  |_,_=>none
 |.makeMap t none=>match env.ty t,dst with
  |some ty,some d=>match ty.kind,ob (env.site d) with
   |.map,none=>if env.site d<env.nobj∧ty.kKind≠.other then some ⟨.map (env.site d),[(env.site d,.map ty.kKind [])]⟩ else none
   |_,_=>none
  |_,_=>none
 |.makeSlice t len cap=>match env.ty t,dst with
  |some ty,some d=>match ty.kind,ev len,ev cap with
   |.slice,.pv (.int _ n),.pv (.int _ c)=>match ty.eZV,ob (env.site d) with
    |some z,none=>match ze2 (zf3 z).cells with
     |some ps=>if env.site d<env.nobj∧0≤n∧n=c∧n * ty.eBytes≤140737488355328∧0<ty.eBytes∧0<ty.eSize∧ps.length=ty.eSize then
       some ⟨.row (env.site d) n.toNat,[(env.site d,.row ty.eSize (List.replicate n.toNat ps))]⟩ else none
     |none=>none
    |_,_=>none
   |_,_,_=>none
  |_,_=>none
 |.lookup t x k ok=>match env.ty t,ev x,ev k with
  |some ty,.map id,.pv key=>match ty.kind,ob id,ty.eZV with
   |.map,some (.map kd es),some z=>if kd=ty.kKind∧zc4 kd key=true then
     some ⟨if ok then .tup [zf3 ((zfV key es).getD z),.pv (.bool (zfV key es).isSome)] else zf3 ((zfV key es).getD z),[]⟩ else none
   |_,_,_=>none
  |_,_,_=>none
 |.mapUpdate t m k x=>match env.ty t,ev m,ev k,zud (ev x) with
  |some ty,.map id,.pv key,some v=>match ty.kind,ob id with
   |.map,some (.map kd es)=>if kd=ty.kKind∧zc4 kd key=true then some ⟨.junk,[(id,.map kd (zqc key v es))]⟩ else none
   |_,_=>none
  |_,_,_,_=>none
 |.call ⟨.builtin .len,args,tys⟩=>match args.toList,tys.toList with
  |[x],[t]=>match env.ty t with
   |some ty=>match ty.kind,ev x with
    |.string,.pv (.str s)=>some ⟨.pv (.int .i64 s.length),[]⟩
    |.slice,.pv (.slice xs)=>some ⟨.pv (.int .i64 xs.length),[]⟩
    |.slice,.snil=>some ⟨.pv (.int .i64 0),[]⟩
    |.slice,.row _ n=>some ⟨.pv (.int .i64 n),[]⟩
    |.slice,.csl _ n _=>some ⟨.pv (.int .i64 n),[]⟩
    |.array n,_=>some ⟨.pv (.int .i64 n),[]⟩
    |_,_=>none
   |none=>none
  |_,_=>none
 |.call ⟨.builtin .max,args,_⟩=>match args.toList with
  |x::r=>match ev x with
   |.pv p=>(zfT zxp p (r.map ev)).map fun q=>⟨.pv q,[]⟩
   |_=>none
  |[]=>none
 |.call ⟨.builtin .min,args,_⟩=>match args.toList with
  |x::r=>match ev x with
   |.pv p=>(zfT zxq p (r.map ev)).map fun q=>⟨.pv q,[]⟩
   |_=>none
  |[]=>none
 |.call ⟨.builtin .append,args,tys⟩=>match args.toList,tys.toList,dst with
  |[x,y],[t,t'],some d=>match env.ty t,env.ty t',ob (env.site d) with
   |some ty,some ty',none=>match ty.kind,znN ty'.kind,zcD ob (ev y) with
    |.slice,true,some ys=>match ev x with
     |.snil=>if env.site d<env.nobj∧0<ty.eBytes∧0<ty.eSize∧zeS (ys.length) ty.eBytes=true∧(ys.all fun y=>y.length==ty.eSize)=true∧ty.eZero=true then
       some ⟨.row (env.site d) ys.length,[(env.site d,.row ty.eSize ys)]⟩ else none
     |.row id n=>match ob id with
      |some (.row sz xs)=>if env.site d<env.nobj∧env.site d≠id∧0<ty.eBytes∧xs.length=n∧sz=ty.eSize∧0<sz∧zeS (xs.length+ys.length) ty.eBytes=true∧(ys.all fun y=>y.length==sz)=true∧ty.eZero=true then
        some ⟨.row (env.site d) (n+ys.length),[(id,.dead),(env.site d,.row sz (xs++ys))]⟩ else none
      |_=>none
     |.pv (.xsl xs)=>if 0<ty.eBytes∧0<ys.length∧0<ty.eSize∧zeS (xs.length+ys.length) ty.eBytes=true∧(ys.all fun y=>y.length==ty.eSize)=true∧ty.eZero=true∧(xs.all fun y=>y.length==ty.eSize)=true then
       some ⟨.pv (.slice (xs++ys)),[]⟩ else none
     |_=>none
    |_,_,_=>none
   |_,_,_=>none
  |_,_,_=>none
 |_=>none
def zbv (env:Env) (dst:Option Nat) (ev:Operand→AVal):Op→List Nat
 |.alloc t=>match dst with
  |some d=>match env.ty t with
   |some ty=>match ty.bld with
    |some _=>[env.site d,env.site d+1]
    |none=>[env.site d]
   |none=>[env.site d]
  |none=>[]
 |.box _ _=>match dst with|some d=>[env.site d]|none=>[]
 |.buildSlice t _ parts=>match env.ty t with
  |some ty=>match zgu ty.eSize 0 (parts.toList.map fun q=>(q.1,ev q.2)) with
   |some _=>[]
   |none=>match dst with|some d=>[env.site d]|none=>[]
  |none=>[]
 |.load _ p=>match ev p with|.ref id _=>[id]|.eref id _ _ _=>[id]|_=>[]
 |.store _ p _=>match ev p with|.ref id _=>[id]|.eref id _ _ _=>[id]|_=>[]
 |.indexAddr _ x _=>match ev x with|.row id _=>[id]|_=>[]
 |.convert _ _ x=>match ev x with|.row id _=>[id]|_=>[]
 |.makeMap _ none=>match dst with|some d=>[env.site d]|none=>[]
 |.makeSlice _ _ _=>match dst with|some d=>[env.site d]|none=>[]
 |.lookup _ x _ _=>match ev x with|.map id=>[id]|_=>[]
 |.mapUpdate _ m _ _=>match ev m with|.map id=>[id]|_=>[]
 |.call ⟨.builtin .append,args,_⟩=>match args.toList with
  |[x,y]=>(match dst with|some d=>[env.site d]|none=>[])++(match ev x with|.row id _=>[id]|_=>[])++(match ev y with|.row id _=>[id]|_=>[])
  |_=>[]
 |_=>[]
def St.app (σ:St) (dst:Option Nat) (e:Eff):St where
 slots:=match dst with|some d=>σ.slots.set d e.val|none=>σ.slots
 objs:=e.upd.foldl (fun l q=>l.set q.1 (some q.2)) σ.objs
theorem zdQ (g:Gh) (D:Nat→Prop) (M:Mem) (v:Value):V g D M (za4 v) v:=by
 unfold za4
 split
 ·exact .pv (.int _ _)
 ·exact .pv (.bool _)
 ·rename_i s
  have:=Rd.str (M:=M) s.data.toList
  simp at this
  exact .pv this
 ·exact .snil
 ·exact .pv .nilptr
 ·exact .pv .nilmap
 ·exact .pv .errn
 ·exact .junk _
theorem zqd (g:Gh) (D:Nat→Prop) (M:Mem) (v:Value):V g D M (zk7 v) v:=by
 unfold zk7
 split
 ·rename_i cs
  have:=V.agg (g:=g) (D:=D) (M:=M) (cs.toList.map za4) cs.toList (by simp) (by
   intro i hi
   simp at hi
   have h1:(cs.toList.map za4).getD i .junk=za4 (cs.toList.getD i undef):=by
    simp [List.getD,hi]
   rw [h1];exact zdQ _ _ _ _)
  simpa using this
 ·exact zdQ _ _ _ _
section
variable {E:Ent} {σ:St} {g:Gh} {M:Mem} {a:Act} {w:World} {env:Env} {P:Program}
theorem zaF (h:Rel E σ g M a w) (hG:GOK env M) (x:Operand):V g σ.dom M (zah env σ x) (a.eval x):=by
 cases x with
 |tmp t=>exact h.slot t
 |const v=>exact zqd _ _ _ _
 |global b=>
  simp only [zah,Act.eval]
  cases hb:env.gl b with
  |none=>exact .junk _
  |some cs=>
   refine .pv ?_
   have hx:∀ j,∃ u,j<cs.length→M b j=some u∧Rd M (cs.getD j .nilptr) u:=fun j=>by
    by_cases hj:j<cs.length
    ·obtain ⟨u,hu⟩:=hG b cs hb j hj;exact ⟨u,fun _=>hu⟩
    ·exact ⟨undef,fun h=>absurd h hj⟩
   exact .ptr cs b 0 (fun j=>(hx j).choose) (fun j hj=>by rw [Nat.zero_add];exact ((hx j).choose_spec hj).1) (fun j hj=>((hx j).choose_spec hj).2)
 |func f=>exact .junk _
theorem Rel.put (h:Rel E σ g M a w) (dst:Option Nat) {x:AVal} {v:Value} (hv:V g σ.dom M x v):Rel E (σ.app dst ⟨x,[]⟩) g M (a.put dst v) w where
 size:=by cases dst<;>simp [St.app,Act.put,h.size]
 defers:=by cases dst<;>simp [Act.put,h.defers]
 slots:=by
  intro i hi
  cases dst with
  |none=>simp only [St.app,Act.put] at *;exact h.slots i hi
  |some d=>
   simp only [St.app,List.length_set] at hi
   by_cases hid:d=i
   ·subst hid
    have e1:(σ.app (some d) ⟨x,[]⟩).slot d=x:=by simp [St.app,St.slot,hi]
    have e2:(a.put (some d) v).tmps.getD d undef=v:=by simp [Act.put,h.size,hi]
    rw [e1,e2];exact hv
   ·have e1:(σ.app (some d) ⟨x,[]⟩).slot i=σ.slot i:=by simp [St.app,St.slot,List.getElem?_set_ne hid]
    have e2:(a.put (some d) v).tmps.getD i undef=a.tmps.getD i undef:=by simp [Act.put,Array.getElem?_setIfInBounds_ne hid]
    rw [e1,e2];exact h.slots i hi
 objs:=h.objs
 apart:=h.apart
 offM:=h.offM
 sat:=h.sat
 M0:=h.M0
 Mnew:=h.Mnew
 size0:=h.size0
 same:=h.same
 own0:=h.own0
 os:=h.os
 tape:=h.tape
 output:=h.output
theorem Rel.drew (h:Rel E σ g M a w):Rel E σ g M a { w with drawn:=w.drawn+1 }:=
 { h with
  objs:=fun id o ho=>by
   have:=h.objs id o ho
   cases o with
   |cells cs=>exact this
   |row sz xs=>exact this
   |map kd es=>exact this
   |bh T e B n=>exact this
   |bb e s=>exact this
   |dead=>trivial
  sat:=fun b i u hu=>h.sat b i u hu }
end
def zbJ (P:Program) (env:Env) (o:Oper) (E:Ent) (σ:St) (g:Gh) (M:Mem) (a:Act) (w:World) (e:Eff):Prop:=
 ∃ n v w' g' M',(execOp a.eval o).run P w=.ok n w'∧(n=.value v∨(n=.skip∧v=undef)) ∧
  Rel E (σ.app o.dst e) g' M' (a.put o.dst v) w'∧(∀ id,σ.dom id→g.agree g' id)∧Mem.le M M'
theorem Gh.agree_refl (g:Gh) (id:Nat):g.agree g id:=⟨rfl,rfl,rfl⟩
theorem Mem.le_refl (M:Mem):Mem.le M M:=fun _ _ _ h=>h
theorem zbJ.pure {P:Program} {env:Env} {o:Oper} {E:Ent} {σ:St} {g:Gh} {M:Mem} {a:Act} {w:World} {x:AVal} {v:Value}
  (h:Rel E σ g M a w) (hr:(execOp a.eval o).run P w=.ok (.value v) w) (hv:V g σ.dom M x v):zbJ P env o E σ g M a w ⟨x,[]⟩:=
 ⟨_,v,w,g,M,hr,.inl rfl,h.put o.dst hv,fun _ _=>Gh.agree_refl _ _,Mem.le_refl _⟩
theorem zaY.get {P:Program} {env:Env} (hE:zaY P env) {t:Nat} {ty:Ty} (h:env.ty t=some ty) :
  ∃ i d,P.info? t=some i∧P.underlying t=some d∧zj3 P t=some ty:=by
 have h':=hE t ty h
 have h2:=h'
 unfold zj3 at h2
 split at h2
 ·rename_i i d h3 h4;exact ⟨i,d,h3,h4,h'⟩
 ·cases h2
theorem zaf {P:Program} {t:TypeId} {d:TypeDesc} (w:World) (h:P.underlying t=some d):(underlying t).run P w=.ok d w:=by
 simp [underlying,h]
theorem za8 {P:Program} {t:TypeId} {i:TypeInfo} (w:World) (h:P.info? t=some i):(typeInfo t).run P w=.ok i w:=by
 simp [typeInfo,h]
theorem zeA {P:Program} {t:TypeId} {i:TypeInfo} (w:World) (h:P.info? t=some i):(sizeOf t).run P w=.ok i.size w:=by
 simp [sizeOf,za8 w h]
section ops
variable {P:Program} {env:Env} {o:Oper} {E:Ent} {σ:St} {g:Gh} {M:Mem} {a:Act} {w:World} {e:Eff}
theorem zmn (hR:Rel E σ g M a w) (hG:GOK env M) {x:Operand} (ho:o.op=.move x∨o.op=.assign x) (he:e=⟨zah env σ x,[]⟩):zbJ P env o E σ g M a w e:=by
 subst he
 refine zbJ.pure hR ?_ (zaF hR hG x)
 rcases ho with ho|ho<;>simp [execOp,ho]
theorem zrA (hR:Rel E σ g M a w) (hG:GOK env M) {c x y:Operand} (ho:o.op=.pick c x y)
  (h:aop env o.dst (zah env σ) σ.obj o.op=some e):zbJ P env o E σ g M a w e:=by
 rw [ho] at h
 simp only [aop] at h
 have hc:=zaF (env:=env) hR hG c
 split at h
 ·rename_i t hct
  cases h
  rw [hct] at hc
  generalize hv0:a.eval c=u at hc
  cases hc with
  |pv r=>
   have hv:a.eval c=.bool t:=by cases r;exact hv0
   refine zbJ.pure (v:=if t then a.eval x else a.eval y) hR ?_ ?_
   ·simp [execOp,ho,hv,asBool]
   ·cases t
    ·exact zaF hR hG y
    ·exact zaF hR hG x
 ·cases h
theorem V.pv_inv {D:Nat→Prop} {p:PVal} {v:Value} (h:V g D M (.pv p) v):Rd M p v:=by cases h;assumption
theorem Rd.int_inv {k:IntKind} {n:Int} {v:Value} (h:Rd M (.int k n) v):v=.int k n:=by cases h;rfl
theorem Rd.bool_inv {b:Bool} {v:Value} (h:Rd M (.bool b) v):v=.bool b:=by cases h;rfl
theorem Rd.str_inv {s:List UInt8} {v:Value} (h:Rd M (.str s) v):v=.string ⟨s.toArray⟩:=by cases h;rfl
theorem V.int_inv {D:Nat→Prop} {k:IntKind} {n:Int} {v:Value} (h:V g D M (.pv (.int k n)) v):v=.int k n:=h.pv_inv.int_inv
theorem V.bool_inv {D:Nat→Prop} {b:Bool} {v:Value} (h:V g D M (.pv (.bool b)) v):v=.bool b:=h.pv_inv.bool_inv
theorem V.str_inv {D:Nat→Prop} {s:List UInt8} {v:Value} (h:V g D M (.pv (.str s)) v):v=.string ⟨s.toArray⟩:=h.pv_inv.str_inv
theorem V.ref_inv {D:Nat→Prop} {id off:Nat} {v:Value} (h:V g D M (.ref id off) v):v=.pointer (some ⟨g.ρ id,off,none⟩)∧D id:=by
 cases h with|ref _ _ hd=>exact ⟨rfl,hd⟩
theorem V.eref_inv {D:Nat→Prop} {id i j sz:Nat} {v:Value} (h:V g D M (.eref id i j sz) v):v=.pointer (some ⟨g.ρ id,i * sz+j,none⟩)∧D id:=by
 cases h with|eref _ _ _ _ hd=>exact ⟨rfl,hd⟩
theorem V.ptr_inv {D:Nat→Prop} {cs:List PVal} {v:Value} (h:V g D M (.pv (.ptr cs)) v) :
  ∃ b off,v=.pointer (some ⟨b,off,none⟩)∧∀ j,j<cs.length→∃ u,M b (off+j)=some u∧Rd M (cs.getD j .nilptr) u:=by
 cases h.pv_inv with|ptr _ b off us h1 h2=>exact ⟨b,off,rfl,fun j hj=>⟨us j,h1 j hj,h2 j hj⟩⟩
theorem zgw (s:List UInt8):(ByteArray.mk s.toArray).toList=s:=by
 rw [ByteArray.toList_eq]
theorem zrB (hR:Rel E σ g M a w) (hG:GOK env M) {op:UnOp} {t:TypeId} {x:Operand} (ho:o.op=.unOp op t x)
  (h:aop env o.dst (zah env σ) σ.obj o.op=some e):zbJ P env o E σ g M a w e:=by
 rw [ho] at h
 simp only [aop] at h
 have hx:=zaF (env:=env) hR hG x
 split at h
 ·rename_i b hb
  cases h
  rw [hb] at hx
  exact zbJ.pure hR (v:=.bool !b) (by simp [execOp,ho,hx.bool_inv,Op.unary]) (.pv (.bool _))
 ·rename_i k n hb
  cases h
  rw [hb] at hx
  exact zbJ.pure hR (v:=.int k (k.wrap (0 - n))) (by simp [execOp,ho,hx.int_inv,Op.unary,Op.intArith]) (.pv (.int _ _))
 ·cases h
theorem zmo (hR:Rel E σ g M a w) (hG:GOK env M) {k:Nat} {x:Operand} (ho:o.op=.extract x k)
  (h:aop env o.dst (zah env σ) σ.obj o.op=some e):zbJ P env o E σ g M a w e:=by
 rw [ho] at h
 simp only [aop] at h
 have hx:=zaF (env:=env) hR hG x
 split at h
 ·rename_i vs hvs
  split at h
  ·rename_i v hv
   cases h
   rw [hvs] at hx
   generalize hu:a.eval x=u at hx
   cases hx with
   |tup _ us hl hh=>
    have hk:k<vs.length:=(List.getElem?_eq_some_iff.1 hv).1
    have e1:vs.getD k .junk=v:=by simp [List.getD,hv]
    have e2:=hh k hk
    rw [e1] at e2
    refine zbJ.pure hR (v:=us.getD k undef) ?_ e2
    have hk':k<us.length:=by omega
    simp [execOp,ho,hu,Instr.extract,hk',List.getD]
  ·cases h
 ·cases h
theorem zk9 (hR:Rel E σ g M a w) (hG:GOK env M) {x:Operand} (ho:o.op=.nilCheck x)
  (h:aop env o.dst (zah env σ) σ.obj o.op=some e):zbJ P env o E σ g M a w e:=by
 rw [ho] at h
 simp only [aop] at h
 have hx:=zaF (env:=env) hR hG x
 split at h
 ·rename_i id off hb
  cases h
  rw [hb] at hx
  exact zbJ.pure hR (v:=a.eval x) (by simp [execOp,ho,hx.ref_inv.1]) hx
 ·rename_i id i j sz hb
  cases h
  rw [hb] at hx
  exact zbJ.pure hR (v:=a.eval x) (by simp [execOp,ho,hx.eref_inv.1]) hx
 ·rename_i cs hb
  cases h
  rw [hb] at hx
  obtain ⟨b,off,hv,_⟩:=hx.ptr_inv
  exact zbJ.pure hR (v:=a.eval x) (by simp [execOp,ho,hv]) hx
 ·cases h
theorem zj7 {t:TypeId} (ht:P.underlying t=some .bool) (x y:Bool) (w:World):(Op.equal t (.bool x) (.bool y)).run P w=.ok (x==y) w:=by
 have e:∀ d,(Op.equalIn (d+1) t (.bool x) (.bool y)).run P w=.ok (x==y) w:=by
  intro d
  simp [Op.equalIn,zaf w ht]
 exact e 9999
theorem zrC (hE:zaY P env) {t:Nat} (h:(env.ty t).map Ty.kind=some .bool):P.underlying t=some .bool:=by
 cases ht:env.ty t with
 |none=>rw [ht] at h;cases h
 |some ty=>
  rw [ht] at h
  obtain ⟨i,d,hi,hd,hty⟩:=hE.get ht
  simp only [zj3,hi,hd,Option.some.injEq] at hty
  subst hty
  simp only [Option.map_some,Option.some.injEq] at h
  cases d<;>simp at h
  exact hd
theorem zkp (hE:zaY P env) {t:Nat} (h:(env.ty t).map Ty.kind=some .iface):∃ ms,P.underlying t=some (.interface ms):=by
 cases ht:env.ty t with
 |none=>rw [ht] at h;cases h
 |some ty=>
  rw [ht] at h
  obtain ⟨i,d,hi,hd,hty⟩:=hE.get ht
  simp only [zj3,hi,hd,Option.some.injEq] at hty
  subst hty
  simp only [Option.map_some,Option.some.injEq] at h
  cases d<;>simp at h
  exact ⟨_,hd⟩
theorem zhY (d:Nat) {t:TypeId} {ms:Array (String × TypeId)} {v:Value} {b:Bool} (hu:P.underlying t=some (.interface ms)) (hv:(b=true∧v=.nilIface)∨(b=false∧∃ t v',v=.iface t v')) (w:World):(Op.equalIn (d+1) t v .nilIface).run P w=.ok b w:=by
 rcases hv with ⟨rfl,rfl⟩|⟨rfl,t',v',rfl⟩<;>simp [Op.equalIn,zaf w hu]
theorem zf5 {t:TypeId} {ms:Array (String × TypeId)} {v:Value} {b:Bool} (hu:P.underlying t=some (.interface ms)) (hv:(b=true∧v=.nilIface)∨(b=false∧∃ t v',v=.iface t v')) (w:World):(Op.equal t v .nilIface).run P w=.ok b w:=zhY 9999 hu hv w
theorem Rd.err_inv {M:Mem} {b:Bool} {v:Value} (h:Rd M (.err b) v):(b=true∧v=.nilIface)∨(b=false∧∃ t v',v=.iface t v'):=by
 cases h with
 |errn=>exact .inl ⟨rfl,rfl⟩
 |erri t v=>exact .inr ⟨rfl,t,v,rfl⟩
theorem Rd.ifc_inv {M:Mem} {t:Nat} {ag:Bool} {cs:List PVal} {v:Value} (h:Rd M (.ifc t ag cs) v):∃ t v',v=.iface t v':=by
 cases h with
 |ifca=>exact ⟨_,_,rfl⟩
 |ifco=>exact ⟨_,_,rfl⟩
theorem zrD {y:Operand} (h:ze4 y=true):y=.const .nilIface:=by
 unfold ze4 at h
 split at h
 ·rfl
 ·cases h
def zz3:Kd→Value→Prop
 |.int k,v=>∃ n,v=.int k n
 |.bool,v=>∃ b,v=.bool b
 |.string,v=>∃ s,v=.string s
 |_,_=>False
def zzO:Value→Value→Bool
 |.int _ a,.int _ b=>a==b
 |.bool a,.bool b=>a==b
 |.string a,.string b=>a.toList==b.toList
 |_,_=>false
def zdR (xs ys:Nat→Value):Nat→Nat→Bool
 |_,0=>true
 |off,n+1=>zzO (xs off) (ys off)&&zdR xs ys (off+1) n
theorem ziI (xs ys:Nat→Value):∀ (a b off:Nat),zdR xs ys off (a+b)=(zdR xs ys off a&&zdR xs ys (off+a) b)
 |0,b,off=>by simp [zdR]
 |a+1,b,off=>by
  rw [Nat.add_right_comm a 1 b,zdR,zdR,ziI xs ys a b (off+1),Bool.and_assoc,Nat.add_assoc off 1 a,Nat.add_comm 1 a]
theorem zgd (xs ys xs' ys':Nat→Value):∀ (n o o':Nat),(∀ i,i<n→xs (o+i)=xs' (o'+i)∧ys (o+i)=ys' (o'+i))→zdR xs ys o n=zdR xs' ys' o' n
 |0,_,_,_=>rfl
 |n+1,o,o',h=>by
  have h0:=h 0 (by omega)
  simp only [Nat.add_zero] at h0
  rw [zdR,zdR,h0.1,h0.2,zgd xs ys xs' ys' n (o+1) (o'+1) (fun i hi=>by
   have:=h (i+1) (by omega)
   rw [show o+1+i=o+(i+1) by omega,show o'+1+i=o'+(i+1) by omega]
   exact this)]
def Kcs (ks:List Kd) (xs:Array Value) (off:Nat):Prop:=off+ks.length≤xs.size∧∀ i,i<ks.length→zz3 (ks.getD i .other) (xs.getD (off+i) undef)
theorem Kcs.left {a b:List Kd} {xs:Array Value} {off:Nat} (h:Kcs (a++b) xs off):Kcs a xs off:=
 ⟨by have:=h.1;simp at this;omega,fun i hi=>by have:=h.2 i (by simp;omega);simpa [List.getD,List.getElem?_append_left hi] using this⟩
theorem Kcs.right {a b:List Kd} {xs:Array Value} {off:Nat} (h:Kcs (a++b) xs off):Kcs b xs (off+a.length):=
 ⟨by have:=h.1;simp at this;omega,fun i hi=>by
  have:=h.2 (a.length+i) (by simp;omega)
  rw [Nat.add_assoc]
  have e:(a++b).getD (a.length+i) .other=b.getD i .other:=by simp [List.getD,List.getElem?_append_right]
  rw [e] at this
  exact this⟩
theorem zcI {e:TypeId} {d:TypeDesc} {xs:Array Value} {off:Nat} (hu:P.underlying e=some d) (hd:d=.bool∨d=.string∨∃ k,d=.int k) (h:off<xs.size) (w:World):(part e xs off).run P w=.ok (xs.getD off undef) w:=by
 have hx:xs[off]?=some (xs.getD off undef):=by simp [h]
 generalize xs.getD off undef=v at hx
 rcases hd with rfl|rfl|⟨k,rfl⟩<;>simp [part,isAgg,zaf _ hu,hx]
theorem zrE:∀ (d:Nat) (t:TypeId) (ks:List Kd),zk8 P d t=some ks→zaE P t=ks.length→∀ (D:Nat),d≤D→∀ (xs ys:Array Value) (off:Nat) (w:World),Kcs ks xs off→Kcs ks ys off →
  ∃ a b,(part t xs off).run P w=.ok a w∧(part t ys off).run P w=.ok b w∧(Op.equalIn D t a b).run P w=.ok (zdR (xs.getD · undef) (ys.getD · undef) off ks.length) w
 |0,_,_,h,_,_,_,_,_,_,_,_,_=>by cases h
 |d+1,t,ks,h,hz,D,hD,xs,ys,off,w,hx,hy=>by
  obtain ⟨D,rfl⟩:∃ D',D=D'+1:=⟨D - 1,by omega⟩
  unfold zk8 at h
  split at h
  ·rename_i k hu
   cases h
   obtain ⟨n1,e1⟩:=hx.2 0 (by simp)
   obtain ⟨n2,e2⟩:=hy.2 0 (by simp)
   simp only [Nat.add_zero] at e1 e2
   refine ⟨_,_,zcI hu (.inr (.inr ⟨k,rfl⟩)) (by have:=hx.1;simp at this;omega) w,zcI hu (.inr (.inr ⟨k,rfl⟩)) (by have:=hy.1;simp at this;omega) w,?_⟩
   rw [e1,e2,run_equalIn_int w D t k k n1 n2 hu]
   simp only [zdR,List.length_cons,List.length_nil,e1,e2,zzO,Bool.and_true]
  ·rename_i hu
   cases h
   obtain ⟨n1,e1⟩:=hx.2 0 (by simp)
   obtain ⟨n2,e2⟩:=hy.2 0 (by simp)
   simp only [Nat.add_zero] at e1 e2
   refine ⟨_,_,zcI hu (.inl rfl) (by have:=hx.1;simp at this;omega) w,zcI hu (.inl rfl) (by have:=hy.1;simp at this;omega) w,?_⟩
   rw [e1,e2,run_equalIn_bool' w D t n1 n2 hu]
   simp only [zdR,List.length_cons,List.length_nil,e1,e2,zzO,Bool.and_true]
  ·rename_i hu
   cases h
   obtain ⟨n1,e1⟩:=hx.2 0 (by simp)
   obtain ⟨n2,e2⟩:=hy.2 0 (by simp)
   simp only [Nat.add_zero] at e1 e2
   refine ⟨_,_,zcI hu (.inr (.inl rfl)) (by have:=hx.1;simp at this;omega) w,zcI hu (.inr (.inl rfl)) (by have:=hy.1;simp at this;omega) w,?_⟩
   rw [e1,e2,run_equalIn_string w D t n1 n2 hu]
   simp only [zdR,List.length_cons,List.length_nil,e1,e2,zzO,Bool.and_true]
  ·rename_i fs hu
   split at h
   ·cases h
   rename_i hst
   have fields:∀ (l:List Field) (o:Nat) (ks:List Kd),zhG P (zk8 P d) o l=some ks→∀ (xs ys:Array Value),Kcs ks xs o→Kcs ks ys o→∀ w,(Op.eqFields D xs ys l).run P w=.ok (zdR (xs.getD · undef) (ys.getD · undef) o ks.length) w:=by
    intro l
    induction l with
    |nil=>intro o ks h xs ys _ _ w;cases h;simp [Op.eqFields,zdR]
    |cons f r ih=>
     intro o ks h xs ys h1 h2 w
     unfold zhG at h
     split at h
     ·cases h
     rename_i hne
     have hn : f.name ≠ "_" := fun h => hne (.inl h)
     have ho:f.offset=o:=Classical.byContradiction fun h=>hne (.inr h)
     split at h
     ·rename_i k1 hk1
      split at h
      ·rename_i hsz
       cases hr:zhG P (zk8 P d) (o+k1.length) r with
       |none=>rw [hr] at h;cases h
       |some k2=>
        rw [hr] at h
        cases h
        obtain ⟨a,b,pa,pb,pe⟩:=zrE d f.type k1 hk1 hsz D (by omega) xs ys o w h1.left h2.left
        have hi:=ih (o+k1.length) k2 hr xs ys h1.right h2.right w
        rw [List.length_append,ziI]
        simp only [Op.eqFields,hn,ne_eq,not_false_eq_true,if_true,Sem.run_bind,ho,pa,pb,pe,Result.andThen_ok]
        cases hq:zdR (xs.getD · undef) (ys.getD · undef) o k1.length
        ·simp
        ·simp [hi]
      ·cases h
     ·cases h
   obtain ⟨i,hi⟩:∃ i,P.info? t=some i:=by
    unfold Program.underlying at hu
    cases hi:P.info? t with
    |none=>simp [hi] at hu
    |some i=>exact ⟨i,rfl⟩
   have hsz:i.size=ks.length:=by simpa [zaE,hi] using hz
   have hpt:∀ zs:Array Value,(part t zs off).run P w=.ok (.agg (zs.extract off (off+ks.length))) w:=fun zs=>by
    simp [part,isAgg,zaf _ hu,zeA _ hi,hsz]
   have hex:∀ zs:Array Value,off+ks.length≤zs.size→∀ i,i<ks.length→(zs.extract off (off+ks.length)).getD (0+i) undef=zs.getD (off+i) undef:=fun zs hzs i hi=>by
    have h1:off+i<zs.size:=by omega
    have h2:i<(zs.extract off (off+ks.length)).size:=by simp;omega
    simp only [Nat.zero_add]
    rw [show (zs.extract off (off+ks.length)).getD i undef=(zs.extract off (off+ks.length))[i] by (simp only [Array.getD,h2,dif_pos];rfl),show zs.getD (off+i) undef=zs[off+i] by simp [Array.getD,h1]]
    simp
   have hkc:∀ zs:Array Value,Kcs ks zs off→Kcs ks (zs.extract off (off+ks.length)) 0:=fun zs hz=>⟨by have:=hz.1;simp;omega,fun i hi=>by rw [hex zs hz.1 i hi];exact hz.2 i hi⟩
   refine ⟨_,_,hpt xs,hpt ys,?_⟩
   have hf:P.underlying t=some (.struct (P.fieldsOf t)):=by rw [hu];simp [Program.fieldsOf,hu]
   have hfs:P.fieldsOf t=fs:=by simp [Program.fieldsOf,hu]
   rw [run_equalIn_struct w D t _ _ hf (by simpa using hst),hfs,fields fs.toList 0 ks h _ _ (hkc xs hx) (hkc ys hy) w]
   congr 1
   exact zgd _ _ _ _ _ _ _ fun i hi=>⟨hex xs hx.1 i hi,hex ys hy.1 i hi⟩
  ·cases h
theorem zla (l:List Field) (d o:Nat) (ks:List Kd) (h:zhG P (zk8 P d) o l=some ks) (D:Nat) (hD:d≤D) (xs ys:Array Value) (h1:Kcs ks xs o) (h2:Kcs ks ys o) (w:World):(Op.eqFields D xs ys l).run P w=.ok (zdR (xs.getD · undef) (ys.getD · undef) o ks.length) w:=by
 induction l generalizing o ks w with
 |nil=>cases h;simp [Op.eqFields,zdR]
 |cons f r ih=>
  unfold zhG at h
  split at h
  ·cases h
  rename_i hne
  have hn : f.name ≠ "_" := fun h => hne (.inl h)
  have ho:f.offset=o:=Classical.byContradiction fun h=>hne (.inr h)
  split at h
  ·rename_i k1 hk1
   split at h
   ·rename_i hsz
    cases hr:zhG P (zk8 P d) (o+k1.length) r with
    |none=>rw [hr] at h;cases h
    |some k2=>
     rw [hr] at h
     cases h
     obtain ⟨a,b,pa,pb,pe⟩:=zrE d f.type k1 hk1 hsz D (by omega) xs ys o w h1.left h2.left
     have hi:=ih (o+k1.length) k2 hr h1.right h2.right w
     rw [List.length_append,ziI]
     simp only [Op.eqFields,hn,ne_eq,not_false_eq_true,if_true,Sem.run_bind,ho,pa,pb,pe,Result.andThen_ok]
     cases hq:zdR (xs.getD · undef) (ys.getD · undef) o k1.length
     ·simp
     ·simp [hi]
   ·cases h
  ·cases h
theorem zui (hE:zaY P env) {t:Nat} {ks:List Kd} (h:(env.ty t).bind Ty.eqs=some ks):zxo P t=some ks∧zaE P t=zaE P t:=by
 cases ht:env.ty t with
 |none=>rw [ht] at h;cases h
 |some ty=>
  rw [ht] at h
  obtain ⟨i,d,hi,hd,hty⟩:=hE.get ht
  simp only [zj3,hi,hd,Option.some.injEq] at hty
  subst hty
  exact ⟨h,rfl⟩
theorem zxr {g:Gh} {D:Nat→Prop} {M:Mem} {k:Kd} {c c':AVal} {b:Bool} {v v':Value} (h:zwT k c c'=some b) (hv:V g D M c v) (hv':V g D M c' v'):zz3 k v∧zz3 k v'∧zzO v v'=b:=by
 unfold zwT at h
 split at h
 ·split at h
  ·rename_i k1 a k2 b' hk
   cases h
   obtain ⟨rfl,rfl⟩:=hk
   rw [hv.int_inv,hv'.int_inv]
   exact ⟨⟨_,rfl⟩,⟨_,rfl⟩,rfl⟩
  ·cases h
 ·cases h
  rw [hv.bool_inv,hv'.bool_inv]
  exact ⟨⟨_,rfl⟩,⟨_,rfl⟩,rfl⟩
 ·cases h
  rw [hv.str_inv,hv'.str_inv]
  refine ⟨⟨_,rfl⟩,⟨_,rfl⟩,?_⟩
  simp [zzO,zgw]
 ·cases h
theorem zrF {g:Gh} {D:Nat→Prop} {M:Mem}:∀ (ks:List Kd) (cs ds:List AVal) (b:Bool),znH ks cs ds=some b→cs.length=ks.length∧ds.length=ks.length∧∀ (vs us:Nat→Value) (o:Nat),(∀ i,i<cs.length→V g D M (cs.getD i .junk) (vs (o+i)))→(∀ i,i<ds.length→V g D M (ds.getD i .junk) (us (o+i))) →
  (∀ i,i<ks.length→zz3 (ks.getD i .other) (vs (o+i))∧zz3 (ks.getD i .other) (us (o+i)))∧zdR vs us o ks.length=b
 |[],[],[],b,h=>by cases h;exact ⟨rfl,rfl,fun _ _ _ _ _=>⟨fun i hi=>by simp at hi,rfl⟩⟩
 |k::ks,c::cs,d::ds,b,h=>by
  unfold znH at h
  split at h
  ·rename_i a b' h1 h2
   cases h
   obtain ⟨e1,e2,e3⟩:=zrF ks cs ds b' h2
   refine ⟨by simp [e1],by simp [e2],fun vs us o hv hu=>?_⟩
   have hc:=zxr h1 (hv 0 (by simp)) (hu 0 (by simp))
   obtain ⟨f1,f2⟩:=e3 vs us (o+1) (fun i hi=>by have:=hv (i+1) (by simpa using hi);rw [show o+1+i=o+(i+1) by omega];simpa using this) (fun i hi=>by have:=hu (i+1) (by simpa using hi);rw [show o+1+i=o+(i+1) by omega];simpa using this)
   refine ⟨fun i hi=>?_,?_⟩
   ·match i,hi with
    |0,_=>exact ⟨hc.1,hc.2.1⟩
    |i+1,hi=>
     have:=f1 i (by simpa using hi)
     rw [show o+(i+1)=o+1+i by omega]
     simpa using this
   ·simp only [List.length_cons,zdR,f2]
    have:=hc.2.2
    simp only [Nat.add_zero] at this
    rw [this]
  ·cases h
 |[],_::_,_,_,h=>by simp [znH] at h
 |[],[],_::_,_,h=>by simp [znH] at h
 |_::_,[],_,_,h=>by simp [znH] at h
 |_::_,_::_,[],_,h=>by simp [znH] at h
theorem zrG (hE:zaY P env) {t:Nat} {ks:List Kd} (hks:(env.ty t).bind Ty.eqs=some ks) {cs ds:List AVal} {b:Bool} (h:znH ks cs ds=some b) {D:Nat→Prop} {v u:Value} (hv:V g D M (.agg cs) v) (hu:V g D M (.agg ds) u) :
  ∃ xs ys,v=.agg xs∧u=.agg ys∧P.eqGuardType P.depth t=false∧(Op.equalIn 10000 t (.agg xs) (.agg ys)).run P w=.ok b w:=by
 cases hv with
 |agg _ vs hl1 h1=>
  cases hu with
  |agg _ us hl2 h2=>
   obtain ⟨e1,e2,e3⟩:=zrF (g:=g) (D:=D) (M:=M) ks cs ds b h
   obtain ⟨f1,f2⟩:=e3 (fun i=>vs.getD i undef) (fun i=>us.getD i undef) 0 (fun i hi=>by rw [Nat.zero_add];exact h1 i hi) (fun i hi=>by rw [Nat.zero_add];exact h2 i hi)
   have hq:=(zui hE hks).1
   unfold zxo at hq
   split at hq
   ·rename_i fs hut
    split at hq
    ·cases hq
    rename_i hgt
    refine ⟨_,_,rfl,rfl,by simpa using hgt,?_⟩
    unfold zk8 at hq
    rw [hut] at hq
    dsimp only at hq
    by_cases hst:P.stoodInHeld t=true
    ·rw [if_pos hst] at hq;cases hq
    rw [if_neg hst] at hq
    have hf:P.underlying t=some (.struct (P.fieldsOf t)):=by rw [hut];simp [Program.fieldsOf,hut]
    have hfs:P.fieldsOf t=fs:=by simp [Program.fieldsOf,hut]
    rw [run_equalIn_struct w 9999 t _ _ hf (by simpa using hst),hfs]
    rw [zla fs.toList 7 0 ks hq 9999 (by omega) vs.toArray us.toArray ⟨by simp [hl1,e1],fun i hi=>by simpa using (f1 i hi).1⟩ ⟨by simp [hl2,e2],fun i hi=>by simpa using (f1 i hi).2⟩ w]
    congr 1
    rw [←f2]
    exact zgd _ _ _ _ _ _ _ fun i hi=>⟨by simp,by simp⟩
   ·cases hq
theorem zqe (hR:Rel E σ g M a w) (hG:GOK env M) (hE:zaY P env) {op:BinOp} {t t':TypeId} {x y:Operand} (ho:o.op=.binOp op t x y t')
  (h:aop env o.dst (zah env σ) σ.obj o.op=some e):zbJ P env o E σ g M a w e:=by
 rw [ho] at h
 simp only [aop] at h
 have hx:=zaF (env:=env) hR hG x
 have hy:=zaF (env:=env) hR hG y
 split at h
 ·rename_i p q hp hq
  rw [hp] at hx
  rw [hq] at hy
  cases hr0:(if ze4 y=true then zwU op ((env.ty t).map Ty.kind) p else zgb op ((env.ty t).map Ty.kind) p q) with
  |none=>rw [hr0] at h;cases h
  |some r=>
   rw [hr0] at h
   simp only [Option.map_some,Option.some.injEq] at h
   subst h
   have hx':=hx.pv_inv
   have hy':=hy.pv_inv
   have hr:=hr0
   by_cases hnc:ze4 y=true
   ·rw [if_pos hnc] at hr
    obtain rfl:=zrD hnc
    unfold zwU at hr
    split at hr
    ·rename_i b
     split at hr
     ·rename_i hkd
      obtain ⟨ms,hu⟩:=zkp hE hkd
      have he:=hx'.err_inv
      have hq:=zf5 (P:=P) hu he w
      have hg:∀ op,(eqGuard op t x (.const .nilIface) (a.eval x) .nilIface).run P w=.ok () w:=fun op=>by
       unfold eqGuard
       rcases he with ⟨_,e⟩|⟨_,_,_,e⟩<;>rw [e]<;>cases op<;>simp
      have hce:a.eval (.const .nilIface)=.nilIface:=rfl
      cases op<;>simp only [Option.some.injEq,reduceCtorEq] at hr
      all_goals (subst hr;refine zbJ.pure hR ?_ (.pv (by constructor));simp [execOp,ho,hce,hg,hq,binOp,Result.andThen])
     ·cases hr
    ·split at hr
     ·rename_i hkd
      obtain ⟨ms,hu⟩:=zkp hE hkd
      obtain ⟨t1,v1,e1⟩:=hx'.ifc_inv
      have hq:=zf5 (P:=P) hu (.inr ⟨rfl,t1,v1,e1⟩:(false=true∧_)∨(false=false∧_)) w
      have hg:∀ op,(eqGuard op t x (.const .nilIface) (a.eval x) .nilIface).run P w=.ok () w:=fun op=>by
       unfold eqGuard
       rw [e1]
       cases op<;>simp
      have hce:a.eval (.const .nilIface)=.nilIface:=rfl
      cases op<;>simp only [Option.some.injEq,reduceCtorEq] at hr
      all_goals (subst hr;refine zbJ.pure hR ?_ (.pv (by constructor));simp [execOp,ho,hce,hg,hq,binOp,Result.andThen])
     ·cases hr
    ·cases hr
   rw [if_neg hnc] at hr
   unfold zgb at hr
   split at hr
   ·rename_i k m k' n
    have ex:=hx'.int_inv
    have ey:=hy'.int_inv
    by_cases hk:k=k'
    ·subst hk
     simp only [if_true] at hr
     cases op<;>simp only [Option.some.injEq,reduceCtorEq] at hr
     case quo|rem=>
      split at hr
      ·cases hr
      ·rename_i hn
       cases hr
       refine zbJ.pure hR ?_ (.pv (.int _ _))
       simp [execOp,ho,ex,ey,eqGuard,binOp,Op.intDiv,hn]
     all_goals (subst hr;refine zbJ.pure hR ?_ (.pv (by constructor));simp [execOp,ho,ex,ey,eqGuard,binOp,Op.intArith,Op.intCmp])
    ·rw [if_neg hk] at hr;cases hr
   ·rename_i s u
    have ex:=hx'.str_inv
    have ey:=hy'.str_inv
    cases op<;>simp only [Option.some.injEq,reduceCtorEq] at hr
    case add=>
     split at hr
     ·rename_i hn
      cases hr
      refine zbJ.pure hR (v:=.string ⟨(s++u).toArray⟩) ?_ (.pv (.str _))
      have hle:¬ ((((ByteArray.mk s.toArray).size+(ByteArray.mk u.toArray).size:Nat):Int) > IntKind.i64.max):=by
       simp [ByteArray.size,IntKind.max,IntKind.signed,IntKind.bits];omega
      have hap:(ByteArray.mk s.toArray)++(ByteArray.mk u.toArray)=⟨(s++u).toArray⟩:=by
       apply ByteArray.ext;simp
      have hrun:(Op.stringOp .add ⟨s.toArray⟩ ⟨u.toArray⟩).run P w=.ok (.string ⟨(s++u).toArray⟩) w:=by
       unfold Op.stringOp
       simp only []
       rw [if_neg hle,hap]
       rfl
      simp [execOp,ho,ex,ey,eqGuard,binOp,hrun]
     ·cases hr
    all_goals (subst hr;refine zbJ.pure hR ?_ (.pv (by constructor));simp [execOp,ho,ex,ey,eqGuard,binOp,Op.stringOp,zgw])
   ·rename_i s u
    have ex:=hx'.bool_inv
    have ey:=hy'.bool_inv
    split at hr
    ·rename_i hkd
     have hb:=zrC hE hkd
     cases op<;>simp only [Option.some.injEq,reduceCtorEq] at hr
     all_goals (subst hr;refine zbJ.pure hR ?_ (.pv (by constructor));simp [execOp,ho,ex,ey,eqGuard,binOp,zj7 hb])
    ·cases hr
   ·cases hr
 ·rename_i cs ds hp hq
  rw [hp] at hx
  rw [hq] at hy
  cases hb:zzN op ((env.ty t).bind Ty.eqs) cs ds with
  |none=>rw [hb] at h;cases h
  |some b=>
   rw [hb] at h
   simp only [Option.map_some,Option.some.injEq] at h
   subst h
   unfold zzN at hb
   split at hb
   ·rename_i ks hks
    obtain ⟨xs,ys,e1,e2,e3,e4⟩:=zrG (w:=w) hE hks hb hx hy
    exact zbJ.pure hR (v:=.bool b) (by simp [execOp,ho,e1,e2,run_eqGuard_agg,e3,run_eql_struct,e4]) (.pv (.bool _))
   ·rename_i ks hks
    cases hl:znH ks cs ds with
    |none=>rw [hl] at hb;cases hb
    |some c=>
     rw [hl] at hb
     cases hb
     obtain ⟨xs,ys,e1,e2,e3,e4⟩:=zrG (w:=w) hE hks hl hx hy
     exact zbJ.pure hR (v:=.bool !c) (by simp [execOp,ho,e1,e2,run_eqGuard_agg,e3,run_neq_struct,e4]) (.pv (.bool _))
   ·cases hb
 ·cases h
end ops
end Go.Abs
namespace Go.Abs
open Go
theorem zcj (b off n:Nat):(⟨b,off,none⟩:Addr).add n=⟨b,off+n,none⟩:=by
 unfold Addr.add;split<;>simp_all
section tyfacts
variable {P:Program} {env:Env} {t:Nat} {ty:Ty}
theorem zmp (hE:zaY P env) (h:env.ty t=some ty) (hk:ty.kind=.struct) :
  ∃ fs,P.underlying t=some (.struct fs)∧ty.fields=fs.toList.map fun f=>(f.offset,zaE P f.type):=by
 obtain ⟨i,d,hi,hd,hty⟩:=hE.get h
 simp only [zj3,hi,hd,Option.some.injEq] at hty
 subst hty
 cases d<;>simp at hk
 exact ⟨_,hd,rfl⟩
theorem zck (hE:zaY P env) (h:env.ty t=some ty) (hk:ty.kind=.slice) :
  ∃ e,P.underlying t=some (.slice e)∧ty.eSize=zaE P e∧ty.eBytes=zcM P e∧ty.eZero=zCU P e:=by
 obtain ⟨i,d,hi,hd,hty⟩:=hE.get h
 simp only [zj3,hi,hd,Option.some.injEq] at hty
 subst hty
 cases d<;>simp at hk
 exact ⟨_,hd,rfl,rfl,rfl⟩
theorem zh4 (hE:zaY P env) (h:env.ty t=some ty) {n:Nat} (hk:ty.kind=.array n) :
  ∃ e,P.underlying t=some (.array n e)∧ty.eSize=zaE P e:=by
 obtain ⟨i,d,hi,hd,hty⟩:=hE.get h
 simp only [zj3,hi,hd,Option.some.injEq] at hty
 subst hty
 cases d<;>simp at hk
 subst hk
 exact ⟨_,hd,rfl⟩
theorem zrH (hE:zaY P env) (h:env.ty t=some ty) {n:Nat} (hk:ty.kind=.array n) :
  ∃ e,P.underlying t=some (.array n e)∧ty.eSize=zaE P e∧ty.kKind=zuc P e:=by
 obtain ⟨i,d,hi,hd,hty⟩:=hE.get h
 simp only [zj3,hi,hd,Option.some.injEq] at hty
 subst hty
 cases d<;>simp at hk
 subst hk
 exact ⟨_,hd,rfl,rfl⟩
theorem ze6 (hE:zaY P env) (h:env.ty t=some ty) (hk:ty.kind=.string):P.underlying t=some .string:=by
 obtain ⟨i,d,hi,hd,hty⟩:=hE.get h
 simp only [zj3,hi,hd,Option.some.injEq] at hty
 subst hty
 cases d<;>simp at hk
 exact hd
theorem zz4 (hE:zaY P env) (h:env.ty t=some ty) {k:IntKind} (hk:ty.kind=.int k):P.underlying t=some (.int k):=by
 obtain ⟨i,d,hi,hd,hty⟩:=hE.get h
 simp only [zj3,hi,hd,Option.some.injEq] at hty
 subst hty
 cases d<;>simp at hk
 subst hk
 exact hd
theorem zbm {e:TypeId} (w:World) (h:0<zaE P e):(sizeOf e).run P w=.ok (zaE P e) w:=by
 unfold zaE at *
 cases hi:P.info? e with
 |none=>simp [hi] at h
 |some i=>simp [zeA w hi]
theorem zlb (hE:zaY P env) (h:env.ty t=some ty) (w:World):(sizeOf t).run P w=.ok ty.size w:=by
 obtain ⟨i,d,hi,hd,hty⟩:=hE.get h
 simp only [zj3,hi,hd,Option.some.injEq] at hty
 subst hty
 exact zeA w hi
theorem zxs (hE:zaY P env) (h:env.ty t=some ty) (w:World):(isAgg t).run P w=.ok ty.agg w:=by
 obtain ⟨i,d,hi,hd,hty⟩:=hE.get h
 simp only [zj3,hi,hd,Option.some.injEq] at hty
 subst hty
 simp only [isAgg,Sem.run_bind,zaf w hd,Result.andThen]
 cases d<;>rfl
theorem zep (hE:zaY P env) (h:env.ty t=some ty) (w:World) (b off:Nat) (f:Nat→Value) (hsz:0<ty.size)
  (hc:∀ j,j<ty.size→w.cell? ⟨b,off+j,none⟩=some (f j)) :
  (loadVar t ⟨b,off,none⟩).run P w=.ok (if ty.agg then .agg ((List.range ty.size).map f).toArray else f 0) w:=by
 simp only [loadVar,Sem.run_bind,zxs hE h w,Result.andThen]
 cases ty.agg with
 |true=>
  simp only [if_true,Sem.run_bind,zlb hE h w,Result.andThen]
  rw [run_loadCells w ⟨b,off,none⟩ ty.size f (fun j hj=>by rw [zcj];exact hc j hj)]
  rfl
 |false=>
  have:=hc 0 hsz
  simp only [Nat.add_zero] at this
  simp [this]
end tyfacts
section ops
variable {P:Program} {env:Env} {o:Oper} {E:Ent} {σ:St} {g:Gh} {M:Mem} {a:Act} {w:World} {e:Eff}
theorem zrI {D:Nat→Prop} {n:Nat} {f:Nat→Value} {cs:List AVal} (hl:cs.length=n) (hv:∀ j,j<n→V g D M (cs.getD j .junk) (f j)) :
  V g D M (.agg cs) (.agg ((List.range n).map f).toArray):=
 .agg cs ((List.range n).map f) (by simp [hl]) (fun i hi=>by
  have:((List.range n).map f).getD i undef=f i:=by simp [List.getD,(by omega:i<n)]
  rw [this];exact hv i (by omega))
theorem zge (hR:Rel E σ g M a w) (hE:zaY P env) {t:Nat} {ty:Ty} {p:Operand} (ho:o.op=.load t p) (ht:env.ty t=some ty) (hsz:0<ty.size)
  {b off:Nat} (hp:a.eval p=.pointer (some ⟨b,off,none⟩)) (f:Nat→Value) (hc:∀ j,j<ty.size→w.cell? ⟨b,off+j,none⟩=some (f j))
  {cs:List AVal} (hl:cs.length=ty.size) (hv:∀ j,j<ty.size→V g σ.dom M (cs.getD j .junk) (f j)) :
  zbJ P env o E σ g M a w ⟨if ty.agg then .agg cs else cs.getD 0 .junk,[]⟩:=by
 refine zbJ.pure hR (v:=if ty.agg then .agg ((List.range ty.size).map f).toArray else f 0) ?_ ?_
 ·simp only [execOp,ho,Instr.loadAt,hp,Instr.sureAddr,Sem.run_bind,Sem.run_pure,Result.andThen,zep hE ht w b off f hsz hc]
 ·cases ty.agg
  ·exact hv 0 hsz
  ·exact zrI hl hv
theorem cell_of_heap {w:World} {b:Nat} {vals:Array Value} {T:TypeId} {fz:Nat × Nat} (h:w.heap[b]?=some (.cells vals T fz)) (i:Nat):w.cell? ⟨b,i,none⟩=vals[i]?:=by
 simp [World.cell?,h]
theorem zrJ (hR:Rel E σ g M a w) (hG:GOK env M) (hE:zaY P env) {t:Nat} {p:Operand} (ho:o.op=.load t p)
  (h:aop env o.dst (zah env σ) σ.obj o.op=some e):zbJ P env o E σ g M a w e:=by
 rw [ho] at h
 simp only [aop] at h
 have hp:=zaF (env:=env) hR hG p
 split at h
 ·rename_i ty id off ht hx
  rw [hx] at hp
  obtain ⟨hv,hd⟩:=hp.ref_inv
  split at h
  ·rename_i cs hob
   split at h
   ·rename_i hc
    cases h
    obtain ⟨vals,T,hh,hs,hvv⟩:=hR.objs id _ hob
    have hd1:∀ j,j<ty.size→((cs.drop off).take ty.size).getD j .junk=cs.getD (off+j) .junk:=fun j hj=>by
     simp [List.getD,List.getElem?_take,hj,List.getElem?_drop]
    have hd0:cs.getD off .junk=((cs.drop off).take ty.size).getD 0 .junk:=by rw [hd1 0 hc.2];rfl
    rw [hd0]
    refine zge hR hE ho ht hc.2 hv (fun j=>vals.getD (off+j) undef) (fun j hj=>?_) ?_ (fun j hj=>?_)
    ·rw [cell_of_heap hh]
     have:off+j<vals.size:=by omega
     simp [this]
    ·simp;omega
    ·rw [hd1 j hj];exact hvv (off+j) (by omega)
   ·cases h
  ·cases h
 ·rename_i ty cs ht hx
  rw [hx] at hp
  obtain ⟨b,off,hv,hm⟩:=hp.ptr_inv
  split at h
  ·rename_i hc
   cases h
   have hx:∀ j,∃ u,j<cs.length→M b (off+j)=some u∧Rd M (cs.getD j .nilptr) u:=fun j=>by
    by_cases hj:j<cs.length
    ·obtain ⟨u,hu⟩:=hm j hj;exact ⟨u,fun _=>hu⟩
    ·exact ⟨undef,fun h=>absurd h hj⟩
   have hd1:∀ j,j<ty.size→((cs.take ty.size).map AVal.pv).getD j .junk=.pv (cs.getD j .nilptr):=fun j hj=>by
    have:j<cs.length:=by omega
    simp [List.getD,List.getElem?_take,hj,this]
   have hd0:AVal.pv (cs.getD 0 .nilptr)=((cs.take ty.size).map AVal.pv).getD 0 .junk:=(hd1 0 hc.2).symm
   rw [hd0]
   refine zge hR hE ho ht hc.2 hv (fun j=>(hx j).choose) (fun j hj=>?_) ?_ (fun j hj=>?_)
   ·exact hR.sat _ _ _ ((hx j).choose_spec (by omega)).1
   ·simp;omega
   ·rw [hd1 j hj];exact .pv ((hx j).choose_spec (by omega)).2
  ·cases h
 ·rename_i ty id i j sz ht hx
  rw [hx] at hp
  obtain ⟨hv,hd⟩:=hp.eref_inv
  split at h
  ·rename_i sz' xs hob
   split at h
   ·rename_i hc
    obtain ⟨rfl,hi,hj,hsz⟩:=hc
    cases h
    obtain ⟨hlen,hnil,hrow⟩:=hR.objs id _ hob
    have hn:g.ν id=false:=by
     cases hn:g.ν id
     ·rfl
     ·have:=hnil hn;subst this;simp at hi
    obtain ⟨vals,T,hh,h1,h2,h3⟩:=hrow hn
    have hxl:(xs.getD i []).length=sz:=by
     have:xs.getD i [] ∈ xs:=by simp [List.getD,hi]
     exact hlen _ this
    have hb:i * sz+sz≤vals.size:=by
     have:(i+1) * sz≤g.κ id * sz:=Nat.mul_le_mul_right _ (by omega)
     rw [Nat.add_mul] at this
     omega
    have hd1:∀ q,q<ty.size→((((xs.getD i []).drop j).take ty.size).map AVal.pv).getD q .junk=.pv (zbW xs i (j+q)):=fun q hq=>by
     have hlt:j+q<(xs.getD i []).length:=by omega
     simp only [zbW,List.getD_eq_getElem?_getD,List.getElem?_map,List.getElem?_take,hq,if_true,List.getElem?_drop]
     rw [List.getElem?_eq_getElem (by simpa using hlt)]
     rfl
    have hd0:AVal.pv (zbW xs i j)=((((xs.getD i []).drop j).take ty.size).map AVal.pv).getD 0 .junk:=(hd1 0 hsz).symm
    rw [hd0]
    refine zge hR hE ho ht hsz hv (fun q=>vals.getD (i * sz+j+q) undef) (fun q hq=>?_) ?_ (fun q hq=>?_)
    ·rw [cell_of_heap hh]
     have:i * sz+j+q<vals.size:=by omega
     simp [this]
    ·simp only [List.length_map,List.length_take,List.length_drop];omega
    ·rw [hd1 q hq,Nat.add_assoc];exact .pv (h3 i (j+q) hi (by omega))
   ·cases h
  ·cases h
 ·cases h
theorem ze7 (hE:zaY P env) {t:Nat} {ty:Ty} (ht:env.ty t=some ty) (hk:ty.kind=.slice) (hu:ty.kKind=.int .u8):∃ e,P.underlying t=some (.slice e)∧P.underlying e=some (.int .u8):=by
 obtain ⟨i,d,hi,hd,hty⟩:=hE.get ht
 simp only [zj3,hi,hd,Option.some.injEq] at hty
 subst hty
 cases d<;>simp at hk
 rename_i e
 refine ⟨e,hd,?_⟩
 simp only [zuc] at hu
 split at hu<;>simp at hu
 rename_i k hk'
 rw [hk',hu]
theorem zhj:∀ {xs:List (List PVal)} {ns:List Int},zdP xs=some ns→ns.length=xs.length∧∀ i,i<xs.length→xs.getD i []=[.int .u8 (ns.getD i 0)]
 |[],ns,h=>by cases h;exact ⟨rfl,fun i hi=>by simp at hi⟩
 |x::r,ns,h=>by
  unfold zdP at h
  split at h
  ·rename_i e;cases e
  ·rename_i n r' e
   cases e
   cases hr:zdP r with
   |none=>rw [hr] at h;cases h
   |some ms=>
    rw [hr] at h
    cases h
    obtain ⟨h1,h2⟩:=zhj hr
    refine ⟨by simp [h1],fun i hi=>?_⟩
    cases i with
    |zero=>simp
    |succ i=>simpa using h2 i (by simpa using hi)
  ·cases h
theorem zmq (hR:Rel E σ g M a w) (hG:GOK env M) (hE:zaY P env) {s d:TypeId} {x:Operand} (ho:o.op=.convert s d x)
  (hno:∀ ty,env.ty d=some ty→ty.kind≠.slice) (h:aop env o.dst (zah env σ) σ.obj o.op=some e):zbJ P env o E σ g M a w e:=by
 rw [ho] at h
 simp only [aop] at h
 have hx:=zaF (env:=env) hR hG x
 split at h
 ·rename_i sty ty k n hst ht hb
  rw [hb] at hx
  split at h
  ·rename_i k' hk
   cases h
   obtain ⟨_,ds,_,hds,_⟩:=hE.get hst
   refine zbJ.pure hR (v:=.int k' (k'.wrap n)) ?_ (.pv (.int _ _))
   simp only [execOp,ho,hx.int_inv,convert,Sem.run_bind,zaf w hds,zaf w (zz4 hE ht hk),Result.andThen]
   cases ds<;>rfl
  ·cases h
 ·rename_i sty ty xs hst ht hb
  rw [hb] at hx
  split at h
  ·rename_i ns hsk htk hns
   split at h
   ·rename_i hu
    cases h
    obtain ⟨el,hs1,hs2⟩:=ze7 hE hst hsk hu
    have hd:=ze6 hE ht htk
    obtain ⟨hn1,hn2⟩:=zhj hns
    have hr:=hx.pv_inv
    have hstr:strOfNums ns=⟨(zgc ns).toArray⟩:=by simp [strOfNums,zgc]
    refine zbJ.pure hR (v:=.string ⟨(zgc ns).toArray⟩) ?_ (.pv (.str _))
    generalize hv:a.eval x=v at *
    cases hr with
    |nils=>
     obtain rfl:ns=[]:=List.length_eq_zero_iff.1 (by simpa using hn1)
     have:=run_convert_bytes_nil (P:=P) (w:=w) s el hs1 hs2 0 0 d hd
     simp only [execOp,ho,hv,Sem.run_bind,this,Result.andThen]
     rfl
    |slice _ sz b off cap us h1 h2 h3 h4=>
     have hsz:∀ i,i<xs.length→0<sz:=fun i hi=>by
      have e1:=hn2 i hi
      have e2:=h1 (xs.getD i []) (by simp [List.getD,hi])
      rw [e1] at e2;simp at e2;omega
     have hone:∀ i,i<xs.length→sz=1:=fun i hi=>by
      have e1:=hn2 i hi
      have e2:=h1 (xs.getD i []) (by simp [List.getD,hi])
      rw [e1] at e2;simpa using e2.symm
     have hc:∀ i,i<xs.length→w.cell? ⟨b,off+i,none⟩=some (.int .u8 (ns.getD i 0)):=fun i hi=>by
      have e0:=hone i hi
      subst e0
      have e1:=h2 i 0 hi (by omega)
      have e2:=h3 i 0 hi (by omega)
      simp only [zbW,hn2 i hi,List.getD_cons_zero] at e2
      have e3:=hR.sat _ _ _ e1
      rw [e2.int_inv] at e3
      simpa using e3
     have:=run_convert_bytes_arg (P:=P) w s el hs1 hs2 b off xs.length cap ns hn1 hc d hd
     simp only [execOp,ho,hv,Sem.run_bind,this,Result.andThen,hstr]
     rfl
   ·cases h
  ·cases h
 ·rename_i sty ty id n hst ht hb
  rw [hb] at hx
  split at h
  ·rename_i sz xs hob
   split at h
   ·rename_i ns hsk htk hns
    split at h
    ·rename_i hu0
     obtain ⟨hu,rfl⟩:=hu0
     cases h
     obtain ⟨el,hs1,hs2⟩:=ze7 hE hst hsk hu
     have hd:=ze6 hE ht htk
     obtain ⟨hn1,hn2⟩:=zhj hns
     have hstr:strOfNums ns=⟨(zgc ns).toArray⟩:=by simp [strOfNums,zgc]
     refine zbJ.pure hR (v:=.string ⟨(zgc ns).toArray⟩) ?_ (.pv (.str _))
     obtain ⟨h1,h2,h3⟩:=hR.objs id _ hob
     generalize hv:a.eval x=v at *
     generalize hnn:xs.length=m at *
     cases hx with
     |rown _ hd' hnu=>
      obtain rfl:ns=[]:=List.length_eq_zero_iff.1 (by omega)
      have:=run_convert_bytes_nil (P:=P) (w:=w) s el hs1 hs2 0 0 d hd
      simp only [execOp,ho,hv,Sem.run_bind,this,Result.andThen]
      rfl
     |row _ _ hd' hnu=>
      obtain ⟨vals,T,hh,h4,h5,h6⟩:=h3 hnu
      have hone:∀ i,i<m→sz=1:=fun i hi=>by
       have e1:=hn2 i (by omega)
       have e2:=h1 (xs.getD i []) (by simp [List.getD,show i<xs.length by omega])
       rw [e1] at e2;simpa using e2.symm
      have hc:∀ i,i<m→w.cell? ⟨g.ρ id,0+i,none⟩=some (.int .u8 (ns.getD i 0)):=fun i hi=>by
       have e0:=hone i hi
       subst e0
       have e2:=h6 i 0 (by omega) (by omega)
       simp only [zbW,hn2 i (by omega),List.getD_cons_zero,Nat.mul_one,Nat.add_zero] at e2
       have e3:=e2.int_inv
       rw [Nat.zero_add,cell_of_heap hh]
       have:i<vals.size:=by omega
       rw [←e3]
       simp [this]
      have:=run_convert_bytes_arg (P:=P) w s el hs1 hs2 (g.ρ id) 0 m (g.κ id) ns (by omega) hc d hd
      simp only [execOp,ho,hv,Sem.run_bind,this,Result.andThen,hstr]
      rfl
    ·cases h
   ·rename_i hk _;exact absurd hk (hno _ ht)
   ·cases h
  ·cases h
 ·cases h
theorem zj8 (hR:Rel E σ g M a w) (hG:GOK env M) (hE:zaY P env) {s:TypeId} {x:Operand} {k:Nat} (ho:o.op=.fieldAddr s x k)
  (h:aop env o.dst (zah env σ) σ.obj o.op=some e):zbJ P env o E σ g M a w e:=by
 rw [ho] at h
 simp only [aop] at h
 have hx:=zaF (env:=env) hR hG x
 split at h
 ·rename_i ty ht
  split at h
  ·rename_i fo fsz hk hf
   obtain ⟨fs,hu,hfs⟩:=zmp hE ht hk
   split at h
   ·rename_i hpos
    rw [hfs] at hf
    simp only [List.getElem?_map,Array.getElem?_toList] at hf
    cases hfk:fs[k]? with
    |none=>rw [hfk] at hf;cases hf
    |some f=>
     rw [hfk] at hf
     simp only [Option.map_some,Option.some.injEq,Prod.mk.injEq] at hf
     obtain ⟨rfl,rfl⟩:=hf
     have hrun:∀ b off,a.eval x=.pointer (some ⟨b,off,none⟩)→(execOp a.eval o).run P w=.ok (.value (.pointer (some ⟨b,off+f.offset,none⟩))) w:=fun b off hv=>by
      simp only [execOp,ho,Instr.fieldAt,Sem.run_bind,zaf w hu,Result.andThen,hfk,hv,Instr.sureAddr,Sem.run_pure,fieldPlace,zbm w hpos]
      rw [if_neg (by omega)]
      simp [zcj]
     split at h
     ·rename_i id off hx'
      cases h
      rw [hx'] at hx
      obtain ⟨hv,hd⟩:=hx.ref_inv
      exact zbJ.pure hR (hrun _ _ hv) (.ref id (off+f.offset) hd)
     ·rename_i cs hx'
      split at h
      ·rename_i hle
       cases h
       rw [hx'] at hx
       obtain ⟨b,off,hv,hm⟩:=hx.ptr_inv
       refine zbJ.pure hR (hrun _ _ hv) (.pv ?_)
       have hx:∀ j,∃ u,j<cs.length→M b (off+j)=some u∧Rd M (cs.getD j .nilptr) u:=fun j=>by
        by_cases hj:j<cs.length
        ·obtain ⟨u,hu⟩:=hm j hj;exact ⟨u,fun _=>hu⟩
        ·exact ⟨undef,fun h=>absurd h hj⟩
       refine .ptr _ b (off+f.offset) (fun j=>(hx (f.offset+j)).choose) (fun j hj=>?_) (fun j hj=>?_)
       ·simp at hj;rw [Nat.add_assoc];exact ((hx (f.offset+j)).choose_spec (by omega)).1
       ·simp at hj
        have:=((hx (f.offset+j)).choose_spec (by omega)).2
        have e1:((cs.drop f.offset).take (zaE P f.type)).getD j .nilptr=cs.getD (f.offset+j) .nilptr:=by simp [List.getD,List.getElem?_drop,List.getElem?_take];rw [if_pos (by omega)]
        rw [e1];exact this
      ·cases h
     ·rename_i id i j sz hx'
      cases h
      rw [hx'] at hx
      obtain ⟨hv,hd⟩:=hx.eref_inv
      refine zbJ.pure hR (hrun _ _ hv) ?_
      rw [Nat.add_assoc];exact .eref id i (j+f.offset) sz hd
     ·cases h
   ·cases h
  ·cases h
 ·cases h
theorem zj9 (hR:Rel E σ g M a w) (hG:GOK env M) (hE:zaY P env) {t:TypeId} {x ix:Operand} (ho:o.op=.indexAddr t x ix)
  (h:aop env o.dst (zah env σ) σ.obj o.op=some e):zbJ P env o E σ g M a w e:=by
 rw [ho] at h
 simp only [aop] at h
 have hx:=zaF (env:=env) hR hG x
 have hi:=zaF (env:=env) hR hG ix
 split at h
 ·rename_i ty k i ht hix
  rw [hix] at hi
  have hi':=hi.int_inv
  split at h
  ·cases h
  rename_i hp0
  have hp:0<ty.eSize:=Nat.pos_of_ne_zero hp0
  split at h
  ·rename_i xs hk hx'
   split at h
   ·rename_i hc
    obtain ⟨h0,hlt,hlen⟩:=hc
    cases h
    obtain ⟨el,hu,hes,_⟩:=zck hE ht hk
    rw [hx'] at hx
    have hr:=hx.pv_inv
    generalize hv:a.eval x=v at hr
    cases hr with
    |nils=>simp at hlt
    |slice _ sz b off cap us h1 h2 h3=>
     have hsz:sz=ty.eSize:=by
      have:xs.getD i.toNat [] ∈ xs:=by simp [List.getD,hlt]
      rw [←h1 _ this];exact hlen
     subst hsz
     refine zbJ.pure hR (v:=.pointer (some ⟨b,off+i.toNat * ty.eSize,none⟩)) ?_ (.pv ?_)
     ·have hlt':i<(xs.length:Int):=by omega
      simp only [execOp,ho,Instr.indexAt,hi',hv,asIntOf,Sem.run_bind,Sem.run_pure,Result.andThen,zaf w hu,h0,hlt',and_self,if_true]
      rw [hes] at hp ⊢
      simp [zbm w hp,zcj]
     ·refine .ptr _ b (off+i.toNat * ty.eSize) (fun j=>us i.toNat j) (fun j hj=>?_) (fun j hj=>?_)
      ·exact h2 i.toNat j hlt (by omega)
      ·exact h3 i.toNat j hlt (by omega)
   ·cases h
  ·rename_i id n hk hx'
   split at h
   ·rename_i sz xs hob
    split at h
    ·rename_i hc
     obtain ⟨h0,hlt,rfl⟩:=hc
     cases h
     obtain ⟨el,hu,hes,_⟩:=zck hE ht hk
     rw [hx'] at hx
     generalize hv:a.eval x=v at hx
     cases hx with
     |rown=>simp at hlt
     |row _ _ hd hn=>
      refine zbJ.pure hR (v:=.pointer (some ⟨g.ρ id,i.toNat * ty.eSize+0,none⟩)) ?_ (.eref id i.toNat 0 ty.eSize hd)
      have hlt':i<(n:Int):=by omega
      simp only [execOp,ho,Instr.indexAt,hi',hv,asIntOf,Sem.run_bind,Sem.run_pure,Result.andThen,zaf w hu,h0,hlt',and_self,if_true]
      rw [hes] at hp ⊢
      simp [zbm w hp,zcj]
    ·cases h
   ·cases h
  ·rename_i id n sz hk hx'
   split at h
   ·rename_i hc
    obtain ⟨h0,hlt,rfl⟩:=hc
    cases h
    obtain ⟨el,hu,hes,_⟩:=zck hE ht hk
    rw [hx'] at hx
    generalize hv:a.eval x=v at hx
    cases hx with
    |csl _ _ _ hd=>
     refine zbJ.pure hR (v:=.pointer (some ⟨g.ρ id,i.toNat * ty.eSize,none⟩)) ?_ (.ref _ _ hd)
     have hlt':i<(n:Int):=by omega
     simp only [execOp,ho,Instr.indexAt,hi',hv,asIntOf,Sem.run_bind,Sem.run_pure,Result.andThen,zaf w hu,h0,hlt',and_self,if_true]
     rw [hes] at hp ⊢
     simp [zbm w hp,zcj]
   ·cases h
  ·rename_i n id off hk hx'
   split at h
   ·rename_i hc
    obtain ⟨h0,hlt⟩:=hc
    cases h
    obtain ⟨el,hu,hes⟩:=zh4 hE ht hk
    rw [hx'] at hx
    obtain ⟨hv,hd⟩:=hx.ref_inv
    refine zbJ.pure hR (v:=.pointer (some ⟨g.ρ id,off+i.toNat * ty.eSize,none⟩)) ?_ (.ref _ _ hd)
    have hlt':i<(n:Int):=by omega
    simp only [execOp,ho,Instr.indexAt,hi',hv,asIntOf,Sem.run_bind,Sem.run_pure,Result.andThen,zaf w hu,h0,hlt',and_self,if_true,Instr.sureAddr]
    rw [hes] at hp ⊢
    simp [zbm w hp,zcj]
   ·cases h
  ·rename_i n cs hk hx'
   split at h
   ·rename_i hc
    obtain ⟨h0,hlt,hle⟩:=hc
    cases h
    obtain ⟨el,hu,hes⟩:=zh4 hE ht hk
    rw [hx'] at hx
    obtain ⟨b,off,hv,hm⟩:=hx.ptr_inv
    refine zbJ.pure hR (v:=.pointer (some ⟨b,off+i.toNat * ty.eSize,none⟩)) ?_ (.pv ?_)
    ·have hlt':i<(n:Int):=by omega
     simp only [execOp,ho,Instr.indexAt,hi',hv,asIntOf,Sem.run_bind,Sem.run_pure,Result.andThen,zaf w hu,h0,hlt',and_self,if_true,Instr.sureAddr]
     rw [hes] at hp ⊢
     simp [zbm w hp,zcj]
    ·have hx:∀ j,∃ u,j<cs.length→M b (off+j)=some u∧Rd M (cs.getD j .nilptr) u:=fun j=>by
      by_cases hj:j<cs.length
      ·obtain ⟨u,hu⟩:=hm j hj;exact ⟨u,fun _=>hu⟩
      ·exact ⟨undef,fun h=>absurd h hj⟩
     refine .ptr _ b _ (fun j=>(hx (i.toNat * ty.eSize+j)).choose) (fun j hj=>?_) (fun j hj=>?_)
     ·simp at hj;rw [Nat.add_assoc];exact ((hx (i.toNat * ty.eSize+j)).choose_spec (by omega)).1
     ·simp at hj
      have:=((hx (i.toNat * ty.eSize+j)).choose_spec (by omega)).2
      have e1:((cs.drop (i.toNat * ty.eSize)).take ty.eSize).getD j .nilptr=cs.getD (i.toNat * ty.eSize+j) .nilptr:=by simp [List.getD,List.getElem?_drop,List.getElem?_take];rw [if_pos (by omega)]
      rw [e1];exact this
   ·cases h
  ·cases h
 ·cases h
end ops
end Go.Abs
namespace Go.Abs
open Go
section ops
variable {P:Program} {env:Env} {o:Oper} {E:Ent} {σ:St} {g:Gh} {M:Mem} {a:Act} {w:World} {e:Eff}
theorem zqf (hR:Rel E σ g M a w) (hG:GOK env M) (hE:zaY P env) {t:TypeId} {x ix:Operand} (ho:o.op=.index t x ix)
  (h:aop env o.dst (zah env σ) σ.obj o.op=some e):zbJ P env o E σ g M a w e:=by
 rw [ho] at h
 simp only [aop] at h
 have hx:=zaF (env:=env) hR hG x
 have hi:=zaF (env:=env) hR hG ix
 split at h
 ·rename_i ty k i ht hix
  rw [hix] at hi
  have hi':=hi.int_inv
  split at h
  ·rename_i s hk hx'
   split at h
   ·rename_i hc
    cases h
    rw [hx'] at hx
    have hs:=hx.str_inv
    refine zbJ.pure hR (v:=.int .u8 ((s.getD i.toNat 0).toNat:Int)) ?_ (.pv (.int _ _))
    have hget:(ByteArray.mk s.toArray)[i.toNat]?=some (s.getD i.toNat 0):=by
     have hsz:i.toNat<(ByteArray.mk s.toArray).size:=by simpa [ByteArray.size] using hc.2
     rw [getElem?_pos (ByteArray.mk s.toArray) i.toNat hsz]
     simp [List.getD,hc.2]
     rfl
    simp only [execOp,ho,Instr.index,hi',hs,asIntOf,Sem.run_bind,Sem.run_pure,Result.andThen,zaf w (ze6 hE ht hk),hc.1,if_true,hget]
   ·cases h
  ·rename_i n cs hk hx'
   split at h
   ·rename_i hc
    cases h
    obtain ⟨hc1,hc2,hc3,hc4,hc5⟩:=hc
    obtain ⟨el,hu,hes,hkd⟩:=zrH hE ht hk
    rw [hx'] at hx
    generalize hv0:a.eval x=u at hx
    cases hx with
    |agg cs vs hl hV=>
     refine zbJ.pure hR (v:=vs.getD i.toNat undef) ?_ (hV i.toNat hc3)
     have hinf:∃ inf,P.info? el=some inf∧inf.size=1:=by
      rw [hes] at hc5
      unfold zaE at hc5
      split at hc5
      ·rename_i inf hi;exact ⟨inf,hi,hc5⟩
      ·cases hc5
     obtain ⟨inf,hinf,hsz⟩:=hinf
     have hagg:(isAgg el).run P w=.ok false w:=by
      rw [hkd] at hc4
      unfold zuc at hc4
      unfold isAgg
      split at hc4
      ·rename_i k hk;simp [zaf w hk,Sem.run_bind,Result.andThen]
      ·rename_i hk;simp [zaf w hk,Sem.run_bind,Result.andThen]
      ·rename_i hk;simp [zaf w hk,Sem.run_bind,Result.andThen]
      ·exact absurd rfl hc4
     have hg:vs.toArray[i.toNat * 1]?=some (vs.getD i.toNat undef):=by
      simp [List.getD,hl,hc3]
     have hlt:i<(n:Int):=by omega
     simp only [execOp,ho,Instr.index,hi',hv0,asIntOf,Sem.run_bind,Sem.run_pure,Result.andThen,zaf w hu,hc1,hlt,and_self,if_true,zeA w hinf,hsz,part,hagg,hg,Bool.false_eq_true,if_false]
   ·cases h
  ·cases h
 ·cases h
theorem zlc (hR:Rel E σ g M a w) (hG:GOK env M) {fn:Fn} {first cap:Array Operand} (ho:o.op=.makeFunc fn first cap)
  (h:aop env o.dst (zah env σ) σ.obj o.op=some e):zbJ P env o E σ g M a w e:=by
 rw [ho] at h
 cases fn with
 |func f=>
  simp only [aop] at h
  split at h
  ·rename_i hs
   cases h
   have hf:first=#[]:=Array.eq_empty_of_size_eq_zero hs
   subst hf
   obtain ⟨l⟩:=cap
   have hV:V g σ.dom M (.clo f (l.map (zah env σ))) (.func (.func f) #[] (l.map a.eval).toArray):=
    .clo f _ _ (by simp) (fun i hi=>by
     have hi':i<l.length:=by simpa using hi
     have e1:(l.map (zah env σ)).getD i .junk=zah env σ l[i]:=by simp [List.getD,hi']
     have e2:(l.map a.eval).getD i undef=a.eval l[i]:=by simp [List.getD,hi']
     rw [e1,e2]
     exact zaF hR hG _)
   refine zbJ.pure hR ?_ hV
   simp [execOp,ho,Instr.makeFunc,Sem.run_bind,Result.andThen]
  ·cases h
 |_=>simp [aop] at h
theorem zc9 {b:Builtin} {args:Array Operand} {tys:Array TypeId} {v:Value} (ho:o.op=.call ⟨.builtin b,args,tys⟩)
  (h:(builtin b tys o.type (args.map fun|.const _=>true|_=>false) (args.map a.eval)).run P w=.ok (.value v) w) :
  (execOp a.eval o).run P w=.ok (.value v) w:=by
 simp only [execOp,ho,resolve,Sem.run_bind,Sem.run_pure,Result.andThen,invoke]
 exact h
theorem zkq {α:Type} {xs:Array α} {x:α} (h:xs.toList=[x]):xs=#[x]:=by
 cases xs;simp at h;subst h;rfl
theorem ziJ {α:Type} {xs:Array α} {x:α} {r:List α} (h:xs.toList=x::r):xs=(x::r).toArray:=by
 cases xs;simp at h;subst h;rfl
theorem zuj (hR:Rel E σ g M a w) (hG:GOK env M) (hE:zaY P env) {args:Array Operand} {tys:Array TypeId} (ho:o.op=.call ⟨.builtin .len,args,tys⟩)
  (h:aop env o.dst (zah env σ) σ.obj o.op=some e):zbJ P env o E σ g M a w e:=by
 rw [ho] at h
 simp only [aop] at h
 split at h
 ·rename_i x t hargs htys
  have hx:=zaF (env:=env) hR hG x
  have e1:=zkq hargs
  have e2:=zkq htys
  subst e1 e2
  split at h
  ·rename_i ty ht
   have key:∀ (n:Nat) (d:TypeDesc),P.underlying t=some d →
     ((d=.string∧∃ s:ByteArray,a.eval x=.string s∧s.size=n)∨(∃ el,d=.slice el∧∃ b c,a.eval x=.slice b n c)∨(∃ el,d=.array n el)) →
     zbJ P env o E σ g M a w ⟨.pv (.int .i64 n),[]⟩:=by
    intro n d hd hcase
    refine zbJ.pure hR (v:=.int .i64 n) (zc9 ho ?_) (.pv (.int _ _))
    rcases hcase with ⟨rfl,s,hs,rfl⟩|⟨el,rfl,b,c,hs⟩|⟨el,rfl⟩
    ·simp [builtin,Builtin.len_,zaf w hd,hs,goInt]
    ·simp [builtin,Builtin.len_,zaf w hd,hs,goInt]
    ·cases hv:a.eval x<;>simp [builtin,Builtin.len_,zaf w hd,goInt]
   split at h
   ·rename_i s hk hx'
    cases h
    rw [hx'] at hx
    exact key s.length _ (ze6 hE ht hk) (.inl ⟨rfl,_,hx.str_inv,by simp [ByteArray.size]⟩)
   ·rename_i xs hk hx'
    cases h
    rw [hx'] at hx
    obtain ⟨el,hu,_⟩:=zck hE ht hk
    refine key xs.length _ hu (.inr (.inl ⟨el,rfl,?_⟩))
    have hr:=hx.pv_inv
    generalize a.eval x=v at hr
    cases hr with
    |nils=>exact ⟨_,_,rfl⟩
    |slice=>exact ⟨_,_,rfl⟩
   ·rename_i hk hx'
    cases h
    rw [hx'] at hx
    obtain ⟨el,hu,_⟩:=zck hE ht hk
    refine key 0 _ hu (.inr (.inl ⟨el,rfl,?_⟩))
    generalize a.eval x=v at hx
    cases hx;exact ⟨_,_,rfl⟩
   ·rename_i id n hk hx'
    cases h
    rw [hx'] at hx
    obtain ⟨el,hu,_⟩:=zck hE ht hk
    refine key n _ hu (.inr (.inl ⟨el,rfl,?_⟩))
    generalize a.eval x=v at hx
    cases hx<;>exact ⟨_,_,rfl⟩
   ·rename_i id n _ hk hx'
    cases h
    rw [hx'] at hx
    obtain ⟨el,hu,_⟩:=zck hE ht hk
    refine key n _ hu (.inr (.inl ⟨el,rfl,?_⟩))
    generalize a.eval x=v at hx
    cases hx<;>exact ⟨_,_,rfl⟩
   ·rename_i n hk
    cases h
    obtain ⟨el,hu,_⟩:=zh4 hE ht hk
    exact key n _ hu (.inr (.inr ⟨el,rfl⟩))
   ·cases h
  ·cases h
 ·cases h
theorem zoX (hR:Rel E σ g M a w) (hG:GOK env M):∀ (r:List Operand) (p q:PVal) (v:Value),Rd M p v→zfT zxp p (r.map (zah env σ))=some q →
  ∃ u,((r.map a.eval).foldlM Builtin.max2 v).run P w=.ok u w∧Rd M q u
 |[],p,q,v,hp,h=>by cases h;exact ⟨v,rfl,hp⟩
 |x::r,p,q,v,hp,h=>by
  have hx:=zaF (env:=env) hR hG x
  simp only [List.map_cons] at h
  cases hxe:zah env σ x with
  |pv p'=>
   rw [hxe] at h hx
   simp only [zfT] at h
   cases hm:zxp p p' with
   |none=>rw [hm] at h;cases h
   |some m=>
    rw [hm] at h
    unfold zxp at hm
    split at hm
    ·rename_i k i k' j
     cases hm
     have e1:=hp.int_inv
     have e2:=hx.int_inv
     subst e1
     obtain ⟨u,h1,h2⟩:=zoX hR hG r _ q (.int k (if j > i then j else i)) (.int _ _) h
     refine ⟨u,?_,h2⟩
     simp only [List.map_cons,List.foldlM_cons,Sem.run_bind,e2,Builtin.max2,Sem.run_pure,Result.andThen]
     exact h1
    ·cases hm
  |_=>rw [hxe] at h;simp [zfT] at h
theorem zoY (hR:Rel E σ g M a w) (hG:GOK env M):∀ (r:List Operand) (p q:PVal) (v:Value),Rd M p v→zfT zxq p (r.map (zah env σ))=some q →
  ∃ u,((r.map a.eval).foldlM Builtin.min2 v).run P w=.ok u w∧Rd M q u
 |[],p,q,v,hp,h=>by cases h;exact ⟨v,rfl,hp⟩
 |x::r,p,q,v,hp,h=>by
  have hx:=zaF (env:=env) hR hG x
  simp only [List.map_cons] at h
  cases hxe:zah env σ x with
  |pv p'=>
   rw [hxe] at h hx
   simp only [zfT] at h
   cases hm:zxq p p' with
   |none=>rw [hm] at h;cases h
   |some m=>
    rw [hm] at h
    unfold zxq at hm
    split at hm
    ·rename_i k i k' j
     cases hm
     have e1:=hp.int_inv
     have e2:=hx.int_inv
     subst e1
     obtain ⟨u,h1,h2⟩:=zoY hR hG r _ q (.int k (if j<i then j else i)) (.int _ _) h
     refine ⟨u,?_,h2⟩
     simp only [List.map_cons,List.foldlM_cons,Sem.run_bind,e2,Builtin.min2,Sem.run_pure,Result.andThen]
     exact h1
    ·cases hm
  |_=>rw [hxe] at h;simp [zfT] at h
theorem zuk (hR:Rel E σ g M a w) (hG:GOK env M) {args:Array Operand} {tys:Array TypeId} (ho:o.op=.call ⟨.builtin .max,args,tys⟩)
  (h:aop env o.dst (zah env σ) σ.obj o.op=some e):zbJ P env o E σ g M a w e:=by
 rw [ho] at h
 simp only [aop] at h
 split at h
 ·rename_i x r hargs
  have hx:=zaF (env:=env) hR hG x
  have e1:=ziJ hargs
  subst e1
  split at h
  ·rename_i p hp
   rw [hp] at hx
   cases hf:zfT zxp p (r.map (zah env σ)) with
   |none=>rw [hf] at h;cases h
   |some q=>
    rw [hf] at h
    cases h
    obtain ⟨u,h1,h2⟩:=zoX (P:=P) hR hG r p q _ hx.pv_inv hf
    refine zbJ.pure hR (v:=u) (zc9 ho ?_) (.pv h2)
    simp [builtin,Builtin.max_,h1]
  ·cases h
 ·cases h
theorem zul (hR:Rel E σ g M a w) (hG:GOK env M) {args:Array Operand} {tys:Array TypeId} (ho:o.op=.call ⟨.builtin .min,args,tys⟩)
  (h:aop env o.dst (zah env σ) σ.obj o.op=some e):zbJ P env o E σ g M a w e:=by
 rw [ho] at h
 simp only [aop] at h
 split at h
 ·rename_i x r hargs
  have hx:=zaF (env:=env) hR hG x
  have e1:=ziJ hargs
  subst e1
  split at h
  ·rename_i p hp
   rw [hp] at hx
   cases hf:zfT zxq p (r.map (zah env σ)) with
   |none=>rw [hf] at h;cases h
   |some q=>
    rw [hf] at h
    cases h
    obtain ⟨u,h1,h2⟩:=zoY (P:=P) hR hG r p q _ hx.pv_inv hf
    refine zbJ.pure hR (v:=u) (zc9 ho ?_) (.pv h2)
    simp [builtin,Builtin.min_,h1]
  ·cases h
 ·cases h
end ops
end Go.Abs
namespace Go.Abs
open Go
section ops
variable {P:Program} {env:Env} {o:Oper} {E:Ent} {σ:St} {g:Gh} {M:Mem} {a:Act} {w:World} {e:Eff}
theorem zkr {α:Type} {xs:Array α} {x y:α} (h:xs.toList=[x,y]):xs=#[x,y]:=by
 cases xs;simp at h;subst h;rfl
theorem zgf {D:Nat→Prop} {x:AVal} {v:Value} (h:V g D M x v) (hc:x.cells.all AVal.isCell=true) :
  v.cells.size=x.cells.length∧∀ j,j<x.cells.length→V g D M (x.cells.getD j .junk) (v.cells.getD j undef)∧(v.cells.getD j undef).oneCell'=true:=by
 have key:∀ y:AVal,V g D M y v→y.isCell=true→v.cells=#[v]:=fun y hy hcell=>by
  have:=hy.oneCell hcell
  cases v<;>simp_all [Value.cells,Value.oneCell']
 cases x with
 |agg cs=>
  cases h with
  |agg _ vs hl hv=>
   simp only [AVal.cells,Value.cells] at *
   refine ⟨by simp [hl],fun j hj=>?_⟩
   have e1:vs.toArray.getD j undef=vs.getD j undef:=by simp [List.getD]
   rw [e1]
   refine ⟨hv j hj,(hv j hj).oneCell ?_⟩
   rw [List.all_eq_true] at hc
   exact hc _ (by simp [List.getD,hj])
 |_=>
  first
  |(simp [AVal.cells,AVal.isCell] at hc;done)
  |(have e1:=key _ h rfl;have h1:=h.oneCell rfl;simp only [AVal.cells,e1];refine ⟨rfl,fun j hj=>?_⟩;simp at hj;subst hj;exact ⟨h,h1⟩)
theorem zdD {cs v:List AVal} {off:Nat} (h:off+v.length≤cs.length):(ze5 cs off v).length=cs.length:=by
 simp [ze5];omega
theorem zks {cs v:List AVal} {off:Nat} (h:off+v.length≤cs.length) (j:Nat) :
  (ze5 cs off v).getD j .junk=if off≤j∧j<off+v.length then v.getD (j - off) .junk else cs.getD j .junk:=by
 simp only [ze5,List.getD]
 by_cases h1:j<off
 ·rw [if_neg (by omega),List.append_assoc,List.getElem?_append_left (by simp;omega),List.getElem?_take]
  simp [h1]
 ·by_cases h2:j<off+v.length
  ·rw [if_pos (by omega),List.append_assoc,List.getElem?_append_right (by simp;omega),List.getElem?_append_left (by simp;omega)]
   congr 2;simp;omega
  ·rw [if_neg (by omega),List.getElem?_append_right (by simp;omega)]
   simp only [List.getElem?_drop,List.length_append,List.length_take]
   congr 2;omega
def zaZ (vals:Array Value) (off:Nat) (vs:List Value):Array Value:=
 (vals.toList.take off++vs++vals.toList.drop (off+vs.length)).toArray
theorem zaX {vals:Array Value} {vs:List Value} {off:Nat} (h:off+vs.length≤vals.size):(zaZ vals off vs).size=vals.size:=by
 simp [zaZ];omega
theorem za9 {vals:Array Value} {vs:List Value} {off:Nat} (h:off+vs.length≤vals.size) (j:Nat) :
  (zaZ vals off vs).getD j undef=if off≤j∧j<off+vs.length then vs.getD (j - off) undef else vals.getD j undef:=by
 have e0:(zaZ vals off vs).getD j undef=(vals.toList.take off++vs++vals.toList.drop (off+vs.length)).getD j undef:=by simp [zaZ,List.getD]
 have e1:vals.getD j undef=vals.toList.getD j undef:=by simp [List.getD]
 rw [e0,e1]
 simp only [List.getD]
 by_cases h1:j<off
 ·rw [if_neg (by omega),List.append_assoc,List.getElem?_append_left (by simp;omega),List.getElem?_take]
  simp [h1]
 ·by_cases h2:j<off+vs.length
  ·rw [if_pos (by omega),List.append_assoc,List.getElem?_append_right (by simp;omega),List.getElem?_append_left (by simp;omega)]
   congr 2;simp;omega
  ·rw [if_neg (by omega),List.getElem?_append_right (by simp;omega)]
   simp only [List.getElem?_drop,List.length_append,List.length_take]
   congr 2;simp;omega
def zdo (w:World) (b:Nat) (vals:Array Value) (T:TypeId × (Nat × Nat)):World:={ w with heap:=w.heap.setIfInBounds b (.cells vals T.1 T.2) }
theorem zcE (w:World) (b:Nat) (vals:Array Value) (T:TypeId × (Nat × Nat)) (hb:b<w.heap.size) (k:Nat) :
  (zdo w b vals T).heap[k]?=if k=b then some (.cells vals T.1 T.2) else w.heap[k]?:=by
 simp only [zdo,Array.getElem?_setIfInBounds]
 by_cases hk:b=k
 ·subst hk;simp [hb]
 ·rw [if_neg hk,if_neg (fun h=>hk h.symm)]
theorem zdm (b:Nat) (T:TypeId × (Nat × Nat)):∀ (vs:List Value) (i off:Nat) (vals:Array Value) (w:World),
  w.heap[b]?=some (.cells vals T.1 T.2)→(∀ j,j<vals.size→¬ (T.2.1≤j∧j<T.2.2))→off+i+vs.length≤vals.size→(∀ v,v ∈ vs→v.oneCell'=true) →
  (storeCells ⟨b,off,none⟩ vs i).run P w=.ok () (zdo w b (zaZ vals (off+i) vs) T)
 |[],i,off,vals,w,hb,_,hsz,_=>by
  have e:zdo w b (zaZ vals (off+i) []) T=w:=by
   have hlt:b<w.heap.size:=(Array.getElem?_eq_some_iff.1 hb).1
   have h1:zaZ vals (off+i) []=vals:=by simp [zaZ]
   rw [h1]
   unfold zdo
   have:w.heap.setIfInBounds b (.cells vals T.1 T.2)=w.heap:=by
    apply Array.ext'
    apply List.ext_getElem?
    intro k
    simp only [Array.getElem?_toList,Array.getElem?_setIfInBounds]
    by_cases hk:b=k
    ·subst hk;simp [hlt,hb] at *;exact hb.symm
    ·rw [if_neg hk]
   rw [this]
  rw [e];rfl
 |v::vs,i,off,vals,w,hb,hok,hsz,hone=>by
  have hlt:b<w.heap.size:=(Array.getElem?_eq_some_iff.1 hb).1
  simp only [List.length_cons] at hsz
  have hcell:w.cell? ⟨b,off+i,none⟩=some (vals.getD (off+i) undef):=by
   rw [cell_of_heap hb]
   have:off+i<vals.size:=by omega
   simp [this]
  have hfz:w.frozen? ⟨b,off+i,none⟩=false:=by
   have h0:=hok (off+i) (by omega)
   simp only [World.frozen?,hb]
   simpa using h0
  have hset:w.setCell ⟨b,off+i,none⟩ v=zdo w b (zaZ vals (off+i) [v]) T:=by
   unfold World.setCell zdo
   congr 1
   apply Array.ext'
   apply List.ext_getElem?
   intro k
   simp only [Array.getElem?_toList,Array.getElem?_modify,Array.getElem?_setIfInBounds]
   by_cases hk:b=k
   ·subst hk
    simp only [if_true,hb,Option.map_some,hlt]
    congr 1
    have:(vals.setIfInBounds (off+i) v)=zaZ vals (off+i) [v]:=by
     apply Array.ext
     ·rw [zaX (by simp;omega)];simp
     ·intro q h1 h2
      have h3:q<vals.size:=by simpa using h1
      have e1:=za9 (vals:=vals) (vs:=[v]) (off:=off+i) (by simp;omega) q
      rw [Array.getD_eq_getD_getElem?,Array.getElem?_eq_getElem h2] at e1
      simp only [Option.getD_some] at e1
      rw [e1,Array.getElem_setIfInBounds h3]
      by_cases hq:off+i=q
      ·subst hq;simp
      ·rw [if_neg hq,if_neg (by simp;omega)]
       simp [h3]
    simp [this]
   ·simp [hk]
  have hhead:(store ((⟨b,off,none⟩:Addr).add i) v).run P w=.ok () (zdo w b (zaZ vals (off+i) [v]) T):=by
   rw [zcj,run_store P w _ v _ (hone v (by simp)),hcell]
   simp only [hfz,Bool.false_eq_true,if_false,hset]
  simp only [storeCells,Sem.run_bind,hhead,Result.andThen]
  have hb2:(zdo w b (zaZ vals (off+i) [v]) T).heap[b]?=some (.cells (zaZ vals (off+i) [v]) T.1 T.2):=by
   rw [zcE w b _ T hlt];simp
  have hs2:(zaZ vals (off+i) [v]).size=vals.size:=zaX (by simp;omega)
  rw [zdm b T vs (i+1) off _ _ hb2 (fun j hj=>hok j (by omega)) (by rw [hs2];omega) (fun u hu=>hone u (by simp [hu]))]
  congr 1
  have h1:zaZ (zaZ vals (off+i) [v]) (off+(i+1)) vs=zaZ vals (off+i) (v::vs):=by
   apply Array.ext
   ·rw [zaX (by rw [hs2];omega),hs2,zaX (by simp;omega)]
   ·intro q h1 h2
    have e1:=za9 (vals:=zaZ vals (off+i) [v]) (vs:=vs) (off:=off+(i+1)) (by rw [hs2];omega) q
    have e2:=za9 (vals:=vals) (vs:=v::vs) (off:=off+i) (by simp;omega) q
    have e3:=za9 (vals:=vals) (vs:=[v]) (off:=off+i) (by simp;omega) q
    rw [Array.getD_eq_getD_getElem?,Array.getElem?_eq_getElem h1] at e1
    rw [Array.getD_eq_getD_getElem?,Array.getElem?_eq_getElem h2] at e2
    simp only [Option.getD_some] at e1 e2
    rw [e1,e2,e3]
    by_cases c1:off+i=q
    ·subst c1;rw [if_neg (by omega),if_pos (by simp),if_pos (by simp)];simp
    ·by_cases c2:off+(i+1)≤q∧q<off+(i+1)+vs.length
     ·rw [if_pos c2,if_pos (by simp;omega)]
      have:q - (off+i)=(q - (off+(i+1)))+1:=by omega
      rw [this];simp [List.getD]
     ·rw [if_neg c2,if_neg (by simp;omega),if_neg (by simp;omega)]
  rw [h1]
  unfold zdo
  simp
end ops
end Go.Abs
namespace Go.Abs
open Go
section
variable {P:Program} {env:Env} {o:Oper} {E:Ent} {σ:St} {g:Gh} {M:Mem} {a:Act} {w:World} {e:Eff}
theorem ze8 {D:Nat→Prop} {id b:Nat} {ob:AObj} (h:OR g D M w id ob) (ho:zbj g id ob=some b):b<w.heap.size:=by
 cases ob with
 |cells cs=>
  obtain ⟨vals,T,hh,_⟩:=h
  simp [zbj] at ho;subst ho
  exact (Array.getElem?_eq_some_iff.1 hh).1
 |row sz xs=>
  simp only [zbj] at ho
  split at ho
  ·cases ho
  ·rename_i hn
   cases ho
   obtain ⟨vals,T,hh,_⟩:=h.2.2 (by simpa using hn)
   exact (Array.getElem?_eq_some_iff.1 hh).1
 |map kd es=>
  obtain ⟨ents,clock,hh,_⟩:=h
  simp [zbj] at ho;subst ho
  exact (Array.getElem?_eq_some_iff.1 hh).1
 |bh T e B n=>
  obtain ⟨_,_,p,hh,_⟩:=h
  simp [zbj] at ho;subst ho
  exact (Array.getElem?_eq_some_iff.1 hh).1
 |bb e s=>
  simp only [zbj] at ho
  split at ho
  ·cases ho
  ·rename_i hn
   cases ho
   obtain ⟨cur,hh,_⟩:=h.2 (by simpa using hn)
   exact (Array.getElem?_eq_some_iff.1 hh).1
 |dead=>simp [zbj] at ho
theorem zdN {g':Gh} {id:Nat} (h:g.agree g' id) (ob:AObj):zbj g' id ob=zbj g id ob:=by
 cases ob<;>simp [zbj,h.1,h.2.2]
theorem OR.keep {g':Gh} {D D':Nat→Prop} {M':Mem} {w':World} {id:Nat} {ob:AObj} (h:OR g D M w id ob) (hag:∀ i,D i→g.agree g' i) (hself:g.agree g' id)
  (hD:∀ i,D i→D' i) (hM:Mem.le M M') (hw:∀ b,zbj g id ob=some b→w'.heap[b]?=w.heap[b]?):OR g' D' M' w' id ob:=by
 cases ob with
 |cells cs=>
  obtain ⟨vals,T,hh,hs,hv⟩:=h
  refine ⟨vals,T,?_,hs,fun j hj=>(hv j hj).mono hag hD hM⟩
  rw [hself.1,hw _ rfl];exact hh
 |row sz xs=>
  obtain ⟨h1,h2,h3⟩:=h
  refine ⟨h1,fun hn=>h2 (by rw [←hself.2.2];exact hn),fun hn=>?_⟩
  rw [hself.2.2] at hn
  obtain ⟨vals,T,hh,h4,h5,h6⟩:=h3 hn
  refine ⟨vals,T,?_,by rw [hself.2.1];exact h4,by rw [hself.2.1];exact h5,fun i j hi hj=>(h6 i j hi hj).mono hM⟩
  rw [hself.1,hw _ (by simp [zbj,hn])];exact hh
 |map kd es=>
  obtain ⟨ents,clock,hh,hs,hv⟩:=h
  refine ⟨ents,clock,?_,hs,fun i e he=>?_⟩
  ·rw [hself.1,hw _ rfl];exact hh
  ·obtain ⟨en,h1,h2,h3,h4⟩:=hv i e he
   exact ⟨en,h1,h2,h3.mono hM,h4.mono hag hD hM⟩
 |bh T e B n=>
  obtain ⟨hd,hn,p,hh,hp⟩:=h
  have hB:=hag B hd
  refine ⟨hD _ hd,fun h=>hn (by rw [←hB.2.2];exact h),p,?_,by rw [hself.1];exact hp⟩
  have e1:ziH g' B n=ziH g B n:=by simp only [ziH,hB.1,hB.2.1,hB.2.2]
  rw [hself.1,hw _ rfl,e1];exact hh
 |bb e s=>
  obtain ⟨h1,h2⟩:=h
  refine ⟨fun hn=>h1 (by rw [←hself.2.2];exact hn),fun hn=>?_⟩
  rw [hself.2.2] at hn
  obtain ⟨cur,hh,h4,h5,h6,h7⟩:=h2 hn
  refine ⟨cur,?_,by rw [hself.2.1];exact h4,by rw [hself.2.1];exact h5,by rw [hself.2.1];exact h6,h7⟩
  rw [hself.1,hw _ (by simp [zbj,hn])];exact hh
 |dead=>trivial
theorem Rel.update (h:Rel E σ g M a w) {σ':St} {g':Gh} {w':World} (C:Nat→Prop)
  (slots:σ'.slots=σ.slots)
  (unch:∀ id,¬ C id→σ'.obj id=σ.obj id)
  (hdom:∀ id,σ.dom id→σ'.dom id)
  (ag:∀ id,σ.dom id→g.agree g' id)
  (objs':∀ id ob,C id→σ'.obj id=some ob→OR g' σ'.dom M w' id ob)
  (heap:∀ b,b<w.heap.size→(∀ id ob,C id→σ.obj id=some ob→zbj g id ob≠some b)→w'.heap[b]?=w.heap[b]?)
  (own':∀ id ob b,C id→σ'.obj id=some ob→zbj g' id ob=some b→w.heap.size≤b∨∃ id0 ob0,C id0∧σ.obj id0=some ob0∧zbj g id0 ob0=some b)
  (apart':∀ id id' ob ob' b,C id→C id'→σ'.obj id=some ob→σ'.obj id'=some ob'→zbj g' id ob=some b→zbj g' id' ob'=some b→id=id')
  (hsize:w.heap.size≤w'.heap.size) (hos:w'.os=w.os) (htape:w'.tape=w.tape) (hout:w'.output=w.output):Rel E σ' g' M a w':=by
 have unown:∀ id ob b,¬ C id→σ'.obj id=some ob→zbj g' id ob=some b→σ.obj id=some ob∧zbj g id ob=some b∧b<w.heap.size:=fun id ob b hc ho hb=>by
  have h1:σ.obj id=some ob:=by rw [←unch id hc];exact ho
  have h2:zbj g id ob=some b:=by rw [←zdN (ag id (by simp [St.dom,h1]))];exact hb
  exact ⟨h1,h2,ze8 (h.objs id ob h1) h2⟩
 have keepb:∀ id ob b,¬ C id→σ.obj id=some ob→zbj g id ob=some b→w'.heap[b]?=w.heap[b]?:=fun id ob b hc ho hb=>
  heap b (ze8 (h.objs id ob ho) hb) (fun id0 ob0 hc0 ho0 hb0=>hc (by rw [h.apart id id0 ob ob0 b ho ho0 hb hb0];exact hc0))
 refine ⟨by rw [slots];exact h.size,h.defers,?_,?_,?_,?_,?_,h.M0,h.Mnew,Nat.le_trans h.size0 hsize,?_,?_,hos.trans h.os,htape.trans h.tape,hout.trans h.output⟩
 ·intro i hi
  rw [slots] at hi
  have:σ'.slot i=σ.slot i:=by simp [St.slot,slots]
  rw [this]
  exact (h.slots i hi).mono ag hdom (Mem.le_refl _)
 ·intro id ob ho
  by_cases hc:C id
  ·exact objs' id ob hc ho
  ·have h1:σ.obj id=some ob:=by rw [←unch id hc];exact ho
   exact (h.objs id ob h1).keep ag (ag id (by simp [St.dom,h1])) hdom (Mem.le_refl _) (fun b hb=>keepb id ob b hc h1 hb)
 ·intro id id' ob ob' b ho ho' hb hb'
  by_cases hc:C id
  ·by_cases hc':C id'
   ·exact apart' id id' ob ob' b hc hc' ho ho' hb hb'
   ·obtain ⟨h1,h2,h3⟩:=unown id' ob' b hc' ho' hb'
    rcases own' id ob b hc ho hb with h4|⟨id0,ob0,hc0,ho0,hb0⟩
    ·omega
    ·exact absurd (by rw [h.apart id' id0 ob' ob0 b h1 ho0 h2 hb0];exact hc0) hc'
  ·obtain ⟨h1,h2,h3⟩:=unown id ob b hc ho hb
   by_cases hc':C id'
   ·rcases own' id' ob' b hc' ho' hb' with h4|⟨id0,ob0,hc0,ho0,hb0⟩
    ·omega
    ·exact absurd (by rw [h.apart id id0 ob ob0 b h1 ho0 h2 hb0];exact hc0) hc
   ·obtain ⟨h4,h5,_⟩:=unown id' ob' b hc' ho' hb'
    exact h.apart id id' ob ob' b h1 h4 h2 h5
 ·intro id ob b ho hb i
  by_cases hc:C id
  ·rcases own' id ob b hc ho hb with h4|⟨id0,ob0,hc0,ho0,hb0⟩
   ·cases hm:M b i with
    |none=>rfl
    |some u=>
     have:=World.block_lt_of_cell? _ _ (h.sat b i u hm)
     simp at this;omega
   ·exact h.offM id0 ob0 b ho0 hb0 i
  ·obtain ⟨h1,h2,_⟩:=unown id ob b hc ho hb
   exact h.offM id ob b h1 h2 i
 ·intro b i u hm
  have hs:=h.sat b i u hm
  have hlt:=World.block_lt_of_cell? _ _ hs
  simp at hlt
  have hh:=heap b hlt (fun id ob _ ho hb=>by have:=h.offM id ob b ho hb i;rw [hm] at this;cases this)
  unfold World.cell? at *
  simp only [hh];exact hs
 ·intro b hb hB
  rw [←h.same b hb hB]
  refine heap b (Nat.lt_of_lt_of_le hb h.size0) (fun id ob _ ho hbo=>?_)
  rcases h.own0 id ob b ho hbo with h1|h1
  ·exact hB h1
  ·omega
 ·intro id ob b ho hb
  by_cases hc:C id
  ·rcases own' id ob b hc ho hb with h4|⟨id0,ob0,hc0,ho0,hb0⟩
   ·right;have:=h.size0;omega
   ·exact h.own0 id0 ob0 b ho0 hb0
  ·obtain ⟨h1,h2,_⟩:=unown id ob b hc ho hb
   exact h.own0 id ob b h1 h2
def St.set (σ:St) (id:Nat) (ob:AObj):St:={ σ with objs:=σ.objs.set id (some ob) }
theorem St.obj_set_self {id:Nat} {ob:AObj} (h:id<σ.objs.length):(σ.set id ob).obj id=some ob:=by simp [St.set,St.obj,h]
theorem St.obj_set_ne {id id':Nat} {ob:AObj} (h:id≠id'):(σ.set id ob).obj id'=σ.obj id':=by simp [St.set,St.obj,List.getElem?_set_ne h]
def Gh.set (g:Gh) (id b c:Nat) (n:Bool):Gh where
 ρ:=fun i=>if i=id then b else g.ρ i
 κ:=fun i=>if i=id then c else g.κ i
 ν:=fun i=>if i=id then n else g.ν i
theorem Gh.set_agree {id b c:Nat} {n:Bool} {i:Nat} (h:i≠id):g.agree (g.set id b c n) i:=by simp [Gh.agree,Gh.set,h]
theorem zbD {id:Nat} {ob:AObj} (i:Nat) (h:σ.dom i):(σ.set id ob).dom i:=by
 unfold St.dom at *
 by_cases hi:id=i
 ·subst hi
  have:id<σ.objs.length:=by
   rcases Nat.lt_or_ge id σ.objs.length with h'|h'
   ·exact h'
   ·exfalso;apply h;simp [St.obj,List.getElem?_eq_none h']
  rw [St.obj_set_self this];simp
 ·rw [St.obj_set_ne hi];exact h
theorem Rel.freshO (h:Rel E σ g M a w) {id:Nat} (hid:id<σ.objs.length) (hn:σ.obj id=none) (obj:Obj) (c:Nat) (ob:AObj)
  (hor:OR (g.set id w.heap.size c false) (σ.set id ob).dom M (w.alloc obj) id ob) :
  Rel E (σ.set id ob) (g.set id w.heap.size c false) M a (w.alloc obj):=by
 have hne:∀ i,σ.dom i→i≠id:=fun i hi e=>hi (by rw [e];exact hn)
 refine h.update (fun i=>i=id) rfl (fun i hi=>St.obj_set_ne (fun e=>hi e.symm)) (fun i hi=>zbD i hi) (fun i hi=>Gh.set_agree (hne i hi)) ?_ ?_ ?_ ?_ (by simp) rfl rfl rfl
 ·rintro i ob' rfl ho
  rw [St.obj_set_self hid] at ho
  cases ho;exact hor
 ·intro b hb _
  show (w.heap.push _)[b]?=_
  rw [Array.getElem?_push,if_neg (by omega)]
 ·rintro i ob' b rfl ho hb
  rw [St.obj_set_self hid] at ho
  cases ho
  left
  cases ob with
  |cells cs=>simp [zbj,Gh.set] at hb;omega
  |row sz xs=>simp [zbj,Gh.set] at hb;omega
  |map kd es=>simp [zbj,Gh.set] at hb;omega
  |bh T e B n=>simp [zbj,Gh.set] at hb;omega
  |bb e s=>simp [zbj,Gh.set] at hb;omega
  |dead=>simp [zbj] at hb
 ·rintro i i' _ _ _ rfl rfl _ _ _ _;rfl
theorem Rel.fresh (h:Rel E σ g M a w) {id:Nat} (hid:id<σ.objs.length) (hn:σ.obj id=none) (vals:Array Value) (T:TypeId) (c:Nat) (ob:AObj)
  (hor:OR (g.set id w.heap.size c false) (σ.set id ob).dom M (w.alloc (.cells vals T)) id ob) :
  Rel E (σ.set id ob) (g.set id w.heap.size c false) M a (w.alloc (.cells vals T)):=h.freshO hid hn _ c ob hor
theorem zbu (w:World) (o:Obj):(w.alloc o).heap[w.heap.size]?=some o:=by
 show (w.heap.push o)[w.heap.size]?=_
 simp
end
end Go.Abs
namespace Go.Abs
open Go
section
variable {P:Program} {env:Env} {o:Oper} {E:Ent} {σ:St} {g:Gh} {M:Mem} {a:Act} {w:World} {e:Eff}
theorem zeB (dst:Option Nat) (v:AVal) (id:Nat) (ob:AObj):σ.app dst ⟨v,[(id,ob)]⟩=(σ.set id ob).app dst ⟨v,[]⟩:=rfl
theorem zrK (dst:Option Nat) (v:AVal) (id id':Nat) (ob ob':AObj):σ.app dst ⟨v,[(id,ob),(id',ob')]⟩=((σ.set id ob).set id' ob').app dst ⟨v,[]⟩:=rfl
theorem znO (hE:zaY P env) {t:Nat} {ty:Ty} (h:env.ty t=some ty) {z:List AVal} (hz:ty.zero=some z) :
  ∃ zv:Value,(∀ w,(zeroValue t).run P w=.ok zv w)∧z=zv.cells.toList.map za4:=by
 obtain ⟨i,d,hi,hd,hty⟩:=hE.get h
 simp only [zj3,hi,hd,Option.some.injEq] at hty
 subst hty
 simp only [zoW,hi] at hz
 cases hz':i.zero with
 |none=>rw [hz'] at hz;cases hz
 |some zv=>
  rw [hz'] at hz
  cases hz
  exact ⟨zv,fun w=>by simp [zeroValue,za8 w hi,hz'],rfl⟩
theorem zoZ (hR:Rel E σ g M a w) (hl:σ.objs.length=env.nobj) {d id:Nat} (hd:o.dst=some d) (hid:id<env.nobj) (hn:σ.obj id=none)
  (v:Value) (T:TypeId) (cs:List AVal) (hrun:(execOp a.eval o).run P w=.ok (.value (.pointer (some ⟨w.heap.size,0,none⟩))) (w.alloc (.cells v.cells T)))
  (hs:v.cells.size=cs.length) (hv:∀ j,j<cs.length→V g σ.dom M (cs.getD j .junk) (v.cells.getD j undef)) :
  zbJ P env o E σ g M a w ⟨.ref id 0,[(id,.cells cs)]⟩:=by
 have hne:∀ i,σ.dom i→i≠id:=fun i hi e=>hi (by rw [e];exact hn)
 have hag:∀ i,σ.dom i→g.agree (g.set id w.heap.size 0 false) i:=fun i hi=>Gh.set_agree (hne i hi)
 have hR':=hR.fresh (by omega) hn v.cells T 0 (.cells cs) (by
  refine ⟨v.cells,.zero _ T,?_,hs,fun j hj=>(hv j hj).mono hag (fun i hi=>zbD i hi) (Mem.le_refl _)⟩
  have e1:(g.set id w.heap.size 0 false).ρ id=w.heap.size:=by simp [Gh.set]
  rw [e1];exact zbu _ _)
 refine ⟨_,_,_,_,M,hrun,.inl rfl,?_,hag,Mem.le_refl _⟩
 rw [zeB]
 refine hR'.put o.dst ?_
 have:(⟨w.heap.size,0,none⟩:Addr)=⟨(g.set id w.heap.size 0 false).ρ id,0,none⟩:=by simp [Gh.set]
 rw [this]
 exact .ref id 0 (by simp [St.dom,St.obj_set_self (σ:=σ) (id:=id) (by omega)])
theorem zz5 (hE:zaY P env) {t:Nat} {ty:Ty} (h:env.ty t=some ty) {e:Nat} (hb:ty.bld=some e) :
  ∃ zv:Value,(∀ w,(zeroValue t).run P w=.ok zv w)∧zv.cells=#[.pointer none,.slice none 0 0]:=by
 obtain ⟨i,d,hi,hd,hty⟩:=hE.get h
 simp only [zj3,hi,hd,Option.some.injEq] at hty
 subst hty
 simp only [zz1] at hb
 split at hb
 ·rename_i i' fs he1 he2
  rw [hi] at he1
  cases he1
  split at hb
  ·rename_i cs f0 f1 hz hf
   split at hb
   ·rename_i u e' hcs h0 h1
    refine ⟨.agg cs,fun w=>by simp [zeroValue,za8 w hi,hz],?_⟩
    show cs=_
    have:=congrArg List.toArray hcs
    simpa using this
   ·cases hb
  ·cases hb
 ·cases hb
theorem Rel.nilBB (id e:Nat) (hn:σ.obj id=none) (hlt:id<σ.objs.length) (hR:Rel E σ g M a w):Rel E (σ.set id (.bb e [])) (g.set id 0 0 true) M a w:=by
 have hne:∀ i,σ.dom i→i≠id:=fun i hi e=>hi (by rw [e];exact hn)
 have hag:∀ i,σ.dom i→g.agree (g.set id 0 0 true) i:=fun i hi=>Gh.set_agree (hne i hi)
 have hself:(σ.set id (.bb e [])).obj id=some (.bb e []):=St.obj_set_self (by omega)
 refine hR.update (fun i=>i=id) rfl (fun i hi=>St.obj_set_ne (fun e=>hi e.symm)) (fun i hi=>zbD i hi) hag ?_ (fun _ _ _=>rfl) ?_ ?_ (Nat.le_refl _) rfl rfl rfl
 ·rintro i ob rfl ho
  rw [hself] at ho
  cases ho
  exact ⟨fun _=>rfl,fun h=>by simp [Gh.set] at h⟩
 ·rintro i ob b rfl ho hb
  rw [hself] at ho
  cases ho
  simp [zbj,Gh.set] at hb
 ·rintro i i' _ _ _ rfl rfl _ _ _ _;rfl
theorem zqg (hR:Rel E σ g M a w) (hE:zaY P env) (hl:σ.objs.length=env.nobj) {t:TypeId} (ho:o.op=.alloc t)
  (h:aop env o.dst (zah env σ) σ.obj o.op=some e):zbJ P env o E σ g M a w e:=by
 rw [ho] at h
 simp only [aop] at h
 split at h
 ·rename_i ty d ht hd
  split at h
  ·rename_i e' hbl
   split at h
   ·rename_i hn1 hn2
    split at h
    ·rename_i hc
     cases h
     obtain ⟨zv,hrun,hz⟩:=zz5 hE ht hbl
     have hR1:=hR.nilBB (env.site d+1) e' hn2 (by omega)
     have hne:∀ i,σ.dom i→i≠env.site d+1:=fun i hi e=>hi (by rw [e];exact hn2)
     have hag1:∀ i,σ.dom i→g.agree (g.set (env.site d+1) 0 0 true) i:=fun i hi=>Gh.set_agree (hne i hi)
     have hn1':(σ.set (env.site d+1) (.bb e' [])).obj (env.site d)=none:=by rw [St.obj_set_ne (by omega)];exact hn1
     have hne2:∀ i,(σ.set (env.site d+1) (.bb e' [])).dom i→i≠env.site d:=fun i hi e=>hi (by rw [e];exact hn1')
     have hag2:∀ i,(σ.set (env.site d+1) (.bb e' [])).dom i→(g.set (env.site d+1) 0 0 true).agree ((g.set (env.site d+1) 0 0 true).set (env.site d) w.heap.size 0 false) i:=fun i hi=>Gh.set_agree (hne2 i hi)
     have hR2:=hR1.fresh (id:=env.site d) (by simp [St.set];omega) hn1' zv.cells t 0 (.bh t e' (env.site d+1) 0) (by
      refine ⟨zbD _ (by simp [St.dom,St.obj_set_self (σ:=σ) (id:=env.site d+1) (by omega)]),fun _=>rfl,.pointer none,?_,.inl rfl⟩
      have e1:((g.set (env.site d+1) 0 0 true).set (env.site d) w.heap.size 0 false).ρ (env.site d)=w.heap.size:=by simp [Gh.set]
      have e2:ziH ((g.set (env.site d+1) 0 0 true).set (env.site d) w.heap.size 0 false) (env.site d+1) 0=.slice none 0 0:=by simp [ziH,Gh.set]
      rw [e1,e2,hz];exact zbu _ _)
     refine ⟨.value (.pointer (some ⟨w.heap.size,0,none⟩)),.pointer (some ⟨w.heap.size,0,none⟩),w.alloc (.cells zv.cells t),(g.set (env.site d+1) 0 0 true).set (env.site d) w.heap.size 0 false,M,?_,.inl rfl,?_,fun i hi=>?_,Mem.le_refl _⟩
     ·simp [execOp,ho,Instr.alloc,hrun,newVar,newRow]
     ·rw [zrK]
      refine hR2.put o.dst ?_
      have e3:(⟨w.heap.size,0,none⟩:Addr)=⟨((g.set (env.site d+1) 0 0 true).set (env.site d) w.heap.size 0 false).ρ (env.site d),0,none⟩:=by simp [Gh.set]
      rw [e3]
      refine .ref (env.site d) 0 ?_
      have hlt:env.site d<(σ.set (env.site d+1) (.bb e' [])).objs.length:=by simp [St.set];omega
      simp [St.dom,St.obj_set_self hlt]
     ·have h1:=hag1 i hi
      have h2:=hag2 i (zbD i hi)
      exact ⟨h2.1.trans h1.1,h2.2.1.trans h1.2.1,h2.2.2.trans h1.2.2⟩
    ·cases h
   ·cases h
  split at h
  ·rename_i z hz hn
   split at h
   ·rename_i hc
    cases h
    obtain ⟨zv,hrun,rfl⟩:=znO hE ht hz
    refine zoZ hR hl hd hc.1 hn zv t _ ?_ (by simp) (fun j hj=>?_)
    ·simp [execOp,ho,Instr.alloc,hrun,newVar,newRow]
    ·simp at hj
     have:(zv.cells.toList.map za4).getD j .junk=za4 (zv.cells.getD j undef):=by simp [List.getD,hj]
     rw [this];exact zdQ _ _ _ _
   ·cases h
  ·cases h
 ·cases h
theorem zum (hR:Rel E σ g M a w) (hG:GOK env M) (hl:σ.objs.length=env.nobj) {t:TypeId} {x:Operand} (ho:o.op=.box t x)
  (h:aop env o.dst (zah env σ) σ.obj o.op=some e):zbJ P env o E σ g M a w e:=by
 rw [ho] at h
 simp only [aop] at h
 split at h
 ·rename_i d hd
  split at h
  ·rename_i hn
   split at h
   ·rename_i hc
    cases h
    have hx:=zgf (zaF (env:=env) hR hG x) hc.2
    refine zoZ hR hl hd hc.1 hn (a.eval x) t _ ?_ hx.1 (fun j hj=>(hx.2 j hj).1)
    simp [execOp,ho,Instr.box,newVar,newRow]
   ·cases h
  ·cases h
 ·cases h
theorem zcd {id:Nat} {ob:AObj} (h:σ.obj id=some ob):id<σ.objs.length:=by
 rcases Nat.lt_or_ge id σ.objs.length with h'|h'
 ·exact h'
 ·simp [St.obj,List.getElem?_eq_none h'] at h
theorem zqh (hR:Rel E σ g M a w) (hG:GOK env M) (hE:zaY P env) {t:TypeId} {p x:Operand} (ho:o.op=.store t p x) (hne:∀ id i j sz,zah env σ p≠.eref id i j sz)
  (h:aop env o.dst (zah env σ) σ.obj o.op=some e):zbJ P env o E σ g M a w e:=by
 rw [ho] at h
 simp only [aop] at h
 have hp:=zaF (env:=env) hR hG p
 split at h
 ·rename_i ty id off ht hx
  rw [hx] at hp
  obtain ⟨hv,hd⟩:=hp.ref_inv
  split at h
  ·rename_i cs hob
   split at h
   ·rename_i hc
    cases h
    obtain ⟨hc1,hc2,hc3⟩:=hc
    obtain ⟨hs,hvv⟩:=zgf (zaF (env:=env) hR hG x) hc3
    obtain ⟨vals,T,hh,hsz,hvals⟩:=hR.objs id _ hob
    have hlt:g.ρ id<w.heap.size:=(Array.getElem?_eq_some_iff.1 hh).1
    have hl':=zcd hob
    have hvl:(a.eval x).cells.toList.length=(zah env σ x).cells.length:=by simp [hs]
    have hrun:(execOp a.eval o).run P w=.ok .skip (zdo w (g.ρ id) (zaZ vals off (a.eval x).cells.toList) T.p):=by
     have h1:=zdm (P:=P) (g.ρ id) T.p (a.eval x).cells.toList 0 off vals w hh T.ok (by rw [hvl];omega) (fun u hu=>by
      obtain ⟨j,hj,rfl⟩:=List.mem_iff_getElem.1 hu
      have hj':j<(zah env σ x).cells.length:=by rw [←hvl];exact hj
      have h5:=(hvv j hj').2
      have hj2:j<(a.eval x).cells.size:=by simpa using hj
      rw [Array.getD_eq_getD_getElem?,Array.getElem?_eq_getElem hj2] at h5
      simpa using h5)
     simp only [Nat.add_zero] at h1
     simp only [execOp,ho,Instr.storeAt,hv,Instr.sureAddr,storeVar,Sem.run_bind,Sem.run_pure,Result.andThen,zlb hE ht w]
     rw [if_neg (by rw [hs,hc1];simp)]
     simp only [Sem.run_bind,Sem.run_pure,Result.andThen,h1]
    refine ⟨_,undef,_,g,M,hrun,.inr ⟨rfl,rfl⟩,?_,fun _ _=>Gh.agree_refl _ _,Mem.le_refl _⟩
    rw [zeB]
    have hR':Rel E (σ.set id (.cells (ze5 cs off (zah env σ x).cells))) g M a (zdo w (g.ρ id) (zaZ vals off (a.eval x).cells.toList) T.p):=by
     refine hR.update (fun i=>i=id) rfl (fun i hi=>St.obj_set_ne (fun e=>hi e.symm)) (fun i hi=>zbD i hi) (fun i hi=>Gh.agree_refl _ _) ?_ ?_ ?_ ?_ (by simp [zdo]) rfl rfl rfl
     ·rintro i ob' rfl ho'
      rw [St.obj_set_self hl'] at ho'
      cases ho'
      refine ⟨zaZ vals off (a.eval x).cells.toList,T.over (zaX (by rw [hvl];omega)),by rw [zcE w _ _ T.p hlt];simp [Tf.over],?_,fun j hj=>?_⟩
      ·rw [zaX (by rw [hvl];omega),zdD (by omega)];exact hsz
      ·rw [zdD (by omega)] at hj
       rw [zks (by omega),za9 (by rw [hvl];omega),hvl]
       by_cases hcc:off≤j∧j<off+(zah env σ x).cells.length
       ·rw [if_pos hcc,if_pos hcc]
        have:=(hvv (j - off) (by omega)).1
        have e1:(a.eval x).cells.toList.getD (j - off) undef=(a.eval x).cells.getD (j - off) undef:=by simp [List.getD]
        rw [e1]
        exact this.mono (fun _ _=>Gh.agree_refl _ _) (fun i hi=>zbD i hi) (Mem.le_refl _)
       ·rw [if_neg hcc,if_neg hcc]
        exact (hvals j hj).mono (fun _ _=>Gh.agree_refl _ _) (fun i hi=>zbD i hi) (Mem.le_refl _)
     ·intro b hb hno
      rw [zcE w _ _ T.p hlt,if_neg (fun hbe=>hno id _ rfl hob (by simp [zbj,hbe]))]
     ·rintro i ob' b rfl ho' hb
      rw [St.obj_set_self hl'] at ho'
      cases ho'
      right
      exact ⟨i,_,rfl,hob,hb⟩
     ·rintro i i' _ _ _ rfl rfl _ _ _ _;rfl
    exact hR'.put o.dst (.junk _)
   ·cases h
  ·cases h
 ·rename_i hx;exact absurd hx (hne _ _ _ _)
 ·cases h
theorem zrL (off:Nat):∀ (l:List Value) (n:Nat) (cells:Array Value),off+n+l.length≤cells.size →
  (l.zipIdx n).foldl (fun (cs:Array Value) (q:Value × Nat)=>cs.setIfInBounds (off+q.2) q.1) cells=zaZ cells (off+n) l
 |[],n,cells,_=>by simp [zaZ]
 |v::l,n,cells,h=>by
  simp only [List.length_cons] at h
  simp only [List.zipIdx_cons,List.foldl_cons]
  rw [zrL off l (n+1) _ (by simp;omega)]
  apply Array.ext
  ·rw [zaX (by simp;omega),zaX (by simp;omega)];simp
  ·intro q h1 h2
   have e1:=za9 (vals:=cells.setIfInBounds (off+n) v) (vs:=l) (off:=off+(n+1)) (by simp;omega) q
   have e2:=za9 (vals:=cells) (vs:=v::l) (off:=off+n) (by simp;omega) q
   rw [Array.getD_eq_getD_getElem?,Array.getElem?_eq_getElem h1] at e1
   rw [Array.getD_eq_getD_getElem?,Array.getElem?_eq_getElem h2] at e2
   simp only [Option.getD_some] at e1 e2
   rw [e1,e2]
   have hq:q<cells.size:=by rw [zaX (by simp;omega)] at h2;exact h2
   by_cases c1:off+n=q
   ·subst c1;rw [if_neg (by omega),if_pos (by simp)];simp [hq]
   ·by_cases c2:off+(n+1)≤q∧q<off+(n+1)+l.length
    ·rw [if_pos c2,if_pos (by simp;omega)]
     have:q - (off+n)=(q - (off+(n+1)))+1:=by omega
     rw [this];simp [List.getD]
    ·rw [if_neg c2,if_neg (by simp;omega)]
     simp [Array.getElem?_setIfInBounds_ne c1]
theorem ziK (place:Nat→Option (Nat × Nat)) (cells:Array Value) (i:Nat) (v:Value) (rest:List (Nat × Value)) {off size:Nat} (hp:place i=some (off,size))
  (h1:v.cells.size=size) (h2:off+size≤cells.size):Instr.fill place cells ((i,v)::rest)=Instr.fill place (zaZ cells off v.cells.toList) rest:=by
 simp only [Instr.fill,hp]
 rw [if_neg (by simp [h1];omega)]
 have h3:=zrL off v.cells.toList 0 cells (by simp;omega)
 simp only [Nat.add_zero] at h3
 rw [←h3]
 congr 1
 rw [←Array.foldl_toList]
 simp
theorem zld (hR:Rel E σ g M a w) (hG:GOK env M) (place:Nat→Option (Nat × Nat)):∀ (parts:List (Nat × Operand)) (cs:List AVal) (vals:Array Value) (cs':List AVal),
  vals.size=cs.length→(∀ j,j<cs.length→V g σ.dom M (cs.getD j .junk) (vals.getD j undef)) →
  zhi place cs (parts.map fun q=>(q.1,zah env σ q.2))=some cs' →
  ∃ vals':Array Value,Instr.fill place vals (parts.map fun q=>(q.1,a.eval q.2))=some vals'∧vals'.size=cs'.length∧∀ j,j<cs'.length→V g σ.dom M (cs'.getD j .junk) (vals'.getD j undef)
 |[],cs,vals,cs',hs,hv,h=>by
  simp only [List.map_nil,zhi] at h
  cases h
  exact ⟨vals,rfl,hs,hv⟩
 |(i,x)::rest,cs,vals,cs',hs,hv,h=>by
  simp only [List.map_cons,zhi] at h
  split at h
  ·cases h
  ·rename_i off size hp
   split at h
   ·rename_i hc
    obtain ⟨hc1,hc2,hc3⟩:=hc
    obtain ⟨hxs,hxv⟩:=zgf (zaF (env:=env) hR hG x) hc3
    have hvl:(a.eval x).cells.toList.length=(zah env σ x).cells.length:=by simp [hxs]
    obtain ⟨vals',h1,h2,h3⟩:=zld hR hG place rest (ze5 cs off (zah env σ x).cells) (zaZ vals off (a.eval x).cells.toList) cs'
     (by rw [zaX (by rw [hvl];omega),zdD (by omega)];exact hs) (fun j hj=>by
      rw [zdD (by omega)] at hj
      rw [zks (by omega),za9 (by rw [hvl];omega),hvl]
      by_cases hcc:off≤j∧j<off+(zah env σ x).cells.length
      ·rw [if_pos hcc,if_pos hcc]
       have:=(hxv (j - off) (by omega)).1
       have e1:(a.eval x).cells.toList.getD (j - off) undef=(a.eval x).cells.getD (j - off) undef:=by simp [List.getD]
       rw [e1];exact this
      ·rw [if_neg hcc,if_neg hcc];exact hv j hj) h
    refine ⟨vals',?_,h2,h3⟩
    simp only [List.map_cons]
    rw [ziK place vals i (a.eval x) _ hp (by omega) (by omega)]
    exact h1
   ·cases h
theorem zle {D:Nat→Prop} {cs:List AVal} {vals:Array Value} (h:vals.size=cs.length) (hv:∀ j,j<cs.length→V g D M (cs.getD j .junk) (vals.getD j undef)) :
  V g D M (.agg cs) (.agg vals):=by
 have:=V.agg (g:=g) (D:=D) (M:=M) cs vals.toList (by simp [h]) (fun i hi=>by
  have e1:vals.toList.getD i undef=vals.getD i undef:=by simp [List.getD]
  rw [e1];exact hv i hi)
 simpa using this
theorem zqi (w:World) (fs:Array Field) (h:∀ f ∈ fs,0<zaE P f.type) :
  ((fs.mapM fun f=>do pure (f.offset,←sizeOf f.type):Sem (Array (Nat × Nat)))).run P w=.ok (fs.map fun f=>(f.offset,zaE P f.type)) w:=by
 have key:∀ (l:List Field),(∀ f ∈ l,0<zaE P f.type) →
   ((l.mapM fun f=>do pure (f.offset,←sizeOf f.type):Sem (List (Nat × Nat)))).run P w=.ok (l.map fun f=>(f.offset,zaE P f.type)) w:=by
  intro l
  induction l with
  |nil=>intro _;rfl
  |cons f r ih=>
   intro h
   rw [List.mapM_cons]
   simp only [Sem.run_bind,zbm w (h f (by simp)),Result.andThen,Sem.run_pure,ih (fun q hq=>h q (by simp [hq])),List.map_cons]
 rw [Array.mapM_eq_mapM_toList,Sem.run_map,key fs.toList (by simpa using h)]
 simp only [Result.andThen]
 congr 1
 apply Array.ext'
 simp
theorem zqj (hR:Rel E σ g M a w) (hG:GOK env M) (hE:zaY P env) {t:TypeId} {parts:Array (Nat × Operand)} (ho:o.op=.build t parts)
  (h:aop env o.dst (zah env σ) σ.obj o.op=some e):zbJ P env o E σ g M a w e:=by
 rw [ho] at h
 simp only [aop] at h
 split at h
 ·rename_i ty ht
  split at h
  ·rename_i z hz hk
   split at h
   ·cases h
   ·rename_i hpos
    obtain ⟨zv,hrun,rfl⟩:=znO hE ht hz
    obtain ⟨fs,hu,hfs⟩:=zmp hE ht hk
    cases hf:zhi (fun i=>ty.fields[i]?) (zv.cells.toList.map za4) (parts.toList.map fun q=>(q.1,zah env σ q.2)) with
    |none=>rw [hf] at h;cases h
    |some cs=>
     rw [hf] at h
     cases h
     obtain ⟨vals,h1,h2,h3⟩:=zld hR hG _ parts.toList _ zv.cells cs (by simp) (fun j hj=>by
      simp at hj
      have:(zv.cells.toList.map za4).getD j .junk=za4 (zv.cells.getD j undef):=by simp [List.getD,hj]
      rw [this];exact zdQ _ _ _ _) hf
     refine zbJ.pure hR (v:=.agg vals) ?_ (zle h2 h3)
     have hpos':∀ f ∈ fs,0<zaE P f.type:=fun f hf'=>by
      simp only [Bool.not_eq_false] at hpos
      rw [hfs,List.all_eq_true] at hpos
      have:=hpos (f.offset,zaE P f.type) (List.mem_map.2 ⟨f,by simpa using hf',rfl⟩)
      simpa using this
     simp only [execOp,ho,Instr.build,Sem.run_bind,hrun,Result.andThen,zaf w hu,zqi w fs hpos']
     have hplace:(fun i:Nat=>(fs.map fun f=>(f.offset,zaE P f.type))[i]?)=fun i:Nat=>ty.fields[i]?:=by
      funext i;rw [hfs];simp
     rw [hplace]
     simp only [Array.toList_map]
     rw [h1]
     rfl
  ·rename_i z n hz hk
   split at h
   ·cases h
   ·rename_i hpos
    obtain ⟨zv,hrun,rfl⟩:=znO hE ht hz
    obtain ⟨el,hu,hes⟩:=zh4 hE ht hk
    cases hf:zhi (fun i=>some (i * ty.eSize,ty.eSize)) (zv.cells.toList.map za4) (parts.toList.map fun q=>(q.1,zah env σ q.2)) with
    |none=>rw [hf] at h;cases h
    |some cs=>
     rw [hf] at h
     cases h
     obtain ⟨vals,h1,h2,h3⟩:=zld hR hG _ parts.toList _ zv.cells cs (by simp) (fun j hj=>by
      simp at hj
      have:(zv.cells.toList.map za4).getD j .junk=za4 (zv.cells.getD j undef):=by simp [List.getD,hj]
      rw [this];exact zdQ _ _ _ _) hf
     refine zbJ.pure hR (v:=.agg vals) ?_ (zle h2 h3)
     rw [hes] at h1 hpos
     simp only [execOp,ho,Instr.build,Sem.run_bind,hrun,Result.andThen,zaf w hu,zbm w (Nat.pos_of_ne_zero hpos)]
     simp only [Array.toList_map]
     rw [h1]
     rfl
  ·cases h
 ·cases h
end
end Go.Abs
namespace Go.Abs
open Go
section
variable {P:Program} {env:Env} {o:Oper} {E:Ent} {σ:St} {g:Gh} {M:Mem} {a:Act} {w:World} {e:Eff}
theorem zmr {D:Nat→Prop} {x:AVal} {p:PVal} {v:Value} (h:V g D M x v) (hp:x.toP=some p):Rd M p v:=by
 cases x<;>simp only [AVal.toP,Option.some.injEq,reduceCtorEq] at hp
 ·subst hp;exact h.pv_inv
 ·subst hp;cases h;exact .nils
theorem zcF:∀ {cs:List AVal} {ps:List PVal},ze2 cs=some ps→ps.length=cs.length
 |[],ps,h=>by cases h;rfl
 |c::r,ps,h=>by
  simp only [ze2] at h
  split at h
  ·rename_i p qs h1 h2
   cases h
   simp [zcF h2]
  ·cases h
theorem zd9:∀ {cs:List AVal} {ps:List PVal},ze2 cs=some ps→∀ j,j<cs.length→(cs.getD j .junk).toP=some (ps.getD j .nilptr)
 |[],ps,h,j,hj=>by simp at hj
 |c::r,ps,h,j,hj=>by
  simp only [ze2] at h
  split at h
  ·rename_i p qs h1 h2
   cases h
   cases j with
   |zero=>simpa [List.getD] using h1
   |succ j=>
    have:=zd9 h2 j (by simpa using hj)
    simpa [List.getD] using this
  ·cases h
theorem zqk {x:AVal} {p:PVal} (h:x.toP=some p):x.isCell=true:=by
 cases x<;>simp [AVal.toP] at h<;>rfl
theorem zlf {cs:List AVal} {ps:List PVal} (h:ze2 cs=some ps):cs.all AVal.isCell=true:=by
 rw [List.all_eq_true]
 intro x hx
 obtain ⟨j,hj,rfl⟩:=List.mem_iff_getElem.1 hx
 have:=zd9 h j hj
 rw [List.getD_eq_getElem?_getD,List.getElem?_eq_getElem hj] at this
 exact zqk this
theorem ziL (x:List PVal) (xs:List (List PVal)) (j:Nat):zbW (x::xs) 0 j=x.getD j .nilptr:=by simp [zbW,List.getD]
theorem ziM (x:List PVal) (xs:List (List PVal)) (i j:Nat):zbW (x::xs) (i+1) j=zbW xs i j:=by simp [zbW,List.getD]
theorem zgx (xs:List (List PVal)) (i j:Nat) (ps:List PVal):(zf4 xs i j ps).length=xs.length:=by simp [zf4]
theorem zql (xs:List (List PVal)) (i j:Nat) (ps:List PVal) (sz:Nat) (hi:i<xs.length) (hx:(xs.getD i []).length=sz) (hj:j+ps.length≤sz) (i' j':Nat) :
  zbW (zf4 xs i j ps) i' j'=if i'=i∧j≤j'∧j'<j+ps.length then ps.getD (j' - j) .nilptr else zbW xs i' j':=by
 unfold zbW zf4
 by_cases h:i'=i
 ·subst h
  rw [show (xs.set i' ((xs.getD i' []).take j++ps++(xs.getD i' []).drop (j+ps.length))).getD i' []=((xs.getD i' []).take j++ps++(xs.getD i' []).drop (j+ps.length)) by simp [List.getD,hi]]
  generalize xs.getD i' []=y at *
  simp only [List.getD_eq_getElem?_getD,List.append_assoc,List.getElem?_append,List.length_take,List.getElem?_take,List.getElem?_drop,true_and]
  by_cases h1:j'<j
  ·rw [if_pos (by omega),if_pos h1,if_neg (by omega)]
  ·rw [if_neg (by omega)]
   by_cases h2:j'<j+ps.length
   ·rw [if_pos (by omega),if_pos (by omega),show j' - min j y.length=j' - j by omega]
   ·rw [if_neg (by omega),if_neg (by omega),show j+ps.length+(j' - min j y.length - ps.length)=j' by omega]
 ·rw [if_neg (by simp [h])]
  simp [List.getD,List.getElem?_set_ne (fun e=>h e.symm)]
theorem zqm {xs:List (List PVal)} {i j sz:Nat} {ps:List PVal} (hxs:∀ x,x ∈ xs→x.length=sz) (hi:i<xs.length) (hj:j+ps.length≤sz):∀ x,x ∈ zf4 xs i j ps→x.length=sz:=by
 intro x hx
 have hgl:(xs.getD i []).length=sz:=hxs _ (by simp [List.getD,hi])
 rcases List.mem_or_eq_of_mem_set hx with h|rfl
 ·exact hxs x h
 ·simp only [List.length_append,List.length_take,List.length_drop];omega
theorem znP (hR:Rel E σ g M a w) (hG:GOK env M) (hE:zaY P env) {t:TypeId} {p x:Operand} (ho:o.op=.store t p x) {id i j sz:Nat} (hev:zah env σ p=.eref id i j sz)
  (h:aop env o.dst (zah env σ) σ.obj o.op=some e):zbJ P env o E σ g M a w e:=by
 rw [ho] at h
 simp only [aop,hev] at h
 have hp:=zaF (env:=env) hR hG p
 rw [hev] at hp
 obtain ⟨hv,hd⟩:=hp.eref_inv
 split at h
 ·rename_i h1;cases h1
 ·rename_i ty id' i' j' sz'' ht hx
  cases hx
  split at h
  ·rename_i sz' xs ps hob hps
   split at h
   ·rename_i hc
    cases h
    obtain ⟨rfl,hi,hj,hpl⟩:=hc
    have hcell:=zlf hps
    have hcl:=zcF hps
    obtain ⟨hs,hvv⟩:=zgf (zaF (env:=env) hR hG x) hcell
    obtain ⟨r1,r2,r3⟩:=hR.objs id _ hob
    have hnu:g.ν id=false:=by
     cases hb:g.ν id
     ·rfl
     ·rw [r2 hb] at hi;simp at hi
    obtain ⟨vals,T,hh,hk1,hk2,hvals⟩:=r3 hnu
    have hlt:g.ρ id<w.heap.size:=(Array.getElem?_eq_some_iff.1 hh).1
    have hl':=zcd hob
    have hvl:(a.eval x).cells.toList.length=ps.length:=by simp [hs,hcl]
    have hle:xs.length * sz≤vals.size:=Nat.le_trans (Nat.mul_le_mul_right _ hk1) hk2
    have hib:i * sz+sz≤xs.length * sz:=by
     have:=Nat.mul_le_mul_right sz (show i+1≤xs.length by omega)
     rw [Nat.add_mul] at this;omega
    have hb0:i * sz+j+ps.length≤vals.size:=by omega
    have hrun:(execOp a.eval o).run P w=.ok .skip (zdo w (g.ρ id) (zaZ vals (i * sz+j) (a.eval x).cells.toList) T.p):=by
     have h1:=zdm (P:=P) (g.ρ id) T.p (a.eval x).cells.toList 0 (i * sz+j) vals w hh T.ok (by rw [hvl];omega) (fun u hu=>by
      obtain ⟨q,hq,rfl⟩:=List.mem_iff_getElem.1 hu
      have hq':q<(zah env σ x).cells.length:=by rw [←hcl,←hvl];exact hq
      have h5:=(hvv q hq').2
      have hq2:q<(a.eval x).cells.size:=by simpa using hq
      rw [Array.getD_eq_getD_getElem?,Array.getElem?_eq_getElem hq2] at h5
      simpa using h5)
     simp only [Nat.add_zero] at h1
     simp only [execOp,ho,Instr.storeAt,hv,Instr.sureAddr,storeVar,Sem.run_bind,Sem.run_pure,Result.andThen,zlb hE ht w]
     rw [if_neg (by rw [hs,←hcl,hpl];simp)]
     simp only [Sem.run_bind,Sem.run_pure,Result.andThen,h1]
    refine ⟨_,undef,_,g,M,hrun,.inr ⟨rfl,rfl⟩,?_,fun _ _=>Gh.agree_refl _ _,Mem.le_refl _⟩
    rw [zeB]
    have hR':Rel E (σ.set id (.row sz (zf4 xs i j ps))) g M a (zdo w (g.ρ id) (zaZ vals (i * sz+j) (a.eval x).cells.toList) T.p):=by
     refine hR.update (fun i=>i=id) rfl (fun i hi=>St.obj_set_ne (fun e=>hi e.symm)) (fun i hi=>zbD i hi) (fun i hi=>Gh.agree_refl _ _) ?_ ?_ ?_ ?_ (by simp [zdo]) rfl rfl rfl
     ·rintro i' ob' rfl ho'
      rw [St.obj_set_self hl'] at ho'
      cases ho'
      refine ⟨zqm r1 hi (by omega),fun hb=>(by rw [hnu] at hb;cases hb),fun _=>⟨zaZ vals (i * sz+j) (a.eval x).cells.toList,T.over (zaX (by rw [hvl];omega)),by rw [zcE w _ _ T.p hlt];simp [Tf.over],by rw [zgx];exact hk1,by rw [zaX (by rw [hvl];omega)];exact hk2,fun i2 j2 hi2 hj2=>?_⟩⟩
      rw [zgx] at hi2
      have hgl:(xs.getD i []).length=sz:=r1 _ (by simp [List.getD,hi])
      rw [zql xs i j ps sz hi hgl (by omega),za9 (by rw [hvl];omega),hvl]
      by_cases hii:i2=i
      ·subst hii
       by_cases hjj:j≤j2∧j2<j+ps.length
       ·rw [if_pos ⟨rfl,hjj⟩,if_pos (by omega)]
        have h6:=zmr (hvv (j2 - j) (by omega)).1 (zd9 hps (j2 - j) (by omega))
        have e1:(a.eval x).cells.toList.getD (i2 * sz+j2 - (i2 * sz+j)) undef=(a.eval x).cells.getD (j2 - j) undef:=by
         rw [show i2 * sz+j2 - (i2 * sz+j)=j2 - j by omega];simp [List.getD]
        rw [e1];exact h6
       ·rw [if_neg (fun h=>hjj h.2),if_neg (by omega)]
        exact hvals i2 j2 hi2 hj2
      ·have hne:¬ (i * sz+j≤i2 * sz+j2∧i2 * sz+j2<i * sz+j+ps.length):=by
        rcases Nat.lt_or_gt_of_ne hii with hl|hg
        ·have:=Nat.mul_le_mul_right sz (show i2+1≤i by omega)
         rw [Nat.add_mul] at this;omega
        ·have:=Nat.mul_le_mul_right sz (show i+1≤i2 by omega)
         rw [Nat.add_mul] at this;omega
       rw [if_neg (fun h=>hii h.1),if_neg hne]
       exact hvals i2 j2 hi2 hj2
     ·intro b hb hno
      rw [zcE w _ _ T.p hlt,if_neg (fun hbe=>hno id _ rfl hob (by simp [zbj,hbe,hnu]))]
     ·rintro i' ob' b rfl ho' hb
      rw [St.obj_set_self hl'] at ho'
      cases ho'
      right
      exact ⟨i',_,rfl,hob,hb⟩
     ·rintro i i' _ _ _ rfl rfl _ _ _ _;rfl
    exact hR'.put o.dst (.junk _)
   ·cases h
  ·cases h
 ·cases h
theorem zlg (w:World) {s el:TypeId} (h1:P.underlying s=some (.slice el)) (h2:P.underlying el=some (.int .u8)) {b len cap:Nat} {vals:Array Value} {t:TypeId} {f:Nat × Nat} (hh:w.heap[b]?=some (.cells vals t f)) :
  (convert s s (.slice (some ⟨b,0,none⟩) len cap)).run P w=.ok (.slice (some ⟨b,0,none⟩) len cap) (w.freeze ⟨b,vals.size,none⟩ 1):=by
 have hsh:w.shape? b=some (t,vals.size):=by simp [World.shape?,hh]
 simp only [convert,Sem.run_bind,zaf w h1,zaf w h2,Result.andThen,beq_self_eq_true,markStringish,shape,Go.freeze]
 simp [Sem.bind,Sem.run,hsh,Result.andThen]
theorem znQ (w:World) (b:Nat) {vals:Array Value} (T:Tf vals) (hh:w.heap[b]?=some (.cells vals T.p.1 T.p.2)) :
  ∃ T':Tf vals,∀ k,(w.freeze ⟨b,vals.size,none⟩ 1).heap[k]?=if k=b then some (.cells vals T'.p.1 T'.p.2) else w.heap[k]?:=by
 obtain ⟨⟨t,lo,hi⟩,hok⟩:=T
 dsimp only at hok hh
 refine ⟨⟨(t,if (lo==hi)=true then (vals.size,vals.size+1) else (min lo vals.size,max hi (vals.size+1))),?_⟩,fun k=>?_⟩
 ·by_cases e:(lo==hi)=true
  ·rw [if_pos e];exact .inr (Nat.le_refl _)
  ·rw [if_neg e]
   have e2:lo≠hi:=by simpa using e
   refine .inr ?_
   show vals.size≤min lo vals.size
   omega
 ·unfold World.freeze
  simp only [Nat.one_ne_zero,if_false,Array.getElem?_modify]
  by_cases hk:b=k
  ·subst hk;simp [hh]
  ·rw [if_neg hk,if_neg (fun h=>hk h.symm)]
theorem zlh (hR:Rel E σ g M a w) (hG:GOK env M) (hE:zaY P env) {s d:TypeId} {x:Operand} (ho:o.op=.convert s d x) {ty:Ty} (hty:env.ty d=some ty) (hsl:ty.kind=.slice)
  (h:aop env o.dst (zah env σ) σ.obj o.op=some e):zbJ P env o E σ g M a w e:=by
 rw [ho] at h
 simp only [aop,hty] at h
 have hx:=zaF (env:=env) hR hG x
 split at h
 ·rename_i sty ty2 k n hst ht hb
  cases ht
  rw [hsl] at h
  cases h
 ·rename_i sty ty2 xs hst ht hb
  cases ht
  split at h
  ·rename_i hk _;rw [hsl] at hk;cases hk
  ·cases h
 ·rename_i sty ty2 id n hst ht hb
  cases ht
  rw [hb] at hx
  split at h
  ·rename_i sz xs hob
   split at h
   ·rename_i hk _;rw [hsl] at hk;cases hk
   ·rename_i hsk hk _
    split at h
    ·rename_i hc
     cases h
     obtain ⟨rfl,hu,rfl,hn0⟩:=hc
     obtain ⟨el,hs1,hs2⟩:=ze7 hE hst hsk hu
     obtain ⟨r1,r2,r3⟩:=hR.objs id _ hob
     have hnu:g.ν id=false:=by
      cases hb:g.ν id
      ·rfl
      ·rw [r2 hb] at hn0;simp at hn0
     obtain ⟨vals,T,hh,h4,h5,h6⟩:=r3 hnu
     have hl':=zcd hob
     obtain ⟨T',hT'⟩:=znQ w (g.ρ id) T hh
     have hlt:g.ρ id<w.heap.size:=(Array.getElem?_eq_some_iff.1 hh).1
     generalize hv:a.eval x=v at *
     generalize hm:xs.length=m at *
     have hve:v=.slice (some ⟨g.ρ id,0,none⟩) m (g.κ id):=by
      cases hx with
      |row=>rfl
      |rown _ _ hn=>rw [hnu] at hn;cases hn
     subst hve
     have hrun:(execOp a.eval o).run P w=.ok (.value (.slice (some ⟨g.ρ id,0,none⟩) m (g.κ id))) (w.freeze ⟨g.ρ id,vals.size,none⟩ 1):=by
      simp only [execOp,ho,hv,Sem.run_bind,zlg w hs1 hs2 hh,Result.andThen]
      rfl
     refine ⟨_,_,_,g,M,hrun,.inl rfl,?_,fun _ _=>Gh.agree_refl _ _,Mem.le_refl _⟩
     rw [zeB]
     have hR':Rel E (σ.set id (.row sz xs)) g M a (w.freeze ⟨g.ρ id,vals.size,none⟩ 1):=by
      refine hR.update (fun i=>i=id) rfl (fun i hi=>St.obj_set_ne (fun e=>hi e.symm)) (fun i hi=>zbD i hi) (fun i hi=>Gh.agree_refl _ _) ?_ ?_ ?_ ?_ (by simp [World.freeze]) rfl rfl rfl
      ·rintro i' ob' rfl ho'
       rw [St.obj_set_self hl'] at ho'
       cases ho'
       exact ⟨r1,r2,fun _=>⟨vals,T',by rw [hT',if_pos rfl],by rw [hm];exact h4,h5,fun i j hi hj=>h6 i j (by omega) hj⟩⟩
      ·intro b hb hno
       rw [hT',if_neg (fun hbe=>hno id _ rfl hob (by simp [zbj,hbe,hnu]))]
      ·rintro i' ob' b rfl ho' hb
       rw [St.obj_set_self hl'] at ho'
       cases ho'
       right
       exact ⟨i',_,rfl,hob,hb⟩
      ·rintro i i' _ _ _ rfl rfl _ _ _ _;rfl
     refine hR'.put o.dst ?_
     exact .row id m (by simp [St.dom,St.obj_set_self hl']) hnu
    ·cases h
   ·cases h
  ·cases h
 ·cases h
theorem znR (hR:Rel E σ g M a w) (hG:GOK env M) (hE:zaY P env) {t:TypeId} {p x:Operand} (ho:o.op=.store t p x)
  (h:aop env o.dst (zah env σ) σ.obj o.op=some e):zbJ P env o E σ g M a w e:=by
 by_cases hh:∃ id i j sz,zah env σ p=.eref id i j sz
 ·obtain ⟨id,i,j,sz,hh⟩:=hh
  exact znP hR hG hE ho hh h
 ·exact zqh hR hG hE ho (fun id i j sz e=>hh ⟨id,i,j,sz,e⟩) h
theorem ziN (hR:Rel E σ g M a w) (hG:GOK env M) (sz:Nat):∀ (parts:List (Nat × Operand)) (k:Nat) (vals:Array Value) (xs:List (List PVal)),
  zgu sz k (parts.map fun q=>(q.1,zah env σ q.2))=some xs→k * sz+parts.length * sz≤vals.size →
  xs.length=parts.length∧(∀ x,x ∈ xs→x.length=sz)∧∃ vals':Array Value,Instr.fill (fun i=>some (i * sz,sz)) vals (parts.map fun q=>(q.1,a.eval q.2))=some vals'∧vals'.size=vals.size ∧
   (∀ q,q<k * sz→vals'.getD q undef=vals.getD q undef)∧∀ i j,i<xs.length→j<sz→Rd M (zbW xs i j) (vals'.getD ((k+i) * sz+j) undef)
 |[],k,vals,xs,h,hs=>by
  simp only [List.map_nil,zgu] at h
  cases h
  exact ⟨rfl,by simp,vals,rfl,rfl,fun _ _=>rfl,fun i j hi=>by simp at hi⟩
 |(i,x)::rest,k,vals,xs,h,hs=>by
  simp only [List.map_cons,zgu] at h
  split at h
  ·rename_i hc
   obtain ⟨rfl,hlen⟩:=hc
   split at h
   ·rename_i ps r hps hr
    cases h
    have hcell:=zlf hps
    obtain ⟨hxs,hxv⟩:=zgf (zaF (env:=env) hR hG x) hcell
    have hvl:(a.eval x).cells.toList.length=sz:=by simp [hxs,hlen]
    simp only [List.length_cons] at hs
    have e3:(rest.length+1) * sz=rest.length * sz+sz:=by rw [Nat.add_mul,Nat.one_mul]
    have e4:(i+1) * sz=i * sz+sz:=by rw [Nat.add_mul,Nat.one_mul]
    have hos:(zaZ vals (i * sz) (a.eval x).cells.toList).size=vals.size:=zaX (by rw [hvl];omega)
    obtain ⟨h1,h2,vals',h3,h4,h5,h6⟩:=ziN hR hG sz rest (i+1) (zaZ vals (i * sz) (a.eval x).cells.toList) r hr (by rw [hos];omega)
    refine ⟨by simp [h1],?_,vals',?_,by rw [h4,hos],?_,?_⟩
    ·intro y hy
     rcases List.mem_cons.1 hy with rfl|hy
     ·rw [zcF hps];exact hlen
     ·exact h2 y hy
    ·simp only [List.map_cons]
     rw [ziK _ vals i (a.eval x) _ rfl (by omega) (by omega)]
     exact h3
    ·intro q hq
     rw [h5 q (by omega),za9 (by rw [hvl];omega),if_neg (by omega)]
    ·intro i' j hi hj
     cases i' with
     |zero=>
      rw [ziL,Nat.add_zero,h5 _ (by omega),za9 (by rw [hvl];omega),if_pos (by rw [hvl];omega)]
      have e1:i * sz+j - i * sz=j:=by omega
      rw [e1]
      have e2:(a.eval x).cells.toList.getD j undef=(a.eval x).cells.getD j undef:=by simp [List.getD]
      rw [e2]
      exact zmr (hxv j (by omega)).1 (zd9 hps j (by omega))
     |succ i'=>
      rw [ziM]
      have:=h6 i' j (by simpa using hi) hj
      have e1:i+(i'+1)=i+1+i':=by omega
      rw [e1];exact this
   ·cases h
  ·cases h
theorem zkt (hR:Rel E σ g M a w) (hG:GOK env M) (sz:Nat):∀ (parts:List (Nat × Operand)) (k:Nat) (vals:Array Value) (cs:List AVal),
  zgv sz k (parts.map fun q=>(q.1,zah env σ q.2))=some cs→k * sz+parts.length * sz≤vals.size →
  cs.length=parts.length * sz∧∃ vals':Array Value,Instr.fill (fun i=>some (i * sz,sz)) vals (parts.map fun q=>(q.1,a.eval q.2))=some vals'∧vals'.size=vals.size ∧
   (∀ q,q<k * sz→vals'.getD q undef=vals.getD q undef)∧∀ j,j<cs.length→V g σ.dom M (cs.getD j .junk) (vals'.getD (k * sz+j) undef)
 |[],k,vals,cs,h,hs=>by
  simp only [List.map_nil,zgv] at h
  cases h
  exact ⟨by simp,vals,rfl,rfl,fun _ _=>rfl,fun j hj=>by simp at hj⟩
 |(i,x)::rest,k,vals,cs,h,hs=>by
  simp only [List.map_cons,zgv] at h
  split at h
  ·rename_i hc
   obtain ⟨rfl,hlen,hcell⟩:=hc
   rw [Option.map_eq_some_iff] at h
   obtain ⟨r,hr,rfl⟩:=h
   obtain ⟨hxs,hxv⟩:=zgf (zaF (env:=env) hR hG x) hcell
   have hvl:(a.eval x).cells.toList.length=sz:=by simp [hxs,hlen]
   simp only [List.length_cons] at hs
   have e3:(rest.length+1) * sz=rest.length * sz+sz:=by rw [Nat.add_mul,Nat.one_mul]
   have e4:(i+1) * sz=i * sz+sz:=by rw [Nat.add_mul,Nat.one_mul]
   have hos:(zaZ vals (i * sz) (a.eval x).cells.toList).size=vals.size:=zaX (by rw [hvl];omega)
   obtain ⟨h1,vals',h3,h4,h5,h6⟩:=zkt hR hG sz rest (i+1) (zaZ vals (i * sz) (a.eval x).cells.toList) r hr (by rw [hos];omega)
   refine ⟨by simp only [List.length_append,List.length_cons,h1,hlen];omega,vals',?_,by rw [h4,hos],?_,?_⟩
   ·simp only [List.map_cons]
    rw [ziK _ vals i (a.eval x) _ rfl (by omega) (by omega)]
    exact h3
   ·intro q hq
    rw [h5 q (by omega),za9 (by rw [hvl];omega),if_neg (by omega)]
   ·intro j hj
    rw [List.length_append,hlen] at hj
    by_cases hjs:j<sz
    ·rw [h5 _ (by omega),za9 (by rw [hvl];omega),if_pos (by rw [hvl];omega)]
     have e1:i * sz+j - i * sz=j:=by omega
     rw [e1]
     have e2:(a.eval x).cells.toList.getD j undef=(a.eval x).cells.getD j undef:=by simp [List.getD]
     have e5:((zah env σ x).cells++r).getD j .junk=(zah env σ x).cells.getD j .junk:=by simp [List.getD,List.getElem?_append_left (show j<(zah env σ x).cells.length by omega)]
     rw [e2,e5]
     exact (hxv j (by omega)).1
    ·have:=h6 (j - sz) (by omega)
     have e1:(i+1) * sz+(j - sz)=i * sz+j:=by omega
     rw [e1] at this
     have e5:((zah env σ x).cells++r).getD j .junk=r.getD (j - sz) .junk:=by simp [List.getD,List.getElem?_append_right (show (zah env σ x).cells.length≤j by omega),hlen]
     rw [e5];exact this
  ·cases h
theorem zms {el:TypeId} (h:zCU P el=true):∃ z:Value,(∀ w,(zeroValue el).run P w=.ok z w)∧z.cells.size=zaE P el:=by
 unfold zCU at h
 split at h
 ·rename_i zl hzl
  unfold zoW at hzl
  split at hzl
  ·rename_i i hi
   split at hzl
   ·rename_i z hz
    cases hzl
    exact ⟨z,fun w=>by simp [zeroValue,za8 w hi,hz],by simpa using h⟩
   ·cases hzl
  ·cases hzl
 ·cases h
theorem Rel.allocM (hR:Rel E σ g M a w) (vals:Array Value) (T:TypeId) :
  let M':Mem:=fun b i=>if b=w.heap.size then vals[i]? else M b i
  Mem.le M M'∧Rel E σ g M' a (w.alloc (.cells vals T)):=by
 intro M'
 have hlt:∀ b i u,M b i=some u→b<w.heap.size:=fun b i u hu=>by
  have:=World.block_lt_of_cell? _ _ (hR.sat b i u hu);simpa using this
 have hM:Mem.le M M':=fun b i u hu=>by
  have:=hlt b i u hu
  simp only [M']
  rw [if_neg (by omega)];exact hu
 have hheap:∀ b,b<w.heap.size→(w.alloc (.cells vals T)).heap[b]?=w.heap[b]?:=fun b hb=>by
  show (w.heap.push _)[b]?=_
  rw [Array.getElem?_push,if_neg (by omega)]
 refine ⟨hM,hR.size,hR.defers,fun i hi=>(hR.slots i hi).mono (fun _ _=>Gh.agree_refl _ _) (fun _ h=>h) hM,fun id ob ho=>?_,hR.apart,fun id ob b ho hb i=>?_,fun b i u hu=>?_,fun b i u hu=>hM b i u (hR.M0 b i u hu),fun b i hb hB=>?_,?_,fun b hb hB=>?_,hR.own0,hR.os,hR.tape,hR.output⟩
 ·exact (hR.objs id ob ho).keep (fun _ _=>Gh.agree_refl _ _) (Gh.agree_refl _ _) (fun _ h=>h) hM (fun b hb=>hheap b (ze8 (hR.objs id ob ho) hb))
 ·have:=ze8 (hR.objs id ob ho) hb
  simp only [M']
  rw [if_neg (by omega)];exact hR.offM id ob b ho hb i
 ·simp only [M'] at hu
  split at hu
  ·rename_i hb
   subst hb
   rw [←hu]
   exact World.cell?_alloc_new w vals T i
  ·rw [←hR.sat b i u hu]
   unfold World.cell?
   simp only [hheap b (hlt b i u hu)]
 ·have:=hR.size0
  simp only [M']
  rw [if_neg (by omega)];exact hR.Mnew b i hb hB
 ·have:=hR.size0;simp;omega
 ·rw [hheap b (Nat.lt_of_lt_of_le hb hR.size0)];exact hR.same b hb hB
theorem Rd.exSl {M:Mem} (s:Nat) (xs:List (List PVal)) (sz b off cap:Nat) (us:Nat→Nat→Value) (h1:∀ x,x ∈ xs→x.length=sz)
  (h2:∀ i j,i<xs.length→j<sz→M b (off+i * sz+j)=some (us i j)) (h3:∀ i j,i<xs.length→j<sz→Rd M (zbW xs i j) (us i j)) (hc:xs.length=cap) :
  Rd M (exSl s xs) (.slice (some ⟨b,off,none⟩) xs.length cap):=by
 subst hc
 unfold Abs.exSl
 generalize (s==999)=t
 cases t with
 |false=>exact .slice xs sz b off _ us h1 h2 h3 (Nat.le_refl _)
 |true=>cases xs with
  |nil=>exact .slice [] sz b off _ us h1 h2 h3 (Nat.le_refl _)
  |cons x r=>exact .xsl (x::r) sz b off us h1 h2 h3
theorem ziO (hR:Rel E σ g M a w) (hG:GOK env M) (hE:zaY P env) (hl:σ.objs.length=env.nobj) {t:TypeId} {len:Nat} {parts:Array (Nat × Operand)} (ho:o.op=.buildSlice t len parts)
  (h:aop env o.dst (zah env σ) σ.obj o.op=some e):zbJ P env o E σ g M a w e:=by
 rw [ho] at h
 simp only [aop] at h
 split at h
 ·rename_i ty ht
  split at h
  ·rename_i hk
   split at h
   ·rename_i hc
    obtain ⟨hc1,hc2,hc3,hc4⟩:=hc
    split at h
    ·rename_i xs hxs
     cases h
     obtain ⟨el,hu,hes,_,hez⟩:=zck hE ht hk
     obtain ⟨z,hz,_⟩:=zms (hez ▸ hc4)
     have hpos:0<zaE P el:=by rw [←hes];exact hc1
     obtain ⟨zc,hz1,hz2⟩:∃ zc:Array Value,(len * zaE P el=0→zc=#[])∧(len * zaE P el≠0→zc=z.cells):=by
      by_cases h0:len * zaE P el=0
      ·exact ⟨#[],fun _=>rfl,fun h=>absurd h0 h⟩
      ·exact ⟨z.cells,fun h=>absurd h h0,fun _=>rfl⟩
     have hvsz:((Array.range (len * zaE P el)).map (zc[· % zc.size]!)).size=len * zaE P el:=by simp
     obtain ⟨h1,h2,vals,h3,h4,_,h6⟩:=ziN hR hG ty.eSize parts.toList 0 ((Array.range (len * zaE P el)).map (zc[· % zc.size]!)) xs hxs (by
      rw [hvsz,←hes];simp [hc2])
     have hxl:xs.length=len:=by rw [h1];simp [hc2]
     have hrun:(execOp a.eval o).run P w=.ok (.value (.slice (some ⟨w.heap.size,0,none⟩) len len)) (w.alloc (.cells vals el)):=by
      rw [hes] at h3 hc3
      have hno:¬ (len * zaE P el > 2 ^ 24):=by omega
      simp only [execOp,ho,Instr.buildSlice,Sem.run_bind,zaf w hu,Result.andThen,zbm w hpos]
      rw [if_neg hno]
      by_cases h0:len * zaE P el=0
      ·obtain rfl:=hz1 h0
       rw [if_pos h0]
       simp only [Sem.run_bind,Sem.run_pure,Result.andThen,Array.toList_map]
       rw [h3]
       simp [newRow]
      ·obtain rfl:=hz2 h0
       rw [if_neg h0]
       simp only [Sem.run_bind,Sem.run_pure,Result.andThen,Array.toList_map,hz]
       rw [h3]
       simp [newRow]
     obtain ⟨hM,hR'⟩:=hR.allocM vals el
     refine ⟨_,_,_,g,_,hrun,.inl rfl,hR'.put o.dst (.pv ?_),fun _ _=>Gh.agree_refl _ _,hM⟩
     have e0:Value.slice (some ⟨w.heap.size,0,none⟩) len len=.slice (some ⟨w.heap.size,0,none⟩) xs.length len:=by rw [hxl]
     rw [e0]
     refine Rd.exSl _ xs ty.eSize w.heap.size 0 len (fun i j=>vals.getD (i * ty.eSize+j) undef) h2 (fun i j hi hj=>?_) (fun i j hi hj=>?_) hxl
     ·have hlt:i * ty.eSize+j<vals.size:=by
       have:(i+1) * ty.eSize≤len * ty.eSize:=Nat.mul_le_mul_right _ (by omega)
       rw [Nat.add_mul] at this
       rw [h4,hvsz,←hes];omega
      simp only [if_true,Nat.zero_add]
      simp [hlt]
     ·have:=h6 i j hi hj
      rw [Nat.zero_add] at this
      exact this.mono hM
    ·split at h
     ·rename_i d hd
      split at h
      ·rename_i cs hcs hn
       split at h
       ·rename_i hid
        cases h
        obtain ⟨el,hu,hes,_,hez⟩:=zck hE ht hk
        obtain ⟨z,hz,_⟩:=zms (hez ▸ hc4)
        have hpos:0<zaE P el:=by rw [←hes];exact hc1
        obtain ⟨zc,hz1,hz2⟩:∃ zc:Array Value,(len * zaE P el=0→zc=#[])∧(len * zaE P el≠0→zc=z.cells):=by
         by_cases h0:len * zaE P el=0
         ·exact ⟨#[],fun _=>rfl,fun h=>absurd h0 h⟩
         ·exact ⟨z.cells,fun h=>absurd h h0,fun _=>rfl⟩
        have hvsz:((Array.range (len * zaE P el)).map (zc[· % zc.size]!)).size=len * zaE P el:=by simp
        obtain ⟨h1,vals,h3,h4,_,h6⟩:=zkt hR hG ty.eSize parts.toList 0 ((Array.range (len * zaE P el)).map (zc[· % zc.size]!)) cs hcs (by
         rw [hvsz,←hes];simp [hc2])
        have hcl:cs.length=len * ty.eSize:=by rw [h1];simp [hc2]
        have hrun:(execOp a.eval o).run P w=.ok (.value (.slice (some ⟨w.heap.size,0,none⟩) len len)) (w.alloc (.cells vals el)):=by
         rw [hes] at h3 hc3
         have hno:¬ (len * zaE P el > 2 ^ 24):=by omega
         simp only [execOp,ho,Instr.buildSlice,Sem.run_bind,zaf w hu,Result.andThen,zbm w hpos]
         rw [if_neg hno]
         by_cases h0:len * zaE P el=0
         ·obtain rfl:=hz1 h0
          rw [if_pos h0]
          simp only [Sem.run_bind,Sem.run_pure,Result.andThen,Array.toList_map]
          rw [h3]
          simp [newRow]
         ·obtain rfl:=hz2 h0
          rw [if_neg h0]
          simp only [Sem.run_bind,Sem.run_pure,Result.andThen,Array.toList_map,hz]
          rw [h3]
          simp [newRow]
        have hne:∀ i,σ.dom i→i≠env.site d:=fun i hi e=>hi (by rw [e];exact hn)
        have hag:∀ i,σ.dom i→g.agree (g.set (env.site d) w.heap.size 0 false) i:=fun i hi=>Gh.set_agree (hne i hi)
        have hR':=hR.fresh (by omega) hn vals el 0 (.cells cs) (by
         refine ⟨vals,.zero _ el,?_,by rw [h4,hvsz,hcl,hes],fun j hj=>?_⟩
         ·have e1:(g.set (env.site d) w.heap.size 0 false).ρ (env.site d)=w.heap.size:=by simp [Gh.set]
          rw [e1];exact zbu _ _
         ·have:=h6 j hj
          rw [Nat.zero_mul,Nat.zero_add] at this
          exact this.mono hag (fun i hi=>zbD i hi) (Mem.le_refl _))
        refine ⟨_,_,_,_,M,hrun,.inl rfl,?_,hag,Mem.le_refl _⟩
        rw [zeB]
        refine hR'.put o.dst ?_
        have e2:(⟨w.heap.size,0,none⟩:Addr)=⟨(g.set (env.site d) w.heap.size 0 false).ρ (env.site d),0,none⟩:=by simp [Gh.set]
        rw [e2]
        exact .csl _ _ _ (by simp [St.dom,St.obj_set_self (σ:=σ) (id:=env.site d) (by omega)])
       ·cases h
      ·cases h
     ·cases h
   ·cases h
  ·cases h
 ·cases h
end
end Go.Abs
namespace Go.Abs
open Go
section
variable {P:Program} {env:Env} {o:Oper} {E:Ent} {σ:St} {g:Gh} {M:Mem} {a:Act} {w:World} {e:Eff}
theorem ziP (hR:Rel E σ g M a w) (hG:GOK env M) {q:Option Operand} {dflt:Nat} {i:Int} (h:zcH (zah env σ) q dflt=some i) :
  (q=none∧i=dflt)∨∃ x k,q=some x∧a.eval x=.int k i:=by
 unfold zcH at h
 cases q with
 |none=>cases h;exact .inl ⟨rfl,rfl⟩
 |some x=>
  have hx:=zaF (env:=env) hR hG x
  simp only at h
  split at h
  ·rename_i k j hj
   cases h
   rw [hj] at hx
   exact .inr ⟨x,k,rfl,hx.int_inv⟩
  ·cases h
theorem ziQ {k:IntKind} {i:Int} {y:Nat} {code:BoundsCode} (h0:0≤i) (h1:i≤y):(Instr.sliceBound (.int k i) y code).run P w=.ok i.toNat w:=by
 simp [Instr.sliceBound,asIntOf,h0,h1]
theorem ze9 (hR:Rel E σ g M a w) (hG:GOK env M) (isS:Bool) {len cap:Nat} {lo hi:Option Operand} {l h:Int}
  (hl:zcH (zah env σ) lo 0=some l) (hh:zcH (zah env σ) hi len=some h) (h0:0≤l) (h1:l≤h) (h2:h≤len) (hc:len≤cap) :
  (Instr.sliceBounds isS len cap (lo.map a.eval) (hi.map a.eval) none).run P w=.ok (l.toNat,h.toNat,cap) w:=by
 have hh0:(h.toNat:Int)=h:=Int.toNat_of_nonneg (by omega)
 rcases ziP hR hG hh with ⟨rfl,rfl⟩|⟨x,k,rfl,hx⟩
 ·rcases ziP hR hG hl with ⟨rfl,rfl⟩|⟨y,k',rfl,hy⟩
  ·simp [Instr.sliceBounds]
  ·have:=ziQ (P:=P) (w:=w) (k:=k') (code:=.sliceB) h0 h1
   simp [Instr.sliceBounds,hy,this]
 ·have h3:=fun code=>ziQ (P:=P) (w:=w) (k:=k) (i:=h) (y:=cap) (code:=code) (by omega) (by omega)
  rcases ziP hR hG hl with ⟨rfl,rfl⟩|⟨y,k',rfl,hy⟩
  ·simp [Instr.sliceBounds,hx,h3]
  ·have:=ziQ (P:=P) (w:=w) (k:=k') (i:=l) (y:=h.toNat) (code:=.sliceB) h0 (by omega)
   simp [Instr.sliceBounds,hx,h3,hy,this]
theorem zqn (hR:Rel E σ g M a w) (hG:GOK env M) (hE:zaY P env) {t:TypeId} {x:Operand} {lo hi mx:Option Operand} (ho:o.op=.slice t x lo hi mx)
  (h:aop env o.dst (zah env σ) σ.obj o.op=some e):zbJ P env o E σ g M a w e:=by
 rw [ho] at h
 simp only [aop] at h
 have hx:=zaF (env:=env) hR hG x
 split at h
 ·rename_i ty ht
  split at h
  ·rename_i s hk hx'
   rw [hx'] at hx
   have hs:=hx.str_inv
   split at h
   ·rename_i l hh hl hhh
    split at h
    ·rename_i hc
     cases h
     refine zbJ.pure hR (v:=.string ⟨((s.take hh.toNat).drop l.toNat).toArray⟩) ?_ (.pv (.str _))
     have hsz:(ByteArray.mk s.toArray).size=s.length:=by simp [ByteArray.size]
     have hb:=ze9 (P:=P) hR hG false (len:=s.length) (cap:=s.length) hl hhh hc.1 hc.2.1 hc.2.2 (Nat.le_refl _)
     have hu:=ze6 hE ht hk
     have hex:(ByteArray.mk s.toArray).extract l.toNat hh.toNat=⟨((s.take hh.toNat).drop l.toNat).toArray⟩:=by
      apply ByteArray.ext
      simp [List.drop_take]
     simp only [execOp,ho,Instr.sliceAt,Sem.run_bind,zaf w hu,Result.andThen,hs,Instr.slice,Option.map_none,Option.isSome_none,Bool.false_eq_true,if_false,Sem.run_pure,hsz,hb,hex]
    ·cases h
   ·cases h
  ·rename_i xs hk hx'
   rw [hx'] at hx
   split at h
   ·rename_i l hh hl hhh
    split at h
    ·rename_i hc
     obtain ⟨hc1,hc2,hc3,hc4,hc5⟩:=hc
     cases h
     obtain ⟨el,hu,hes,_⟩:=zck hE ht hk
     have hpos:0<zaE P el:=by rw [←hes];exact hc5
     have hr:=hx.pv_inv
     have hrun:∀ (ad:Option Addr) (cap:Nat),a.eval x=.slice ad xs.length cap→xs.length≤cap →
       (execOp a.eval o).run P w=.ok (.value (.slice (if cap=l.toNat then ad else ad.map (·.add (l.toNat * ty.eSize))) (hh.toNat - l.toNat) (cap - l.toNat))) w:=by
      intro ad cap hv hcap
      have hb:=ze9 (P:=P) hR hG true (len:=xs.length) (cap:=cap) hl hhh hc1 hc2 hc3 hcap
      simp only [execOp,ho,Instr.sliceAt,Sem.run_bind,zaf w hu,Result.andThen,hv,Instr.slice,Option.map_none,Sem.run_pure,hb,zbm w hpos,hes]
     have hlen:((xs.take hh.toNat).drop l.toNat).length=hh.toNat - l.toNat:=by simp;omega
     generalize hv:a.eval x=v at hr
     cases hr with
     |nils=>
      have hl0:l.toNat=0:=by simp at hc3;omega
      have hh0:hh.toNat=0:=by simp at hc3;omega
      have:=hrun none 0 (by simpa using hv) (by simp)
      refine zbJ.pure hR this (.pv ?_)
      rw [hl0,hh0]
      simp
      exact .nils
     |slice _ sz b off cap us h1 h2 h3 h4=>
      refine zbJ.pure hR (hrun _ cap hv h4) (.pv ?_)
      rw [←hlen]
      by_cases hlz:xs=[]
      ·subst hlz
       have hl0:l.toNat=0:=by simp at hc3;omega
       rw [hl0]
       simp only [List.take_nil,List.drop_nil,Nat.zero_mul,Nat.sub_zero]
       have e1:(if cap=0 then some (⟨b,off,none⟩:Addr) else Option.map (fun x:Addr=>x.add 0) (some (⟨b,off,none⟩:Addr)))=some ⟨b,off,none⟩:=by
        split<;>simp [Addr.add]
       rw [e1]
       exact .slice [] 0 b off cap (fun _ _=>undef) (by simp) (fun i j hi=>by simp at hi) (fun i j hi=>by simp at hi) (by simp)
      ·have hsz:l.toNat * ty.eSize=l.toNat * sz:=by
        rcases hc4 with h5|h5
        ·subst h5;simp
        ·have:xs.getD 0 [] ∈ xs:=by
          cases xs with
          |nil=>exact absurd rfl hlz
          |cons y ys=>simp [List.getD]
         rw [←h5,h1 _ this]
       by_cases hce:cap=l.toNat
       ·rw [if_pos hce]
        have hnil:(xs.take hh.toNat).drop l.toNat=[]:=by
         apply List.eq_nil_of_length_eq_zero;rw [hlen];omega
        rw [hnil]
        exact .slice [] 0 b off _ (fun _ _=>undef) (by simp) (fun i j hi=>by simp at hi) (fun i j hi=>by simp at hi) (by simp)
       ·rw [if_neg hce]
        simp only [Option.map_some,zcj,hsz]
        have hpc:∀ i j,i<((xs.take hh.toNat).drop l.toNat).length→zbW ((xs.take hh.toNat).drop l.toNat) i j=zbW xs (l.toNat+i) j:=fun i j hi=>by
         rw [hlen] at hi
         simp only [zbW,List.getD_eq_getElem?_getD,List.getElem?_drop,List.getElem?_take]
         rw [if_pos (by omega)]
        refine .slice _ sz b _ _ (fun i j=>us (l.toNat+i) j) (fun y hy=>h1 y (List.mem_of_mem_take (List.mem_of_mem_drop hy))) (fun i j hi hj=>?_) (fun i j hi hj=>?_) (by rw [hlen];omega)
        ·rw [hlen] at hi
         have:=h2 (l.toNat+i) j (by omega) hj
         rw [Nat.add_mul] at this
         rw [←this];congr 1;omega
        ·rw [hpc i j hi]
         rw [hlen] at hi
         exact h3 (l.toNat+i) j (by omega) hj
    ·cases h
   ·cases h
  ·cases h
 ·cases h
end
end Go.Abs
namespace Go.Abs
open Go
section
variable {P:Program} {env:Env} {o:Oper} {E:Ent} {σ:St} {g:Gh} {M:Mem} {a:Act} {w:World} {e:Eff}
theorem zmt (need:Nat) (h:257≤need):∀ (r c:Nat),c≤2 * need→Builtin.growBy need r c≤2 * need
 |0,c,hc=>by simpa [Builtin.growBy] using hc
 |r+1,c,hc=>by
  simp only [Builtin.growBy]
  split
  ·exact hc
  ·exact zmt need h r _ (by omega)
theorem zqo (need c:Nat) (h:c<need):Builtin.nextslicecap need c≤2 * need:=by
 unfold Builtin.nextslicecap
 split
 ·omega
 ·split
  ·omega
  ·exact zmt need (by omega) 4 c (by omega)
def zz6 (P:Program) (M:Mem) (w:World) (v:Value) (ys:List (List PVal)) (sz:Nat):Prop:=
 (∀ w':World,(Builtin.lenOf v).run P w'=.ok ys.length w')∧∃ cells:List Value,cells.length=ys.length * sz ∧
   (∀ w':World,(∀ b,b<w.heap.size→w'.heap[b]?=w.heap[b]?)→(Builtin.firstCells sz ys.length v).run P w'=.ok cells.toArray w') ∧
   (∀ i j,i<ys.length→j<sz→Rd M (zbW ys i j) (cells.getD (i * sz+j) undef))∧∀ u,u ∈ cells→u.oneCell'=true
theorem zmu (hR:Rel E σ g M a w) (hG:GOK env M) {y:Operand} {ys:List (List PVal)} (h:zcD σ.obj (zah env σ y)=some ys) (sz:Nat) (hlen:∀ x,x ∈ ys→x.length=sz) :
  zz6 P M w (a.eval y) ys sz:=by
 have hy:=zaF (env:=env) hR hG y
 have one:∀ (p:PVal) (u:Value),Rd M p u→u.oneCell'=true:=fun p u h=>by cases h<;>rfl
 have mk:∀ (b off cap:Nat) (f:Nat→Value),a.eval y=.slice (some ⟨b,off,none⟩) ys.length cap→b<w.heap.size →
   (∀ q,q<ys.length * sz→w.cell? ⟨b,off+q,none⟩=some (f q))→(∀ i j,i<ys.length→j<sz→Rd M (zbW ys i j) (f (i * sz+j)))→zz6 P M w (a.eval y) ys sz:=by
  intro b off cap f hv hb hc hrd
  refine ⟨fun w'=>by rw [hv];rfl,(List.range (ys.length * sz)).map f,by simp,fun w' hw'=>?_,fun i j hi hj=>?_,fun u hu=>?_⟩
  ·rw [hv]
   simp only [Builtin.firstCells]
   rw [run_loadCells w' ⟨b,off,none⟩ (ys.length * sz) f (fun j hj=>by
    rw [zcj,←hc j hj]
    unfold World.cell?
    simp only [hw' b hb])]
  ·have hlt:i * sz+j<ys.length * sz:=by
    have:(i+1) * sz≤ys.length * sz:=Nat.mul_le_mul_right _ hi
    rw [Nat.add_mul] at this;omega
   have e1:((List.range (ys.length * sz)).map f).getD (i * sz+j) undef=f (i * sz+j):=by simp [List.getD,hlt]
   rw [e1];exact hrd i j hi hj
  ·simp only [List.mem_map,List.mem_range] at hu
   obtain ⟨q,hq,rfl⟩:=hu
   have hsz:0<sz:=Nat.pos_of_ne_zero fun h0=>by subst h0;simp at hq
   have h1:q / sz<ys.length:=Nat.div_lt_of_lt_mul (by rw [Nat.mul_comm];exact hq)
   have h2:=hrd (q / sz) (q % sz) h1 (Nat.mod_lt _ hsz)
   have e2:q / sz * sz+q % sz=q:=by rw [Nat.mul_comm];exact Nat.div_add_mod q sz
   rw [e2] at h2
   exact one _ _ h2
 unfold zcD at h
 split at h
 ·rename_i hx
  cases h
  rw [hx] at hy
  generalize hv:a.eval y=v at hy
  cases hy
  exact ⟨fun _=>rfl,[],by simp,fun w' _=>rfl,fun i j hi=>by simp at hi,fun u hu=>by simp at hu⟩
 ·rename_i xs hx
  cases h
  rw [hx] at hy
  have hr:=hy.pv_inv
  generalize hv:a.eval y=v at hr
  cases hr with
  |nils=>exact ⟨fun _=>rfl,[],by simp,fun w' _=>rfl,fun i j hi=>by simp at hi,fun u hu=>by simp at hu⟩
  |slice _ sz' b off cap us h1 h2 h3 h4=>
   by_cases hn:ys=[]
   ·subst hn
    refine ⟨fun _=>rfl,[],by simp,fun w' _=>?_,fun i j hi=>by simp at hi,fun u hu=>by simp at hu⟩
    simp [Builtin.firstCells,loadCells,loadCellsFrom]
   ·have hsz:sz'=sz:=by
     cases ys with
     |nil=>exact absurd rfl hn
     |cons y0 yr=>rw [←h1 y0 (by simp),hlen y0 (by simp)]
    subst hsz
    have hpos:0<ys.length:=List.length_pos_iff.2 hn
    by_cases hz:sz'=0
    ·subst hz
     refine ⟨fun _=>rfl,[],by simp,fun w' _=>?_,fun i j hi hj=>by omega,fun u hu=>by simp at hu⟩
     simp [Builtin.firstCells,loadCells,loadCellsFrom]
    ·rw [←hv]
     refine mk b off cap (fun q=>us (q / sz') (q % sz')) hv ?_ (fun q hq=>?_) (fun i j hi hj=>?_)
     ·have:=World.block_lt_of_cell? _ _ (hR.sat _ _ _ (h2 0 0 hpos (Nat.pos_of_ne_zero hz)))
      simpa using this
     ·have h5:q / sz'<ys.length:=Nat.div_lt_of_lt_mul (by rw [Nat.mul_comm];exact hq)
      have h6:=hR.sat _ _ _ (h2 (q / sz') (q % sz') h5 (Nat.mod_lt _ (Nat.pos_of_ne_zero hz)))
      have e2:q / sz' * sz'+q % sz'=q:=by rw [Nat.mul_comm];exact Nat.div_add_mod q sz'
      rw [Nat.add_assoc,e2] at h6
      exact h6
     ·have e1:(i * sz'+j) / sz'=i:=by rw [Nat.mul_comm,Nat.mul_add_div (Nat.pos_of_ne_zero hz),Nat.div_eq_of_lt hj];rfl
      have e2:(i * sz'+j) % sz'=j:=by rw [Nat.mul_comm,Nat.mul_add_mod,Nat.mod_eq_of_lt hj]
      simp only [e1,e2]
      exact h3 i j hi hj
 ·rename_i t hx
  cases h
  rw [hx] at hy
  have hv:a.eval y=.string ⟨t.toArray⟩:=hy.str_inv
  rw [hv]
  have hsz:t≠[]→sz=1:=fun hn=>by
   cases t with
   |nil=>exact absurd rfl hn
   |cons c r=>exact (hlen (zuh c) (by simp)).symm
  refine ⟨fun w'=>by simp [Builtin.lenOf,ByteArray.size],(t.map fun c=>Value.int .u8 (c.toNat:Int)),?_,fun w' _=>?_,fun i j hi hj=>?_,fun u hu=>?_⟩
  ·by_cases hn:t=[]
   ·subst hn;simp
   ·rw [hsz hn];simp
  ·simp only [Builtin.firstCells,List.length_map]
   have e:(ByteArray.mk t.toArray).extract 0 t.length=⟨t.toArray⟩:=by
    apply ByteArray.ext
    simp
   simp [e]
  ·have hn:t≠[]:=fun h=>by subst h;simp at hi
   have h1:=hsz hn
   subst h1
   have hj0:j=0:=by omega
   subst hj0
   have hi':i<t.length:=by simpa using hi
   have e1:zbW (t.map zuh) i 0=.int .u8 (t[i].toNat:Int):=by simp [zbW,List.getD,hi',zuh]
   have e2:(t.map fun c=>Value.int .u8 (c.toNat:Int)).getD (i * 1+0) undef=.int .u8 (t[i].toNat:Int):=by simp [List.getD,hi']
   rw [e1,e2]
   exact .int _ _
  ·simp only [List.mem_map] at hu
   obtain ⟨c,_,rfl⟩:=hu
   rfl
 ·rename_i id n hx
  split at h
  ·rename_i sz' xs hob
   split at h
   ·rename_i hn
    cases h
    rw [hx] at hy
    obtain ⟨h1,h2,h3⟩:=hR.objs id _ hob
    generalize hv:a.eval y=v at hy
    cases hy with
    |rown _ hd hnu=>
     have h0:=h2 hnu
     subst h0
     exact ⟨fun _=>rfl,[],by simp,fun w' _=>rfl,fun i j hi=>by simp at hi,fun u hu=>by simp at hu⟩
    |row _ _ hd hnu=>
     subst hn
     obtain ⟨vals,T,hh,h4,h5,h6⟩:=h3 hnu
     by_cases hn:ys=[]
     ·subst hn
      refine ⟨fun _=>rfl,[],by simp,fun w' _=>?_,fun i j hi=>by simp at hi,fun u hu=>by simp at hu⟩
      simp [Builtin.firstCells,loadCells,loadCellsFrom]
     ·have hsz:sz'=sz:=by
       cases ys with
       |nil=>exact absurd rfl hn
       |cons y0 yr=>rw [←h1 y0 (by simp),hlen y0 (by simp)]
      subst hsz
      rw [←hv]
      refine mk (g.ρ id) 0 (g.κ id) (fun q=>vals.getD q undef) hv ((Array.getElem?_eq_some_iff.1 hh).1) (fun q hq=>?_) (fun i j hi hj=>h6 i j hi hj)
      rw [Nat.zero_add,cell_of_heap hh]
      have:ys.length * sz'≤g.κ id * sz':=Nat.mul_le_mul_right _ h4
      have:q<vals.size:=by omega
      simp [this]
   ·cases h
  ·cases h
 ·cases h
theorem zfa {t t' el:TypeId} {ty:TypeId} {d':TypeDesc} (hu:P.underlying t=some (.slice el)) (hu':P.underlying t'=some d') (hni:∀ k,d'≠.int k) (hpos:0<zaE P el)
  {base:Option Addr} {sLen sCap n:Nat} {y:Value} (hy:∀ w':World,(Builtin.lenOf y).run P w'=.ok n w') (hfit:sLen+n≤sCap) {cells:List Value} {w w1:World}
  (hfc:(Builtin.firstCells (zaE P el) n y).run P w=.ok cells.toArray w)
  (hst:∀ b,base=some b→(storeCells (b.add (sLen * zaE P el)) cells 0).run P w=.ok () w1) (hst0:base=none→w1=w) :
  (Builtin.append_ #[t,t'] ty #[.slice base sLen sCap,y]).run P w=.ok (.slice base (sLen+n) sCap) w1:=by
 have hm:(match d' with|.int _=>true|_=>false)=false:=by
  cases d'<;>first|rfl|exact absurd rfl (hni _)
 simp only [Builtin.append_,List.getElem?_toArray,List.getElem?_cons_zero,List.getElem?_cons_succ,Sem.run_bind,zaf w hu,zaf w hu',Result.andThen,zbm w hpos,Sem.run_pure,
  hm,hy,Bool.false_eq_true,if_false,hfit,if_true,Bool.not_false,hfc]
 cases base with
 |none=>rw [hst0 rfl];rfl
 |some b=>simp only [Sem.run_bind,hst b rfl,Result.andThen,Sem.run_pure]
theorem zeT {t t' el:TypeId} {ty:TypeId} {d':TypeDesc} (hu:P.underlying t=some (.slice el)) (hu':P.underlying t'=some d') (hni:∀ k,d'≠.int k) (hpos:0<zaE P el)
  (hby:0<zcM P el) {z:Value} (hz:∀ w,(zeroValue el).run P w=.ok z w)
  {base:Option Addr} {sLen sCap n:Nat} {y:Value} (hy:∀ w':World,(Builtin.lenOf y).run P w'=.ok n w') (hfit:¬ sLen+n≤sCap) (hroom:(sLen+n) * zcM P el≤140737488355328) {cells old:List Value} {w:World}
  (hfc:∀ w':World,w'.heap=w.heap→(Builtin.firstCells (zaE P el) n y).run P w'=.ok cells.toArray w')
  (hold:∀ w':World,w'.heap=w.heap→(Builtin.firstCells (zaE P el) sLen (.slice base sLen sCap)).run P w'=.ok old.toArray w') :
  ∃ newCap,sLen+n≤newCap∧(Builtin.append_ #[t,t'] ty #[.slice base sLen sCap,y]).run P w =
   .ok (.slice (some ⟨w.heap.size,0,none⟩) (sLen+n) newCap) (w.drew.alloc (.cells (old.toArray++cells.toArray++Builtin.zeroCells z.cells (newCap - (sLen+n))) el)):=by
 have hm:(match d' with|.int _=>true|_=>false)=false:=by
  cases d'<;>first|rfl|exact absurd rfl (hni _)
 have hinfo:∃ i,P.info? el=some i∧i.bytes=zcM P el:=by
  unfold zcM at *
  cases hi:P.info? el with
  |none=>simp [hi] at hby
  |some i=>exact ⟨i,rfl,rfl⟩
 obtain ⟨i,hi,hib⟩:=hinfo
 have hneed:sLen+n≤140737488355328:=Nat.le_trans (Nat.le_mul_of_pos_right _ hby) hroom
 have hcap:=zqo (sLen+n) sCap (by omega)
 have hcap2:¬ (Builtin.nextslicecap (sLen+n) sCap * i.bytes > 2 ^ 48):=by
  rw [hib]
  have:Builtin.nextslicecap (sLen+n) sCap * zcM P el≤2 * (sLen+n) * zcM P el:=Nat.mul_le_mul_right _ hcap
  rw [Nat.mul_assoc] at this
  omega
 have hmax:¬ ((((sLen+n:Nat):Int) > IntKind.i64.max)∧(False∨i.bytes=0)):=by
  rintro ⟨h1,h2⟩
  rcases h2 with h2|h2
  ·exact h2
  ·omega
 refine ⟨(sLen+n)+(w.tape w.drawn (.appendCap (sLen+n) sCap el)) % (2 ^ 63 - (sLen+n)),by omega,?_⟩
 simp only [Builtin.append_,List.getElem?_toArray,List.getElem?_cons_zero,List.getElem?_cons_succ,Sem.run_bind,zaf w hu,zaf w hu',Result.andThen,zbm w hpos,Sem.run_pure,
  hm,hy,Bool.false_eq_true,if_false,hfit,za8 w hi]
 rw [if_neg hmax]
 simp only [Sem.run_bind,za8 w hi,Result.andThen]
 rw [if_neg hcap2]
 have hd:∀ x,({ w with drawn:=x }:World).heap=w.heap:=fun _=>rfl
 simp only [Sem.run_bind,run_choose,Question.forced,Bool.false_eq_true,if_false,Result.andThen,za8 _ hi,run_askRoom,Question.cut,hold _ (hd _),Bool.not_false,if_true,hfc _ (hd _),hz,newRow,run_newObj,Sem.run_pure]
 rfl
theorem zku (old cells:List Value) (rest:Array Value) (q:Nat) (h:q<old.length+cells.length) :
  (old.toArray++cells.toArray++rest).getD q undef=if q<old.length then old.getD q undef else cells.getD (q - old.length) undef:=by
 simp only [Array.getD_eq_getD_getElem?,List.getD_eq_getElem?_getD]
 rw [Array.getElem?_append_left (by simp;omega),Array.getElem?_append]
 simp only [List.size_toArray,List.getElem?_toArray]
 split<;>rfl
theorem zfb (xs ys:List (List PVal)) (i j:Nat):zbW (xs++ys) i j=if i<xs.length then zbW xs i j else zbW ys (i - xs.length) j:=by
 simp only [zbW,List.getD_eq_getElem?_getD]
 split
 ·rename_i h;rw [List.getElem?_append_left h]
 ·rename_i h;rw [List.getElem?_append_right (by omega)]
theorem zdE (hR:Rel E σ g M a w) (hl:σ.objs.length=env.nobj) {d id':Nat} (hd:o.dst=some d) (hid:id'<env.nobj) (hn:σ.obj id'=none)
  (C:Nat→Prop) (σ1:St) (hσ1s:σ1.slots=σ.slots) (hσ1l:σ1.objs.length=σ.objs.length) (hun:∀ i,¬ C i→σ1.obj i=σ.obj i) (hdead:∀ i,C i→σ1.obj i=some .dead) (hCid:¬ C id')
  {sz n:Nat} {zs:List (List PVal)} (hzl:zs.length=n) (hzs:∀ x,x ∈ zs→x.length=sz)
  {v:Value} {w':World} (hrun:(execOp a.eval o).run P w=.ok (.value v) w') (hos:w'.os=w.os) (htape:w'.tape=w.tape) (hout:w'.output=w.output) (hsize:w.heap.size≤w'.heap.size)
  (heap:∀ b,b<w.heap.size→(∀ i ob,C i→σ.obj i=some ob→zbj g i ob≠some b)→w'.heap[b]?=w.heap[b]?)
  (b c:Nat) (nu:Bool) (hv:(nu=false∧v=.slice (some ⟨b,0,none⟩) n c)∨(nu=true∧n=0∧v=.slice none 0 0))
  (hb:nu=false→w.heap.size≤b∨∃ i ob,C i∧σ.obj i=some ob∧zbj g i ob=some b)
  (hrow:nu=false→∃ (vals:Array Value) (T:Tf vals),w'.heap[b]?=some (.cells vals T.p.1 T.p.2)∧n≤c∧c * sz≤vals.size∧∀ i j,i<n→j<sz→Rd M (zbW zs i j) (vals.getD (i * sz+j) undef)) :
  ∃ g' M',Rel E ((σ1.set id' (.row sz zs)).app o.dst ⟨.row id' n,[]⟩) g' M' (a.put o.dst v) w'∧(∀ i,σ.dom i→g.agree g' i)∧Mem.le M M':=by
 have hne:∀ i,σ.dom i→i≠id':=fun i hi e=>hi (by rw [e];exact hn)
 have hag:∀ i,σ.dom i→g.agree (g.set id' b c nu) i:=fun i hi=>Gh.set_agree (hne i hi)
 have hdom1:∀ i,σ.dom i→σ1.dom i:=fun i hi=>by
  by_cases hc:C i
  ·simp [St.dom,hdead i hc]
  ·simp only [St.dom,hun i hc];exact hi
 have hself:(σ1.set id' (.row sz zs)).obj id'=some (.row sz zs):=St.obj_set_self (by omega)
 have hρ:(g.set id' b c nu).ρ id'=b:=by simp [Gh.set]
 have hκ:(g.set id' b c nu).κ id'=c:=by simp [Gh.set]
 have hν:(g.set id' b c nu).ν id'=nu:=by simp [Gh.set]
 have hR':Rel E (σ1.set id' (.row sz zs)) (g.set id' b c nu) M a w':=by
  refine hR.update (fun i=>i=id'∨C i) hσ1s (fun i hi=>?_) (fun i hi=>zbD i (hdom1 i hi)) hag ?_ ?_ ?_ ?_ hsize hos htape hout
  ·rw [St.obj_set_ne (fun e=>hi (.inl e.symm))];exact hun i (fun hc=>hi (.inr hc))
  ·rintro i ob hc ho
   by_cases hi:i=id'
   ·subst hi
    rw [hself] at ho
    cases ho
    refine ⟨hzs,fun hnu=>?_,fun hnu=>?_⟩
    ·rw [hν] at hnu
     rcases hv with ⟨h1,_⟩|⟨_,h2,_⟩
     ·rw [h1] at hnu;cases hnu
     ·exact List.eq_nil_of_length_eq_zero (by omega)
    ·rw [hν] at hnu
     obtain ⟨vals,T,h1,h2,h3,h4⟩:=hrow hnu
     refine ⟨vals,T,by rw [hρ];exact h1,by rw [hκ];omega,by rw [hκ];exact h3,fun i j hi hj=>h4 i j (by omega) hj⟩
   ·rw [St.obj_set_ne (fun e=>hi e.symm),hdead i (hc.resolve_left hi)] at ho
    cases ho;trivial
  ·intro b' hb' hno
   exact heap b' hb' (fun i ob hc ho=>hno i ob (.inr hc) ho)
  ·rintro i ob b' hc ho hob
   by_cases hi:i=id'
   ·subst hi
    rw [hself] at ho
    cases ho
    simp only [zbj,hν,hρ] at hob
    cases hnu:nu with
    |true=>rw [hnu] at hob;simp at hob
    |false=>
     rw [hnu] at hob
     simp at hob
     subst hob
     rcases hb hnu with h1|⟨i,ob,h1,h2,h3⟩
     ·exact .inl h1
     ·exact .inr ⟨i,ob,.inr h1,h2,h3⟩
   ·rw [St.obj_set_ne (fun e=>hi e.symm),hdead i (hc.resolve_left hi)] at ho
    cases ho;simp [zbj] at hob
  ·rintro i i' ob ob' b' hc hc' ho ho' hob hob'
   by_cases hi:i=id'
   ·by_cases hi':i'=id'
    ·rw [hi,hi']
    ·rw [St.obj_set_ne (fun e=>hi' e.symm),hdead i' (hc'.resolve_left hi')] at ho'
     cases ho';simp [zbj] at hob'
   ·rw [St.obj_set_ne (fun e=>hi e.symm),hdead i (hc.resolve_left hi)] at ho
    cases ho;simp [zbj] at hob
 refine ⟨_,M,hR'.put o.dst ?_,hag,Mem.le_refl _⟩
 have hdm:(σ1.set id' (.row sz zs)).dom id':=by simp [St.dom,hself]
 rcases hv with ⟨h1,rfl⟩|⟨h1,h2,rfl⟩
 ·have e1:Value.slice (some ⟨b,0,none⟩) n c=.slice (some ⟨(g.set id' b c nu).ρ id',0,none⟩) n ((g.set id' b c nu).κ id'):=by rw [hρ,hκ]
  rw [e1]
  exact .row _ _ hdm (by rw [hν];exact h1)
 ·subst h2
  exact .rown _ hdm (by rw [hν];exact h1)
end
end Go.Abs
namespace Go.Abs
open Go
section
variable {P:Program} {env:Env} {o:Oper} {E:Ent} {σ:St} {g:Gh} {M:Mem} {a:Act} {w:World} {e:Eff}
theorem zmv (s t:List UInt8):((ByteArray.mk s.toArray)==(ByteArray.mk t.toArray))=(s==t):=by
 show (s.toArray==t.toArray)=(s==t)
 rw [Bool.eq_iff_iff]
 simp
theorem zka (s:List UInt8):((ByteArray.mk s.toArray)==(ByteArray.mk s.toArray))=true:=by
 rw [zmv];simp
theorem zwV (hE:zaY P env) {t:Nat} {ty:Ty} (h:env.ty t=some ty) (hk:ty.kind=.map) :
  ∃ k el,P.underlying t=some (.map k el)∧ty.kKind=zuc P k∧ty.eZV=zxn P el:=by
 obtain ⟨i,d,hi,hd,hty⟩:=hE.get h
 simp only [zj3,hi,hd,Option.some.injEq] at hty
 subst hty
 cases d<;>simp at hk
 exact ⟨_,_,hd,rfl,rfl⟩
theorem zo0 {k:TypeId} {kd:Kd} (hkd:zuc P k=kd) {p:PVal} (hp:zc4 kd p=true) :
  ∃ d,P.underlying k=some d∧((∃ j,d=.int j∧kd=.int j)∨(d=.bool∧kd=.bool)∨(d=.string∧kd=.string)):=by
 unfold zuc at hkd
 split at hkd
 ·rename_i j h;exact ⟨_,h,.inl ⟨j,rfl,hkd.symm⟩⟩
 ·rename_i h;exact ⟨_,h,.inr (.inl ⟨rfl,hkd.symm⟩)⟩
 ·rename_i h;exact ⟨_,h,.inr (.inr ⟨rfl,hkd.symm⟩)⟩
 ·subst hkd
  cases p<;>simp [zc4] at hp
theorem zun {d:TypeDesc} {kd:Kd} (hd:(∃ j,d=.int j∧kd=.int j)∨(d=.bool∧kd=.bool)∨(d=.string∧kd=.string)) {p q:PVal} (hp:zc4 kd p=true) (hq:zc4 kd q=true) {v u:Value} (hv:Rd M p v) (hu:Rd M q u) :
  Instr.sameNow d v u=some (zfU p q):=by
 rcases hd with ⟨j,rfl,rfl⟩|⟨rfl,rfl⟩|⟨rfl,rfl⟩
 ·cases p<;>simp [zc4] at hp
  cases q<;>simp [zc4] at hq
  subst hp hq
  rw [hv.int_inv,hu.int_inv]
  simp [Instr.sameNow,zfU]
 ·cases p<;>simp [zc4] at hp
  cases q<;>simp [zc4] at hq
  rw [hv.bool_inv,hu.bool_inv]
  simp [Instr.sameNow,zfU]
 ·cases p<;>simp [zc4] at hp
  cases q<;>simp [zc4] at hq
  rw [hv.str_inv,hu.str_inv]
  simp only [Instr.sameNow,zfU]
  rename_i s t
  rw [zmv]
theorem zmw {k:TypeId} {d:TypeDesc} (hu:P.underlying k=some d) {kd:Kd} (hd:(∃ j,d=.int j∧kd=.int j)∨(d=.bool∧kd=.bool)∨(d=.string∧kd=.string)) (b:Bool) (n:Nat) (v:Value) (w:World) :
  (Instr.checkKey b (n+1) k v).run P w=.ok () w:=by
 rcases hd with ⟨j,rfl,_⟩|⟨rfl,_⟩|⟨rfl,_⟩
 all_goals
  simp only [Instr.checkKey,Sem.run_bind,zaf w hu,Result.andThen]
  rfl
def zuo (g:Gh) (D:Nat→Prop) (M:Mem) (kd:Kd):List (PVal × Bool × List PVal)→List MapEntry→Prop
 |[],[]=>True
 |e::r,en::s=>zc4 kd e.1=true∧Rd M e.1 en.key∧V g D M (zf3 e.2) en.val∧zuo g D M kd r s
 |_,_=>False
theorem zli {D:Nat→Prop} {kd:Kd}:∀ {es:List (PVal × Bool × List PVal)} {l:List MapEntry},l.length=es.length →
  (∀ (i:Nat) (e:PVal × Bool × List PVal),es[i]?=some e→∃ en:MapEntry,l[i]?=some en∧zc4 kd e.1=true∧Rd M e.1 en.key∧V g D M (zf3 e.2) en.val)→zuo g D M kd es l
 |[],[],_,_=>trivial
 |e::r,en::s,hl,h=>by
  obtain ⟨en',h1,h2,h3,h4⟩:=h 0 e rfl
  simp at h1;subst h1
  exact ⟨h2,h3,h4,zli (by simpa using hl) (fun i e' he=>by have:=h (i+1) e' (by simpa using he);simpa using this)⟩
 |[],_::_,hl,_=>by simp at hl
 |_::_,[],hl,_=>by simp at hl
theorem znS {D:Nat→Prop} {kd:Kd}:∀ {es:List (PVal × Bool × List PVal)} {l:List MapEntry},zuo g D M kd es l→l.length=es.length ∧
  ∀ (i:Nat) (e:PVal × Bool × List PVal),es[i]?=some e→∃ en:MapEntry,l[i]?=some en∧zc4 kd e.1=true∧Rd M e.1 en.key∧V g D M (zf3 e.2) en.val
 |[],[],_=>⟨rfl,fun i e he=>by simp at he⟩
 |e::r,en::s,⟨h1,h2,h3,h4⟩=>by
  obtain ⟨h5,h6⟩:=znS h4
  refine ⟨by simp [h5],fun i e' he=>?_⟩
  cases i with
  |zero=>simp at he;subst he;exact ⟨en,rfl,h1,h2,h3⟩
  |succ i=>have:=h6 i e' (by simpa using he);simpa using this
 |[],_::_,h=>h.elim
 |_::_,[],h=>h.elim
theorem zlj {d:TypeDesc} {kd:Kd} (hd:(∃ j,d=.int j∧kd=.int j)∨(d=.bool∧kd=.bool)∨(d=.string∧kd=.string)) {D:Nat→Prop} {p:PVal} (hp:zc4 kd p=true) {v:Value} (hv:Rd M p v) :
  ∀ {es:List (PVal × Bool × List PVal)} {l:List MapEntry} (i:Nat),zuo g D M kd es l →
   (zfV p es=none∧Instr.findNow d v l i=some none) ∨
   (∃ k q en,k<l.length∧zfV p es=some q∧l[k]?=some en∧Instr.findNow d v l i=some (some (i+k,en.val))∧V g D M (zf3 q) en.val∧∃ e,es[k]?=some e∧zfU p e.1=true∧Rd M e.1 en.key∧zc4 kd e.1=true ∧
    ∀ q',zqc p q' es=es.set k (p,q'))
 |[],[],i,_=>.inl ⟨rfl,rfl⟩
 |e::r,en::s,i,⟨h1,h2,h3,h4⟩=>by
  have hsame:=zun hd hp h1 hv h2
  cases hk:zfU p e.1 with
  |true=>
   rw [hk] at hsame
   refine .inr ⟨0,e.2,en,by simp,by simp [zfV,hk],rfl,by simp [Instr.findNow,hsame],h3,e,rfl,hk,h2,h1,fun q'=>by simp [zqc,hk]⟩
  |false=>
   rw [hk] at hsame
   rcases zlj hd hp hv (i+1) h4 with ⟨h5,h6⟩|⟨k,q,en',h5,h6,h7,h8,h9,e',h10,h11,h12,h13,h14⟩
   ·exact .inl ⟨by simp [zfV,hk,h5],by simp [Instr.findNow,hsame,h6]⟩
   ·refine .inr ⟨k+1,q,en',by simp;omega,by simp [zfV,hk,h6],by simpa using h7,?_,h9,e',by simpa using h10,h11,h12,h13,fun q'=>by simp [zqc,hk,h14]⟩
    simp only [Instr.findNow,hsame,h8]
    congr 3
    omega
 |[],_::_,_,h=>h.elim
 |_::_,[],_,h=>h.elim
theorem zmx {p:PVal} {q:Bool × List PVal}:∀ {es:List (PVal × Bool × List PVal)},zfV p es=none→zqc p q es=es++[(p,q)]
 |[],_=>rfl
 |e::r,h=>by
  simp only [zfV] at h
  split at h
  ·cases h
  ·rename_i hk;simp [zqc,hk,zmx h]
theorem zo1 {el:TypeId} {z:Bool × List PVal} (h:zxn P el=some z):∃ zv:Value,(∀ w,(zeroValue el).run P w=.ok zv w)∧∀ (g:Gh) (D:Nat→Prop) (M:Mem),V g D M (zf3 z) zv:=by
 unfold zxn at h
 split at h
 ·rename_i i hi
  split at h
  ·rename_i cs hz
   refine ⟨.agg cs,fun w=>by simp [zeroValue,za8 w hi,hz],fun g D M=>?_⟩
   cases hps:ze2 (cs.toList.map za4) with
   |none=>rw [hps] at h;cases h
   |some ps=>
    rw [hps] at h
    cases h
    have hpl:ps.length=cs.size:=by have:=zcF hps;simpa using this
    refine zle (by simpa using hpl.symm) (fun j hj=>?_)
    have hj1:j<ps.length:=by simpa using hj
    have h3:(ps.map AVal.pv).getD j .junk=.pv (ps.getD j .nilptr):=by simp [List.getD,hj1]
    rw [h3]
    have h1:=zd9 hps j (by simp;omega)
    have h2:(cs.toList.map za4).getD j .junk=za4 (cs.getD j undef):=by
     have:j<cs.size:=by omega
     simp [List.getD,this]
    rw [h2] at h1
    exact .pv (zmr (zdQ g D M _) h1)
  ·rename_i v _ hz
   refine ⟨v,fun w=>by simp [zeroValue,za8 w hi,hz],fun g D M=>?_⟩
   cases hp:(za4 v).toP with
   |none=>rw [hp] at h;cases h
   |some p=>
    rw [hp] at h
    cases h
    exact .pv (zmr (zdQ g D M v) hp)
  ·cases h
 ·cases h
theorem zz7 {D:Nat→Prop} {x:AVal} {q:Bool × List PVal} {v:Value} (h:V g D M x v) (hq:zud x=some q):V g D M (zf3 q) v:=by
 unfold zud at hq
 split at hq
 ·rename_i cs
  cases hps:ze2 cs with
  |none=>rw [hps] at hq;cases hq
  |some ps=>
   rw [hps] at hq
   cases hq
   cases h with
   |agg _ vs hl hv=>
    have hpl:=zcF hps
    refine .agg _ vs (by simp [hpl,hl]) (fun j hj=>?_)
    have hj1:j<ps.length:=by simpa using hj
    have h3:(ps.map AVal.pv).getD j .junk=.pv (ps.getD j .nilptr):=by simp [List.getD,hj1]
    rw [h3]
    exact .pv (zmr (hv j (by omega)) (zd9 hps j (by omega)))
 ·rename_i hne
  cases hp:x.toP with
  |none=>rw [hp] at hq;cases hq
  |some p=>
   rw [hp] at hq
   cases hq
   exact .pv (zmr h hp)
theorem zmy (hR:Rel E σ g M a w) (hE:zaY P env) (hl:σ.objs.length=env.nobj) {t:TypeId} {r:Option Operand} (ho:o.op=.makeMap t r)
  (h:aop env o.dst (zah env σ) σ.obj o.op=some e):zbJ P env o E σ g M a w e:=by
 cases r with
 |some r=>rw [ho] at h;simp [aop] at h
 |none=>
  rw [ho] at h
  simp only [aop] at h
  split at h
  ·rename_i ty d ht hd
   split at h
   ·rename_i hk hn
    split at h
    ·rename_i hc
     cases h
     have hne:∀ i,σ.dom i→i≠env.site d:=fun i hi e=>hi (by rw [e];exact hn)
     have hag:∀ i,σ.dom i→g.agree (g.set (env.site d) w.heap.size 0 false) i:=fun i hi=>Gh.set_agree (hne i hi)
     have hR':=hR.freshO (by omega) hn (.map #[] 0) 0 (.map ty.kKind []) (by
      refine ⟨#[],0,?_,rfl,fun i e he=>by simp at he⟩
      have e1:(g.set (env.site d) w.heap.size 0 false).ρ (env.site d)=w.heap.size:=by simp [Gh.set]
      rw [e1];exact zbu _ _)
     refine ⟨_,.map (some w.heap.size),_,_,M,by simp [execOp,ho,Instr.makeMap];rfl,.inl rfl,?_,hag,Mem.le_refl _⟩
     rw [zeB]
     refine hR'.put o.dst ?_
     have:(some w.heap.size)=some ((g.set (env.site d) w.heap.size 0 false).ρ (env.site d)):=by simp [Gh.set]
     rw [this]
     exact .map _ (by simp [St.dom,St.obj_set_self (σ:=σ) (id:=env.site d) (by omega)])
    ·cases h
   ·cases h
  ·cases h
theorem V.map_inv {D:Nat→Prop} {id:Nat} {v:Value} (h:V g D M (.map id) v):v=.map (some (g.ρ id))∧D id:=by
 cases h with|map _ hd=>exact ⟨rfl,hd⟩
theorem znT (hR:Rel E σ g M a w) (hG:GOK env M) (hE:zaY P env) {t:TypeId} {x k:Operand} {ok:Bool} (ho:o.op=.lookup t x k ok)
  (h:aop env o.dst (zah env σ) σ.obj o.op=some e):zbJ P env o E σ g M a w e:=by
 rw [ho] at h
 simp only [aop] at h
 have hx:=zaF (env:=env) hR hG x
 have hk:=zaF (env:=env) hR hG k
 split at h
 ·rename_i ty id key ht hx' hk'
  rw [hx'] at hx
  rw [hk'] at hk
  obtain ⟨hxv,hd⟩:=hx.map_inv
  have hkv:=hk.pv_inv
  split at h
  ·rename_i kd es z hkind hob hz
   split at h
   ·rename_i hc
    obtain ⟨hkd,hko⟩:=hc
    cases h
    obtain ⟨kt,el,hu,hkk,hzv⟩:=zwV hE ht hkind
    obtain ⟨ents,clock,hh,hsz,hents⟩:=hR.objs id _ hob
    obtain ⟨d,hud,hdd⟩:=zo0 (P:=P) (k:=kt) (kd:=kd) (by rw [hkd,hkk]) hko
    have hE':zuo g σ.dom M kd es ents.toList:=zli (by simpa using hsz) (fun i e he=>by simpa using hents i e he)
    obtain ⟨zv,hzr,hzV⟩:=zo1 (P:=P) (hzv ▸ hz)
    have hget:(getObj (g.ρ id)).run P w=.ok (.map ents clock) w:=by simp [getObj,Sem.run,hh]
    have hck:=zmw (P:=P) hud hdd ents.isEmpty 9999 (a.eval k) w
    have hres:∀ (v:Value) (b:Bool) (X:Bool × List PVal),V g σ.dom M (zf3 X) v →
      ((match (if ok then Value.tuple #[v,.bool b] else v) with|u=>(execOp a.eval o).run P w=.ok (.value u) w))→zbJ P env o E σ g M a w ⟨if ok then .tup [zf3 X,.pv (.bool b)] else zf3 X,[]⟩:=by
     intro v b X hX hrun
     refine zbJ.pure hR hrun ?_
     cases ok
     ·exact hX
     ·exact .tup _ [v,.bool b] rfl (fun i hi=>by
       match i,hi with
       |0,_=>exact hX
       |1,_=>exact .pv (.bool b))
    rcases zlj hdd hko hkv 0 hE' with ⟨h1,h2⟩|⟨kk,q,en,h1,h2,h3,h4,h5,_⟩
    ·rw [h1]
     refine hres zv false z (hzV _ _ _) ?_
     simp only [execOp,ho,Instr.lookup,Sem.run_bind,zaf w hu,Result.andThen,hxv,hget,Sem.run_pure]
     rw [show (10000:Nat)=9999+1 from rfl,hck]
     simp only [Instr.findKey,Sem.run_bind,zaf w hud,Result.andThen,h2,Sem.run_pure,hzr]
    ·rw [h2]
     refine hres en.val true q h5 ?_
     simp only [execOp,ho,Instr.lookup,Sem.run_bind,zaf w hu,Result.andThen,hxv,hget,Sem.run_pure]
     rw [show (10000:Nat)=9999+1 from rfl,hck]
     simp only [Instr.findKey,Sem.run_bind,zaf w hud,Result.andThen,h4,Sem.run_pure]
   ·cases h
  ·cases h
 ·cases h
theorem zrM {kd:Kd} {p q:PVal} (hp:zc4 kd p=true) (hq:zc4 kd q=true) (h:zfU p q=true) {v u:Value} (hv:Rd M p v) (hu:Rd M q u):Instr.sameBits 10000 u v=true∧u=v:=by
 cases p<;>cases q<;>simp [zfU] at h
 ·obtain ⟨rfl,rfl⟩:=h
  rw [hv.int_inv,hu.int_inv];simp [Instr.sameBits]
 ·subst h
  rw [hv.bool_inv,hu.bool_inv];simp [Instr.sameBits]
 ·subst h
  rw [hv.str_inv,hu.str_inv]
  refine ⟨?_,rfl⟩
  simp only [Instr.sameBits]
  exact zka _
theorem zkb (hR:Rel E σ g M a w) (hG:GOK env M) (hE:zaY P env) {t:TypeId} {m k x:Operand} (ho:o.op=.mapUpdate t m k x)
  (h:aop env o.dst (zah env σ) σ.obj o.op=some e):zbJ P env o E σ g M a w e:=by
 rw [ho] at h
 simp only [aop] at h
 have hm:=zaF (env:=env) hR hG m
 have hk:=zaF (env:=env) hR hG k
 have hx:=zaF (env:=env) hR hG x
 split at h
 ·rename_i ty id key v ht hm' hk' hv'
  rw [hm'] at hm
  rw [hk'] at hk
  obtain ⟨hmv,hd⟩:=hm.map_inv
  have hkv:=hk.pv_inv
  have hxv:=zz7 hx hv'
  split at h
  ·rename_i kd es hkind hob
   split at h
   ·rename_i hc
    obtain ⟨hkd,hko⟩:=hc
    cases h
    obtain ⟨kt,el,hu,hkk,_⟩:=zwV hE ht hkind
    obtain ⟨ents,clock,hh,hsz,hents⟩:=hR.objs id _ hob
    obtain ⟨d,hud,hdd⟩:=zo0 (P:=P) (k:=kt) (kd:=kd) (by rw [hkd,hkk]) hko
    have hE':zuo g σ.dom M kd es ents.toList:=zli (by simpa using hsz) (fun i e he=>by simpa using hents i e he)
    have hlt:g.ρ id<w.heap.size:=(Array.getElem?_eq_some_iff.1 hh).1
    have hl':=zcd hob
    have hget:(getObj (g.ρ id)).run P w=.ok (.map ents clock) w:=by simp [getObj,Sem.run,hh]
    have hset:∀ o':Obj,(setObj (g.ρ id) o').run P w=.ok () { w with heap:=w.heap.setIfInBounds (g.ρ id) o' }:=fun o'=>by simp [setObj,Sem.run,hh]
    have hck:=zmw (P:=P) hud hdd false 9999 (a.eval k) w
    have fin:∀ (ents':Array MapEntry) (clock':Nat),(execOp a.eval o).run P w=.ok .skip { w with heap:=w.heap.setIfInBounds (g.ρ id) (.map ents' clock') } →
      zuo g σ.dom M kd (zqc key v es) ents'.toList→zbJ P env o E σ g M a w ⟨.junk,[(id,.map kd (zqc key v es))]⟩:=by
     intro ents' clock' hrun hents'
     refine ⟨_,undef,_,g,M,hrun,.inr ⟨rfl,rfl⟩,?_,fun _ _=>Gh.agree_refl _ _,Mem.le_refl _⟩
     rw [zeB]
     have hheap:∀ b,({ w with heap:=w.heap.setIfInBounds (g.ρ id) (.map ents' clock') }:World).heap[b]?=if b=g.ρ id then some (.map ents' clock') else w.heap[b]?:=fun b=>by
      simp only [Array.getElem?_setIfInBounds]
      by_cases hb:g.ρ id=b
      ·subst hb;simp [hlt]
      ·rw [if_neg hb,if_neg (fun h=>hb h.symm)]
     have hR':Rel E (σ.set id (.map kd (zqc key v es))) g M a { w with heap:=w.heap.setIfInBounds (g.ρ id) (.map ents' clock') }:=by
      refine hR.update (fun i=>i=id) rfl (fun i hi=>St.obj_set_ne (fun e=>hi e.symm)) (fun i hi=>zbD i hi) (fun i hi=>Gh.agree_refl _ _) ?_ ?_ ?_ ?_ (by simp) rfl rfl rfl
      ·rintro i ob' rfl ho'
       rw [St.obj_set_self hl'] at ho'
       cases ho'
       obtain ⟨h5,h6⟩:=znS hents'
       refine ⟨ents',clock',by rw [hheap,if_pos rfl],by simpa using h5,fun j e he=>?_⟩
       obtain ⟨en,q1,q2,q3,q4⟩:=h6 j e he
       exact ⟨en,by simpa using q1,q2,q3,q4.mono (fun _ _=>Gh.agree_refl _ _) (fun i hi=>zbD i hi) (Mem.le_refl _)⟩
      ·intro b hb hno
       rw [hheap,if_neg (fun hbe=>hno id _ rfl hob (by simp [zbj,hbe]))]
      ·rintro i ob' b rfl ho' hb
       rw [St.obj_set_self hl'] at ho'
       cases ho'
       exact .inr ⟨i,_,rfl,hob,hb⟩
      ·rintro i i' _ _ _ rfl rfl _ _ _ _;rfl
     exact hR'.put o.dst (.junk _)
    have pre:∀ r,Instr.findNow d (a.eval k) ents.toList 0=some r→(execOp a.eval o).run P w =
      ((match r with
       |some (i,_)=>do
        let key ←Instr.keyThatStays (((ents[i]?).map (·.key)).getD (a.eval k)) (a.eval k)
        setObj (g.ρ id) (.map (ents.modify i fun e=>{ e with key,val:=a.eval x }) clock)
       |none=>setObj (g.ρ id) (.map (ents.push { key:=a.eval k,val:=a.eval x,born:=clock }) (clock+1)):Sem Unit).run P w).andThen fun _ w'=>.ok .skip w':=by
     intro r hr
     simp only [execOp,ho,Instr.mapUpdate,Sem.run_bind,zaf w hu,Result.andThen,hmv,hget]
     rw [show (10000:Nat)=9999+1 from rfl,hck]
     simp only [Instr.findKey,Sem.run_bind,zaf w hud,Result.andThen,hr,Sem.run_pure]
     cases r with
     |none=>rfl
     |some q=>cases q;rfl
    rcases zlj hdd hko hkv 0 hE' with ⟨h1,h2⟩|⟨kk,q,en,h1,h2,h3,h4,h5,e0,h6,h7,h8,h9,h10⟩
    ·refine fin (ents.push { key:=a.eval k,val:=a.eval x,born:=clock }) (clock+1) ((pre none h2).trans (by simp only [hset,Result.andThen])) ?_
     rw [zmx h1]
     have:∀ {es':List (PVal × Bool × List PVal)} {l:List MapEntry},zuo g σ.dom M kd es' l→zuo g σ.dom M kd (es'++[(key,v)]) (l++[{ key:=a.eval k,val:=a.eval x,born:=clock }]):=by
      intro es'
      induction es' with
      |nil=>intro l hl;cases l with
       |nil=>exact ⟨hko,hkv,hxv,trivial⟩
       |cons _ _=>exact hl.elim
      |cons e r ih=>intro l hl;cases l with
       |nil=>exact hl.elim
       |cons en s=>exact ⟨hl.1,hl.2.1,hl.2.2.1,ih hl.2.2.2⟩
     simpa using this hE'
    ·have h3':ents[kk]?=some en:=by simpa using h3
     obtain ⟨hb1,hb2⟩:=zrM hko h9 h7 hkv h8
     have hstay:(Instr.keyThatStays (((ents[0+kk]?).map (·.key)).getD (a.eval k)) (a.eval k)).run P w=.ok (a.eval k) w:=by
      rw [Nat.zero_add,h3']
      simp only [Option.map_some,Option.getD_some,Instr.keyThatStays]
      rw [if_pos hb1];rfl
     refine fin (ents.modify (0+kk) fun e=>{ e with key:=a.eval k,val:=a.eval x }) clock ((pre _ h4).trans (by simp only [Sem.run_bind,hstay,Result.andThen,hset])) ?_
     rw [h10 v,Nat.zero_add]
     obtain ⟨hlen,hg⟩:=znS hE'
     refine zli (by simp;simpa using hlen) (fun i e he=>?_)
     by_cases hi:kk=i
     ·subst hi
      have hlt2:kk<es.length:=(List.getElem?_eq_some_iff.1 h6).1
      rw [List.getElem?_set_self hlt2] at he
      cases he
      refine ⟨{ en with key:=a.eval k,val:=a.eval x },?_,hko,hkv,hxv⟩
      simp [h3']
     ·rw [List.getElem?_set_ne hi] at he
      obtain ⟨en',q1,q2,q3,q4⟩:=hg i e he
      refine ⟨en',?_,q2,q3,q4⟩
      simp at q1
      simp [Array.getElem?_modify,hi,q1]
   ·cases h
  ·cases h
 ·cases h
end
end Go.Abs
namespace Go.Abs
open Go
section
variable {P:Program} {env:Env} {o:Oper} {E:Ent} {σ:St} {g:Gh} {M:Mem} {a:Act} {w:World} {e:Eff}
theorem zdF {x y:Operand} {t t':TypeId} {v:Value} {w':World} (ho:o.op=.call ⟨.builtin .append,#[x,y],#[t,t']⟩)
  (h:(Builtin.append_ #[t,t'] o.type #[a.eval x,a.eval y]).run P w=.ok v w'):(execOp a.eval o).run P w=.ok (.value v) w':=by
 simp only [execOp,ho,resolve,Sem.run_bind,Sem.run_pure,Result.andThen,invoke,builtin]
 simp only [List.map_toArray,List.map_cons,List.map_nil,h]
theorem ziR (w:World) (o:Obj) (b:Nat) (h:b<w.heap.size):(w.drew.alloc o).heap[b]?=w.heap[b]?:=by
 show (w.heap.push o)[b]?=_
 rw [Array.getElem?_push,if_neg (by omega)]
theorem zkc (z:Array Value) (n:Nat):(Builtin.zeroCells z n).size=n * z.size:=by simp [Builtin.zeroCells]
theorem zo2 (hE:zaY P env) {t:Nat} {ty:Ty} (ht:env.ty t=some ty) (hk:znN ty.kind=true):∃ d,P.underlying t=some d∧∀ k,d≠.int k:=by
 obtain ⟨i,d,hi,hd,hty⟩:=hE.get ht
 refine ⟨d,hd,fun k hkk=>?_⟩
 subst hkk
 simp only [zj3,hi,hd,Option.some.injEq] at hty
 subst hty
 cases hk
theorem zeU (hR:Rel E σ g M a w) (hG:GOK env M) (hE:zaY P env) (hl:σ.objs.length=env.nobj) {x y:Operand} {t t':TypeId} (ho:o.op=.call ⟨.builtin .append,#[x,y],#[t,t']⟩)
  {d:Nat} (hd:o.dst=some d) {ty ty':Ty} (ht:env.ty t=some ty) (ht':env.ty t'=some ty') (hk:ty.kind=.slice) (hk':znN ty'.kind=true) {ys xs:List (List PVal)}
  (hsrc:zcD σ.obj (zah env σ y)=some ys) (hsite:env.site d<env.nobj) (hn:σ.obj (env.site d)=none) (hby:0<ty.eBytes) (hpos:0<ty.eSize)
  (hroom:zeS (xs.length+ys.length) ty.eBytes=true) (hys:(ys.all fun y=>y.length==ty.eSize)=true) (hez:ty.eZero=true) (hxs:∀ x,x ∈ xs→x.length=ty.eSize)
  (C:Nat→Prop) (σ1:St) (hσ1s:σ1.slots=σ.slots) (hσ1l:σ1.objs.length=σ.objs.length) (hun:∀ i,¬ C i→σ1.obj i=σ.obj i) (hdead:∀ i,C i→σ1.obj i=some .dead) (hCid:¬ C (env.site d))
  (hx:(a.eval x=.slice none 0 0∧xs=[])∨∃ id,C id∧σ.obj id=some (.row ty.eSize xs)∧g.ν id=false∧a.eval x=.slice (some ⟨g.ρ id,0,none⟩) xs.length (g.κ id)) :
  ∃ v w' g' M',(execOp a.eval o).run P w=.ok (.value v) w'∧Rel E ((σ1.set (env.site d) (.row ty.eSize (xs++ys))).app o.dst ⟨.row (env.site d) (xs.length+ys.length),[]⟩) g' M' (a.put o.dst v) w' ∧
   (∀ i,σ.dom i→g.agree g' i)∧Mem.le M M':=by
 obtain ⟨el,hu,hes,heb,hezz⟩:=zck hE ht hk
 obtain ⟨d',hu',hni⟩:=zo2 hE ht' hk'
 have hys':∀ y,y ∈ ys→y.length=ty.eSize:=fun y hy=>by
  rw [List.all_eq_true] at hys
  simpa using hys y hy
 have hall:∀ x,x ∈ xs++ys→x.length=ty.eSize:=fun x hx=>by
  rcases List.mem_append.1 hx with h|h
  ·exact hxs x h
  ·exact hys' x h
 obtain ⟨hyv,cells,hcl,hfc,hrd,hone⟩:=zmu (P:=P) hR hG hsrc ty.eSize hys'
 have hposP:0<zaE P el:=by rw [←hes];exact hpos
 have hbyP:0<zcM P el:=by rw [←heb];exact hby
 have hroomP:(xs.length+ys.length) * zcM P el≤140737488355328:=by
  rw [←heb];simpa [zeS] using hroom
 obtain ⟨z,hz,hzsz⟩:=zms (P:=P) (el:=el) (hezz ▸ hez)
 have hmul:∀ i n,i<n→i * ty.eSize+ty.eSize≤n * ty.eSize:=fun i n h=>by
  have:(i+1) * ty.eSize≤n * ty.eSize:=Nat.mul_le_mul_right _ h
  rw [Nat.add_mul] at this;omega
 have grow:∀ (base:Option Addr) (sCap:Nat) (old:List Value),a.eval x=.slice base xs.length sCap→¬ xs.length+ys.length≤sCap→old.length=xs.length * ty.eSize →
   (∀ w':World,w'.heap=w.heap→(Builtin.firstCells ty.eSize xs.length (.slice base xs.length sCap)).run P w'=.ok old.toArray w') →
   (∀ i j,i<xs.length→j<ty.eSize→Rd M (zbW xs i j) (old.getD (i * ty.eSize+j) undef)) →
   ∃ v w' g' M',(execOp a.eval o).run P w=.ok (.value v) w'∧Rel E ((σ1.set (env.site d) (.row ty.eSize (xs++ys))).app o.dst ⟨.row (env.site d) (xs.length+ys.length),[]⟩) g' M' (a.put o.dst v) w' ∧
    (∀ i,σ.dom i→g.agree g' i)∧Mem.le M M':=by
  intro base sCap old hv hfit hol hold hord
  rw [hes] at hold
  obtain ⟨newCap,hnc,hrun⟩:=zeT (ty:=o.type) hu hu' hni hposP hbyP hz hyv hfit hroomP (cells:=cells) (old:=old) (fun w' hw'=>by
   rw [←hes];exact hfc w' (fun b _=>by rw [hw'])) hold
  have hrun':=zdF ho (by rw [hv];exact hrun)
  obtain ⟨g',M',h1,h2,h3⟩:=zdE (n:=xs.length+ys.length) (sz:=ty.eSize) (zs:=xs++ys) (b:=w.heap.size) (c:=newCap) (nu:=false) hR hl hd hsite hn C σ1 hσ1s hσ1l hun hdead hCid (by simp) hall hrun' rfl rfl rfl (by
    show w.heap.size≤(w.heap.push _).size
    simp) (fun b hb _=>ziR _ _ _ hb) (.inl ⟨rfl,rfl⟩) (fun _=>.inl (Nat.le_refl _)) (fun _=>by
   refine ⟨_,.zero _ el,zbu w.drew _,hnc,?_,fun i j hi hj=>?_⟩
   ·rw [Array.size_append,Array.size_append,zkc]
    simp only [List.size_toArray,hol,hcl]
    rw [hzsz,←hes,←Nat.add_mul,←Nat.add_mul]
    exact Nat.mul_le_mul_right _ (by omega)
   ·have hlt:i * ty.eSize+j<old.length+cells.length:=by
     rw [hol,hcl,←Nat.add_mul];have:=hmul i _ hi;omega
    rw [zku _ _ _ _ hlt,zfb,hol]
    by_cases hix:i<xs.length
    ·have:=hmul i _ hix
     rw [if_pos hix,if_pos (by omega)]
     exact hord i j hix hj
    ·have h5:xs.length * ty.eSize≤i * ty.eSize:=Nat.mul_le_mul_right _ (by omega)
     rw [if_neg hix,if_neg (by omega)]
     have e1:i * ty.eSize+j - xs.length * ty.eSize=(i - xs.length) * ty.eSize+j:=by
      rw [Nat.sub_mul];omega
     rw [e1]
     exact hrd (i - xs.length) j (by omega) hj)
  exact ⟨_,_,g',M',hrun',h1,h2,h3⟩
 rcases hx with ⟨hv,rfl⟩|⟨id,hCi,hob,hnu,hv⟩
 ·by_cases hy0:ys.length=0
  ·have hyn:ys=[]:=List.eq_nil_of_length_eq_zero hy0
   subst hyn
   have hcn:cells=[]:=List.eq_nil_of_length_eq_zero (by simpa using hcl)
   subst hcn
   have hrun:=zfa (P:=P) (ty:=o.type) (base:=none) (sLen:=0) (sCap:=0) hu hu' hni hposP hyv (by simp) (w:=w) (w1:=w) (cells:=[]) (by rw [←hes];exact hfc w (fun _ _=>rfl)) (fun b hb=>by cases hb) (fun _=>rfl)
   have hrun':=zdF ho (by rw [hv];exact hrun)
   obtain ⟨g',M',h1,h2,h3⟩:=zdE (n:=0) (sz:=ty.eSize) (zs:=[]) (b:=0) (c:=0) (nu:=true) hR hl hd hsite hn C σ1 hσ1s hσ1l hun hdead hCid rfl (by simp) hrun' rfl rfl rfl (Nat.le_refl _) (fun _ _ _=>rfl) (.inr ⟨rfl,rfl,rfl⟩) (fun h=>by cases h) (fun h=>by cases h)
   exact ⟨_,_,g',M',hrun',h1,h2,h3⟩
  ·exact grow none 0 [] (by simpa using hv) (by simp only [List.length_nil];omega) (by simp) (fun w' _=>rfl) (fun i j hi=>by simp at hi)
 ·obtain ⟨_,_,hrw⟩:=hR.objs id _ hob
  obtain ⟨vals,T,hh,h4,h5,h6⟩:=hrw hnu
  have hblt:g.ρ id<w.heap.size:=(Array.getElem?_eq_some_iff.1 hh).1
  by_cases hfit:xs.length+ys.length≤g.κ id
  ·have hle:(xs.length+ys.length) * ty.eSize≤g.κ id * ty.eSize:=Nat.mul_le_mul_right _ hfit
   rw [Nat.add_mul] at hle
   have hst:=zdm (P:=P) (g.ρ id) T.p cells 0 (xs.length * ty.eSize) vals w hh T.ok (by rw [hcl];omega) hone
   have hrun:=zfa (P:=P) (ty:=o.type) (base:=some ⟨g.ρ id,0,none⟩) (sLen:=xs.length) (sCap:=g.κ id) hu hu' hni hposP hyv hfit (w:=w) (cells:=cells) (by rw [←hes];exact hfc w (fun _ _=>rfl))
    (fun b hb=>by cases hb;rw [zcj,Nat.zero_add,←hes];exact hst) (fun h=>by cases h)
   have hrun':=zdF ho (by rw [hv];exact hrun)
   have hos:(zaZ vals (xs.length * ty.eSize+0) cells).size=vals.size:=zaX (by rw [hcl];omega)
   obtain ⟨g',M',h1,h2,h3⟩:=zdE (n:=xs.length+ys.length) (sz:=ty.eSize) (zs:=xs++ys) (b:=g.ρ id) (c:=g.κ id) (nu:=false) hR hl hd hsite hn C σ1 hσ1s hσ1l hun hdead hCid (by simp) hall hrun' rfl rfl rfl (by simp [zdo])
    (fun b hb hno=>by rw [zcE w _ _ T.p hblt,if_neg (fun hbe=>hno id _ hCi hob (by simp [zbj,hnu,hbe]))]) (.inl ⟨rfl,rfl⟩) (fun _=>.inr ⟨id,_,hCi,hob,by simp [zbj,hnu]⟩) (fun _=>by
     refine ⟨_,T.over hos,by rw [zcE w _ _ T.p hblt,if_pos rfl];rfl,hfit,by rw [hos];exact h5,fun i j hi hj=>?_⟩
     rw [za9 (by rw [hcl];omega),zfb,hcl]
     by_cases hix:i<xs.length
     ·have:=hmul i _ hix
      rw [if_pos hix,if_neg (by omega)]
      exact h6 i j hix hj
     ·have h7:xs.length * ty.eSize≤i * ty.eSize:=Nat.mul_le_mul_right _ (by omega)
      have h8:=hmul i _ hi
      rw [Nat.add_mul] at h8
      rw [if_neg hix,if_pos (by omega)]
      have e1:i * ty.eSize+j - (xs.length * ty.eSize+0)=(i - xs.length) * ty.eSize+j:=by
       rw [Nat.sub_mul];omega
      rw [e1]
      exact hrd (i - xs.length) j (by omega) hj)
   exact ⟨_,_,g',M',hrun',h1,h2,h3⟩
  ·refine grow (some ⟨g.ρ id,0,none⟩) (g.κ id) ((List.range (xs.length * ty.eSize)).map fun q=>vals.getD q undef) hv hfit (by simp) (fun w' hw'=>?_) (fun i j hi hj=>?_)
   ·simp only [Builtin.firstCells]
    have hle:xs.length * ty.eSize≤g.κ id * ty.eSize:=Nat.mul_le_mul_right _ h4
    rw [run_loadCells w' ⟨g.ρ id,0,none⟩ (xs.length * ty.eSize) (fun q=>vals.getD q undef) (fun q hq=>by
     rw [zcj,Nat.zero_add]
     have hh':w'.heap[g.ρ id]?=some (.cells vals T.p.1 T.p.2):=by rw [hw'];exact hh
     rw [cell_of_heap hh']
     have:q<vals.size:=by omega
     simp [this])]
   ·have:=hmul i _ hi
    have e1:((List.range (xs.length * ty.eSize)).map fun q=>vals.getD q undef).getD (i * ty.eSize+j) undef=vals.getD (i * ty.eSize+j) undef:=by
     have hlt:i * ty.eSize+j<xs.length * ty.eSize:=by omega
     simp only [List.getD_eq_getElem?_getD,List.getElem?_map,List.getElem?_range hlt,Option.map_some,Option.getD_some]
    rw [e1];exact h6 i j hi hj
theorem ziS (hR:Rel E σ g M a w) (hG:GOK env M) (hE:zaY P env) {x y:Operand} {t t':TypeId} (ho:o.op=.call ⟨.builtin .append,#[x,y],#[t,t']⟩)
  {ty ty':Ty} (ht:env.ty t=some ty) (ht':env.ty t'=some ty') (hk:ty.kind=.slice) (hk':znN ty'.kind=true) {ys xs:List (List PVal)}
  (hsrc:zcD σ.obj (zah env σ y)=some ys) (hby:0<ty.eBytes) (hy0:0<ys.length) (hpos:0<ty.eSize)
  (hroom:zeS (xs.length+ys.length) ty.eBytes=true) (hys:(ys.all fun y=>y.length==ty.eSize)=true) (hez:ty.eZero=true) (hxs:∀ x,x ∈ xs→x.length=ty.eSize)
  (hx:Rd M (.xsl xs) (a.eval x)):zbJ P env o E σ g M a w ⟨.pv (.slice (xs++ys)),[]⟩:=by
 obtain ⟨el,hu,hes,heb,hezz⟩:=zck hE ht hk
 obtain ⟨d',hu',hni⟩:=zo2 hE ht' hk'
 have hys':∀ y,y ∈ ys→y.length=ty.eSize:=fun y hy=>by
  rw [List.all_eq_true] at hys
  simpa using hys y hy
 have hall:∀ x,x ∈ xs++ys→x.length=ty.eSize:=fun x hx=>by
  rcases List.mem_append.1 hx with h|h
  ·exact hxs x h
  ·exact hys' x h
 obtain ⟨hyv,cells,hcl,hfc,hrd,hone⟩:=zmu (P:=P) hR hG hsrc ty.eSize hys'
 have hposP:0<zaE P el:=by rw [←hes];exact hpos
 have hbyP:0<zcM P el:=by rw [←heb];exact hby
 have hroomP:(xs.length+ys.length) * zcM P el≤140737488355328:=by
  rw [←heb];simpa [zeS] using hroom
 obtain ⟨z,hz,hzsz⟩:=zms (P:=P) (el:=el) (hezz ▸ hez)
 have hmul:∀ i n,i<n→i * ty.eSize+ty.eSize≤n * ty.eSize:=fun i n h=>by
  have:(i+1) * ty.eSize≤n * ty.eSize:=Nat.mul_le_mul_right _ h
  rw [Nat.add_mul] at this;omega
 generalize hv:a.eval x=v at hx
 cases hx with
 |xsl _ sz b off us q1 q2 q3=>
  have hsz:0<xs.length→sz=ty.eSize:=fun h=>by
   have h1:=List.getElem_mem h
   rw [←q1 _ h1,hxs _ h1]
  let old:List Value:=(List.range (xs.length * ty.eSize)).map fun q=>us (q / ty.eSize) (q % ty.eSize)
  have hol:old.length=xs.length * ty.eSize:=by simp [old]
  have hold:∀ w':World,w'.heap=w.heap→(Builtin.firstCells (zaE P el) xs.length (.slice (some ⟨b,off,none⟩) xs.length xs.length)).run P w'=.ok old.toArray w':=fun w' hw'=>by
   rw [←hes]
   simp only [Builtin.firstCells]
   rw [run_loadCells w' ⟨b,off,none⟩ (xs.length * ty.eSize) (fun q=>us (q / ty.eSize) (q % ty.eSize)) (fun q hq=>by
    have hi:q / ty.eSize<xs.length:=Nat.div_lt_of_lt_mul (by rw [Nat.mul_comm];exact hq)
    have hj:q % ty.eSize<ty.eSize:=Nat.mod_lt _ hpos
    have h1:=hsz (Nat.lt_of_le_of_lt (Nat.zero_le _) hi)
    have:=hR.sat _ _ _ (q2 _ _ hi (by rw [h1];exact hj))
    rw [h1,Nat.add_assoc,Nat.mul_comm,Nat.div_add_mod] at this
    rw [zcj]
    simpa [World.cell?,hw'] using this)]
  have hord:∀ i j,i<xs.length→j<ty.eSize→Rd M (zbW xs i j) (old.getD (i * ty.eSize+j) undef):=fun i j hi hj=>by
   have:=hmul i _ hi
   have hlt:i * ty.eSize+j<xs.length * ty.eSize:=by omega
   have e1:old.getD (i * ty.eSize+j) undef=us i j:=by
    simp only [old,List.getD_eq_getElem?_getD,List.getElem?_map,List.getElem?_range hlt,Option.map_some,Option.getD_some]
    rw [Nat.mul_comm i,Nat.mul_add_div hpos,Nat.mul_add_mod,Nat.div_eq_of_lt hj,Nat.mod_eq_of_lt hj,Nat.add_zero]
   rw [e1]
   exact q3 i j hi (by rw [hsz (by omega)];exact hj)
  obtain ⟨newCap,hnc,hrun⟩:=zeT (ty:=o.type) hu hu' hni hposP hbyP hz hyv (by omega:¬ xs.length+ys.length≤xs.length) hroomP (cells:=cells) (old:=old) (fun w' hw'=>by
   rw [←hes];exact hfc w' (fun b _=>by rw [hw'])) hold
  have hrun':=zdF ho (by rw [hv];exact hrun)
  obtain ⟨hM,hR'⟩:=hR.drew.allocM (old.toArray++cells.toArray++Builtin.zeroCells z.cells (newCap - (xs.length+ys.length))) el
  refine ⟨_,_,_,g,_,hrun',.inl rfl,hR'.put o.dst (.pv ?_),fun _ _=>Gh.agree_refl _ _,hM⟩
  have e0:Value.slice (some ⟨w.heap.size,0,none⟩) (xs.length+ys.length) newCap=.slice (some ⟨w.heap.size,0,none⟩) (xs++ys).length newCap:=by rw [List.length_append]
  rw [e0]
  have hget:∀ i j,i<(xs++ys).length→j<ty.eSize→i * ty.eSize+j<old.length+cells.length:=fun i j hi hj=>by
   rw [List.length_append] at hi
   rw [hol,hcl,←Nat.add_mul];have:=hmul i _ hi;omega
  refine .slice (xs++ys) ty.eSize w.heap.size 0 newCap (fun i j=>(old.toArray++cells.toArray++Builtin.zeroCells z.cells (newCap - (xs.length+ys.length))).getD (i * ty.eSize+j) undef) hall (fun i j hi hj=>?_) (fun i j hi hj=>?_) (by rw [List.length_append];exact hnc)
  ·have h1:=hget i j hi hj
   show (if w.heap.size=w.drew.heap.size then _ else _)=_
   rw [if_pos (show w.heap.size=w.drew.heap.size from rfl),Nat.zero_add]
   have:i * ty.eSize+j<(old.toArray++cells.toArray++Builtin.zeroCells z.cells (newCap - (xs.length+ys.length))).size:=by
    rw [Array.size_append,Array.size_append];simp only [List.size_toArray];omega
   generalize old.toArray++cells.toArray++Builtin.zeroCells z.cells (newCap - (xs.length+ys.length))=A at *
   simp [this]
  ·refine Rd.mono hM ?_
   have hlt:=hget i j hi hj
   rw [zku _ _ _ _ hlt,zfb,hol]
   by_cases hix:i<xs.length
   ·have:=hmul i _ hix
    rw [if_pos hix,if_pos (by omega)]
    exact hord i j hix hj
   ·have h5:xs.length * ty.eSize≤i * ty.eSize:=Nat.mul_le_mul_right _ (by omega)
    rw [List.length_append] at hi
    rw [if_neg hix,if_neg (by omega)]
    have e1:i * ty.eSize+j - xs.length * ty.eSize=(i - xs.length) * ty.eSize+j:=by
     rw [Nat.sub_mul];omega
    rw [e1]
    exact hrd (i - xs.length) j (by omega) hj
theorem znU (hR:Rel E σ g M a w) (hG:GOK env M) (hE:zaY P env) (hl:σ.objs.length=env.nobj) {args:Array Operand} {tys:Array TypeId} (ho:o.op=.call ⟨.builtin .append,args,tys⟩)
  (h:aop env o.dst (zah env σ) σ.obj o.op=some e):zbJ P env o E σ g M a w e:=by
 rw [ho] at h
 simp only [aop] at h
 split at h
 ·rename_i x y t t' d hargs htys hd
  have e1:=zkr hargs
  have e2:=zkr htys
  subst e1 e2
  have hx:=zaF (env:=env) hR hG x
  split at h
  ·rename_i ty ty' ht ht' hn
   split at h
   ·rename_i ys hk hk' hsrc
    split at h
    ·rename_i hx'
     split at h
     ·rename_i hc
      obtain ⟨c1,c2,c3,c5,c6,c7⟩:=hc
      cases h
      rw [hx'] at hx
      generalize hv:a.eval x=v at hx
      cases hx
      obtain ⟨v,w',g',M',h1,h2,h3,h4⟩:=zeU (xs:=[]) hR hG hE hl ho hd ht ht' hk hk' hsrc c1 hn c2 c3 (by simpa using c5) c6 c7 (by simp) (fun _=>False) σ rfl rfl (fun _ _=>rfl) (fun _ h=>h.elim) (fun h=>h) (.inl ⟨hv,rfl⟩)
      refine ⟨_,v,w',g',M',h1,.inl rfl,?_,h3,h4⟩
      rw [zeB]
      simpa using h2
     ·cases h
    ·rename_i id n hx'
     split at h
     ·rename_i sz xs hob
      split at h
      ·rename_i hc
       obtain ⟨c1,c2,c3,c4,rfl,c6,c8,c9,c10⟩:=hc
       cases h
       rw [hx'] at hx
       obtain ⟨r1,r2,_⟩:=hR.objs id _ hob
       have hlen:=zcd hob
       have hxx:(a.eval x=.slice none 0 0∧xs=[])∨∃ i,i=id∧σ.obj i=some (.row ty.eSize xs)∧g.ν i=false∧a.eval x=.slice (some ⟨g.ρ i,0,none⟩) xs.length (g.κ i):=by
        generalize hv:a.eval x=v at hx
        cases hx with
        |rown _ _ hnu=>exact .inl ⟨rfl,r2 hnu⟩
        |row _ _ _ hnu=>exact .inr ⟨id,rfl,hob,hnu,by rw [c4]⟩
       obtain ⟨v,w',g',M',h1,h2,h3,h4⟩:=zeU (xs:=xs) hR hG hE hl ho hd ht ht' hk hk' hsrc c1 hn c3 c6 c8 c9 c10 r1 (fun i=>i=id) (σ.set id .dead) rfl (by simp [St.set]) (fun i hi=>St.obj_set_ne (fun e=>hi e.symm))
        (fun i hi=>by rw [hi];exact St.obj_set_self hlen) c2 hxx
       refine ⟨_,v,w',g',M',h1,.inl rfl,?_,h3,h4⟩
       rw [zrK]
       subst c4
       exact h2
      ·cases h
     ·cases h
    ·rename_i xs hx'
     split at h
     ·rename_i hc
      obtain ⟨c2,c3,c4,c5,c6,c7,c8⟩:=hc
      cases h
      rw [hx'] at hx
      exact ziS hR hG hE ho ht ht' hk hk' hsrc c2 c3 c4 c5 c6 c7 (fun y hy=>by
       rw [List.all_eq_true] at c8
       simpa using c8 y hy) hx.pv_inv
     ·cases h
    ·cases h
   ·cases h
  ·cases h
 ·cases h
theorem zrN (hE:zaY P env) {t:Nat} {ty:Ty} (ht:env.ty t=some ty) (hk:ty.kind=.slice):∃ el,P.underlying t=some (.slice el)∧ty.eSize=zaE P el∧ty.eBytes=zcM P el∧ty.eZV=zxn P el:=by
 obtain ⟨i,d,hi,hd,hty⟩:=hE.get ht
 simp only [zj3,hi,hd,Option.some.injEq] at hty
 subst hty
 cases d<;>simp at hk
 exact ⟨_,hd,rfl,rfl,rfl⟩
theorem zqp (n:Nat) (f:Nat→Value) (j:Nat) (h:j<n):((Array.range n).map f).getD j undef=f j:=by
 simp [Array.getD,h]
theorem zkd (hR:Rel E σ g M a w) (hG:GOK env M) (hE:zaY P env) (hl:σ.objs.length=env.nobj) {t:TypeId} {len cap:Operand} (ho:o.op=.makeSlice t len cap)
  (h:aop env o.dst (zah env σ) σ.obj o.op=some e):zbJ P env o E σ g M a w e:=by
 rw [ho] at h
 simp only [aop] at h
 split at h
 ·rename_i ty d ht hd
  split at h
  ·rename_i k n k' c hkind hln hcp
   split at h
   ·rename_i z hz hn
    split at h
    ·rename_i ps hps
     split at h
     ·rename_i hc
      obtain ⟨h1,h2,rfl,h4,h5,h6,h7⟩:=hc
      cases h
      obtain ⟨el,hu,hes,heb,hez⟩:=zrN hE ht hkind
      rw [hez] at hz
      obtain ⟨zv,hzr,hzV⟩:=zo1 (P:=P) hz
      obtain ⟨i,hi⟩:∃ i,P.info? el=some i:=by
       unfold zxn at hz
       cases hi:P.info? el with
       |none=>rw [hi] at hz;cases hz
       |some i=>exact ⟨i,rfl⟩
      have hsz:i.size=ty.eSize:=by rw [hes];simp [zaE,hi]
      have hby:i.bytes=ty.eBytes:=by rw [heb];simp [zcM,hi]
      have hcell:=zlf hps
      have hpl:=zcF hps
      obtain ⟨zs,hzc⟩:=zgf (hzV g σ.dom M) hcell
      have hx:=zaF (env:=env) hR hG len
      have hy:=zaF (env:=env) hR hG cap
      rw [hln] at hx
      rw [hcp] at hy
      have ex:=hx.int_inv
      have ey:=hy.int_inv
      obtain ⟨m,rfl⟩:=Int.eq_ofNat_of_zero_le h2
      have hmle:(m:Int)≤140737488355328:=by
       have:(m:Int) * 1≤(m:Int) * ty.eBytes:=Int.mul_le_mul_of_nonneg_left (by omega) (by omega)
       omega
      have hwr:IntKind.i64.wrap (m:Int)=m:=IntWalk.i64_in _ ⟨by omega,by omega⟩
      have hsize:zv.cells.size=ty.eSize:=by rw [zs,←hpl,h7]
      let vals:=(Array.range (m * ty.eSize)).map (fun j=>(zv.cells)[j % zv.cells.size]!)
      have hrun:(execOp a.eval o).run P w=.ok (.value (.slice (some ⟨w.heap.size,0,none⟩) m m)) (w.alloc (.cells vals el)):=by
       have hlarge:¬ ((i.bytes:Int) * (m:Int) > 281474976710656):=by
        rw [hby,Int.mul_comm];omega
       have hsr:(sizeOf el).run P w=.ok i.size w:=by simp [sizeOf,za8 w hi]
       have hai:∀ k:IntKind,(asInt (.int k (m:Int))).run P w=.ok (m:Int) w:=fun k=>by simp [asInt,asIntOf]
       simp only [execOp,ho,Instr.makeSlice,Sem.run_bind,zaf w hu,Result.andThen,ex,ey,hai,Sem.run_pure,za8 w hi,hwr]
       rw [if_neg (by simp only [Bool.or_eq_true,decide_eq_true_eq,show ((2:Int) ^ 48)=281474976710656 from rfl];omega)]
       simp only [Sem.run_bind,run_askRoom,Result.andThen,hsr,Int.toNat_natCast,hsz]
       by_cases hm:m * ty.eSize=0
       ·have hm0:m=0:=by
         rcases Nat.mul_eq_zero.1 hm with h|h
         ·exact h
         ·omega
        subst hm0
        have e0:∀ f:Nat→Value,Array.map f (Array.range (0 * ty.eSize))=#[]:=fun f=>by apply Array.eq_empty_of_size_eq_zero;simp
        have e1:∀ f:Nat→Value,Array.map f (Array.range 0)=#[]:=fun f=>by apply Array.eq_empty_of_size_eq_zero;simp
        simp [newRow,vals,e0,e1]
       ·rw [if_neg hm]
        simp only [Sem.run_bind,hzr,Result.andThen,Sem.run_pure,newRow,run_newObj,vals]
        rfl
      have hrow:∀ i' j',i'<m→j'<ty.eSize→Rd M (zbW (List.replicate m ps) i' j') (vals.getD (i' * ty.eSize+j') undef):=by
       intro i' j' hi' hj'
       have hlt:i' * ty.eSize+j'<m * ty.eSize:=by
        have:=Nat.mul_le_mul_right ty.eSize (show i'+1≤m by omega)
        rw [Nat.add_mul] at this;omega
       have e1:vals.getD (i' * ty.eSize+j') undef=zv.cells.getD j' undef:=by
        have hm:(i' * ty.eSize+j') % zv.cells.size=j':=by
         rw [hsize,Nat.add_comm,Nat.add_mul_mod_self_right,Nat.mod_eq_of_lt hj']
        simp only [vals]
        rw [zqp _ _ _ hlt,hm]
        have hj2:j'<zv.cells.size:=by omega
        simp [Array.getD,hj2]
       have e2:zbW (List.replicate m ps) i' j'=ps.getD j' .nilptr:=by simp [zbW,List.getD,hi']
       rw [e1,e2]
       exact zmr (hzc j' (by omega)).1 (zd9 hps j' (by omega))
      obtain ⟨g',M',hR',hag,hM⟩:=zdE (o:=o) hR hl hd h1 hn (fun _=>False) σ rfl rfl (fun _ _=>rfl) (fun _ h=>h.elim) (fun h=>h) (sz:=ty.eSize) (n:=m) (zs:=List.replicate m ps) (by simp) (by intro x hx;rw [List.eq_of_mem_replicate hx];exact h7) hrun rfl rfl rfl (by simp) (fun b hb _=>by show (w.heap.push _)[b]?=_;rw [Array.getElem?_push,if_neg (Nat.ne_of_lt hb)]) w.heap.size m false (.inl ⟨rfl,rfl⟩) (fun _=>.inl (Nat.le_refl _)) (fun _=>⟨vals,.zero _ el,zbu _ _,Nat.le_refl _,by simp [vals],hrow⟩)
      exact ⟨_,_,_,g',M',hrun,.inl rfl,hR',hag,hM⟩
     ·cases h
    ·cases h
   ·cases h
  ·cases h
 ·cases h
theorem zgy (hR:Rel E σ g M a w) (hG:GOK env M) (hE:zaY P env) {t:TypeId} {x:Operand} (ho:o.op=.makeInterface t x)
  (h:aop env o.dst (zah env σ) σ.obj o.op=some e):zbJ P env o E σ g M a w e:=by
 rw [ho] at h
 simp only [aop] at h
 have hx:=zaF (env:=env) hR hG x
 split at h
 ·rename_i ty ht
  split at h
  ·cases h
  ·rename_i hk
   obtain ⟨i,d,hi,hd,hty⟩:=hE.get ht
   have hnd:∀ ms,d≠.interface ms:=fun ms e=>by
    subst e
    simp only [zj3,hi,hd,Option.some.injEq] at hty
    subst hty
    exact hk rfl
   have hrun:∀ v,a.eval x=v→(execOp a.eval o).run P w=.ok (.value (.iface t v)) w:=fun v hv=>by
    simp only [execOp,ho,hv,Instr.makeInterface,Sem.run_bind,zaf w hd,Result.andThen]
    cases d<;>first|rfl|exact absurd rfl (hnd _)
   split at h
   ·rename_i cs hc
    split at h
    ·rename_i ps hps
     cases h
     rw [hc] at hx
     generalize hv0:a.eval x=u at hx
     cases hx with
     |agg cs vs hl hV=>
      have hlen:=zcF hps
      refine zbJ.pure hR (hrun _ hv0) (.pv (.ifca t ps vs (by omega) (fun i hi=>?_)))
      exact zmr (hV i (by omega)) (zd9 hps i (by omega))
    ·cases h
   ·rename_i p hc
    cases h
    rw [hc] at hx
    refine zbJ.pure hR (hrun _ rfl) (.pv (.ifco t p _ hx.pv_inv))
   ·cases h
 ·cases h
theorem ziT (hR:Rel E σ g M a w) (hG:GOK env M) (hE:zaY P env) {t t0:TypeId} {x:Operand} {ok:Bool} (ho:o.op=.typeAssert x t0 t ok)
  (h:aop env o.dst (zah env σ) σ.obj o.op=some e):zbJ P env o E σ g M a w e:=by
 rw [ho] at h
 simp only [aop] at h
 have hx:=zaF (env:=env) hR hG x
 split at h
 ·rename_i ty t' ag cs ht hc
  split at h
  ·rename_i hcc
   obtain ⟨hk,rfl,rfl⟩:=hcc
   cases h
   rw [hc] at hx
   obtain ⟨i,d,hi,hd,hty⟩:=hE.get ht
   have hnd:∀ ms,d≠.interface ms:=fun ms e=>by
    subst e
    simp only [zj3,hi,hd,Option.some.injEq] at hty
    subst hty
    exact hk rfl
   have hrun:∀ v,a.eval x=.iface t' v→(execOp a.eval o).run P w=.ok (.value (.tuple #[v,.bool true])) w:=fun v hv=>by
    simp only [execOp,ho,hv,Instr.typeAssert,Sem.run_bind,zaf w hd,Result.andThen]
    cases d<;>first|simp [Result.andThen]|exact absurd rfl (hnd _)
   have hr:=hx.pv_inv
   have htup:∀ (y:AVal) (v:Value),V g σ.dom M y v→V g σ.dom M (.tup [y,.pv (.bool true)]) (.tuple #[v,.bool true]):=fun y v hv=>
    .tup [y,.pv (.bool true)] [v,.bool true] rfl (fun i hi=>by
     match i,hi with
     |0,_=>exact hv
     |1,_=>exact .pv (.bool true))
   generalize hv0:a.eval x=u at hr
   cases hr with
   |ifca t cs vs hl hV=>
    refine zbJ.pure hR (hrun _ hv0) (htup _ _ ?_)
    rw [if_pos rfl]
    exact .agg _ vs (by simpa using hl) (fun i hi=>by
     have hi':i<cs.length:=by simpa using hi
     have e1:(cs.map AVal.pv).getD i .junk=.pv (cs.getD i .nilptr):=by simp [List.getD,hi']
     rw [e1]
     exact .pv (hV i hi'))
   |ifco t c v hV=>
    refine zbJ.pure hR (hrun _ hv0) (htup _ _ ?_)
    exact .pv hV
  ·cases h
 ·cases h
theorem zh5 (hR:Rel E σ g M a w) (hG:GOK env M) (hE:zaY P env) (hl:σ.objs.length=env.nobj)
  (h:aop env o.dst (zah env σ) σ.obj o.op=some e):zbJ P env o E σ g M a w e:=by
 cases ho:o.op with
 |move x=>rw [ho] at h;simp only [aop,Option.some.injEq] at h;exact zmn hR hG (.inl ho) h.symm
 |assign x=>rw [ho] at h;simp only [aop,Option.some.injEq] at h;exact zmn hR hG (.inr ho) h.symm
 |pick c x y=>exact zrA hR hG ho h
 |alloc t=>exact zqg hR hE hl ho h
 |box t x=>exact zum hR hG hl ho h
 |build t ps=>exact zqj hR hG hE ho h
 |buildSlice t n ps=>exact ziO hR hG hE hl ho h
 |load t p=>exact zrJ hR hG hE ho h
 |store t p x=>exact znR hR hG hE ho h
 |nilCheck x=>exact zk9 hR hG ho h
 |binOp op t x y t'=>exact zqe hR hG hE ho h
 |unOp op t x=>exact zrB hR hG ho h
 |convert s d x=>
  by_cases hc:∃ ty,env.ty d=some ty∧ty.kind=.slice
  ·obtain ⟨ty,h1,h2⟩:=hc
   exact zlh hR hG hE ho h1 h2 h
  ·exact zmq hR hG hE ho (fun ty h1 h2=>hc ⟨ty,h1,h2⟩) h
 |fieldAddr s x k=>exact zj8 hR hG hE ho h
 |indexAddr t x i=>exact zj9 hR hG hE ho h
 |index t x i=>exact zqf hR hG hE ho h
 |extract x k=>exact zmo hR hG ho h
 |makeFunc fn first cap=>exact zlc hR hG ho h
 |makeInterface t x=>exact zgy hR hG hE ho h
 |typeAssert x t0 t ok=>exact ziT hR hG hE ho h
 |makeMap t r=>exact zmy hR hE hl ho h
 |makeSlice t n c=>exact zkd hR hG hE hl ho h
 |lookup t x k ok=>exact znT hR hG hE ho h
 |mapUpdate t m k x=>exact zkb hR hG hE ho h
 |slice t x lo hi mx=>exact zqn hR hG hE ho h
 |call c=>
  obtain ⟨cl,args,tys⟩:=c
  cases cl with
  |builtin b=>
   cases b with
   |len=>exact zuj hR hG hE ho h
   |max=>exact zuk hR hG ho h
   |min=>exact zul hR hG ho h
   |append=>exact znU hR hG hE hl ho h
   |_=>rw [ho] at h;simp [aop] at h
  |value f=>rw [ho] at h;simp [aop] at h
  |invoke r m=>rw [ho] at h;simp [aop] at h
 |_=>rw [ho] at h;simp [aop] at h
end
end Go.Abs
