/- A sound walk of the program by abstract states, part 3: its theorems have no condition beyond what they state. -/
import Derived.Test.YtfinhhblcdkpgaaGreatDoorLib2
import Derived.Shelf.Strings.Builder1
import Derived.Shelf.Strings.Split
import Derived.Lib.ParseIntB
import Derived.Lib.Bytealg
import Derived.Lib.Join
import Derived.Lib.ItoaNum
set_option maxRecDepth 100000
set_option maxHeartbeats 64000000
set_option linter.unusedSimpArgs false
set_option linter.unusedVariables false
set_option linter.defProp false
namespace Go.Abs
open Go Go.Proofs Go.Shelf Go.RowKit
def zC9 (w:World) (v v':Value):Prop:=v'.ownBlock=v.ownBlock∨∃ g,v'.ownBlock=some g∧w.heap.size≤g
structure AppR (w:World) (e:TypeId) (v v':Value) (n:Nat) (xs:List Value) (w':World):Prop where
 own:w'.ownsRow 0 e 1 v' n xs
 grow:w.grownBy w' v.ownBlock
 place:zC9 w v v'
section
variable {P:Program} (w:World)
theorem ztE (t u ty e:TypeId) (i:TypeInfo) (ht:P.underlying t=some (.slice e)) (hu:P.underlying u=some .string) (hi:P.info? e=some i) (hz:i.zero=some (.int .u8 0))
  (hsize:i.size=1) (hby:i.bytes=1) (v:Value) (n:Nat) (xs:List Value) (hown:w.ownsRow 0 e 1 v n xs) (s:ByteArray) (hbytes:n+s.size≤140737488355328) :
  ∃ v' w',(Builtin.append_ #[t,u] ty #[v,.string s]).run P w=.ok v' w'∧AppR w e v v' (n+s.size) (xs++Lib.strCells s) w':=by
 obtain ⟨v',w',hr,h2,h3,h4⟩:=Lib.run_append_own_string (P:=P) w 0 t u ty e i ht hu hi hz hsize hby v n xs hown s (by unfold maxLen;omega) hbytes (Nat.zero_le _)
 refine ⟨v',w',hr,h2,h3,?_⟩
 have hxl:xs.length=n:=by simpa using hown.1
 rcases hown.2 with ⟨rfl,rfl⟩|⟨g,cap,cur,rfl,hbg,hg,hnc,hcm,hcs,htake⟩
 ·by_cases hm:s.size=0
  ·have:=h4.2 ⟨rfl,hm⟩
   subst this
   exact .inl rfl
  ·have hr2:=run_append_nil_string (P:=P) w t u ty e i (.int .u8 0) ht hu hi hz s (by omega) (by omega) (by rw [hby];omega)
   rw [hr] at hr2
   injection hr2 with h5 h6
   exact .inr ⟨w.heap.size,by rw [h5];rfl,Nat.le_refl _⟩
 ·by_cases hroom:n+s.size≤cap
  ·have hcs':cur.size=cap:=by simpa using hcs
   have hr2:=Lib.run_append_room_string (P:=P) w t u ty e i ht hu hi hsize g n cap cur hg s hroom (by omega)
   rw [hr] at hr2
   injection hr2 with h5 h6
   exact .inl (by rw [h5];rfl)
  ·have holds:∀ j u,xs[j]?=some u→w.cell? ((⟨g,0,none⟩:Addr).add j)=some u:=hown.cells (g:=g) rfl
   have hr2:=Lib.run_append_grow_string (P:=P) w t u ty e i (.int .u8 0) ht hu hi hz ⟨g,0,none⟩ n cap xs (by rw [hsize];simpa using hxl) holds s (by omega) (by omega) (by rw [hby];exact growslice_fits (by omega) (by omega))
   rw [hr] at hr2
   injection hr2 with h5 h6
   exact .inr ⟨w.heap.size,by rw [h5];rfl,Nat.le_refl _⟩
theorem zpZ (t ty e:TypeId) (i:TypeInfo) (ht:P.underlying t=some (.slice e)) (hi:P.info? e=some i) (hz:i.zero=some (.int .u8 0))
  (hsize:i.size=1) (hby:i.bytes=1) (v:Value) (n:Nat) (xs:List Value) (hown:w.ownsRow 0 e 1 v n xs) (a:Addr) (c:Nat) (x:Value) (hx:w.cell? (a.add 0)=some x) (h1:x.oneCell'=true) (hbytes:n+1≤140737488355328) :
  ∃ v' w',(Builtin.append_ #[t,t] ty #[v,.slice (some a) 1 c]).run P w=.ok v' w'∧AppR w e v v' (n+1) (xs++[x]) w':=by
 have hnews:∀ j u,[x][j]?=some u→w.cell? (a.add j)=some u:=by
  intro j u hj
  match j,hj with
  |0,hj=>simp at hj;subst hj;exact hx
 have hone:∀ u ∈ [x],u.oneCell'=true:=by intro u hu;simp at hu;subst hu;exact h1
 obtain ⟨v',w',hr,h2,h3,h4⟩:=run_append_own (P:=P) w 0 t ty e i (.int .u8 0) 1 1 ht hi hz hsize hby rfl (by decide) v n xs hown a 1 c [x] rfl hnews hone (by unfold maxLen;omega) (by omega) (Nat.zero_le _)
 refine ⟨v',w',hr,h2,h3,?_⟩
 have hxl:xs.length=n:=by simpa using hown.1
 rcases hown.2 with ⟨rfl,rfl⟩|⟨g,cap,cur,rfl,hbg,hg,hnc,hcm,hcs,htake⟩
 ·have hr2:=run_append_nil (P:=P) w t ty e i (.int .u8 0) ht hi hz a 1 c [x] (by rw [hsize];rfl) hnews (by omega) (by omega) (by rw [hby];omega)
  rw [hr] at hr2
  injection hr2 with h5 h6
  exact .inr ⟨w.heap.size,by rw [h5];rfl,Nat.le_refl _⟩
 ·have hcs':cur.size=cap:=by simpa using hcs
  by_cases hroom:n+1≤cap
  ·have hr2:=run_append_room (P:=P) w t ty e i ht hi g n cap cur hg a 1 c [x] (by rw [hsize];rfl) hnews hone hroom (by rw [hsize];simp;omega)
   rw [hr] at hr2
   injection hr2 with h5 h6
   exact .inl (by rw [h5];rfl)
  ·have holds:∀ j u,xs[j]?=some u→w.cell? ((⟨g,0,none⟩:Addr).add j)=some u:=hown.cells (g:=g) rfl
   have hr2:=run_append_grow (P:=P) w t ty e i (.int .u8 0) ht hi hz ⟨g,0,none⟩ n cap xs (by rw [hsize];simpa using hxl) holds a 1 c [x] (by rw [hsize];rfl) hnews (by omega) (by omega) (by rw [hby];exact growslice_fits (by omega) (by omega))
   rw [hr] at hr2
   injection hr2 with h5 h6
   exact .inr ⟨w.heap.size,by rw [h5];rfl,Nat.le_refl _⟩
theorem zfR {ops:Array Oper} {rest:List Oper} {o:Oper} {a:Act} {Q:Exit→Act→World→Prop} (hgd:o.guard=none) (sl x:Operand) (t u:TypeId)
  (ho:o.op=.call { callee:=.builtin .append,args:=#[sl,x],argTypes:=#[t,u] }) (v y:Value) (hs:a.eval sl=v) (hx:a.eval x=y) {R:Value→World→Prop}
  (hr:∃ v' w',(Builtin.append_ #[t,u] o.type #[v,y]).run P w=.ok v' w'∧R v' w')
  (h:∀ v' w',R v' w'→wpList P ops Q rest (a.put o.dst v') w'):wpList P ops Q (o::rest) a w:=by
 refine wpList_plain hgd fun K hK=>?_
 obtain ⟨v',w',hr,h2⟩:=hr
 unfold Oper.wp execOp
 simp only [ho,resolve,invoke,builtin,Sem.run_bind,Sem.run_pure,Result.andThen_ok,List.map_toArray,List.map_cons,List.map_nil,hs,hx,hr]
 exact hK _ _ (h v' w' h2)
end
structure BPost (T e b:Nat) (w w':World) (v v':Value) (bs:List Value):Prop where
 head:w'.heap[b]?=some (.cells #[.pointer (some ⟨b,0,none⟩),v'] T (0,0))
 own:w'.ownsRow 0 e 1 v' bs.length bs
 place:zC9 w v v'
 frame:∀ k,k<w.heap.size→k≠b→v.ownBlock≠some k→w'.heap[k]?=w.heap[k]?
 size:w.heap.size≤w'.heap.size
 os:w'.os=w.os
 tape:w'.tape=w.tape
 output:w'.output=w.output
section
variable {P:Program} {ρ:Ren}
theorem znb (L:Lays.n240 P ρ) (X:Builder.X72 P ρ) (b:Nat) (p v:Value) (w:World) (hbk:w.heap[b]?=some (.cells #[p,v] (ρ.t 72) (0,0))) (hp:p=.pointer none∨p=.pointer (some ⟨b,0,none⟩)) :
  Calls P (ρ.f 240) #[.pointer (some ⟨b,0,none⟩)] w fun e w1=>e=.returned (.tuple #[])∧(w1.heap[b]?=some (.cells #[.pointer (some ⟨b,0,none⟩),v] (ρ.t 72) (0,0))∧w.grownBy w1 (some b)∧w1.heap.size=w.heap.size):=by
 have h0:w.cell? ⟨b,0,none⟩=some p:=by rw [Lib.cell_of_heap hbk];rfl
 rcases hp with rfl|rfl
 ·refine (Any.Builder_copyCheck_fresh L X b w h0 (by simp [World.shape?,hbk]) (Lib.frozen_of_heap hbk 0)).mono ?_
  rintro e w' ⟨rfl,rfl⟩
  refine ⟨rfl,by simp [World.setCell,Array.getElem?_modify,hbk],⟨rfl,rfl,rfl,by simp [World.setCell],fun k _ hk=>Below.heap_setCell _ _ _ _ (fun e=>hk (by simp [e]))⟩,by simp [World.setCell]⟩
 ·refine (Any.Builder_copyCheck_used L X b w h0).mono ?_
  rintro e w' ⟨rfl,rfl⟩
  exact ⟨rfl,hbk,⟨rfl,rfl,rfl,Nat.le_refl _,fun _ _ _=>rfl⟩,rfl⟩
theorem ziq (L:Lays.n166 P ρ) (X:Builder.Extra P ρ) (b:Nat) (p v:Value) (bs:List Value) (s:ByteArray) (w:World) (hbk:w.heap[b]?=some (.cells #[p,v] (ρ.t 72) (0,0))) (hp:p=.pointer none∨p=.pointer (some ⟨b,0,none⟩))
  (hown:w.ownsRow 0 (ρ.t 5) 1 v bs.length bs) (hlen:bs.length+s.size≤140737488355328) :
  Calls P (ρ.f 166) #[.pointer (some ⟨b,0,none⟩),.string s] w fun e w'=>e=.returned (.tuple #[.int .i64 s.size,.nilIface])∧∃ v',BPost (ρ.t 72) (ρ.t 5) b w w' v v' (bs++Lib.strCells s):=by
 obtain ⟨i0,hi,hz0,hz1,hz2⟩:=info_parts X.infoByte
 have hne:v.ownBlock≠some b:=Lib.ownBlock_ne hown hbk X.neB5
 have hlt:b<w.heap.size:=by
  rcases Nat.lt_or_ge b w.heap.size with h'|h'
  ·exact h'
  ·simp [Array.getElem?_eq_none h'] at hbk
 have mixed:=L.mixed
 have t72:=L.t72;have a72:=L.a72;have z72:=L.z72;have v72:=L.v72;have u72:=run_underlying L.t72
 have t70:=L.t70;have a70:=L.a70;have z70:=L.z70;have v70:=L.v70;have u70:=run_underlying L.t70
 have t37:=L.t37;have a37:=L.a37;have z37:=L.z37;have v37:=L.v37;have u37:=run_underlying L.t37
 have t3:=L.t3;have a3:=L.a3;have z3:=L.z3;have v3:=L.v3;have u3:=run_underlying L.t3
 have t9:=L.t9;have a9:=L.a9;have z9:=L.z9;have v9:=L.v9;have u9:=run_underlying L.t9
 have t4:=L.t4;have a4:=L.a4;have z4:=L.z4;have v4:=L.v4;have u4:=run_underlying L.t4
 have t164:=L.t164;have a164:=L.a164;have z164:=L.z164;have v164:=L.v164;have u164:=run_underlying L.t164
 have t5:=X.t5;have a5:=X.a5;have z5:=X.z5;have v5:=X.v5;have u5:=run_underlying X.t5
 have e240:∀ args w,(callFunc (ρ.f 240) args).run P w=.ok (.enter (ρ.f 240) args) w:=enters_of L.f240 (by kernel_rfl) rfl
 go_enter L.f166,Body.n166_ntmps ρ
 go_wp2_with (go_at_fn (ρ.f 240);refine (znb { L with } X.toX72 b p v _ hbk hp).mono ?_)
 rintro e w1 ⟨rfl,hbk1,hg1,hs1⟩
 have HS:Hid (w1.heap.size=w.heap.size):=hs1
 clear hs1
 have hown1:=hown.kept hg1 (Or.inr hne)
 have c0:w1.cell? ⟨b,0,none⟩=some (.pointer (some ⟨b,0,none⟩)):=by rw [Lib.cell_of_heap hbk1];rfl
 have c1:w1.cell? ⟨b,1,none⟩=some v:=by rw [Lib.cell_of_heap hbk1];rfl
 go_wp2_with (at_builtin;refine zfR _ rfl _ _ (ρ.t 37) (ρ.t 9) rfl v (.string s) rfl rfl (ztE w1 (ρ.t 37) (ρ.t 9) _ (ρ.t 5) i0 L.t37 L.t9 hi hz0 hz1 hz2 v bs.length bs hown1 s hlen) ?_)
 rintro v' w2 hR
 have hs1:=HS.out
 have hown':=hR.own
 have hgrow:=hR.grow
 have hpl:=hR.place
 clear hR
 have hb2:w2.heap[b]?=some (.cells #[.pointer (some ⟨b,0,none⟩),v] (ρ.t 72) (0,0)):=by
  rw [hgrow.block b (by omega) (fun e=>hne e.symm)]
  exact hbk1
 have d0:w2.cell? ⟨b,0,none⟩=some (.pointer (some ⟨b,0,none⟩)):=by rw [Lib.cell_of_heap hb2];rfl
 have d1:w2.cell? ⟨b,1,none⟩=some v:=by rw [Lib.cell_of_heap hb2];rfl
 have f1:w2.frozen? ⟨b,1,none⟩=false:=Lib.frozen_of_heap hb2 1
 have hne':v'.ownBlock≠some b:=Lib.ownBlock_ne hown' hb2 X.neB5
 obtain ⟨ao,n',cap,rfl⟩:∃ ao n' cap,v'=.slice ao n' cap:=by
  rcases hown'.2 with ⟨hv,_⟩|⟨g,cap,cur,hv,_⟩
  ·exact ⟨_,_,_,hv⟩
  ·exact ⟨_,_,_,hv⟩
 clear hs1
 go_wp2
 go_ret2
 have hs1:=HS.out
 refine ⟨rfl,.slice ao n' cap,?_⟩
 refine ⟨by simp [World.setCell,Array.getElem?_modify,hb2],?_,?_,?_,?_,?_,?_,?_⟩
 ·have:=hown'.kept (row:=some b) (w':=w2.setCell ⟨b,1,none⟩ (.slice ao n' cap)) ⟨rfl,rfl,rfl,by simp [World.setCell],fun k _ hk=>Below.heap_setCell _ _ _ _ (fun e=>hk (by simp [e]))⟩ (Or.inr hne')
  simpa [Lib.strCells_length] using this
 ·rcases hpl with h|⟨g,h,hh⟩
  ·exact .inl h
  ·exact .inr ⟨g,h,by omega⟩
 ·intro k hk hkb hkv
  rw [Below.heap_setCell _ _ _ _ hkb,hgrow.block k (by omega) (fun e=>hkv e.symm),hg1.block k hk (by simpa using hkb)]
 ·have:=hgrow.size;simp [World.setCell];omega
 ·exact hgrow.os.trans hg1.os
 ·exact hgrow.tape.trans hg1.tape
 ·exact hgrow.output.trans hg1.output
theorem zk8 (L:Lays.n167 P ρ) (X:Builder.Extra P ρ) (b:Nat) (p v:Value) (bs:List Value) (c:Int) (w:World) (hbk:w.heap[b]?=some (.cells #[p,v] (ρ.t 72) (0,0))) (hp:p=.pointer none∨p=.pointer (some ⟨b,0,none⟩))
  (hown:w.ownsRow 0 (ρ.t 5) 1 v bs.length bs) (hlen:bs.length+1≤140737488355328) :
  Calls P (ρ.f 167) #[.pointer (some ⟨b,0,none⟩),.int .u8 c] w fun e w'=>e=.returned .nilIface∧∃ v',BPost (ρ.t 72) (ρ.t 5) b w w' v v' (bs++[.int .u8 c]):=by
 obtain ⟨i0,hi,hz0,hz1,hz2⟩:=info_parts X.infoByte
 have hne:v.ownBlock≠some b:=Lib.ownBlock_ne hown hbk X.neB5
 have hlt:b<w.heap.size:=by
  rcases Nat.lt_or_ge b w.heap.size with h'|h'
  ·exact h'
  ·simp [Array.getElem?_eq_none h'] at hbk
 have mixed:=L.mixed
 have t72:=L.t72;have a72:=L.a72;have z72:=L.z72;have v72:=L.v72;have u72:=run_underlying L.t72
 have t70:=L.t70;have a70:=L.a70;have z70:=L.z70;have v70:=L.v70;have u70:=run_underlying L.t70
 have t5:=L.t5;have a5:=L.a5;have z5:=L.z5;have v5:=L.v5;have u5:=run_underlying L.t5
 have t37:=L.t37;have a37:=L.a37;have z37:=L.z37;have v37:=L.v37;have u37:=run_underlying L.t37
 have t9:=L.t9;have a9:=L.a9;have z9:=L.z9;have v9:=L.v9;have u9:=run_underlying L.t9
 have t4:=L.t4;have a4:=L.a4;have z4:=L.z4;have v4:=L.v4;have u4:=run_underlying L.t4
 have t164:=L.t164;have a164:=L.a164;have z164:=L.z164;have v164:=L.v164;have u164:=run_underlying L.t164
 have e240:∀ args w,(callFunc (ρ.f 240) args).run P w=.ok (.enter (ρ.f 240) args) w:=enters_of L.f240 (by kernel_rfl) rfl
 go_enter L.f167,Body.n167_ntmps ρ
 go_wp2_with (go_at_fn (ρ.f 240);refine (znb { L with } X.toX72 b p v _ hbk hp).mono ?_)
 rintro e w1 ⟨rfl,hbk1,hg1,hs1⟩
 have HS:Hid (w1.heap.size=w.heap.size):=hs1
 clear hs1
 have hown1:=hown.kept hg1 (Or.inr hne)
 have c0:w1.cell? ⟨b,0,none⟩=some (.pointer (some ⟨b,0,none⟩)):=by rw [Lib.cell_of_heap hbk1];rfl
 have c1:w1.cell? ⟨b,1,none⟩=some v:=by rw [Lib.cell_of_heap hbk1];rfl
 go_wp2_with (at_builtin;refine zfR _ rfl _ _ (ρ.t 37) (ρ.t 37) rfl v (.slice (some ⟨w1.heap.size,0,none⟩) 1 1) rfl rfl (zpZ _ (ρ.t 37) _ (ρ.t 5) i0 L.t37 hi hz0 hz1 hz2 v bs.length bs (hown1.alloc _) ⟨w1.heap.size,0,none⟩ 1 (.int .u8 c) ?cx rfl hlen) ?_)
 case cx=>simp [Addr.add]
 rintro v' w2 hR
 have hs1:=HS.out
 have hown':=hR.own
 have hgrow:=hR.grow
 have hpl:=hR.place
 clear hR
 have hb2:w2.heap[b]?=some (.cells #[.pointer (some ⟨b,0,none⟩),v] (ρ.t 72) (0,0)):=by
  rw [hgrow.block b (by simp;omega) (fun e=>hne e.symm),Lib.alloc_old w1 _ b (by omega)]
  exact hbk1
 have d0:w2.cell? ⟨b,0,none⟩=some (.pointer (some ⟨b,0,none⟩)):=by rw [Lib.cell_of_heap hb2];rfl
 have d1:w2.cell? ⟨b,1,none⟩=some v:=by rw [Lib.cell_of_heap hb2];rfl
 have f1:w2.frozen? ⟨b,1,none⟩=false:=Lib.frozen_of_heap hb2 1
 have hne':v'.ownBlock≠some b:=Lib.ownBlock_ne hown' hb2 X.neB5
 obtain ⟨g,cap,rfl⟩:∃ g cap,v'=.slice (some ⟨g,0,none⟩) (bs.length+1) cap:=by
  rcases hown'.2 with ⟨_,h0⟩|⟨g,cap,cur,hv,_⟩
  ·omega
  ·exact ⟨g,cap,hv⟩
 clear hs1
 go_wp2
 go_ret
 have hs1:=HS.out
 refine ⟨rfl,.slice (some ⟨g,0,none⟩) (bs.length+1) cap,?_⟩
 refine ⟨by simp [World.setCell,Array.getElem?_modify,hb2],?_,?_,?_,?_,?_,?_,?_⟩
 ·have:=hown'.kept (row:=some b) (w':=w2.setCell ⟨b,1,none⟩ (.slice (some ⟨g,0,none⟩) (bs.length+1) cap)) ⟨rfl,rfl,rfl,by simp [World.setCell],fun k _ hk=>Below.heap_setCell _ _ _ _ (fun e=>hk (by simp [e]))⟩ (Or.inr hne')
  simpa using this
 ·rcases hpl with h|⟨g',h,hh⟩
  ·exact .inl h
  ·exact .inr ⟨g',h,by simp at hh;omega⟩
 ·intro k hk hkb hkv
  rw [Below.heap_setCell _ _ _ _ hkb,hgrow.block k (by simp;omega) (fun e=>hkv e.symm),Lib.alloc_old w1 _ k (by omega),hg1.block k hk (by simpa using hkb)]
 ·have:=hgrow.size;simp at this;simp [World.setCell];omega
 ·exact hgrow.os.trans hg1.os
 ·exact hgrow.tape.trans hg1.tape
 ·exact hgrow.output.trans hg1.output
theorem zkP (w:World) (g n:Nat):w.grownBy (w.drew.freeze ⟨g,0,none⟩ n) (some g):=by
 unfold World.freeze
 split
 ·exact ⟨rfl,rfl,rfl,Nat.le_refl _,fun _ _ _=>rfl⟩
 ·exact ⟨rfl,rfl,rfl,by rw [Array.size_modify];exact Nat.le_refl _,fun k _ hk=>by
   simp only [Array.getElem?_modify]
   rw [if_neg (fun e=>hk (by simp [e]))]
   rfl⟩
theorem zwC (L:Lays.n169 P ρ) (X:Builder.Extra P ρ) (b:Nat) (p v:Value) (l:List UInt8) (w:World) (hbk:w.heap[b]?=some (.cells #[p,v] (ρ.t 72) (0,0)))
  (hown:w.ownsRow 0 (ρ.t 5) 1 v l.length (Lib.byteCells l)) (h0:l≠[]) :
  Calls P (ρ.f 169) #[.pointer (some ⟨b,0,none⟩)] w fun e w'=>e=.returned (.string ⟨l.toArray⟩)∧w.grownBy w' v.ownBlock:=by
 have hl0:l.length≠0:=by simpa using h0
 obtain ⟨g,cap,cur,rfl,hbg,hg,hnc,hcm,hcs,htake⟩:∃ g cap cur,v=.slice (some ⟨g,0,none⟩) l.length cap∧0≤g∧w.heap[g]?=some (.cells cur (ρ.t 5) (0,0))∧l.length≤cap∧cap≤maxLen∧cur.size=cap * 1∧cur.toList.take (l.length * 1)=Lib.byteCells l:=by
  rcases hown.2 with ⟨_,hz⟩|⟨g,cap,cur,hv,r⟩
  ·exact absurd hz hl0
  ·exact ⟨g,cap,cur,hv,r⟩
 have c1:w.drew.cell? ⟨b,1,none⟩=some (.slice (some ⟨g,0,none⟩) l.length cap):=by
  have:w.drew.heap[b]?=some (.cells #[p,.slice (some ⟨g,0,none⟩) l.length cap] (ρ.t 72) (0,0)):=hbk
  rw [Lib.cell_of_heap this];rfl
 have hSD:(Builtin.unsafeSliceData_ #[(ρ.t 37)] (ρ.t 127) #[.slice (some ⟨g,0,none⟩) l.length cap]).run P w.drew=.ok (.pointer (some ⟨g,0,none⟩)) w.drew:=
  Lib.run_unsafeSliceData_row _ _ _ _ _ _ (by omega)
 have hUS:(Builtin.unsafeString_ #[(ρ.t 127),(ρ.t 3)] (ρ.t 9) #[.pointer (some ⟨g,0,none⟩),.int .i64 l.length]).run P w.drew=.ok (.string ⟨l.toArray⟩) (w.drew.freeze ⟨g,0,none⟩ l.length):=by
  refine Lib.run_unsafeString_row w.drew (ρ.t 127) (ρ.t 3) (ρ.t 9) (ρ.t 5) L.t127 X.cellsByte g cur.size (by have hg':w.drew.heap[g]?=some (.cells cur (ρ.t 5) (0,0)):=hg;simp [World.shape?,hg']) l h0 (by omega) (by unfold maxLen at hcm;omega) ?_
  intro j x hx
  have:=hown.cells (g:=g) rfl j (.int .u8 x.toNat) (by simp [Lib.byteCells,hx])
  exact this
 have HG:=zkP w g l.length
 have mixed:=L.mixed
 have t72:=L.t72;have a72:=L.a72;have z72:=L.z72;have v72:=L.v72;have u72:=run_underlying L.t72
 have t70:=L.t70;have a70:=L.a70;have z70:=L.z70;have v70:=L.v70;have u70:=run_underlying L.t70
 have t37:=L.t37;have a37:=L.a37;have z37:=L.z37;have v37:=L.v37;have u37:=run_underlying L.t37
 have t127:=L.t127;have a127:=L.a127;have z127:=L.z127;have v127:=L.v127;have u127:=run_underlying L.t127
 have t3:=L.t3;have a3:=L.a3;have z3:=L.z3;have v3:=L.v3;have u3:=run_underlying L.t3
 have t9:=L.t9;have a9:=L.a9;have z9:=L.z9;have v9:=L.v9;have u9:=run_underlying L.t9
 have t5:=X.t5;have a5:=X.a5;have z5:=X.z5;have v5:=X.v5;have u5:=run_underlying X.t5
 go_enter L.f169,Body.n169_ntmps ρ
 go_wp2
 go_region_o
 all_goals (go_wp2;go_ret;exact ⟨rfl,HG⟩)
theorem bString (L:Lays.n169 P ρ) (X:Builder.Extra P ρ) (b:Nat) (p v:Value) (l:List UInt8) (w:World) (hbk:w.heap[b]?=some (.cells #[p,v] (ρ.t 72) (0,0)))
  (hown:w.ownsRow 0 (ρ.t 5) 1 v l.length (Lib.byteCells l)) :
  Calls P (ρ.f 169) #[.pointer (some ⟨b,0,none⟩)] w fun e w'=>e=.returned (.string ⟨l.toArray⟩)∧w.grownBy w' v.ownBlock:=by
 have fin:∀ {w':World},Below w.heap.size w w'→w.grownBy w' v.ownBlock:=fun h=>⟨h.os,h.tape,h.output,h.size,fun k hk _=>h.block k hk⟩
 cases l with
 |nil=>
  rcases hown.2 with ⟨rfl,_⟩|⟨g,cap,cur,rfl,hbg,hg,_,_,_,_⟩
  ·exact (Any.Builder_String_nil L X w.heap.size b p w hbk).mono (fun _ _ h=>⟨h.1,fin h.2⟩)
  ·by_cases hc0:cap=0
   ·subst hc0
    exact (Any.Builder_String_noroom L X w.heap.size b g p cur w (Nat.le_refl _) hbk hg).mono (fun _ _ h=>⟨h.1,fin h.2⟩)
   ·exact (Any.Builder_String_room L X w.heap.size b g cap p w hc0 hbk).mono (fun _ _ h=>⟨h.1,fin h.2⟩)
 |cons x r=>exact zwC L X b p v (x::r) w hbk hown (by simp)
end
/-! ### Contracts -/
theorem ztF {g:Gh} {D:Nat→Prop} {M:Mem} {w:World} {e id:Nat} {t:List UInt8} (h:OR g D M w id (.bb e t)):w.ownsRow 0 e 1 (zkA g id t.length) t.length (zcD t):=by
 refine ⟨by simp [zcD],?_⟩
 unfold zkA
 cases hν:g.ν id with
 |true=>exact .inl ⟨by simp,by rw [h.1 hν];rfl⟩
 |false=>
  obtain ⟨cur,h1,h2,h3,h4,h5⟩:=h.2 hν
  exact .inr ⟨g.ρ id,g.κ id,cur,by simp,Nat.zero_le _,h1,h2,h3,by omega,by simpa using h5⟩
theorem zg9 (g:Gh) (B n:Nat) (k:Nat):(zkA g B n).ownBlock=some k→g.ν B=false∧g.ρ B=k:=by
 unfold zkA
 cases hν:g.ν B<;>simp [Value.ownBlock]
theorem ztG {a b c:AObj} {id:Nat} {o:AObj} (h:[some a,some b,some c].getD id none=some o):(id=0∧o=a)∨(id=1∧o=b)∨(id=2∧o=c):=by
 match id,h with
 |0,h=>simp at h;exact .inl ⟨rfl,h.symm⟩
 |1,h=>simp at h;exact .inr (.inl ⟨rfl,h.symm⟩)
 |2,h=>simp at h;exact .inr (.inr ⟨rfl,h.symm⟩)
 |n+3,h=>simp [List.getD] at h
theorem AC.bwrite {P:Program} {gl:Nat→Option (List PVal)} {f:FuncId} {T e:Nat} {t s:List UInt8} {q:PVal} {res:AVal} (hTe:T≠e)
  (h:∀ (w:World) (b:Nat) (p v y:Value) (M:Mem),Rd M q y→w.heap[b]?=some (.cells #[p,v] T (0,0))→(p=.pointer none∨p=.pointer (some ⟨b,0,none⟩))→w.ownsRow 0 e 1 v t.length (zcD t) →
   Calls P f #[.pointer (some ⟨b,0,none⟩),y] w fun en w'=>∃ r v',en=.returned r∧(∀ g D M',V g D M' res r)∧BPost T e b w w' v v' (zcD s)) :
  AC P gl f [.ref 0 0,.pv q] [some (.bh T e 1 t.length),some (.bb e t)] res [some (.bh T e 2 s.length),some .dead,some (.bb e s)]:=by
 intro w M g vargs hR hG
 have hl:vargs.length=2:=by simpa using hR.size
 match vargs,hl with
 |[x0,x1],_=>
  have h0:V g _ M (.ref 0 0) x0:=hR.slots 0 (by simp)
  have h1:V g _ M (.pv q) x1:=hR.slots 1 (by simp)
  have h1:=h1.pv_inv
  obtain ⟨hD,hn0,p,hheap,hp⟩:OR g _ M w 0 (.bh T e 1 t.length):=hR.objs 0 _ rfl
  have hbb:OR g _ M w 1 (.bb e t):=hR.objs 1 _ rfl
  have hown:=ztF hbb
  cases h0
  refine Calls.mono (h w (g.ρ 0) p (zkA g 1 t.length) x1 M h1 hheap hp hown) ?_
  rintro en w' ⟨r,v',rfl,hv,hB⟩
  have hne':v'.ownBlock≠some (g.ρ 0):=Lib.ownBlock_ne hB.own hB.head hTe
  have hlt:g.ρ 0<w.heap.size:=(Array.getElem?_eq_some_iff.1 hheap).1
  have hso:(zcD s).length=s.length:=by simp [zcD]
  obtain ⟨r2,k2,n2,hbuf,hs0,hs1,hpl,hr0⟩:∃ (r2 k2:Nat) (n2:Bool),v'=(if n2 then .slice none 0 0 else .slice (some ⟨r2,0,none⟩) s.length k2)∧(n2=true→s=[]) ∧
    (n2=false→∃ cur,w'.heap[r2]?=some (.cells cur e (0,0))∧s.length≤k2∧k2≤9223372036854775807∧cur.size=k2∧cur.toList.take s.length=zcD s) ∧
    (n2=false→(g.ν 1=false∧g.ρ 1=r2)∨w.heap.size≤r2)∧(n2=false→r2≠g.ρ 0):=by
   rcases hB.own.2 with ⟨hv',hn⟩|⟨g2,cap,cur,hv',_,hg2,hnc,hcm,hcs,htake⟩
   ·exact ⟨0,0,true,by simpa using hv',fun _=>List.eq_nil_of_length_eq_zero (by omega),by simp,by simp,by simp⟩
   ·rw [hso] at hv' hnc htake
    refine ⟨g2,cap,false,by simpa using hv',by simp,fun _=>⟨cur,hg2,hnc,hcm,by omega,by simpa using htake⟩,fun _=>?_,fun _ hc=>hne' (by rw [hv',hc];rfl)⟩
    have ho:v'.ownBlock=some g2:=by rw [hv'];rfl
    rcases hB.place with h'|⟨g3,h',hh⟩
    ·rw [ho] at h'
     exact .inl (zg9 g 1 _ _ h'.symm)
    ·rw [ho] at h'
     injection h' with h'
     exact .inr (by omega)
  have hsat:∀ b i u,M b i=some u→w'.cell? ⟨b,i,none⟩=some u:=by
   intro b i u hu
   have hc:=hR.sat b i u hu
   have hb:b<w.heap.size:=World.block_lt_of_cell? w ⟨b,i,none⟩ hc
   have e1:b≠g.ρ 0:=fun hbe=>by
    have:=hR.offM 0 (.bh T e 1 t.length) b rfl (by simp [zbp,hbe]) i
    rw [this] at hu;cases hu
   have e2:(zkA g 1 t.length).ownBlock≠some b:=fun hbe=>by
    obtain ⟨hν,hρ⟩:=zg9 g 1 _ _ hbe
    have:=hR.offM 1 (.bb e t) b rfl (by simp [zbp,hν,hρ]) i
    rw [this] at hu;cases hu
   exact (World.cell?_of_block (w:=w) (w':=w') (a:=⟨b,i,none⟩) (hB.frame b hb e1 e2)).trans hc
  have hoffN:∀ b i,w.heap.size≤b→M b i=none:=by
   intro b i hb
   cases hm:M b i with
   |none=>rfl
   |some u=>
    have:=World.block_lt_of_cell? w ⟨b,i,none⟩ (hR.sat b i u hm)
    simp at this
    omega
  refine ⟨r,⟨fun id=>if id=2 then r2 else g.ρ id,fun id=>if id=2 then k2 else g.κ id,fun id=>if id=2 then n2 else g.ν id⟩,M,rfl,⟨rfl,rfl,fun i hi=>?_,fun id o ho=>?_,fun id id' o o' b ho ho' hb hb'=>?_,fun id o b ho hb i=>?_,hsat,Mem.le_refl _,fun _ _ _ _=>rfl,hB.size,fun b hb hnb=>?_,fun id o b ho hb=>?_,hB.os,hB.tape,hB.output⟩,fun id hid=>?_⟩
  ·have hi0:i=0:=by simpa using hi
   subst hi0
   exact hv _ _ _
  ·rcases ztG ho with ⟨rfl,rfl⟩|⟨rfl,rfl⟩|⟨rfl,rfl⟩
   ·refine ⟨by simp [St.dom,St.obj],fun hν=>by rw [hs0 (by simpa using hν)];rfl,.pointer (some ⟨g.ρ 0,0,none⟩),?_,.inr (by simp)⟩
    have hh:=hB.head
    rw [hbuf] at hh
    simpa [zkA] using hh
   ·trivial
   ·exact ⟨fun hν=>hs0 (by simpa using hν),fun hν=>by simpa using hs1 (by simpa using hν)⟩
  ·rcases ztG ho with ⟨rfl,rfl⟩|⟨rfl,rfl⟩|⟨rfl,rfl⟩<;>rcases ztG ho' with ⟨rfl,rfl⟩|⟨rfl,rfl⟩|⟨rfl,rfl⟩
   ·rfl
   ·simp [zbp] at hb'
   ·exfalso
    simp [zbp] at hb hb'
    exact hr0 hb'.1 (by omega)
   ·simp [zbp] at hb
   ·rfl
   ·simp [zbp] at hb
   ·exfalso
    simp [zbp] at hb hb'
    exact hr0 hb.1 (by omega)
   ·simp [zbp] at hb'
   ·rfl
  ·rcases ztG ho with ⟨rfl,rfl⟩|⟨rfl,rfl⟩|⟨rfl,rfl⟩
   ·exact hR.offM 0 (.bh T e 1 t.length) b rfl (by simpa [zbp] using hb) i
   ·simp [zbp] at hb
   ·simp [zbp] at hb
    rcases hpl hb.1 with ⟨hν,hρ⟩|hge
    ·exact hR.offM 1 (.bb e t) b rfl (by simp [zbp,hν];omega) i
    ·exact hoffN b i (by omega)
  ·have e1:b≠g.ρ 0:=fun hbe=>hnb ⟨0,_,rfl,by simp [zbp,hbe]⟩
   have e2:(zkA g 1 t.length).ownBlock≠some b:=fun hbe=>by
    obtain ⟨hν,hρ⟩:=zg9 g 1 _ _ hbe
    exact hnb ⟨1,_,rfl,by simp [zbp,hν,hρ]⟩
   exact hB.frame b hb e1 e2
  ·rcases ztG ho with ⟨rfl,rfl⟩|⟨rfl,rfl⟩|⟨rfl,rfl⟩
   ·exact .inl ⟨0,_,rfl,by simpa [zbp] using hb⟩
   ·simp [zbp] at hb
   ·simp [zbp] at hb
    rcases hpl hb.1 with ⟨hν,hρ⟩|hge
    ·exact .inl ⟨1,_,rfl,by simp [zbp,hν];omega⟩
    ·exact .inr (show w.heap.size≤b by omega)
  ·have:id≠2:=fun he=>by subst he;simp [zaq] at hid
   simp [Gh.agree,this]
theorem zwD {a b:AObj} {id:Nat} {o:AObj} (h:[some a,some b].getD id none=some o):(id=0∧o=a)∨(id=1∧o=b):=by
 match id,h with
 |0,h=>simp at h;exact .inl ⟨rfl,h.symm⟩
 |1,h=>simp at h;exact .inr ⟨rfl,h.symm⟩
 |n+2,h=>simp [List.getD] at h
theorem AC.bstring {P:Program} {gl:Nat→Option (List PVal)} {f:FuncId} {T e:Nat} {t:List UInt8}
  (h:∀ (w:World) (b:Nat) (p v:Value),w.heap[b]?=some (.cells #[p,v] T (0,0))→w.ownsRow 0 e 1 v t.length (zcD t) →
   Calls P f #[.pointer (some ⟨b,0,none⟩)] w fun en w'=>en=.returned (.string ⟨t.toArray⟩)∧w.grownBy w' v.ownBlock) :
  AC P gl f [.ref 0 0] [some (.bh T e 1 t.length),some (.bb e t)] (.pv (.str t)) [some .dead,some .dead]:=by
 intro w M g vargs hR hG
 have hl:vargs.length=1:=by simpa using hR.size
 match vargs,hl with
 |[x0],_=>
  have h0:V g _ M (.ref 0 0) x0:=hR.slots 0 (by simp)
  obtain ⟨hD,hn0,p,hheap,hp⟩:OR g _ M w 0 (.bh T e 1 t.length):=hR.objs 0 _ rfl
  have hbb:OR g _ M w 1 (.bb e t):=hR.objs 1 _ rfl
  have hown:=ztF hbb
  cases h0
  refine Calls.mono (h w (g.ρ 0) p (zkA g 1 t.length) hheap hown) ?_
  rintro en w' ⟨rfl,hB⟩
  have hsat:∀ b i u,M b i=some u→w'.cell? ⟨b,i,none⟩=some u:=by
   intro b i u hu
   have hc:=hR.sat b i u hu
   have hb:b<w.heap.size:=World.block_lt_of_cell? w ⟨b,i,none⟩ hc
   have e2:(zkA g 1 t.length).ownBlock≠some b:=fun hbe=>by
    obtain ⟨hν,hρ⟩:=zg9 g 1 _ _ hbe
    have:=hR.offM 1 (.bb e t) b rfl (by simp [zbp,hν,hρ]) i
    rw [this] at hu;cases hu
   exact (World.cell?_of_block (w:=w) (w':=w') (a:=⟨b,i,none⟩) (hB.block b hb (fun e=>e2 e.symm))).trans hc
  refine ⟨_,g,M,rfl,⟨rfl,rfl,fun i hi=>?_,fun id o ho=>?_,fun id id' o o' b ho ho' hb hb'=>?_,fun id o b ho hb i=>?_,hsat,Mem.le_refl _,fun _ _ _ _=>rfl,hB.size,fun b hb hnb=>?_,fun id o b ho hb=>?_,hB.os,hB.tape,hB.output⟩,fun id hid=>⟨rfl,rfl,rfl⟩⟩
  ·have hi0:i=0:=by simpa using hi
   subst hi0
   exact zC8 _ _ _ _
  ·rcases zwD ho with ⟨rfl,rfl⟩|⟨rfl,rfl⟩<;>trivial
  ·rcases zwD ho with ⟨rfl,rfl⟩|⟨rfl,rfl⟩<;>simp [zbp] at hb
  ·rcases zwD ho with ⟨rfl,rfl⟩|⟨rfl,rfl⟩<;>simp [zbp] at hb
  ·exact hB.block b hb (fun hbe=>by
    obtain ⟨hν,hρ⟩:=zg9 g 1 _ _ hbe.symm
    exact hnb ⟨1,_,rfl,by simp [zbp,hν,hρ]⟩)
  ·rcases zwD ho with ⟨rfl,rfl⟩|⟨rfl,rfl⟩<;>simp [zbp] at hb
theorem zoJ (s:List UInt8):Lib.strCells ⟨s.toArray⟩=zcD s:=by simp [Lib.strCells,zcD]
theorem zha (a b:List UInt8):zcD (a++b)=zcD a++zcD b:=by simp [zcD]
section
variable {P:Program} {ρ:Ren} {gl:Nat→Option (List PVal)}
theorem AC.bString (L:Lays.n169 P ρ) (X:Builder.Extra P ρ) (t:List UInt8) :
  AC P gl (ρ.f 169) [.ref 0 0] [some (.bh (ρ.t 72) (ρ.t 5) 1 t.length),some (.bb (ρ.t 5) t)] (.pv (.str t)) [some .dead,some .dead]:=
 AC.bstring fun w b p v hbk hown=>Go.Abs.bString L X b p v t w hbk hown
end
end Go.Abs
namespace Go.Abs
open Go Go.Proofs Go.Shelf Go.RowKit
def zal (c:UInt8):List UInt8→List (List UInt8)
 |[]=>[[]]
 |x::r=>if x=c then []::zal c r else match zal c r with
  |[]=>[[x]]
  |h::t=>(x::h)::t
theorem zbM (c:UInt8):∀ s,zal c s≠[]
 |[]=>by simp [zal]
 |x::r=>by
  unfold zal
  split
  ·simp
  ·split<;>simp
theorem zeT (c:UInt8):∀ s,c ∉ s→zal c s=[s]
 |[],_=>rfl
 |x::r,h=>by
  have h1:x≠c:=fun e=>h (by simp [e])
  rw [zal,if_neg h1,zeT c r (fun e=>h (by simp [e]))]
theorem zfS (c:UInt8) (r:List UInt8):∀ a,c ∉ a→zal c (a++c::r)=a::zal c r
 |[],_=>by simp [zal]
 |x::a,h=>by
  have h1:x≠c:=fun e=>h (by simp [e])
  rw [List.cons_append,zal,if_neg h1,zfS c r a (fun e=>h (by simp [e]))]
theorem ztH (c:UInt8):∀ (n:Nat) (s:ByteArray),s.size≤n→(Lib.splitB ⟨#[c]⟩ 0 (Lib.countB s ⟨#[c]⟩) s).map (fun b=>b.data.toList)=zal c s.data.toList:=by
 intro n
 induction n with
 |zero=>
  intro s hs
  have e:s.data.toList=[]:=List.eq_nil_of_length_eq_zero (by rw [Array.length_toList];exact Nat.le_zero.1 hs)
  have hi:Lib.indexB s ⟨#[c]⟩=-1:=by
   show Lib.index _ _=_
   rw [e];rfl
  rw [Lib.splitB_miss _ _ _ _ hi,e]
  simp [e,zal]
 |succ n ih=>
  intro s hs
  have h1:Lib.index s.data.toList [c]=Lib.indexByte s.data.toList c:=Lib.index_one _ _
  have hge:=Lib.indexByte_ge s.data.toList c
  by_cases hm:Lib.indexByte s.data.toList c=-1
  ·have hi:Lib.indexB s ⟨#[c]⟩=-1:=h1.trans hm
   rw [Lib.splitB_miss _ _ _ _ hi]
   have hno:c ∉ s.data.toList:=fun hc=>by
    obtain ⟨k,hk,he⟩:=List.getElem_of_mem hc
    exact Lib.indexByte_none hm k (by rw [List.getElem?_eq_getElem hk,he])
   rw [zeT c _ hno]
   rfl
  ·obtain ⟨i,hi⟩:∃ i:Nat,Lib.indexByte s.data.toList c=i:=⟨(Lib.indexByte s.data.toList c).toNat,by omega⟩
   have hB:Lib.indexB s ⟨#[c]⟩=i:=h1.trans hi
   obtain ⟨hc,hno⟩:=Lib.indexByte_some hi
   obtain ⟨hlt,hce⟩:=List.getElem?_eq_some_iff.1 hc
   rw [Lib.countB_hit s ⟨#[c]⟩ i (Nat.le_refl 1) hB,Nat.add_comm,Lib.splitB_hit _ _ _ _ i hB]
   have hd:s.data.toList=s.data.toList.take i++c::s.data.toList.drop (i+1):=by
    rw [←hce,List.getElem_cons_drop,List.take_append_drop]
   have hnc:c ∉ s.data.toList.take i:=fun hm'=>by
    obtain ⟨k,hk,he⟩:=List.getElem_of_mem hm'
    have hk':k<i:=by simp at hk;omega
    refine hno k hk' ?_
    rw [List.getElem_take] at he
    rw [List.getElem?_eq_getElem (by omega),he]
   conv=>rhs;rw [hd,zfS c _ _ hnc]
   rw [List.map_cons,ih (s.extract (i+(ByteArray.mk #[c]).size) s.size) (by simp [ByteArray.size_extract];have:(ByteArray.mk #[c]).size=1:=rfl;omega)]
   congr 1
   ·simp [ByteArray.data_extract]
   ·rw [Lib.extract_to_end]
    rfl
theorem AC.ofTexts {P:Program} {gl:Nat→Option (List PVal)} {f:FuncId} {ps:List PVal} {us:List (List UInt8)}
  (h:∀ (w:World) (M:Mem) (vs:List Value),vs.length=ps.length→(∀ i,i<ps.length→Rd M (ps.getD i .nilptr) (vs.getD i undef))→(∀ b i u,M b i=some u→w.cell? ⟨b,i,none⟩=some u) →
   GOK ⟨fun _=>none,gl,fun _=>0,0⟩ M→(∀ b cs,gl b=some cs→cs≠[]→∃ vals T l,w.heap[b]?=some (.cells vals T l)∧vals.size=cs.length) →
   Calls P f vs.toArray w fun e w'=>∃ T,e=.returned (.slice (some ⟨w.heap.size,0,none⟩) us.length us.length)∧w'=w.alloc (.cells (us.map fun s=>Value.string ⟨s.toArray⟩).toArray T)) :
  AC P gl f (ps.map .pv) [] (.pv (.slice (us.map fun s=>[.str s]))) []:=by
 intro w M g vargs hR hG
 have hl:vargs.length=ps.length:=by simpa using hR.size
 refine Calls.mono (h w M vargs hl (fun i hi=>?_) hR.sat hG.1 (fun b cs hb hne=>(hG.2 b cs hb hne).2)) ?_
 ·have:=hR.slots i (by simpa using hi)
  have e1:St.slot ⟨ps.map .pv,[]⟩ i=.pv (ps.getD i .nilptr):=by simp [St.slot,List.getD,hi]
  rw [e1] at this
  have e2:vargs.toArray.getD i undef=vargs.getD i undef:=by simp [List.getD]
  rw [←e2]
  exact this.pv_inv
 ·rintro e w' ⟨T,rfl,rfl⟩
  have hoff:∀ i,M w.heap.size i=none:=by
   intro i
   cases hm:M w.heap.size i with
   |none=>rfl
   |some u=>
    have:=World.block_lt_of_cell? w ⟨w.heap.size,i,none⟩ (hR.sat _ i u hm)
    simp at this
  have hx:Ext w (w.alloc (.cells (us.map fun s=>Value.string ⟨s.toArray⟩).toArray T)):=(Below.refl _ w).alloc (Nat.le_refl _) _
  refine ⟨_,g,fun b i=>if b=w.heap.size then (us[i]?).map (fun s=>Value.string ⟨s.toArray⟩) else M b i,rfl,⟨rfl,rfl,fun i hi=>?_,fun id o ho=>by simp [St.obj] at ho,fun id id' o o' b ho=>by simp [St.obj] at ho,fun id o b ho=>by simp [St.obj] at ho,fun b i u hu=>?_,fun b i u hu=>?_,fun b i hb _=>?_,hx.size,fun b hb _=>hx.block b hb,fun id o b ho=>by simp [St.obj] at ho,hx.os,hx.tape,hx.output⟩,fun id hid=>by simp [zaq] at hid⟩
  ·have hi0:i=0:=by simpa using hi
   subst hi0
   have hlen:us.length=(us.map fun s=>[PVal.str s]).length:=by simp
   refine .pv ?_
   have:=Rd.slice (M:=fun b i=>if b=w.heap.size then (us[i]?).map (fun s=>Value.string ⟨s.toArray⟩) else M b i) (us.map fun s=>[PVal.str s]) 1 w.heap.size 0 us.length (fun i _=>Value.string ⟨(us.getD i []).toArray⟩) (fun x hx=>by simp at hx;obtain ⟨s,_,rfl⟩:=hx;rfl) (fun i j hi hj=>?_) (fun i j hi hj=>?_) (by simp)
   ·rw [List.length_map] at this
    exact this
   ·have hj0:j=0:=by omega
    subst hj0
    have hi':i<us.length:=by simpa using hi
    simp [List.getD,hi']
   ·have hj0:j=0:=by omega
    subst hj0
    have hi':i<us.length:=by simpa using hi
    have:zb1 (us.map fun s=>[PVal.str s]) i 0=.str (us.getD i []):=by simp [zb1,List.getD,hi']
    rw [this]
    exact .str _
  ·by_cases hb:b=w.heap.size
   ·subst hb
    simp only [if_pos] at hu
    rw [Option.map_eq_some_iff] at hu
    obtain ⟨s,hs,rfl⟩:=hu
    rw [Lib.cell_of_heap (zbS w _)]
    simp [hs]
   ·simp only [if_neg hb] at hu
    exact zpY hx (hR.sat b i u hu)
  ·show (if b=w.heap.size then _ else M b i)=_
   rw [if_neg (fun hb=>by subst hb;have h0:=hoff i;exact absurd (h0.symm.trans hu) (by simp))]
   exact hu
  ·show (if b=w.heap.size then _ else M b i)=_
   rw [if_neg (by have:b<w.heap.size:=hb;omega)]
open Go
structure VarD where
 name:List UInt8
 size:Int
 init:Int
def zav (v:VarD):List PVal:=[.str v.name,.int .i64 v.size,.int .i64 v.init]
inductive Ex where
 |mk (op value:Int) (name:List UInt8) (slot size:Int) (args:List Ex)
def Ex.op:Ex→Int|.mk a _ _ _ _ _=>a
def Ex.value:Ex→Int|.mk _ a _ _ _ _=>a
def Ex.name:Ex→List UInt8|.mk _ _ a _ _ _=>a
def Ex.slot:Ex→Int|.mk _ _ _ a _ _=>a
def Ex.size:Ex→Int|.mk _ _ _ _ a _=>a
def Ex.args:Ex→List Ex|.mk _ _ _ _ _ a=>a
mutual
def zbq:Ex→List PVal
 |.mk op value name slot size args=>[.int .i64 op,.int .i64 value,.str name,.int .i64 slot,.int .i64 size,.slice (znz args)]
def znz:List Ex→List (List PVal)
 |[]=>[]
 |e::r=>zbq e::znz r
end
theorem zk9:∀ l:List Ex,znz l=l.map zbq
 |[]=>by simp [znz]
 |e::r=>by simp [znz,zk9 r]
theorem zaz (e:Ex):zbq e=[.int .i64 e.op,.int .i64 e.value,.str e.name,.int .i64 e.slot,.int .i64 e.size,.slice (e.args.map zbq)]:=by
 cases e;simp [zbq,zk9,Ex.op,Ex.value,Ex.name,Ex.slot,Ex.size,Ex.args]
theorem zdE (e:Ex):(zbq e).length=6:=by rw [zaz];rfl
inductive Sm where
 |mk (kind:Int) (name:List UInt8) (slot size:Int) (place value:Ex) (body els:List Sm)
def Sm.kind:Sm→Int|.mk a _ _ _ _ _ _ _=>a
def Sm.name:Sm→List UInt8|.mk _ a _ _ _ _ _ _=>a
def Sm.slot:Sm→Int|.mk _ _ a _ _ _ _ _=>a
def Sm.size:Sm→Int|.mk _ _ _ a _ _ _ _=>a
def Sm.place:Sm→Ex|.mk _ _ _ _ a _ _ _=>a
def Sm.value:Sm→Ex|.mk _ _ _ _ _ a _ _=>a
def Sm.body:Sm→List Sm|.mk _ _ _ _ _ _ a _=>a
def Sm.els:Sm→List Sm|.mk _ _ _ _ _ _ _ a=>a
mutual
def zah:Sm→List PVal
 |.mk kind name slot size place value body els=>[.int .i64 kind,.str name,.int .i64 slot,.int .i64 size]++zbq place++zbq value++[.slice (zla body),.slice (zla els)]
def zla:List Sm→List (List PVal)
 |[]=>[]
 |e::r=>zah e::zla r
end
theorem zlb:∀ l:List Sm,zla l=l.map zah
 |[]=>by simp [zla]
 |e::r=>by simp [zla,zlb r]
theorem zag (s:Sm):zah s=[.int .i64 s.kind,.str s.name,.int .i64 s.slot,.int .i64 s.size,
  .int .i64 s.place.op,.int .i64 s.place.value,.str s.place.name,.int .i64 s.place.slot,.int .i64 s.place.size,.slice (s.place.args.map zbq),
  .int .i64 s.value.op,.int .i64 s.value.value,.str s.value.name,.int .i64 s.value.slot,.int .i64 s.value.size,.slice (s.value.args.map zbq),
  .slice (s.body.map zah),.slice (s.els.map zah)]:=by
 cases s;simp [zah,zlb,zaz,Sm.kind,Sm.name,Sm.slot,Sm.size,Sm.place,Sm.value,Sm.body,Sm.els]
theorem zir (s:Sm):(zah s).length=18:=by rw [zag];rfl
abbrev mx:=zgV
mutual
def szE:Ex→Nat
 |.mk _ _ _ _ _ args=>1+zh3 args
def zh3:List Ex→Nat
 |[]=>0
 |e::r=>szE e+zh3 r
end
theorem zgv (e:Ex):szE e=1+zh3 e.args:=by cases e;rfl
theorem zbw (e:Ex):1≤szE e:=by rw [zgv];omega
theorem zdV:∀ l:List Ex,l.length≤zh3 l
 |[]=>by simp
 |e::r=>by have:=zdV r;have:=zbw e;simp only [zh3,List.length_cons];omega
theorem zcP:∀ (l:List Ex) (e:Ex),e ∈ l→szE e≤zh3 l
 |[],_,h=>by cases h
 |x::r,e,h=>by
  simp only [zh3]
  rcases List.mem_cons.1 h with rfl|h
  ·omega
  ·have:=zcP r e h;omega
mutual
def szS:Sm→Nat
 |.mk _ _ _ _ place value body els=>1+szE place+szE value+zbz body+zbz els
def zbz:List Sm→Nat
 |[]=>0
 |e::r=>szS e+zbz r
end
theorem zea (s:Sm):szS s=1+szE s.place+szE s.value+zbz s.body+zbz s.els:=by cases s;rfl
theorem zcm (s:Sm):1≤szS s:=by rw [zea];omega
theorem zbO:∀ l:List Sm,l.length≤zbz l
 |[]=>by simp
 |e::r=>by have:=zbO r;have:=zcm e;simp only [zbz,List.length_cons];omega
theorem zaV:∀ (l:List Sm) (e:Sm),e ∈ l→szS e≤zbz l
 |[],_,h=>by cases h
 |x::r,e,h=>by
  simp only [zbz]
  rcases List.mem_cons.1 h with rfl|h
  ·omega
  ·have:=zaV r e h;omega
mutual
def zgI:Ex→Int
 |.mk _ _ _ _ _ args=>1+zdF 0 args
def zdF:Int→List Ex→Int
 |d,[]=>d
 |d,e::r=>zdF (mx d (zgI e)) r
end
theorem ztZ (e:Ex):zgI e=1+zdF 0 e.args:=by cases e;rfl
mutual
theorem zw4:∀ e:Ex,1≤zgI e
 |.mk _ _ _ _ _ args=>by simp only [zgI];have:=ziZ 0 args;omega
theorem ziZ:∀ (d:Int) (l:List Ex),d≤zdF d l
 |d,[]=>by simp [zdF]
 |d,e::r=>by
  have h1:=ziZ (mx d (zgI e)) r
  have h2:d≤mx d (zgI e):=by unfold mx zgV;split<;>omega
  simp only [zdF];omega
end
theorem zh4 (x:Ex):∀ (l:List Ex) (d:Int),zdF d (l++[x])=mx (zdF d l) (zgI x)
 |[],d=>by simp [zdF]
 |e::r,d=>by simp only [List.cons_append,zdF];exact zh4 x r _
mutual
def zqd:Sm→Int
 |.mk _ _ _ _ place value body els=>1+mx (mx (mx (zgI place) (zgI value)) (zbJ 0 body)) (zbJ 0 els)
def zbJ:Int→List Sm→Int
 |d,[]=>d
 |d,s::r=>zbJ (mx d (zqd s)) r
end
theorem zoN (s:Sm):zqd s=1+mx (mx (mx (zgI s.place) (zgI s.value)) (zbJ 0 s.body)) (zbJ 0 s.els):=by cases s;rfl
theorem zh5 (x:Sm):∀ (l:List Sm) (d:Int),zbJ d (l++[x])=mx (zbJ d l) (zqd x)
 |[],d=>by simp [zbJ]
 |e::r,d=>by simp only [List.cons_append,zbJ];exact zh5 x r _
theorem zDE (x y:Int):x≤mx x y:=by unfold mx zgV;split<;>omega
theorem zIb (x y:Int):y≤mx x y:=by unfold mx zgV;split<;>omega
theorem zqe (s:Sm):1≤zqd s:=by
 rw [zoN]
 have h1:=zw4 s.place
 have h2:=zDE (zgI s.place) (zgI s.value)
 have h3:=zDE (mx (zgI s.place) (zgI s.value)) (zbJ 0 s.body)
 have h4:=zDE (mx (mx (zgI s.place) (zgI s.value)) (zbJ 0 s.body)) (zbJ 0 s.els)
 omega
mutual
theorem zjS:∀ e:Ex,zgI e≤szE e
 |.mk _ _ _ _ _ args=>by simp only [zgI,szE];have:=zqf 0 args;unfold mx zgV at this;split at this<;>omega
theorem zqf:∀ (d:Int) (l:List Ex),zdF d l≤mx d (zh3 l)
 |d,[]=>by simp only [zdF,zh3];exact zDE _ _
 |d,e::r=>by
  have h1:=zqf (mx d (zgI e)) r
  have h2:=zjS e
  simp only [zdF,zh3]
  unfold mx zgV at *
  split at h1<;>split at h1<;>split<;>omega
end
mutual
theorem zoO:∀ s:Sm,zqd s≤szS s
 |.mk _ _ _ _ place value body els=>by
  have h1:=zjS place
  have h2:=zjS value
  have h3:=zl5 0 body
  have h4:=zl5 0 els
  have p1:=zbw place
  simp only [zqd,szS]
  generalize zgI place=a at *
  generalize zgI value=b at *
  generalize zbJ 0 body=c at *
  generalize zbJ 0 els=d at *
  unfold mx zgV at *
  split at h3<;>split at h4<;>(repeat' split)<;>omega
theorem zl5:∀ (d:Int) (l:List Sm),zbJ d l≤mx d (zbz l)
 |d,[]=>by simp only [zbJ,zbz];exact zDE _ _
 |d,e::r=>by
  have h1:=zl5 (mx d (zqd e)) r
  have h2:=zoO e
  simp only [zbJ,zbz]
  generalize zbJ (mx d (zqd e)) r=q at *
  unfold mx zgV at *
  split at h1<;>split at h1<;>split<;>omega
end
open Go
def zdt (n:Int):Bool:=(decide (n≥97)&&decide (n≤122)) || (decide (n≥65)&&decide (n≤90)) || n==95
def zdc (n:Int):Bool:=decide (n≥48)&&decide (n≤57)
def isW (c:UInt8):Bool:=zdt c.toNat || zdc c.toNat
def zw5 (s:List UInt8) (a:Nat):Nat:=a+((s.drop a).takeWhile isW).length
def zt0 (s:List UInt8):Bool:=s==[118,97,114] || s==[97,114,114,97,121] || s==[111,110] || s==[115,116,97,114,116] || s==[109,101,115,115,97,103,101] || s==[116,105,99,107] || s==[105,110,112,117,116] || s==[105,102] || s==[101,108,115,101] || s==[119,104,105,108,101] || s==[115,101,110,100] || s==[111,117,116,112,117,116] || s==[115,101,108,102] || s==[112,114,111,99,115] || s==[102,114,111,109] || s==[118,97,108,117,101]
def zdG (s:List UInt8):Bool:=!(s==[] || decide ((s.length:Int) > 16) || !zdt (s.getD 0 0).toNat)&&(((zw5 s 0:Nat):Int)==(s.length:Int)&&!zt0 s)
structure PgD where
 vars:List VarD
 start:List Sm
 message:List Sm
 tick:List Sm
 input:List Sm
def pgA (p:PgD):AVal:=.agg [.pv (.slice (p.vars.map zav)),.pv (.slice (p.start.map zah)),.pv (.slice (p.message.map zah)),.pv (.slice (p.tick.map zah)),.pv (.slice (p.input.map zah))]
def szP (p:PgD):Nat:=zbz p.start+zbz p.message+zbz p.tick+zbz p.input+p.vars.length
def zt1 (p:PgD):Int:=mx (mx (mx (zbJ 0 p.start) (zbJ 0 p.message)) (zbJ 0 p.tick)) (zbJ 0 p.input)
def zbA (v:VarD):Bool:=if !zdG v.name || decide (v.size<0) then false else if v.size != 0&&v.init != 0 then false else v.init != -9223372036854775808
def zcn (g:List Sm→Bool) (p:PgD):Int:=
 if zt1 p > 16 then 6 else if p.vars.any (fun v=>!zbA v) then 7 else if !g p.start || !g p.message || !g p.tick || !g p.input then 7 else 0
theorem zgJ (s:List UInt8) (h:16<s.length):zdG s=false:=by
 have:(s.length:Int) > 16:=by omega
 simp [zdG,this]
def zlc (op:Int):Int:=if op<1∨op > 22 then -1 else if op≥10 then 2 else if op=3∨op=8∨op=9 then 1 else 0
def zcF (name:List UInt8) (m:Bool):Bool:=if m then zdG name else name==[]
def zis (e:Ex):Bool:=e.op==0&&e.value==0&&e.name==[]&&e.slot==0&&e.size==0&&e.args.length==0
def zgw (op value:Int) (name:List UInt8) (slot size:Int) (n:Nat):Bool:=
 zlc op==(n:Int)&&slot==0&&size==0&&!(decide (value<0) || (value != 0&&op != 1))&&zcF name (op==2 || op==3)
mutual
def zb2:Ex→Bool
 |.mk op value name slot size args=>zgw op value name slot size args.length&&zco args
def zco:List Ex→Bool
 |[]=>true
 |e::r=>zb2 e&&zco r
end
theorem zhs (e:Ex):zb2 e=(zgw e.op e.value e.name e.slot e.size e.args.length&&zco e.args):=by cases e;simp [zb2,Ex.op,Ex.value,Ex.name,Ex.slot,Ex.size,Ex.args]
def zjT (kind:Int) (name:List UInt8) (slot size:Int) (place:Ex) (nb ne:Nat):Bool:=
 decide (kind≥1)&&decide (kind≤6)&&slot==0&&size==0&&zcF name (kind==1 || kind==2) &&
 (if kind==2 || kind==5 then zb2 place else zis place)&&!(decide (nb > 0)&&kind != 3&&kind != 4)&&!(decide (ne > 0)&&kind != 3)
mutual
def zfz:Sm→Bool
 |.mk kind name slot size place value body els=>zjT kind name slot size place body.length els.length&&(zb2 value&&zaA body&&zaA els)
def zaA:List Sm→Bool
 |[]=>true
 |e::r=>zfz e&&zaA r
end
theorem zht (s:Sm):zfz s=(zjT s.kind s.name s.slot s.size s.place s.body.length s.els.length&&(zb2 s.value&&zaA s.body&&zaA s.els)):=by cases s;simp [zfz,Sm.kind,Sm.name,Sm.slot,Sm.size,Sm.place,Sm.value,Sm.body,Sm.els]
theorem zoP (a b:Nat):((a:Int)==(b:Int))=(a==b):=Bool.eq_iff_iff.mpr (by simp only [beq_iff_eq];omega)
theorem zsB {a b:Int} (h:¬ a=b):(a==b)=false:=by simpa using h
open Go
structure TkD where
 kind:Int
 text:List UInt8
 value:Int
 pos:Int
def zfA (t:TkD):List PVal:=[.int .i64 t.kind,.str t.text,.int .i64 t.value,.int .i64 t.pos]
def tk0:TkD:=⟨0,[],0,0⟩
def zbW (p:UInt8→Bool) (s:List UInt8) (a:Nat):Nat:=a+((s.drop a).takeWhile p).length
theorem zhu (p:UInt8→Bool) (s:List UInt8) (a:Nat) (h:s.length≤a):zbW p s a=a:=by
 simp [zbW,List.drop_eq_nil_of_le h]
theorem zcp (p:UInt8→Bool) (s:List UInt8) (a:Nat) (h:a<s.length):zbW p s a=if p (s.getD a 0) then zbW p s (a+1) else a:=by
 unfold zbW
 rw [List.drop_eq_getElem_cons h,List.takeWhile_cons]
 have:s.getD a 0=s[a]:=by simp [List.getD,h]
 rw [this]
 split
 ·simp;omega
 ·simp
theorem zfB (p:UInt8→Bool) (s:List UInt8) (a:Nat):a≤zbW p s a:=by unfold zbW;omega
theorem zh6 (p:UInt8→Bool) (s:List UInt8) (a:Nat) (h:a≤s.length):zbW p s a≤s.length:=by
 unfold zbW
 have h1:((s.drop a).takeWhile p).length≤(s.drop a).length:=(List.takeWhile_sublist p).length_le
 simp at h1
 omega
theorem zt2 (s:List UInt8) (a:Nat):zw5 s a=zbW isW s a:=rfl
def isD (c:UInt8):Bool:=zdc c.toNat
def isL (c:UInt8):Bool:=zdt c.toNat
def zbU (c:UInt8):Bool:=c != 10
def isB (c:UInt8):Bool:=c==9 || c==10 || c==13 || c==32
def cut (s:List UInt8) (a b:Nat):List UInt8:=(s.take b).drop a
def zh7:List UInt8→Nat→Nat
 |[],acc=>acc
 |c::r,acc=>zh7 r (acc * 10+(c.toNat - 48))
def zbc (l:List UInt8):Nat:=zh7 l 0
theorem zoQ:∀ (l:List UInt8) (acc:Nat),acc≤zh7 l acc
 |[],acc=>by rw [zh7];omega
 |c::r,acc=>by have:=zoQ r (acc * 10+(c.toNat - 48));rw [zh7];omega
theorem zcQ {c:UInt8} (h:isD c=true):48≤c.toNat∧c.toNat≤57:=by
 unfold isD zdc at h
 rw [Bool.and_eq_true,decide_eq_true_eq,decide_eq_true_eq] at h
 omega
theorem zeL (acc:Nat) (c:UInt8) (r:List UInt8):zh7 (c::r) acc=zh7 r (acc * 10+(c.toNat - 48)):=by rw [zh7]
theorem zeW (M:Nat) (hM:M<18446744073709551620):∀ (l:List UInt8) (acc:Nat),(∀ c ∈ l,isD c=true)→acc≤M→Lib.parseUintM M acc l=if zh7 l acc≤M then .ok (zh7 l acc) else .range
 |[],acc,_,h=>by rw [Lib.parseUintM,zh7,if_pos h]
 |c::r,acc,hd,h=>by
  have hc:=zcQ (hd c List.mem_cons_self)
  have hge:=zoQ r (acc * 10+(c.toNat - 48))
  rw [Lib.parseUintM,zeL,if_pos hc]
  have ih:=zeW M hM r (acc * 10+(c.toNat - 48)) (fun x hx=>hd x (List.mem_cons_of_mem _ hx))
  generalize hq:acc * 10+(c.toNat - 48)=q at *
  by_cases h1:1844674407370955162≤acc
  ·rw [if_pos h1,if_neg (by omega)]
  ·rw [if_neg h1]
   by_cases h2:M<q
   ·rw [if_pos h2,if_neg (by omega)]
   ·rw [if_neg h2]
    exact ih (by omega)
theorem zgK (l:List UInt8) (h0:l≠[]) (hd:∀ c ∈ l,isD c=true):Lib.parseIntB 64 l=if zbc l<9223372036854775808 then .ok (zbc l:Int) else .range:=by
 cases l with
 |nil=>exact absurd rfl h0
 |cons c r=>
  have hc:=zcQ (hd c (by simp))
  have e1:¬ (c.toNat=43∨c.toNat=45):=by omega
  have e2:¬ c.toNat=45:=by omega
  have hp:=zeW 18446744073709551615 (by omega) (c::r) 0 hd (by omega)
  simp only [Lib.parseIntB,if_neg e1,Lib.parseUintB]
  rw [if_neg (by simp),show (2 ^ 64 - 1:Nat)=18446744073709551615 from rfl,hp]
  have hv0:zh7 (c::r) 0=zbc (c::r):=rfl
  rw [hv0]
  generalize zbc (c::r)=v
  by_cases h1:v≤18446744073709551615
  ·rw [if_pos h1]
   by_cases h2:v<9223372036854775808
   ·rw [if_pos h2]
    simp only [e2]
    rw [if_neg (by simp;omega),if_neg (by simp)]
    simp
   ·rw [if_neg h2]
    simp only [e2]
    rw [if_pos (by simp;omega)]
  ·rw [if_neg h1,if_neg (by omega)]
def zcG (c n:Int):Int:=
 if c==61 || c==33 || c==60 || c==62 then (if n==61 then 2 else 1)
 else if c==40 || c==41 || c==123 || c==125 || c==91 || c==93 || c==44 || c==59 || c==43 || c==45 || c==42 || c==47 || c==37 then 1
 else if (c==38 || c==124)&&n==c then 2 else 0
def zdd (s:List UInt8) (a:Nat):Int:=if a+1<s.length then ((s.getD (a+1) 0).toNat:Int) else 0
def za8 (s:List UInt8) (a:Nat):Nat:=if s.getD a 0=48 then a+1 else zbW isD s (a+1)
def zoj (s:List UInt8) (a:Nat):TkD × Int × Int:=
 if zbW isW s (za8 s a) > za8 s a then (tk0,0,1)
 else if zbc (cut s a (za8 s a))<9223372036854775808 then (⟨2,[],zbc (cut s a (za8 s a)),a⟩,za8 s a,0) else (tk0,0,3)
def zcz (s:List UInt8) (a:Nat):TkD × Int × Int:=
 if isL (s.getD a 0) then (if zbW isW s a - a > 16 then (tk0,0,5) else (⟨1,cut s a (zbW isW s a),0,a⟩,zbW isW s a,0))
 else if isD (s.getD a 0) then zoj s a
 else if zcG (s.getD a 0).toNat (zdd s a)=0 then (tk0,0,1)
 else (⟨3,cut s a (a+(zcG (s.getD a 0).toNat (zdd s a)).toNat),0,a⟩,a+zcG (s.getD a 0).toNat (zdd s a),0)
theorem zl6 (c n:Int):0≤zcG c n∧zcG c n≤2:=by
 unfold zcG
 repeat' split
 all_goals omega
theorem zjU (s:List UInt8) (a:Nat) (h:a<s.length):a<za8 s a∧za8 s a≤s.length:=by
 unfold za8
 split
 ·omega
 ·have:=zfB isD s (a+1);have:=zh6 isD s (a+1) (by omega);omega
theorem zw6 {c n:Int} (h:zcG c n=2):n=61∨n=38∨n=124:=by
 unfold zcG at h
 grind
theorem zi0 (s:List UInt8) (a:Nat) (h:a<s.length) (h0:(zcz s a).2.2=0):∃ e:Nat,(zcz s a).2.1=e∧a<e∧e≤s.length:=by
 unfold zcz at h0 ⊢
 split
 ·rename_i hl
  rw [if_pos hl] at h0
  have hW:isW (s.getD a 0)=true:=by simp [isW];exact .inl hl
  have h1:=zcp isW s a h
  rw [hW,if_pos rfl] at h1
  have h2:=zfB isW s (a+1)
  have h3:=zh6 isW s a (by omega)
  split
  ·rename_i h16;rw [if_pos h16] at h0;simp at h0
  ·exact ⟨_,rfl,by omega,h3⟩
 ·rename_i hl
  rw [if_neg hl] at h0
  split
  ·rename_i hd
   rw [if_pos hd] at h0
   unfold zoj at h0 ⊢
   have h1:=zjU s a h
   split
   ·rename_i hw;rw [if_pos hw] at h0;simp at h0
   ·rename_i hw
    rw [if_neg hw] at h0
    split
    ·exact ⟨_,rfl,h1.1,h1.2⟩
    ·rename_i hv;rw [if_neg hv] at h0;simp at h0
  ·rename_i hd
   rw [if_neg hd] at h0
   split
   ·rename_i hs;rw [if_pos hs] at h0;simp at h0
   ·rename_i hs
    have h1:=zl6 (s.getD a 0).toNat (zdd s a)
    refine ⟨a+(zcG (s.getD a 0).toNat (zdd s a)).toNat,by show (a:Int)+zcG _ _=_;omega,by omega,?_⟩
    by_cases h2:zcG (s.getD a 0).toNat (zdd s a)=2
    ·have h3:=zw6 h2
     have:a+1<s.length:=by
      by_cases h4:a+1<s.length
      ·exact h4
      ·simp [zdd,h4] at h3
     omega
    ·omega
def zc4 (s:List UInt8):Nat→Nat→List TkD→List TkD × Int × Int
 |0,_,acc=>(acc,0,0)
 |f+1,a,acc=>
  if a<s.length then
   if isB (s.getD a 0) then zc4 s f (a+1) acc
   else if s.getD a 0=35 then zc4 s f (zbW zbU s a) acc
   else if (zcz s a).2.2=0 then zc4 s f (zcz s a).2.1.toNat (acc++[(zcz s a).1])
   else ([],a,(zcz s a).2.2)
  else (acc,0,0)
def zhv (s:List UInt8):List TkD × Int × Int:=if s.length > 4096 then ([],0,5) else zc4 s (s.length+1) 0 []
inductive PR (α:Type) where
 |ok (a:α) (k:Nat)
 |bad (k:Nat)
 |out
def PR.bind {α β:Type} (r:PR α) (f:α→Nat→PR β):PR β:=
 match r with
 |.ok a k=>f a k
 |.bad k=>.bad k
 |.out=>.out
section
variable (l:List TkD)
def zbK (k:Nat):List UInt8:=if k<l.length then (l.getD k tk0).text else []
def isT (k:Nat) (s:List UInt8):Bool:=zbK l k==s
def zaW (s:List UInt8) (k:Nat):PR Unit:=if isT l k s then .ok () (k+1) else .bad k
def zdM (k:Nat):PR (List UInt8):=if k<l.length∧(l.getD k tk0).kind=1∧zdG (l.getD k tk0).text=true then .ok (l.getD k tk0).text (k+1) else .bad k
def nmF (least:Int) (k:Nat):PR Int:=if k<l.length∧(l.getD k tk0).kind=2∧least≤(l.getD k tk0).value then .ok (l.getD k tk0).value (k+1) else .bad k
def zeh (k:Nat):Bool:=decide (k<l.length)&&(l.getD k tk0).kind==2
def opF (lv:Nat) (s:List UInt8):Nat:=
 if lv=0 then (if s==[124,124] then 22 else 0)
 else if lv=1 then (if s==[38,38] then 21 else 0)
 else if lv=2 then (if s==[60] then 15 else if s==[60,61] then 16 else if s==[62] then 17 else if s==[62,61] then 18 else if s==[61,61] then 19 else if s==[33,61] then 20 else 0)
 else if lv=3 then (if s==[43] then 10 else if s==[45] then 11 else 0)
 else if lv=4 then (if s==[42] then 12 else if s==[47] then 13 else if s==[37] then 14 else 0)
 else 0
def exK (op:Int):Ex:=.mk op 0 [] 0 0 []
def exC (v:Int):Ex:=.mk 1 v [] 0 0 []
def exN (nm:List UInt8):Ex:=.mk 2 0 nm 0 0 []
def exI (nm:List UInt8) (e:Ex):Ex:=.mk 3 0 nm 0 0 [e]
def exU (op:Int) (e:Ex):Ex:=.mk op 0 [] 0 0 [e]
def exB (op:Int) (a b:Ex):Ex:=.mk op 0 [] 0 0 [a,b]
def exZ:Ex:=exK 0
inductive Nt where
 |bin (lv:Nat)
 |loop (lv:Nat) (e:Ex)
 |un
 |prim
def exF:Nat→Nt→Nat→PR Ex
 |0,_,_=>.out
 |n+1,.bin lv,k=>if lv=5 then exF n .un k else (exF n (.bin (lv+1)) k).bind fun e k'=>exF n (.loop lv e) k'
 |n+1,.loop lv e,k=>if opF lv (zbK l k)=0 then .ok e k else (exF n (.bin (lv+1)) (k+1)).bind fun e2 k2=>exF n (.loop lv (exB (opF lv (zbK l k)) e e2)) k2
 |n+1,.un,k=>
  if isT l k [45] then (exF n .un (k+1)).bind fun e k'=>.ok (exU 8 e) k'
  else if isT l k [33] then (exF n .un (k+1)).bind fun e k'=>.ok (exU 9 e) k'
  else exF n .prim k
 |n+1,.prim,k=>
  if zeh l k then (nmF l 0 k).bind fun v k'=>.ok (exC v) k'
  else if isT l k [115,101,108,102] then .ok (exK 4) (k+1)
  else if isT l k [112,114,111,99,115] then .ok (exK 5) (k+1)
  else if isT l k [102,114,111,109] then .ok (exK 6) (k+1)
  else if isT l k [118,97,108,117,101] then .ok (exK 7) (k+1)
  else if isT l k [40] then (exF n (.bin 0) (k+1)).bind fun e k'=>(zaW l [41] k').bind fun _ k2=>.ok e k2
  else (zdM l k).bind fun nm k1=>if isT l k1 [91] then (exF n (.bin 0) (k1+1)).bind fun e k'=>(zaW l [93] k').bind fun _ k2=>.ok (exI nm e) k2 else .ok (exN nm) k1
def zbr (k:Nat):PR Ex:=exF l (9 * l.length+20) (.bin 0) k
inductive Ns where
 |block
 |stmts (acc:List Sm)
 |stmt
def smE (kind:Int) (nm:List UInt8) (place value:Ex) (body els:List Sm):Sm:=.mk kind nm 0 0 place value body els
def smF:Nat→Ns→Nat→PR (List Sm)
 |0,_,_=>.out
 |n+1,.block,k=>(zaW l [123] k).bind fun _ k1=>smF n (.stmts []) k1
 |n+1,.stmts acc,k=>if isT l k [125] then .ok acc (k+1) else (smF n .stmt k).bind fun s k1=>smF n (.stmts (acc++s)) k1
 |n+1,.stmt,k=>
  if isT l k [105,102] then (zbr l (k+1)).bind fun e k1=>(smF n .block k1).bind fun b k2=>if isT l k2 [101,108,115,101] then (smF n .block (k2+1)).bind fun c k3=>.ok [smE 3 [] exZ e b c] k3 else .ok [smE 3 [] exZ e b []] k2
  else if isT l k [119,104,105,108,101] then (zbr l (k+1)).bind fun e k1=>(smF n .block k1).bind fun b k2=>.ok [smE 4 [] exZ e b []] k2
  else if isT l k [115,101,110,100] then (zbr l (k+1)).bind fun p k1=>(zaW l [44] k1).bind fun _ k2=>(zbr l k2).bind fun e k3=>(zaW l [59] k3).bind fun _ k4=>.ok [smE 5 [] p e [] []] k4
  else if isT l k [111,117,116,112,117,116] then (zbr l (k+1)).bind fun e k1=>(zaW l [59] k1).bind fun _ k2=>.ok [smE 6 [] exZ e [] []] k2
  else (zdM l k).bind fun nm k1=>
   if isT l k1 [91] then (zbr l (k1+1)).bind fun p k2=>(zaW l [93] k2).bind fun _ k3=>(zaW l [61] k3).bind fun _ k4=>(zbr l k4).bind fun e k5=>(zaW l [59] k5).bind fun _ k6=>.ok [smE 2 nm p e [] []] k6
   else (zaW l [61] k1).bind fun _ k4=>(zbr l k4).bind fun e k5=>(zaW l [59] k5).bind fun _ k6=>.ok [smE 1 nm exZ e [] []] k6
def zby (k:Nat):PR (List Sm):=smF l (3 * l.length+20) .block k
def zl7 (k:Nat):PR Int:=if isT l k [61] then (if isT l (k+1) [45] then (nmF l 0 (k+2)).bind fun v k'=>.ok (-v) k' else nmF l 0 (k+1)) else .ok 0 k
def zit:Nat→List VarD→Nat→PR (List VarD)
 |0,_,_=>.out
 |n+1,acc,k=>
  if isT l k [118,97,114] then (zdM l (k+1)).bind fun nm k1=>(zl7 l k1).bind fun v k2=>(zaW l [59] k2).bind fun _ k3=>zit n (acc++[⟨nm,0,v⟩]) k3
  else if isT l k [97,114,114,97,121] then (zdM l (k+1)).bind fun nm k1=>(zaW l [91] k1).bind fun _ k2=>(nmF l 1 k2).bind fun v k3=>(zaW l [93] k3).bind fun _ k4=>(zaW l [59] k4).bind fun _ k5=>zit n (acc++[⟨nm,v,0⟩]) k5
  else .ok acc k
structure Seen where
 s:Bool
 m:Bool
 t:Bool
 i:Bool
def zi1:Nat→PgD→Seen→Nat→PR PgD
 |0,_,_,_=>.out
 |n+1,p,z,k=>
  if k<l.length then (zaW l [111,110] k).bind fun _ k1=>
   if !z.s&&isT l k1 [115,116,97,114,116] then (zby l (k1+1)).bind fun b k2=>zi1 n { p with start:=b } { z with s:=true } k2
   else if !z.m&&isT l k1 [109,101,115,115,97,103,101] then (zby l (k1+1)).bind fun b k2=>zi1 n { p with message:=b } { z with m:=true } k2
   else if !z.t&&isT l k1 [116,105,99,107] then (zby l (k1+1)).bind fun b k2=>zi1 n { p with tick:=b } { z with t:=true } k2
   else if !z.i&&isT l k1 [105,110,112,117,116] then (zby l (k1+1)).bind fun b k2=>zi1 n { p with input:=b } { z with i:=true } k2
   else .bad k1
  else .ok p k
def zjV:PR PgD:=(zit l (l.length+1) [] 0).bind fun vs k=>zi1 l (l.length+1) ⟨vs,[],[],[],[]⟩ ⟨false,false,false,false⟩ k
def zar (n:Nat) (k:Nat):Int:=if k<l.length then (l.getD k tk0).pos else n
end
end Go.Abs
namespace Go.Abs
open Go
def PR.on {α:Type} (r:PR α) (k n:Nat):Prop:=match r with|.ok _ k'=>k≤k'∧k'≤n|.bad k'=>k≤k'∧k'≤n|.out=>True
def PR.past {α:Type} (r:PR α) (k n:Nat):Prop:=match r with|.ok _ k'=>k<k'∧k'≤n|.bad k'=>k≤k'∧k'≤n|.out=>True
theorem PR.past.on {α:Type} {r:PR α} {k n:Nat} (h:r.past k n):r.on k n:=by
 cases r<;>simp only [PR.past,PR.on] at *<;>omega
theorem PR.on.le {α:Type} {r:PR α} {k k0 n:Nat} (h:r.on k n) (hk:k0≤k):r.on k0 n:=by
 cases r<;>simp only [PR.on] at *<;>omega
theorem PR.on.lt {α:Type} {r:PR α} {k k0 n:Nat} (h:r.on k n) (hk:k0<k):r.past k0 n:=by
 cases r<;>simp only [PR.past,PR.on] at *<;>omega
theorem PR.on.bind {α β:Type} {r:PR α} {f:α→Nat→PR β} {k n:Nat} (h:r.on k n) (hf:∀ a k',k≤k'→k'≤n→(f a k').on k' n):(r.bind f).on k n:=by
 cases r with
 |ok a k'=>simp only [PR.on,PR.bind] at *;exact PR.on.le (hf a k' h.1 h.2) h.1
 |bad k'=>exact h
 |out=>trivial
theorem PR.past.bind {α β:Type} {r:PR α} {f:α→Nat→PR β} {k n:Nat} (h:r.past k n) (hf:∀ a k',k<k'→k'≤n→(f a k').on k' n):(r.bind f).past k n:=by
 cases r with
 |ok a k'=>simp only [PR.past,PR.bind] at *;exact PR.on.lt (hf a k' h.1 h.2) h.1
 |bad k'=>exact h
 |out=>trivial
theorem PR.ok_on {α:Type} (a:α) {k n:Nat} (h:k≤n):(PR.ok a k).on k n:=⟨Nat.le_refl _,h⟩
section
variable {l:List TkD}
theorem zaw {k:Nat} {s:List UInt8} (h:isT l k s=true) (hs:s≠[]):k<l.length:=by
 unfold isT zbK at h
 by_cases hk:k<l.length
 ·exact hk
 ·rw [if_neg hk] at h
  exact absurd (by simpa using h:([]:List UInt8)=s).symm hs
theorem zaC {s:List UInt8} {k:Nat} (hk:k≤l.length) (hs:s≠[]):(zaW l s k).past k l.length:=by
 unfold zaW
 split
 ·rename_i h;have:=zaw h hs;exact ⟨by omega,by omega⟩
 ·exact ⟨Nat.le_refl _,hk⟩
theorem za7 {k:Nat} (hk:k≤l.length):(zdM l k).past k l.length:=by
 unfold zdM
 split
 ·rename_i h;exact ⟨by omega,by omega⟩
 ·exact ⟨Nat.le_refl _,hk⟩
theorem zdW {z:Int} {k:Nat} (hk:k≤l.length):(nmF l z k).past k l.length:=by
 unfold nmF
 split
 ·rename_i h;exact ⟨by omega,by omega⟩
 ·exact ⟨Nat.le_refl _,hk⟩
theorem ziu {lv k:Nat} (h:¬ opF lv (zbK l k)=0):k<l.length:=by
 by_cases hk:k<l.length
 ·exact hk
 ·exfalso
  apply h
  unfold zbK
  rw [if_neg hk]
  unfold opF
  repeat' split
  all_goals first|rfl|simp_all
def Nt.strict:Nt→Bool
 |.loop _ _=>false
 |_=>true
theorem zcA:∀ (n:Nat) (nt:Nt) (k:Nat),k≤l.length→(exF l n nt k).on k l.length∧(nt.strict=true→(exF l n nt k).past k l.length)
 |0,nt,k,hk=>by constructor<;>intros<;>(unfold exF;trivial)
 |n+1,.bin lv,k,hk=>by
  have h:(exF l (n+1) (.bin lv) k).past k l.length:=by
   unfold exF
   split
   ·exact (zcA n .un k hk).2 rfl
   ·exact PR.past.bind ((zcA n (.bin (lv+1)) k hk).2 rfl) (fun e k' _ h2=>(zcA n (.loop lv e) k' h2).1)
  exact ⟨h.on,fun _=>h⟩
 |n+1,.loop lv e,k,hk=>by
  refine ⟨?_,fun h=>by cases h⟩
  unfold exF
  split
  ·exact PR.ok_on _ hk
  ·rename_i h
   have:=ziu h
   exact PR.on.le (PR.on.bind (zcA n (.bin (lv+1)) (k+1) (by omega)).1 (fun e2 k2 _ h2=>(zcA n _ k2 h2).1)) (by omega)
 |n+1,.un,k,hk=>by
  have h:(exF l (n+1) .un k).past k l.length:=by
   unfold exF
   split
   ·rename_i h
    have:=zaw h (by simp)
    exact PR.on.lt (PR.on.bind (zcA n .un (k+1) (by omega)).1 (fun e k' _ h2=>PR.ok_on _ h2)) (by omega)
   ·split
    ·rename_i h
     have:=zaw h (by simp)
     exact PR.on.lt (PR.on.bind (zcA n .un (k+1) (by omega)).1 (fun e k' _ h2=>PR.ok_on _ h2)) (by omega)
    ·exact (zcA n .prim k hk).2 rfl
  exact ⟨h.on,fun _=>h⟩
 |n+1,.prim,k,hk=>by
  have one:∀ {s:List UInt8} {e:Ex},isT l k s=true→s≠[]→(PR.ok e (k+1)).past k l.length:=fun h hs=>⟨by omega,by have:=zaw h hs;omega⟩
  have h:(exF l (n+1) .prim k).past k l.length:=by
   unfold exF
   split
   ·exact PR.past.bind (zdW hk) (fun v k' _ h2=>PR.ok_on _ h2)
   split
   ·exact one ‹_› (by simp)
   split
   ·exact one ‹_› (by simp)
   split
   ·exact one ‹_› (by simp)
   split
   ·exact one ‹_› (by simp)
   split
   ·rename_i h
    have:=zaw h (by simp)
    exact PR.on.lt (PR.on.bind (zcA n (.bin 0) (k+1) (by omega)).1 (fun e k' _ h2=>PR.on.bind (zaC h2 (by simp)).on (fun _ k2 _ h3=>PR.ok_on _ h3))) (by omega)
   ·refine PR.past.bind (za7 hk) (fun nm k1 _ h1=>?_)
    split
    ·rename_i h
     have:=zaw h (by simp)
     exact PR.on.le (PR.on.bind (zcA n (.bin 0) (k1+1) (by omega)).1 (fun e k' _ h2=>PR.on.bind (zaC h2 (by simp)).on (fun _ k2 _ h3=>PR.ok_on _ h3))) (by omega)
    ·exact PR.ok_on _ h1
  exact ⟨h.on,fun _=>h⟩
def Nt.need (m:Nat):Nt→Nat
 |.bin lv=>9 * m+(5 - lv)+3
 |.loop _ _=>9 * m+9
 |.un=>9 * m+2
 |.prim=>9 * m+1
def Nt.fit:Nt→Bool
 |.bin lv=>decide (lv≤5)
 |.loop lv _=>decide (lv<5)
 |_=>true
def PR.isOut {α:Type}:PR α→Bool
 |.out=>true
 |_=>false
theorem PR.bind_out {α β:Type} {r:PR α} {f:α→Nat→PR β} (h:r.isOut=false) (hf:∀ a k',r=.ok a k'→(f a k').isOut=false):(r.bind f).isOut=false:=by
 cases r with
 |ok a k'=>exact hf a k' rfl
 |bad k'=>rfl
 |out=>cases h
theorem zbB {s:List UInt8} {k:Nat}:(zaW l s k).isOut=false:=by unfold zaW;split<;>rfl
theorem zdX {k:Nat}:(zdM l k).isOut=false:=by unfold zdM;split<;>rfl
theorem zh8 {z:Int} {k:Nat}:(nmF l z k).isOut=false:=by unfold nmF;split<;>rfl
theorem zeb:∀ (n:Nat) (nt:Nt) (k:Nat),k≤l.length→nt.fit=true→nt.need (l.length - k)≤n→(exF l n nt k).isOut=false
 |0,nt,k,hk,_,h=>by cases nt<;>simp only [Nt.need] at h<;>omega
 |n+1,.bin lv,k,hk,hf,h=>by
  simp only [Nt.need] at h
  simp only [Nt.fit,decide_eq_true_eq] at hf
  unfold exF
  split
  ·exact zeb n .un k hk rfl (by simp only [Nt.need];omega)
  ·refine PR.bind_out (zeb n (.bin (lv+1)) k hk (by simp only [Nt.fit,decide_eq_true_eq];omega) (by simp only [Nt.need];omega)) (fun e k' he=>?_)
   have h1:=(zcA (l:=l) n (.bin (lv+1)) k hk).2 rfl
   rw [he] at h1
   exact zeb n (.loop lv e) k' h1.2 (by simp only [Nt.fit,decide_eq_true_eq];omega) (by have:=h1.1;have:=h1.2;simp only [Nt.need];omega)
 |n+1,.loop lv e,k,hk,hf,h=>by
  simp only [Nt.need] at h
  simp only [Nt.fit,decide_eq_true_eq] at hf
  unfold exF
  split
  ·rfl
  ·rename_i h0
   have:=ziu h0
   refine PR.bind_out (zeb n (.bin (lv+1)) (k+1) (by omega) (by simp only [Nt.fit,decide_eq_true_eq];omega) (by simp only [Nt.need];omega)) (fun e2 k2 he=>?_)
   have h1:=(zcA (l:=l) n (.bin (lv+1)) (k+1) (by omega)).2 rfl
   rw [he] at h1
   exact zeb n _ k2 h1.2 (by simp only [Nt.fit,decide_eq_true_eq];omega) (by have:=h1.1;have:=h1.2;simp only [Nt.need];omega)
 |n+1,.un,k,hk,hf,h=>by
  simp only [Nt.need] at h
  unfold exF
  split
  ·rename_i h0
   have:=zaw h0 (by simp)
   exact PR.bind_out (zeb n .un (k+1) (by omega) rfl (by simp only [Nt.need];omega)) (fun _ _ _=>rfl)
  ·split
   ·rename_i h0
    have:=zaw h0 (by simp)
    exact PR.bind_out (zeb n .un (k+1) (by omega) rfl (by simp only [Nt.need];omega)) (fun _ _ _=>rfl)
   ·exact zeb n .prim k hk rfl (by simp only [Nt.need];omega)
 |n+1,.prim,k,hk,hf,h=>by
  simp only [Nt.need] at h
  unfold exF
  split
  ·exact PR.bind_out zh8 (fun _ _ _=>rfl)
  split
  ·rfl
  split
  ·rfl
  split
  ·rfl
  split
  ·rfl
  split
  ·rename_i h0
   have:=zaw h0 (by simp)
   exact PR.bind_out (zeb n (.bin 0) (k+1) (by omega) rfl (by simp only [Nt.need];omega)) (fun _ _ _=>PR.bind_out zbB (fun _ _ _=>rfl))
  ·refine PR.bind_out zdX (fun nm k1 he=>?_)
   have h1:=za7 (l:=l) hk
   rw [he] at h1
   split
   ·rename_i h0
    have:=zaw h0 (by simp)
    exact PR.bind_out (zeb n (.bin 0) (k1+1) (by omega) rfl (by have:=h1.1;simp only [Nt.need];omega)) (fun _ _ _=>PR.bind_out zbB (fun _ _ _=>rfl))
   ·rfl
theorem zes {k:Nat} (hk:k≤l.length):(zbr l k).isOut=false:=zeb _ _ k hk rfl (by simp only [Nt.need];omega)
theorem zjW {k:Nat} (hk:k≤l.length):(zbr l k).past k l.length:=(zcA _ _ k hk).2 rfl
end
end Go.Abs
namespace Go.Abs
open Go
def lvF (op:Nat):Nat:=if op=22 then 0 else if op=21 then 1 else if op=10∨op=11 then 3 else if op=12∨op=13∨op=14 then 4 else 2
def sgF (op:Nat):List UInt8:=
 if op=8∨op=11 then [45] else if op=9 then [33] else if op=10 then [43] else if op=12 then [42] else if op=13 then [47] else if op=14 then [37]
 else if op=15 then [60] else if op=16 then [60,61] else if op=17 then [62] else if op=18 then [62,61] else if op=19 then [61,61] else if op=20 then [33,61] else if op=21 then [38,38] else [124,124]
theorem zDF (k:Nat) (h1:10≤k) (h2:k≤22):opF (lvF k) (sgF k)=k:=by
 have:k=10∨k=11∨k=12∨k=13∨k=14∨k=15∨k=16∨k=17∨k=18∨k=19∨k=20∨k=21∨k=22:=by omega
 rcases this with rfl|rfl|rfl|rfl|rfl|rfl|rfl|rfl|rfl|rfl|rfl|rfl|rfl<;>rfl
theorem zym {lv:Nat} {s:List UInt8} (h:opF lv s≠0):10≤opF lv s∧opF lv s≤22∧lvF (opF lv s)=lv∧sgF (opF lv s)=s:=by
 unfold opF at h ⊢
 repeat' split
 all_goals first
  |(exfalso;simp_all;done)
  |(rename_i hs;simp only [beq_iff_eq] at hs;subst hs;subst_vars;decide)
def zl8:List Ex→AVal
 |[]=>.snil
 |e::r=>.pv (.slice ((e::r).map zbq))
def exA (e:Ex):AVal:=.agg [.pv (.int .i64 e.op),.pv (.int .i64 e.value),.pv (.str e.name),.pv (.int .i64 e.slot),.pv (.int .i64 e.size),zl8 e.args]
theorem zcf:zl8 []=.snil:=rfl
theorem zaQ (e:Ex) (r:List Ex):zl8 (e::r)=.pv (.slice ((e::r).map zbq)):=rfl
theorem zAe (a:List Ex):AVal.isCell (zl8 a)=true:=by cases a<;>rfl
theorem zt3 (a:List Ex):AVal.cells (zl8 a)=[zl8 a]:=by cases a<;>rfl
theorem zbx (ι:Nat→Nat) (a:List Ex):ren ι (zl8 a)=zl8 a:=by cases a<;>simp [zl8,ren]
theorem zch (n:Nat→Bool) (a:List Ex):zaB n (zl8 a)=true:=by cases a<;>simp [zl8,zaB]
theorem zw7 (a:List Ex) (r:List AVal):zfh (zl8 a::r)=match zfh r with|some ps=>some (.slice (a.map zbq)::ps)|none=>none:=by
 cases a<;>(simp only [zl8,zfh,AVal.toP];cases zfh r<;>rfl)
def kA:=And.intro @zAe<|And.intro @zt3<|And.intro @zbx<|And.intro @zw7<|@zcf
theorem zjX (op:Int):exA (exK op)=.agg [.pv (.int .i64 op),.pv (.int .i64 0),.pv (.str []),.pv (.int .i64 0),.pv (.int .i64 0),.snil]:=rfl
theorem zDG (v:Int):exA (exC v)=.agg [.pv (.int .i64 1),.pv (.int .i64 v),.pv (.str []),.pv (.int .i64 0),.pv (.int .i64 0),.snil]:=rfl
theorem zAf (nm:List UInt8):exA (exN nm)=.agg [.pv (.int .i64 2),.pv (.int .i64 0),.pv (.str nm),.pv (.int .i64 0),.pv (.int .i64 0),.snil]:=rfl
theorem zhw:∀ l:List UInt8,Lib.indexByte l 10=if (l.takeWhile zbU).length=l.length then -1 else ((l.takeWhile zbU).length:Int)
 |[]=>by simp [Lib.indexByte]
 |b::l=>by
  rw [Lib.indexByte,zhw l,List.takeWhile_cons]
  have hle:(l.takeWhile zbU).length≤l.length:=(List.takeWhile_sublist zbU).length_le
  by_cases h:b=10
  ·subst h
   simp [zbU]
  ·have hb:(b==10)=false:=by simpa using h
   have hn:zbU b=true:=by simp [zbU,h]
   rw [hb,hn,if_neg (by simp),if_pos rfl]
   simp only [List.length_cons]
   by_cases h2:(l.takeWhile zbU).length=l.length
   ·simp [h2]
   ·have h3:¬ ((l.takeWhile zbU).length+1=l.length+1):=by omega
    have h4:¬ (((l.takeWhile zbU).length:Int)=-1):=by omega
    simp [h2,h4]
theorem zld (s:List UInt8) (a:Nat) (h:a≤s.length):(if Lib.indexByte (s.drop a) 10<0 then (s.length:Int) else a+Lib.indexByte (s.drop a) 10)=zbW zbU s a:=by
 rw [zhw]
 unfold zbW
 have hl:(s.drop a).length=s.length - a:=by simp
 by_cases h2:((s.drop a).takeWhile zbU).length=(s.drop a).length
 ·rw [if_pos h2,if_pos (by omega),h2,hl];omega
 ·rw [if_neg h2,if_neg (by omega)];omega
theorem zeX (s:List UInt8) (a k:Nat) (h:k<s.length) (ha:a≤k):cut s a (k+1)=cut s a k++[s.getD k 0]:=by
 unfold cut
 rw [List.take_succ_eq_append_getElem h,List.drop_append_of_le_length (by simp;omega)]
 simp [List.getD,h]
theorem zeY (s:List UInt8) (a k:Nat) (hr1:s.getD a 0≠48→zbW isD s k=zbW isD s (a+1)) (hr2:s.getD a 0=48→k=a+1)
  (hc:((((s.getD a 0).toNat:Nat):Int) != 48&&decide ((k:Int)<s.length)&&zdc ((s.getD k 0).toNat:Int))=false) (h48:((((s.getD a 0).toNat:Nat):Int) != 48)=true ↔ s.getD a 0≠48):za8 s a=k:=by
 unfold za8
 by_cases h:s.getD a 0=48
 ·rw [if_pos h,hr2 h]
 ·rw [if_neg h,←hr1 h]
  rw [h48.2 h,Bool.true_and] at hc
  by_cases hlt:k<s.length
  ·rw [zcp isD s k hlt]
   have h1:decide ((k:Int)<s.length)=true:=by simpa using (show (k:Int)<s.length by omega)
   rw [h1,Bool.true_and] at hc
   rw [show isD (s.getD k 0)=false from hc]
   simp
  ·exact zhu isD s k (by omega)
theorem zi2 (s:List UInt8) (a:Nat):cut s a a=[]:=by simp [cut]
theorem zt4 (s:List UInt8) (a k:Nat) (h:a<k) (hk:k≤s.length):cut s a k≠[]:=by
 intro e
 have:=congrArg List.length e
 simp [cut] at this
 omega
theorem zh9 (s:List UInt8) (a k:Nat) (hk:k≤s.length):(cut s a k).length=k - a:=by simp [cut];omega
theorem zHy (c:UInt8) (n:Nat) (h:n<256):(((c.toNat:Int) != (n:Int))=true) ↔ c≠UInt8.ofNat n:=by
 rw [bne_iff_ne]
 constructor
 ·intro h1 h2
  apply h1
  rw [h2]
  simp
  omega
 ·intro h1 h2
  apply h1
  apply UInt8.toNat.inj
  simp
  omega
structure SI (s:List UInt8) where
 k:Nat
 acc:List TkD
 f:Nat
 hk:k≤s.length
 hf:s.length<k+f
 ha:acc.length≤k
 eq:zc4 s f k acc=zc4 s (s.length+1) 0 []
variable {s:List UInt8} (i:SI s)
theorem SI.fpos (h:i.k<s.length):∃ f,i.f=f+1:=⟨i.f - 1,by have:=i.hf;omega⟩
theorem SI.unf (h:i.k<s.length):zc4 s i.f i.k i.acc=(if isB (s.getD i.k 0) then zc4 s (i.f - 1) (i.k+1) i.acc else if s.getD i.k 0=35 then zc4 s (i.f - 1) (zbW zbU s i.k) i.acc else if (zcz s i.k).2.2=0 then zc4 s (i.f - 1) (zcz s i.k).2.1.toNat (i.acc++[(zcz s i.k).1]) else ([],i.k,(zcz s i.k).2.2)):=by
 obtain ⟨f,hf⟩:=i.fpos h
 rw [hf,zc4,if_pos h]
 rfl
def SI.blank (h:i.k<s.length) (hb:isB (s.getD i.k 0)=true):SI s:=⟨i.k+1,i.acc,i.f - 1,h,by have:=i.hf;omega,by have:=i.ha;omega,by
 have:=i.unf h;rw [if_pos hb] at this;rw [←this];exact i.eq⟩
theorem zjY (h:i.k<s.length) (hh:s.getD i.k 0=35):i.k<zbW zbU s i.k∧zbW zbU s i.k≤s.length:=by
 have h1:=zcp zbU s i.k h
 have h2:zbU (s.getD i.k 0)=true:=by rw [hh];rfl
 rw [h2,if_pos rfl] at h1
 have h3:=zfB zbU s (i.k+1)
 exact ⟨by omega,zh6 zbU s i.k (by omega)⟩
def SI.hsh (h:i.k<s.length) (hh:s.getD i.k 0=35):SI s:=⟨zbW zbU s i.k,i.acc,i.f - 1,(zjY i h hh).2,by have:=i.hf;have:=zjY i h hh;omega,by have:=i.ha;have:=zjY i h hh;omega,by
 have:=i.unf h
 have hb:¬ (isB (s.getD i.k 0)=true):=by rw [hh];decide
 rw [if_neg hb,if_pos hh] at this;rw [←this];exact i.eq⟩
theorem znA (h:i.k<s.length) (h0:(zcz s i.k).2.2=0):i.k<(zcz s i.k).2.1.toNat∧(zcz s i.k).2.1.toNat≤s.length∧(zcz s i.k).2.1=(((zcz s i.k).2.1.toNat:Nat):Int):=by
 obtain ⟨e,h1,h2,h3⟩:=zi0 s i.k h h0
 rw [h1]
 exact ⟨by simpa using h2,by simpa using h3,by simp⟩
def SI.tok (h:i.k<s.length) (hb:¬ (isB (s.getD i.k 0)=true)) (hh:¬ s.getD i.k 0=35) (h0:(zcz s i.k).2.2=0):SI s:=
 ⟨(zcz s i.k).2.1.toNat,i.acc++[(zcz s i.k).1],i.f - 1,(znA i h h0).2.1,by have:=i.hf;have:=znA i h h0;omega,by have:=i.ha;have:=znA i h h0;simp;omega,by
 have:=i.unf h
 rw [if_neg hb,if_neg hh,if_pos h0] at this;rw [←this];exact i.eq⟩
theorem SI.bad (h:i.k<s.length) (hb:¬ (isB (s.getD i.k 0)=true)) (hh:¬ s.getD i.k 0=35) (h0:¬ (zcz s i.k).2.2=0):zc4 s (s.length+1) 0 []=([],(i.k:Int),(zcz s i.k).2.2):=by
 have:=i.unf h
 rw [if_neg hb,if_neg hh,if_neg h0] at this;rw [←i.eq,this]
theorem SI.fin (h:¬ i.k<s.length):zc4 s (s.length+1) 0 []=(i.acc,0,0):=by
 rw [←i.eq]
 cases hf:i.f with
 |zero=>rfl
 |succ f=>rw [zc4,if_neg h]
def SI.start (s:List UInt8):SI s:=⟨0,[],s.length+1,by omega,by omega,by simp,rfl⟩
theorem SI.blank_k (h:i.k<s.length) (hb:isB (s.getD i.k 0)=true):(i.blank h hb).k=i.k+1:=rfl
theorem SI.blank_acc (h:i.k<s.length) (hb:isB (s.getD i.k 0)=true):(i.blank h hb).acc=i.acc:=rfl
theorem SI.hsh_k (h:i.k<s.length) (hb:s.getD i.k 0=35):(i.hsh h hb).k=zbW zbU s i.k:=rfl
theorem SI.hsh_acc (h:i.k<s.length) (hb:s.getD i.k 0=35):(i.hsh h hb).acc=i.acc:=rfl
theorem SI.tok_k (h:i.k<s.length) (hb:¬ (isB (s.getD i.k 0)=true)) (hh:¬ s.getD i.k 0=35) (h0:(zcz s i.k).2.2=0):(i.tok h hb hh h0).k=(zcz s i.k).2.1.toNat:=rfl
theorem SI.tok_acc (h:i.k<s.length) (hb:¬ (isB (s.getD i.k 0)=true)) (hh:¬ s.getD i.k 0=35) (h0:(zcz s i.k).2.2=0):(i.tok h hb hh h0).acc=i.acc++[(zcz s i.k).1]:=rfl
theorem SI.start_k (s:List UInt8):(SI.start s).k=0:=rfl
theorem SI.start_acc (s:List UInt8):(SI.start s).acc=[]:=rfl
theorem u8f {c d:UInt8} (h:c≠d):(((c.toNat:Nat):Int)==((d.toNat:Nat):Int))=false:=by
 have:¬ ((c.toNat:Int)=d.toNat):=fun e=>h (UInt8.toNat.inj (by omega))
 simpa using this
theorem u8b (c d:UInt8):(((c.toNat:Nat):Int)==((d.toNat:Nat):Int))=(c==d):=by
 rw [Bool.eq_iff_iff]
 simp only [beq_iff_eq]
 constructor
 ·intro h;exact UInt8.toNat.inj (by omega)
 ·intro h;rw [h]
def zAg (a b:Int):Bool:=b==61&&(a==61 || a==33 || a==60 || a==62) || a==38&&b==38 || a==124&&b==124
def zoR:List UInt8:=[40,41,123,125,91,93,44,59,61,60,62,43,45,42,47,37,33]
theorem zw8 (c:UInt8) (n:Int):zcG c.toNat n=if zAg c.toNat n then 2 else if zoR.contains c then 1 else 0:=by
 have e:=fun d:UInt8=>u8b c d
 have e1:=e 61;have e2:=e 33;have e3:=e 60;have e4:=e 62;have e5:=e 40;have e6:=e 41;have e7:=e 123;have e8:=e 125;have e9:=e 91;have e10:=e 93
 have f1:=e 44;have f2:=e 59;have f3:=e 43;have f4:=e 45;have f5:=e 42;have f6:=e 47;have f7:=e 37;have f8:=e 38;have f9:=e 124
 simp only [UInt8.reduceToNat,Int.cast_ofNat_Int] at e1 e2 e3 e4 e5 e6 e7 e8 e9 e10 f1 f2 f3 f4 f5 f6 f7 f8 f9
 unfold zcG zAg zoR
 simp only [e1,e2,e3,e4,e5,e6,e7,e8,e9,e10,f1,f2,f3,f4,f5,f6,f7,f8,f9,List.contains_cons,List.contains_nil,Bool.or_false]
 have hl:(c==40 || (c==41 || (c==123 || (c==125 || (c==91 || (c==93 || (c==44 || (c==59 || (c==61 || (c==60 || (c==62 || (c==43 || (c==45 || (c==42 || (c==47 || (c==37 || c==33)))))))))))))))) =
   ((c==61 || c==33 || c==60 || c==62) || (c==40 || c==41 || c==123 || c==125 || c==91 || c==93 || c==44 || c==59 || c==43 || c==45 || c==42 || c==47 || c==37)):=by ac_rfl
 rw [hl]
 by_cases h38:c=38
 ·subst h38;simp
 ·by_cases h124:c=124
  ·subst h124;simp
  ·have g1:(c==38)=false:=by simpa using h38
   have g2:(c==124)=false:=by simpa using h124
   rw [g1,g2]
   generalize (c==61 || c==33 || c==60 || c==62)=A
   generalize (c==40 || c==41 || c==123 || c==125 || c==91 || c==93 || c==44 || c==59 || c==43 || c==45 || c==42 || c==47 || c==37)=B
   cases A<;>cases B<;>simp
theorem zet (p:UInt8→Bool) (s:List UInt8) (k:Nat) (hc:(decide ((k:Int)<s.length)&&p (s.getD k 0))=false):zbW p s k=k:=by
 by_cases hlt:k<s.length
 ·have h1:decide ((k:Int)<s.length)=true:=by simpa using (show (k:Int)<s.length by omega)
  rw [h1,Bool.true_and] at hc
  rw [zcp p s k hlt,hc];simp
 ·exact zhu p s k (by omega)
theorem zhx (p:UInt8→Bool) (s:List UInt8) (k:Nat) (hc:(decide ((k:Int)<s.length)&&p (s.getD k 0))=true):k<s.length∧zbW p s k=zbW p s (k+1)∧k<zbW p s k:=by
 rw [Bool.and_eq_true,decide_eq_true_eq] at hc
 have hlt:k<s.length:=by omega
 have h1:=zcp p s k hlt
 rw [hc.2,if_pos rfl] at h1
 have:=zfB p s (k+1)
 exact ⟨hlt,h1,by omega⟩
theorem zAh {c:UInt8} (h:¬ (isB c=true)):c≠9∧c≠10∧c≠13∧c≠32:=by
 simp [isB] at h;exact ⟨h.1.1.1,h.1.1.2,h.1.2,h.2⟩
theorem zDH {c:UInt8} (h:isB c=true):c=9∨c=10∨c=13∨c=32:=by
 simp [isB] at h
 rcases h with ((h|h)|h)|h<;>simp [h]
end Go.Abs
namespace Go.Abs
open Go
def dg:Nat→Nat→List UInt8
 |0,_=>[]
 |f+1,n=>if n=0 then [] else dg f (n / 10)++[UInt8.ofNat (48+n % 10)]
def zei (n:Int):List UInt8:=if n≤0 then [48] else dg 20 n.toNat
theorem zdN (f:Nat):dg f 0=[]:=by cases f<;>simp [dg]
theorem zey (f n:Nat) (h:n≠0):dg (f+1) n=dg f (n / 10)++[UInt8.ofNat (48+n % 10)]:=by rw [dg,if_neg h]
theorem zt5:∀ (f n:Nat),n<10 ^ f→dg (f+1) n=dg f n
 |0,n,h=>by
  have:n=0:=by simpa using h
  subst this;rw [zdN,zdN]
 |f+1,n,h=>by
  by_cases h0:n=0
  ·subst h0;rw [zdN,zdN]
  ·rw [zey _ _ h0,zey _ _ h0,zt5 f (n / 10) (by rw [Nat.pow_succ] at h;omega)]
theorem dgD (n:Nat):isD (UInt8.ofNat (48+n % 10))=true:=by
 have h:n % 10<10:=Nat.mod_lt _ (by omega)
 unfold isD zdc
 simp
 omega
theorem zyn:∀ (f n:Nat) (c:UInt8),c ∈ dg f n→isD c=true
 |0,_,c,h=>by simp [dg] at h
 |f+1,n,c,h=>by
  by_cases h0:n=0
  ·subst h0;rw [zdN] at h;simp at h
  ·rw [zey _ _ h0,List.mem_append,List.mem_singleton] at h
   rcases h with h|rfl
   ·exact zyn f _ c h
   ·exact dgD n
theorem zeZ:∀ (l r:List UInt8) (a:Nat),zh7 (l++r) a=zh7 r (zh7 l a)
 |[],r,a=>by simp [zh7]
 |c::l,r,a=>by simp only [List.cons_append,zh7];exact zeZ l r _
theorem zyo:∀ (f n:Nat),n<10 ^ f→zbc (dg f n)=n
 |0,n,h=>by have:n=0:=(by simpa using h);subst this;rfl
 |f+1,n,h=>by
  by_cases h0:n=0
  ·subst h0;rw [zdN];rfl
  ·have hv:=zyo f (n / 10) (by rw [Nat.pow_succ] at h;omega)
   unfold zbc at *
   rw [zey _ _ h0,zeZ,hv]
   have hr:n % 10<10:=Nat.mod_lt _ (by omega)
   have:(UInt8.ofNat (48+n % 10)).toNat=48+n % 10:=by simp;omega
   simp only [zh7,this]
   omega
theorem zt6:∀ (f n:Nat),(dg f n).length≤f
 |0,_=>by simp [dg]
 |f+1,n=>by
  rw [dg]
  split
  ·simp
  ·have:=zt6 f (n / 10);simp;omega
theorem zt7:∀ (f n:Nat),n<10 ^ f→n≠0→∃ c r,dg f n=c::r∧c≠48∧isD c=true
 |0,n,h,h0=>by simp at h;omega
 |f+1,n,h,h0=>by
  rw [zey _ _ h0]
  by_cases h1:n / 10=0
  ·rw [h1,zdN]
   refine ⟨_,[],rfl,?_,dgD n⟩
   intro e
   have:=congrArg UInt8.toNat e
   simp at this
   omega
  ·obtain ⟨c,r,e,h2,h3⟩:=zt7 f (n / 10) (by rw [Nat.pow_succ] at h;omega) h1
   exact ⟨c,r++[_],by rw [e];rfl,h2,h3⟩
structure Num (d:List UInt8):Prop where
 all:∀ c ∈ d,isD c=true
 ne:d≠[]
 lead:d.getD 0 0=48→d.length=1
inductive Sc (s:List UInt8):Nat→List TkD→Prop
 |fin {k:Nat}:s.length≤k→Sc s k []
 |blank {k:Nat} {l:List TkD}:k<s.length→isB (s.getD k 0)=true→Sc s (k+1) l→Sc s k l
 |hsh {k:Nat} {l:List TkD}:k<s.length→s.getD k 0=35→Sc s (zbW zbU s k) l→Sc s k l
 |tok {k e:Nat} {t:TkD} {l:List TkD}:k<s.length→¬ (isB (s.getD k 0)=true)→¬ s.getD k 0=35→zcz s k=(t,(e:Int),0)→Sc s e l→Sc s k (t::l)
theorem zl9 (s:List UInt8) (k:Nat) (h:k<s.length) (hh:s.getD k 0=35):k<zbW zbU s k∧zbW zbU s k≤s.length:=by
 have h1:=zcp zbU s k h
 have h2:zbU (s.getD k 0)=true:=by rw [hh];rfl
 rw [h2,if_pos rfl] at h1
 have h3:=zfB zbU s (k+1)
 exact ⟨by omega,zh6 zbU s k (by omega)⟩
theorem zi3 (s:List UInt8):∀ (f k:Nat) (acc:List TkD),s.length<k+f→(zc4 s f k acc).2.2=0→∃ l,Sc s k l∧zc4 s f k acc=(acc++l,0,0)
 |0,k,acc,hf,_=>⟨[],.fin (by omega),by simp [zc4]⟩
 |f+1,k,acc,hf,h=>by
  rw [zc4] at h ⊢
  by_cases hk:k<s.length
  ·rw [if_pos hk] at h ⊢
   by_cases hb:isB (s.getD k 0)=true
   ·rw [if_pos hb] at h ⊢
    obtain ⟨l,h1,h2⟩:=zi3 s f (k+1) acc (by omega) h
    exact ⟨l,.blank hk hb h1,h2⟩
   ·rw [if_neg hb] at h ⊢
    by_cases hh:s.getD k 0=35
    ·rw [if_pos hh] at h ⊢
     have hg:=zl9 s k hk hh
     obtain ⟨l,h1,h2⟩:=zi3 s f (zbW zbU s k) acc (by omega) h
     exact ⟨l,.hsh hk hh h1,h2⟩
    ·rw [if_neg hh] at h ⊢
     by_cases h0:(zcz s k).2.2=0
     ·rw [if_pos h0] at h ⊢
      obtain ⟨e,he,h1,h2⟩:=zi0 s k hk h0
      have het:(zcz s k).2.1.toNat=e:=by rw [he];simp
      rw [het] at h ⊢
      obtain ⟨l,g1,g2⟩:=zi3 s f e (acc++[(zcz s k).1]) (by omega) h
      refine ⟨(zcz s k).1::l,.tok hk hb hh ?_ g1,by rw [g2];simp⟩
      rw [←he,←h0]
     ·rw [if_neg h0] at h
      exact absurd h h0
  ·rw [if_neg hk]
   exact ⟨[],.fin (by omega),by simp⟩
theorem zhy (s:List UInt8):∀ (f k:Nat) (acc:List TkD),(zc4 s f k acc).2.2≠0→(zc4 s f k acc).1=[]∧0≤(zc4 s f k acc).2.1∧(zc4 s f k acc).2.1≤s.length
 |0,k,acc,h=>by simp [zc4] at h
 |f+1,k,acc,h=>by
  rw [zc4] at h ⊢
  by_cases hk:k<s.length
  ·rw [if_pos hk] at h ⊢
   by_cases hb:isB (s.getD k 0)=true
   ·rw [if_pos hb] at h ⊢
    exact zhy s f _ _ h
   ·rw [if_neg hb] at h ⊢
    by_cases hh:s.getD k 0=35
    ·rw [if_pos hh] at h ⊢
     exact zhy s f _ _ h
    ·rw [if_neg hh] at h ⊢
     by_cases h0:(zcz s k).2.2=0
     ·rw [if_pos h0] at h ⊢
      exact zhy s f _ _ h
     ·rw [if_neg h0]
      exact ⟨rfl,by simp,by simp;omega⟩
  ·rw [if_neg hk] at h
   simp at h
theorem zoS (s:List UInt8) (h:(zhv s).2.2=0):s.length≤4096∧∃ l,Sc s 0 l∧zhv s=(l,0,0):=by
 unfold zhv at h ⊢
 by_cases hl:s.length > 4096
 ·rw [if_pos hl] at h;simp at h
 ·rw [if_neg hl] at h ⊢
  obtain ⟨l,h1,h2⟩:=zi3 s (s.length+1) 0 [] (by omega) h
  exact ⟨by omega,l,h1,by rw [h2];simp⟩
theorem zqg (s:List UInt8) (h:(zhv s).2.2≠0):(zhv s).1=[]∧0≤(zhv s).2.1∧(zhv s).2.1≤s.length:=by
 unfold zhv at h ⊢
 by_cases hl:s.length > 4096
 ·rw [if_pos hl];exact ⟨rfl,by simp,by simp⟩
 ·rw [if_neg hl] at h ⊢
  exact zhy s _ _ _ h
structure Good (t:TkD) (w:List UInt8):Prop where
 ne:w≠[]
 kinds:(t.kind=1∧t.text=w∧t.value=0∧isL (w.getD 0 0)=true∧(∀ c ∈ w,isW c=true)∧w.length≤16) ∨
  (t.kind=2∧t.text=[]∧t.value=zbc w∧Num w∧zbc w<9223372036854775808) ∨
  (t.kind=3∧t.text=w∧t.value=0∧isL (w.getD 0 0)=false∧isD (w.getD 0 0)=false ∧
   ((w.length=1∧zcG (w.getD 0 0).toNat 0=1)∨(w.length=2∧zcG (w.getD 0 0).toNat (w.getD 1 0).toNat=2)))
def nx (r:List UInt8):Int:=match r with
 |[]=>0
 |c::_=>(c.toNat:Int)
def zDI (t:TkD) (w r:List UInt8):Prop:=
 (t.kind≠3→∀ c,r.head?=some c→isW c=false)∧(t.kind=3→w.length=1→zcG (w.getD 0 0).toNat (nx r)=1)
theorem zw9 (s:List UInt8) (a:Nat):zdd s a=nx (s.drop (a+1)):=by
 unfold zdd
 by_cases h:a+1<s.length
 ·rw [if_pos h,List.drop_eq_getElem_cons h]
  simp [nx,List.getD,h]
 ·rw [if_neg h,List.drop_eq_nil_of_le (by omega)]
  rfl
theorem zxa {c n:Int} (h:zcG c n=1) (m:Int) (hm:m≠61):zcG c m=1:=by
 unfold zcG at h ⊢
 have hm':(m==61)=false:=by simpa using hm
 rw [hm']
 split
 ·rfl
 ·rename_i h1
  rw [if_neg h1] at h
  split
  ·rfl
  ·rename_i h2
   rw [if_neg h2] at h
   split at h<;>omega
theorem zqh (p:UInt8→Bool) (s:List UInt8) (a:Nat):∀ c,(s.drop (zbW p s a)).head?=some c→p c=false:=by
 intro c hc
 unfold zbW at hc
 rw [←List.drop_drop] at hc
 generalize s.drop a=u at hc
 induction u with
 |nil=>simp at hc
 |cons x u ih=>
  rw [List.takeWhile_cons] at hc
  by_cases hx:p x=true
  ·rw [if_pos hx] at hc
   simp at hc
   exact ih (by simpa using hc)
  ·rw [if_neg hx] at hc
   simp at hc
   subst hc
   simpa using hx
theorem zt8 (p:UInt8→Bool) (s:List UInt8) (a:Nat):∀ c ∈ cut s a (zbW p s a),p c=true:=by
 intro c hc
 unfold cut zbW at hc
 rw [List.drop_take,show a+((s.drop a).takeWhile p).length - a=((s.drop a).takeWhile p).length by omega] at hc
 generalize s.drop a=u at hc
 have h1:u.take (u.takeWhile p).length=u.takeWhile p:=by
  induction u with
  |nil=>simp
  |cons x u ih=>
   rw [List.takeWhile_cons]
   by_cases hx:p x=true
   ·rw [if_pos hx] at *
    simp only [List.length_cons,List.take_succ_cons]
    rw [List.takeWhile_cons,if_pos hx] at hc
    simp only [List.length_cons,List.take_succ_cons] at hc
    congr 1
    clear hc
    clear ih
    induction u with
    |nil=>simp
    |cons y u ih2=>
     rw [List.takeWhile_cons]
     by_cases hy:p y=true
     ·rw [if_pos hy];simp only [List.length_cons,List.take_succ_cons];rw [ih2]
     ·rw [if_neg hy];simp
   ·rw [if_neg hx];simp
 rw [h1] at hc
 clear h1
 induction u with
 |nil=>simp at hc
 |cons x u ih=>
  rw [List.takeWhile_cons] at hc
  by_cases hx:p x=true
  ·rw [if_pos hx] at hc
   rcases List.mem_cons.1 hc with rfl|hc
   ·exact hx
   ·exact ih hc
  ·rw [if_neg hx] at hc;simp at hc
theorem zxb (s:List UInt8) (a e:Nat) (h:a<e) (he:e≤s.length):(cut s a e).getD 0 0=s.getD a 0:=by
 unfold cut
 simp [List.getD,List.getElem?_drop,List.getElem?_take,h]
theorem zxc (s:List UInt8) (a e:Nat) (h:a+1<e) (he:e≤s.length):(cut s a e).getD 1 0=s.getD (a+1) 0:=by
 unfold cut
 simp [List.getD,List.getElem?_drop,List.getElem?_take,h]
theorem zqi (s:List UInt8) (k e:Nat) (t:TkD) (hk:k<s.length) (h:zcz s k=(t,(e:Int),0)):Good t (cut s k e)∧t.pos=k∧k<e∧e≤s.length∧zDI t (cut s k e) (s.drop e):=by
 obtain ⟨e',he',hlt,hle⟩:=zi0 s k hk (by rw [h])
 rw [h] at he'
 simp only [Int.ofNat_inj] at he'
 have hee:e=e':=by omega
 subst hee
 have hne:=zt4 s k e hlt hle
 have hg0:=zxb s k e hlt hle
 have hcl:=zh9 s k e hle
 unfold zcz at h
 by_cases hl:isL (s.getD k 0)=true
 ·rw [if_pos hl] at h
  by_cases h16:zbW isW s k - k > 16
  ·rw [if_pos h16] at h;simp at h
  ·rw [if_neg h16] at h
   simp only [Prod.mk.injEq,Int.ofNat_inj,and_true] at h
   obtain ⟨rfl,h2⟩:=h
   have h2':zbW isW s k=e:=by omega
   subst h2'
   refine ⟨⟨hne,.inl ⟨rfl,rfl,rfl,by rw [hg0];exact hl,zt8 isW s k,by omega⟩⟩,rfl,hlt,hle,?_,?_⟩
   ·intro _;exact zqh isW s k
   ·intro hc;simp at hc
 ·rw [if_neg hl] at h
  by_cases hd:isD (s.getD k 0)=true
  ·rw [if_pos hd] at h
   unfold zoj at h
   have hnl:=zjU s k hk
   by_cases hw:zbW isW s (za8 s k) > za8 s k
   ·rw [if_pos hw] at h;simp at h
   ·rw [if_neg hw] at h
    by_cases hv:zbc (cut s k (za8 s k))<9223372036854775808
    ·rw [if_pos hv] at h
     simp only [Prod.mk.injEq,Int.ofNat_inj,and_true] at h
     obtain ⟨rfl,h2⟩:=h
     have h2':za8 s k=e:=by omega
     have hstop:=zqh isW s (za8 s k)
     have hge:=zfB isW s (za8 s k)
     rw [show zbW isW s (za8 s k)=za8 s k by omega,h2'] at hstop
     rw [h2'] at hv hge hw ⊢
     refine ⟨⟨hne,.inr (.inl ⟨rfl,rfl,rfl,⟨?_,hne,?_⟩,hv⟩)⟩,rfl,hlt,hle,?_,?_⟩
     ·unfold za8 at h2'
      split at h2'
      ·rw [←h2',zeX s k k hk (Nat.le_refl _),zi2];simpa using hd
      ·have h3:=zt8 isD s k
       rw [zcp isD s k hk,if_pos hd,h2'] at h3
       exact h3
     ·intro h48
      rw [hg0] at h48
      unfold za8 at h2'
      rw [if_pos h48] at h2'
      omega
     ·intro _;exact hstop
     ·intro hc;simp at hc
    ·rw [if_neg hv] at h;simp at h
  ·rw [if_neg hd] at h
   by_cases h0:zcG (s.getD k 0).toNat (zdd s k)=0
   ·rw [if_pos h0] at h;simp at h
   ·rw [if_neg h0] at h
    have hs:=zl6 (s.getD k 0).toNat (zdd s k)
    simp only [Prod.mk.injEq,and_true] at h
    obtain ⟨rfl,h2⟩:=h
    have h2':k+(zcG (s.getD k 0).toNat (zdd s k)).toNat=e:=by omega
    rw [h2']
    have hl':isL (s.getD k 0)=false:=by simpa using hl
    have hd':isD (s.getD k 0)=false:=by simpa using hd
    by_cases h1:zcG (s.getD k 0).toNat (zdd s k)=1
    ·have he1:e=k+1:=by omega
     refine ⟨⟨hne,.inr (.inr ⟨rfl,rfl,rfl,by rw [hg0];exact hl',by rw [hg0];exact hd',.inl ⟨by omega,?_⟩⟩)⟩,rfl,hlt,hle,?_,?_⟩
     ·rw [hg0];exact zxa h1 0 (by omega)
     ·intro hc;simp at hc
     ·intro _ _
      rw [hg0,he1,←zw9]
      exact h1
    ·have h22:zcG (s.getD k 0).toNat (zdd s k)=2:=by omega
     have he1:e=k+2:=by omega
     have hg1:=zxc s k e (by omega) hle
     refine ⟨⟨hne,.inr (.inr ⟨rfl,rfl,rfl,by rw [hg0];exact hl',by rw [hg0];exact hd',.inr ⟨by omega,?_⟩⟩)⟩,rfl,hlt,hle,?_,?_⟩
     ·rw [hg0,hg1]
      rw [←h22]
      unfold zdd
      rw [if_pos (by omega)]
     ·intro hc;simp at hc
     ·intro _ hc;omega
theorem Sc.good {s:List UInt8} {k:Nat} {l:List TkD} (h:Sc s k l):∀ t ∈ l,∃ e:Nat,∃ a:Nat,t.pos=a∧k≤a∧a<e∧e≤s.length∧Good t (cut s a e):=by
 induction h with
 |fin _=>intro t ht;simp at ht
 |blank hk hb _ ih=>
  intro t ht
  obtain ⟨e,a,h1,h2,h3⟩:=ih t ht
  exact ⟨e,a,h1,by omega,h3⟩
 |@hsh k l hk hh _ ih=>
  intro t ht
  obtain ⟨e,a,h1,h2,h3⟩:=ih t ht
  have:=zl9 s k hk hh
  exact ⟨e,a,h1,by omega,h3⟩
 |@tok k e t l hk hb hh ho _ ih=>
  intro x hx
  obtain ⟨g1,g2,g3,g4,_⟩:=zqi s k e t hk ho
  rcases List.mem_cons.1 hx with rfl|hx
  ·exact ⟨e,k,g2,by omega,g3,g4,g1⟩
  ·obtain ⟨e',a,h1,h2,h3⟩:=ih x hx
   exact ⟨e',a,h1,by omega,h3⟩
theorem zoT:∀ (f:Nat) (d:List UInt8),(∀ c ∈ d,isD c=true)→(d.getD 0 0≠48)→d.length≤f→dg f (zbc d)=d∧(d≠[]→0<zbc d)
 |0,d,hd,h0,hl=>by
  have:d=[]:=List.length_eq_zero_iff.1 (by omega)
  subst this
  exact ⟨rfl,fun h=>absurd rfl h⟩
 |f+1,d,hd,h0,hl=>by
  by_cases hne:d=[]
  ·subst hne;exact ⟨zdN _,fun h=>absurd rfl h⟩
  ·obtain ⟨r,c,rfl⟩:∃ r c,d=r++[c]:=⟨d.dropLast,d.getLast hne,(List.dropLast_concat_getLast hne).symm⟩
   have hc:=zcQ (hd c (by simp))
   have hv:zbc (r++[c])=zbc r * 10+(c.toNat - 48):=by
    unfold zbc;rw [zeZ];rfl
   by_cases hr:r=[]
   ·subst hr
    have hc48:c≠48:=by simpa using h0
    have hcn:c.toNat≠48:=fun e=>hc48 (UInt8.toNat.inj (by simpa using e))
    have hv1:zbc [c]=c.toNat - 48:=by simp [zbc,zh7]
    rw [List.nil_append,hv1,zey _ _ (by omega),show (c.toNat - 48) / 10=0 by omega,zdN,show 48+(c.toNat - 48) % 10=c.toNat by omega]
    exact ⟨by simp,fun _=>by omega⟩
   ·have h0':r.getD 0 0≠48:=by
     cases r with
     |nil=>exact absurd rfl hr
     |cons x r=>simpa using h0
    obtain ⟨ih1,ih2⟩:=zoT f r (fun x hx=>hd x (by simp [hx])) h0' (by simp at hl;omega)
    have hp:=ih2 hr
    rw [hv,zey _ _ (by omega),show (zbc r * 10+(c.toNat - 48)) / 10=zbc r by omega,ih1,show 48+(zbc r * 10+(c.toNat - 48)) % 10=c.toNat by omega]
    exact ⟨by simp,fun _=>by omega⟩
theorem zqj:∀ (l:List UInt8) (acc:Nat),acc * 10 ^ l.length≤zh7 l acc
 |[],acc=>by simp [zh7]
 |c::r,acc=>by
  rw [zeL]
  refine Nat.le_trans ?_ (zqj r _)
  rw [List.length_cons,Nat.pow_succ,Nat.mul_comm (10 ^ r.length) 10,←Nat.mul_assoc]
  exact Nat.mul_le_mul_right _ (by omega)
theorem zAi {d:List UInt8} (hd:Num d) (hv:zbc d<9223372036854775808):d.length≤20:=by
 cases d with
 |nil=>simp
 |cons c r=>
  by_cases h48:c=48
  ·subst h48;have:=hd.lead rfl;omega
  ·have hc:=zcQ (hd.all c (by simp))
   have hcn:c.toNat≠48:=fun e=>h48 (UInt8.toNat.inj (by simpa using e))
   have hlow:=zqj r (c.toNat - 48)
   have hvv:zbc (c::r)=zh7 r (c.toNat - 48):=by unfold zbc;rw [zeL];simp
   rw [hvv] at hv
   by_cases hl:r.length≤18
   ·simp;omega
   ·exfalso
    have h1:10 ^ 19≤10 ^ r.length:=Nat.pow_le_pow_right (by omega) (by omega)
    have h2:1 * 10 ^ r.length≤(c.toNat - 48) * 10 ^ r.length:=Nat.mul_le_mul_right _ (by omega)
    have h3:(10:Nat) ^ 19=10000000000000000000:=by decide
    omega
theorem zAj {d:List UInt8} (hd:Num d) (hv:zbc d<9223372036854775808):zei (zbc d)=d:=by
 by_cases h48:d.getD 0 0=48
 ·have hl:=hd.lead h48
  match d,hl with
  |[c],_=>simp at h48;subst h48;rfl
 ·obtain ⟨h1,h2⟩:=zoT 20 d hd.all h48 (zAi hd hv)
  have:=h2 hd.ne
  unfold zei
  rw [if_neg (by omega),Int.toNat_natCast,h1]
def zoU (t:TkD):List UInt8:=if t.kind=1∨t.kind=3 then t.text else if t.kind=2 then zei t.value else []
theorem Good.word {t:TkD} {w:List UInt8} (hg:Good t w):zoU t=w:=by
 unfold zoU
 rcases hg.kinds with ⟨h1,h2,_⟩|⟨h1,_,h3,h4,h5⟩|⟨h1,h2,_⟩
 ·rw [if_pos (.inl h1),h2]
 ·rw [if_neg (by omega),if_pos h1,h3,zAj h4 h5]
 ·rw [if_pos (.inr h1),h2]
theorem zt9:∀ (f m:Nat),0<m→m<10 ^ f→Lib.decDigits m=dg f m
 |0,m,h0,h=>by simp at h;omega
 |f+1,m,h0,h=>by
  rw [zey _ _ (by omega),Lib.decDigits]
  by_cases h9:m<10
  ·rw [dif_pos h9,Nat.div_eq_of_lt h9,zdN,Nat.mod_eq_of_lt h9];rfl
  ·rw [dif_neg h9,zt9 f (m / 10) (by omega) (by rw [Nat.pow_succ] at h;omega)]
theorem zxd (v:Int) (h:v≤9223372036854775807):Lib.itoa (zgV v 0)=zei v:=by
 unfold zei Lib.itoa zgV
 by_cases h0:v≤0
 ·rw [if_pos h0]
  by_cases h1:v<0
  ·simp [h1,Lib.decDigits]
  ·have:v=0:=by omega
   subst this
   simp [Lib.decDigits]
 ·rw [if_neg h0,if_neg (by omega:¬ v<0)]
  rw [if_neg (by omega)]
  exact zt9 20 v.toNat (by omega) (by omega)
section
variable (op value:Int) (name:List UInt8) (slot size:Int) (args:List Ex) (place val:Ex) (body els:List Sm)
theorem Ex.op_mk:(Ex.mk op value name slot size args).op=op:=rfl
theorem Ex.value_mk:(Ex.mk op value name slot size args).value=value:=rfl
theorem Ex.name_mk:(Ex.mk op value name slot size args).name=name:=rfl
theorem Ex.slot_mk:(Ex.mk op value name slot size args).slot=slot:=rfl
theorem Ex.size_mk:(Ex.mk op value name slot size args).size=size:=rfl
theorem Ex.args_mk:(Ex.mk op value name slot size args).args=args:=rfl
theorem Sm.kind_mk:(Sm.mk op name slot size place val body els).kind=op:=rfl
theorem Sm.name_mk:(Sm.mk op name slot size place val body els).name=name:=rfl
theorem Sm.slot_mk:(Sm.mk op name slot size place val body els).slot=slot:=rfl
theorem Sm.size_mk:(Sm.mk op name slot size place val body els).size=size:=rfl
theorem Sm.place_mk:(Sm.mk op name slot size place val body els).place=place:=rfl
theorem Sm.value_mk:(Sm.mk op name slot size place val body els).value=val:=rfl
theorem Sm.body_mk:(Sm.mk op name slot size place val body els).body=body:=rfl
theorem Sm.els_mk:(Sm.mk op name slot size place val body els).els=els:=rfl
end
structure Pl where
 name:List UInt8
 slot:Int
 size:Int
def zia (p:Pl):PVal × Bool × List PVal:=(.str p.name,true,[.int .i64 p.slot,.int .i64 p.size])
def zci (n:List UInt8):List Pl→Option (Int × Int)
 |[]=>none
 |p::r=>if n=p.name then some (p.slot,p.size) else zci n r
def zkR (n:List UInt8) (a b:Int):List Pl→List Pl
 |[]=>[⟨n,a,b⟩]
 |p::r=>if n=p.name then ⟨n,a,b⟩::r else p::zkR n a b r
theorem zjZ (n:List UInt8):∀ l:List Pl,zgg (.str n) (l.map zia)=(zci n l).map fun q=>(true,[.int .i64 q.1,.int .i64 q.2])
 |[]=>rfl
 |p::r=>by
  simp only [List.map_cons,zgg,zci]
  by_cases h:n=p.name
  ·subst h;simp [zgf,zia]
  ·have:zgf (.str n) (zia p).1=false:=by simp [zgf,zia,h]
   rw [this,if_neg h,if_neg (by simp)]
   exact zjZ n r
theorem zma (n:List UInt8) (a b:Int):∀ l:List Pl,zq9 (.str n) (true,[.int .i64 a,.int .i64 b]) (l.map zia)=(zkR n a b l).map zia
 |[]=>rfl
 |p::r=>by
  simp only [List.map_cons,zq9,zkR]
  by_cases h:n=p.name
  ·subst h;simp [zgf,zia]
  ·have:zgf (.str n) (zia p).1=false:=by simp [zgf,zia,h]
   rw [this,if_neg h,if_neg (by simp)]
   simp [zma n a b r]
abbrev Fl:=Bool × Bool
def zfC (pl:List Pl) (n:List UInt8) (arr:Bool) (f:Fl):(Int × Int) × Fl:=
 match zci n pl with
 |none=>((0,0),(true,f.2))
 |some q=>(q,(f.1,f.2 || (arr != decide (q.2 > 0))))
def zde (pl:List Pl) (op:Int) (n:List UInt8) (a b:Int) (f:Fl) (k1 k2:Int):(Int × Int) × Fl:=
 if op=k1 then zfC pl n false f else if op=k2 then zfC pl n true f else ((a,b),f)
mutual
def rsE (pl:List Pl):Ex→Fl→Ex × Fl
 |.mk op v n a b args,f=>
  (.mk op v n (zde pl op n a b f 2 3).1.1 (zde pl op n a b f 2 3).1.2 (zec pl args (zde pl op n a b f 2 3).2).1,(zec pl args (zde pl op n a b f 2 3).2).2)
def zec (pl:List Pl):List Ex→Fl→List Ex × Fl
 |[],f=>([],f)
 |e::r,f=>((rsE pl e f).1::(zec pl r (rsE pl e f).2).1,(zec pl r (rsE pl e f).2).2)
end
theorem zDJ (pl:List Pl) (e:Ex) (f:Fl):rsE pl e f=(.mk e.op e.value e.name (zde pl e.op e.name e.slot e.size f 2 3).1.1 (zde pl e.op e.name e.slot e.size f 2 3).1.2 (zec pl e.args (zde pl e.op e.name e.slot e.size f 2 3).2).1,(zec pl e.args (zde pl e.op e.name e.slot e.size f 2 3).2).2):=by
 cases e;simp [rsE,Ex.op,Ex.value,Ex.name,Ex.slot,Ex.size,Ex.args]
theorem ze0 (pl:List Pl):∀ (l:List Ex) (f:Fl),(zec pl l f).1.length=l.length
 |[],f=>by simp [zec]
 |e::r,f=>by simp [zec,ze0 pl r]
theorem znB (pl:List Pl):∀ (l:List Ex) (x:Ex) (f:Fl),zec pl (l++[x]) f=((zec pl l f).1++[(rsE pl x (zec pl l f).2).1],(rsE pl x (zec pl l f).2).2)
 |[],x,f=>by simp [zec]
 |e::r,x,f=>by simp [zec,znB pl r]
mutual
def rsS (pl:List Pl):Sm→Fl→Sm × Fl
 |.mk k n a b p v body els,f=>
  let q:=zde pl k n a b f 1 2
  let p':=rsE pl p q.2
  let v':=rsE pl v p'.2
  let b':=zck pl body v'.2
  let e':=zck pl els b'.2
  (.mk k n q.1.1 q.1.2 p'.1 v'.1 b'.1 e'.1,e'.2)
def zck (pl:List Pl):List Sm→Fl→List Sm × Fl
 |[],f=>([],f)
 |e::r,f=>((rsS pl e f).1::(zck pl r (rsS pl e f).2).1,(zck pl r (rsS pl e f).2).2)
end
def rsQ (pl:List Pl) (s:Sm) (f:Fl):=zde pl s.kind s.name s.slot s.size f 1 2
def rsP (pl:List Pl) (s:Sm) (f:Fl):=rsE pl s.place (rsQ pl s f).2
def rsV (pl:List Pl) (s:Sm) (f:Fl):=rsE pl s.value (rsP pl s f).2
def rsB (pl:List Pl) (s:Sm) (f:Fl):=zck pl s.body (rsV pl s f).2
def rsL (pl:List Pl) (s:Sm) (f:Fl):=zck pl s.els (rsB pl s f).2
theorem zDK (pl:List Pl) (s:Sm) (f:Fl):rsS pl s f=(.mk s.kind s.name (rsQ pl s f).1.1 (rsQ pl s f).1.2 (rsP pl s f).1 (rsV pl s f).1 (rsB pl s f).1 (rsL pl s f).1,(rsL pl s f).2):=by
 cases s;simp [rsS,rsL,rsB,rsV,rsP,rsQ,Sm.kind,Sm.name,Sm.slot,Sm.size,Sm.place,Sm.value,Sm.body,Sm.els]
theorem zmb (pl:List Pl):∀ (l:List Sm) (f:Fl),(zck pl l f).1.length=l.length
 |[],f=>by simp [zck]
 |e::r,f=>by simp [zck,zmb pl r]
theorem znC (pl:List Pl):∀ (l:List Sm) (x:Sm) (f:Fl),zck pl (l++[x]) f=((zck pl l f).1++[(rsS pl x (zck pl l f).2).1],(rsS pl x (zck pl l f).2).2)
 |[],x,f=>by simp [zck]
 |e::r,x,f=>by simp [zck,znC pl r]
theorem zj0 (pl:List Pl) (l:List Ex) (f:Fl) (k:Nat) (h:k<l.length):zec pl (l.take (k+1)) f=((zec pl (l.take k) f).1++[(rsE pl l[k] (zec pl (l.take k) f).2).1],(rsE pl l[k] (zec pl (l.take k) f).2).2):=by rw [List.take_succ_eq_append_getElem h,znB]
theorem zua (pl:List Pl) (l:List Sm) (f:Fl) (k:Nat) (h:k<l.length):zck pl (l.take (k+1)) f=((zck pl (l.take k) f).1++[(rsS pl l[k] (zck pl (l.take k) f).2).1],(rsS pl l[k] (zck pl (l.take k) f).2).2):=by rw [List.take_succ_eq_append_getElem h,znC]
def zok:List Pl→List VarD→Option (List Pl)
 |es,[]=>some es
 |es,v::r=>if (zci v.name es).isSome then none else zok (zkR v.name 0 0 es) r
def zgm:List Pl→List Int→List VarD→Option (List Pl × List Int)
 |es,xs,[]=>some (es,xs)
 |es,xs,v::r=>if mx v.size 1 > 32 - xs.length then none else zgm (zkR v.name xs.length v.size es) (xs++[v.init]++List.replicate ((mx v.size 1).toNat - 1) 0) r
structure CdD where
 init:List Int
 start:List Sm
 message:List Sm
 tick:List Sm
 input:List Sm
def ziv (n:Int):List PVal:=[.int .i64 n]
def cdA (c:CdD):AVal:=.agg [.pv (.slice (c.init.map ziv)),.pv (.slice (c.start.map zah)),.pv (.slice (c.message.map zah)),.pv (.slice (c.tick.map zah)),.pv (.slice (c.input.map zah))]
def cd0:CdD:=⟨[],[],[],[],[]⟩
def rs4 (pl:List Pl) (p:PgD):(List Sm × List Sm × List Sm × List Sm) × Fl:=
 let a:=zck pl p.start (false,false)
 let b:=zck pl p.message a.2
 let c:=zck pl p.tick b.2
 let d:=zck pl p.input c.2
 ((a.1,b.1,c.1,d.1),d.2)
def zDL (xs:List Int) (r:(List Sm × List Sm × List Sm × List Sm) × Fl):CdD × Int:=
 if r.2.1 then (cd0,2) else if r.2.2 then (cd0,7) else (⟨xs,r.1.1,r.1.2.1,r.1.2.2.1,r.1.2.2.2⟩,0)
def zbu (p:PgD):CdD × Int:=
 if zcn zaA p≠0 then (cd0,zcn zaA p)
 else if p.vars.length > 16 then (cd0,4)
 else match zok [] p.vars with
  |none=>(cd0,2)
  |some es=>match zgm es [] p.vars with
   |none=>(cd0,4)
   |some q=>zDL q.2 (rs4 q.1 p)
end Go.Abs
namespace Go.Abs
open Go
def zcH:List UInt8:=[32,118,97,114,32,97,114,114,97,121,32,111,110,32,115,116,97,114,116,32,109,101,115,115,97,103,101,32,116,105,99,107,32,105,110,112,117,116,32,105,102,32,101,108,115,101,32,119,104,105,108,101,32,115,101,110,100,32,111,117,116,112,117,116,32,115,101,108,102,32,112,114,111,99,115,32,102,114,111,109,32,118,97,108,117,101,32]
theorem zf2:zcH.length=87:=rfl
def zHz:List (List UInt8):=[[118,97,114],[97,114,114,97,121],[111,110],[115,116,97,114,116],[109,101,115,115,97,103,101],[116,105,99,107],[105,110,112,117,116],[105,102],[101,108,115,101],[119,104,105,108,101],[115,101,110,100],[111,117,116,112,117,116],[115,101,108,102],[112,114,111,99,115],[102,114,111,109],[118,97,108,117,101]]
theorem zxe {s:List UInt8} (h:zt0 s=true):s ∈ zHz:=by
 simp only [zt0,Bool.or_eq_true,beq_iff_eq] at h
 simp only [zHz,List.mem_cons,List.not_mem_nil,or_false]
 grind
def zAk (s:List UInt8) (i:Nat):Bool:=(zcH.take (i+(s.length+2))).drop i==32::(s++[32])
theorem zub:∀ w ∈ zHz,(List.range 87).any (fun i=>decide (i+(w.length+2)≤87)&&zAk w i)=true:=by decide +kernel
theorem zuc {s:List UInt8} (h:∀ i,i+(s.length+2)≤87→zAk s i=false):zt0 s=false:=by
 cases hr:zt0 s with
 |false=>rfl
 |true=>
  have:=zub s (zxe hr)
  rw [List.any_eq_true] at this
  obtain ⟨i,_,hi⟩:=this
  simp only [Bool.and_eq_true,decide_eq_true_eq] at hi
  rw [h i hi.1] at hi
  exact absurd hi.2 (by simp)
theorem zxf:∀ i<87,(zcH.drop (i+1)).takeWhile (· != 32)=[]∨zt0 ((zcH.drop (i+1)).takeWhile (· != 32))=true∨zcH.getD i 0≠32:=by decide +kernel
theorem zed:∀ (s r:List UInt8),(∀ c ∈ s,c≠32)→(s++32::r).takeWhile (· != 32)=s
 |[],r,_=>by simp
 |c::s,r,h=>by
  have h1:c≠32:=h c (by simp)
  simp [List.takeWhile_cons,h1,zed s r (fun x hx=>h x (by simp [hx]))]
theorem zxg {s:List UInt8} (h0:s≠[]) (hb:∀ c ∈ s,c≠32) {i:Nat} (hi:i+(s.length+2)≤87) (hh:zAk s i=true):zt0 s=true:=by
 simp only [zAk,beq_iff_eq] at hh
 have hd:zcH.drop i=32::(s++32::zcH.drop (i+(s.length+2))):=by
  have h1:zcH=zcH.take (i+(s.length+2))++zcH.drop (i+(s.length+2)):=(List.take_append_drop _ _).symm
  have h2:zcH.drop i=(zcH.take (i+(s.length+2))).drop i++zcH.drop (i+(s.length+2)):=by
   conv=>lhs;rw [h1]
   rw [List.drop_append_of_le_length (by rw [List.length_take,zf2];omega)]
  rw [h2,hh];simp
 have hd1:zcH.drop (i+1)=s++32::zcH.drop (i+(s.length+2)):=by
  have:zcH.drop (i+1)=(zcH.drop i).drop 1:=by rw [List.drop_drop]
  rw [this,hd];rfl
 have hlt:i<87:=by omega
 rcases zxf i hlt with h|h|h
 ·rw [hd1,zed s _ hb] at h;exact absurd h h0
 ·rw [hd1,zed s _ hb] at h;exact h
 ·exfalso;apply h
  have hw:i<zcH.length:=by rw [zf2];exact hlt
  have:(zcH.drop i)[0]?=some 32:=by rw [hd];rfl
  rw [List.getElem?_drop,Nat.add_zero] at this
  simp [List.getD,this]
theorem zud (s:List UInt8):(((zw5 s 0:Nat):Int)==(s.length:Int))=s.all isW:=by
 rw [zoP]
 unfold zw5
 simp only [List.drop_zero,Nat.zero_add]
 induction s with
 |nil=>rfl
 |cons c r ih=>
  rw [List.takeWhile_cons]
  cases h:isW c
  ·simp [h]
  ·simp only [if_true,List.length_cons,List.all_cons,h,Bool.true_and]
   rw [←ih]
   simp
def zaM (name:List UInt8):Int→List VarD→Int × Int × Bool
 |_,[]=>(0,0,false)
 |first,v::r=>if v.name==name then (first,mx v.size 0,true)
  else if mx v.size 1 > 2147483648 - first then (0,0,false) else zaM name (first+mx v.size 1) r
def zrM (name:List UInt8) (l:List VarD):AVal:=.tup [.pv (.int .i64 (zaM name 0 l).1),.pv (.int .i64 (zaM name 0 l).2.1),.pv (.bool (zaM name 0 l).2.2)]
theorem zue (first s:Int) (h0:0≤first) (h1:first≤2147483648):(first+zoh (mx s 1) 2147483649 > 2147483648 ↔ mx s 1 > 2147483648 - first)∧(¬ mx s 1 > 2147483648 - first→zoh (mx s 1) 2147483649=mx s 1)∧1≤zoh (mx s 1) 2147483649∧zoh (mx s 1) 2147483649≤2147483649:=by
 have:=zIb s 1
 generalize mx s 1=m at *
 unfold zoh
 split<;>omega
def zqk (l:List VarD) (n:List UInt8):Bool:=(zaM n 0 l).2.2
mutual
def zeu (l:List VarD):Ex→Bool
 |.mk op _ n _ _ args=>!((op==2 || op==3)&&!zqk l n)&&zdf l args
def zdf (l:List VarD):List Ex→Bool
 |[]=>true
 |e::r=>zeu l e&&zdf l r
end
theorem zuf (l:List VarD) (e:Ex):zeu l e=(!((e.op==2 || e.op==3)&&!zqk l e.name)&&zdf l e.args):=by cases e;simp [zeu,Ex.op,Ex.name,Ex.args]
mutual
def zmc (l:List VarD):Sm→Bool
 |.mk k n _ _ p v b e=>!((k==1 || k==2)&&!zqk l n)&&!(!zeu l p || !zeu l v || !zcI l b || !zcI l e)
def zcI (l:List VarD):List Sm→Bool
 |[]=>true
 |s::r=>zmc l s&&zcI l r
end
theorem zxh (l:List VarD) (s:Sm):zmc l s=(!((s.kind==1 || s.kind==2)&&!zqk l s.name)&&!(!zeu l s.place || !zeu l s.value || !zcI l s.body || !zcI l s.els)):=by cases s;simp [zmc,Sm.kind,Sm.name,Sm.place,Sm.value,Sm.body,Sm.els]
def zdu (l:List VarD) (op:Int) (n:List UInt8) (a b:Int) (k1 k2:Int):(Int × Int) × Bool:=
 if (op==k1 || op==k2)=true then (((zaM n 0 l).1,(zaM n 0 l).2.1),(op==k2)==decide ((zaM n 0 l).2.1 > 0)) else ((a,b),true)
mutual
def r3E (l:List VarD):Ex→Ex × Bool
 |.mk op v n a b args=>(.mk op v n (zdu l op n a b 2 3).1.1 (zdu l op n a b 2 3).1.2 (ze1 l args).1,(zdu l op n a b 2 3).2&&(ze1 l args).2)
def ze1 (l:List VarD):List Ex→List Ex × Bool
 |[]=>([],true)
 |e::r=>((r3E l e).1::(ze1 l r).1,(r3E l e).2&&(ze1 l r).2)
end
theorem zDM (l:List VarD) (e:Ex):r3E l e=(.mk e.op e.value e.name (zdu l e.op e.name e.slot e.size 2 3).1.1 (zdu l e.op e.name e.slot e.size 2 3).1.2 (ze1 l e.args).1,(zdu l e.op e.name e.slot e.size 2 3).2&&(ze1 l e.args).2):=by
 cases e;simp [r3E,Ex.op,Ex.value,Ex.name,Ex.slot,Ex.size,Ex.args]
theorem zhz (l:List VarD):∀ x:List Ex,(ze1 l x).1.length=x.length
 |[]=>by simp [ze1]
 |e::r=>by simp [ze1,zhz l r]
theorem znD (l:List VarD) (x:Ex):∀ r:List Ex,ze1 l (r++[x])=((ze1 l r).1++[(r3E l x).1],(ze1 l r).2&&(r3E l x).2)
 |[]=>by simp [ze1]
 |e::r=>by simp [ze1,znD l x r,Bool.and_assoc]
theorem znE (l:List VarD) (x:List Ex) (k:Nat) (h:k<x.length):ze1 l (x.take (k+1))=((ze1 l (x.take k)).1++[(r3E l x[k]).1],(ze1 l (x.take k)).2&&(r3E l x[k]).2):=by
 rw [List.take_succ_eq_append_getElem h,znD]
mutual
def r3S (l:List VarD):Sm→Sm × Bool
 |.mk k n a b p v body els=>(.mk k n (zdu l k n a b 1 2).1.1 (zdu l k n a b 1 2).1.2 (r3E l p).1 (r3E l v).1 (zcd l body).1 (zcd l els).1,
   (zdu l k n a b 1 2).2&&((r3E l p).2&&(r3E l v).2&&(zcd l body).2&&(zcd l els).2))
def zcd (l:List VarD):List Sm→List Sm × Bool
 |[]=>([],true)
 |s::r=>((r3S l s).1::(zcd l r).1,(r3S l s).2&&(zcd l r).2)
end
theorem zDN (l:List VarD) (s:Sm):r3S l s=(.mk s.kind s.name (zdu l s.kind s.name s.slot s.size 1 2).1.1 (zdu l s.kind s.name s.slot s.size 1 2).1.2 (r3E l s.place).1 (r3E l s.value).1 (zcd l s.body).1 (zcd l s.els).1,
   (zdu l s.kind s.name s.slot s.size 1 2).2&&((r3E l s.place).2&&(r3E l s.value).2&&(zcd l s.body).2&&(zcd l s.els).2)):=by
 cases s;simp [r3S,Sm.kind,Sm.name,Sm.slot,Sm.size,Sm.place,Sm.value,Sm.body,Sm.els]
theorem zmd (l:List VarD):∀ x:List Sm,(zcd l x).1.length=x.length
 |[]=>by simp [zcd]
 |e::r=>by simp [zcd,zmd l r]
theorem znF (l:List VarD) (x:Sm):∀ r:List Sm,zcd l (r++[x])=((zcd l r).1++[(r3S l x).1],(zcd l r).2&&(r3S l x).2)
 |[]=>by simp [zcd]
 |e::r=>by simp [zcd,znF l x r,Bool.and_assoc]
theorem zug (l:List VarD) (x:List Sm) (k:Nat) (h:k<x.length):zcd l (x.take (k+1))=((zcd l (x.take k)).1++[(r3S l x[k]).1],(zcd l (x.take k)).2&&(r3S l x[k]).2):=by
 rw [List.take_succ_eq_append_getElem h,znF]
open Go
def zoV:List VarD→Bool
 |[]=>false
 |v::r=>r.any (fun x=>x.name==v.name) || zoV r
theorem zuh:∀ (l:List VarD) (i j:Nat) (a b:VarD),i<j→l[i]?=some a→l[j]?=some b→a.name=b.name→zoV l=true
 |[],i,j,a,b,_,h,_,_=>by simp at h
 |v::r,0,0,a,b,h,_,_,_=>by omega
 |v::r,0,j+1,a,b,_,h1,h2,h=>by
  simp at h1 h2
  subst h1
  have:b ∈ r:=List.mem_of_getElem? h2
  simp only [zoV,Bool.or_eq_true,List.any_eq_true,beq_iff_eq]
  exact .inl ⟨b,this,h.symm⟩
 |v::r,i+1,0,a,b,h,_,_,_=>by omega
 |v::r,i+1,j+1,a,b,hlt,h1,h2,h=>by
  simp at h1 h2
  simp only [zoV,zuh r i j a b (by omega) h1 h2 h,Bool.or_true]
theorem zle:∀ (l:List VarD),(∀ (i j:Nat) (a b:VarD),i<j→l[i]?=some a→l[j]?=some b→a.name≠b.name)→zoV l=false
 |[],_=>rfl
 |v::r,h=>by
  have h2:=zle r (fun i j a b hij ha hb=>h (i+1) (j+1) a b (by omega) (by simpa using ha) (by simpa using hb))
  simp only [zoV,h2,Bool.or_false]
  cases hc:r.any (fun x=>x.name==v.name) with
  |false=>rfl
  |true=>
   rw [List.any_eq_true] at hc
   obtain ⟨x,hx,he⟩:=hc
   obtain ⟨k,hk,hke⟩:=List.mem_iff_getElem.1 hx
   exact absurd (show v.name=x.name by simpa using (beq_iff_eq.1 he).symm) (h 0 (k+1) v x (by omega) (by simp) (by simp [hk,hke]))
def zdm (v:VarD):Int:=zoh (mx v.size 1) 2147483649
theorem zib (v:VarD):1≤zdm v∧zdm v≤2147483649:=by
 unfold zdm zoh mx zgV
 split<;>split<;>omega
def zmP:Int→List VarD→Option Int
 |n,[]=>some n
 |n,v::r=>if n+zdm v > 32 then none else zmP (n+zdm v) r
def zxi (v:VarD):List Int:=v.init::List.replicate (v.size.toNat - 1) 0
def zdH:List VarD→List Int
 |[]=>[]
 |v::r=>zxi v++zdH r
theorem zfD:∀ l r:List VarD,zdH (l++r)=zdH l++zdH r
 |[],r=>by simp [zdH]
 |v::l,r=>by simp [zdH,zfD l r]
theorem zi4 (v:VarD):((zxi v).length:Int)=mx v.size 1:=by
 unfold zxi mx zgV
 simp only [List.length_cons,List.length_replicate]
 split<;>omega
theorem zfE (v:VarD) (h:zdm v≤32):zdm v=mx v.size 1:=by
 unfold zdm zoh at *
 split<;>split at h<;>omega
theorem zme:∀ (l:List VarD) (n m:Int),0≤n→zmP n l=some m→n+(zdH l).length=m∧m≤mx n 32
 |[],n,m,_,h=>by simp [zmP] at h;subst h;simp [zdH,mx,zgV];split<;>omega
 |v::r,n,m,h0,h=>by
  rw [zmP] at h
  split at h
  ·cases h
  ·rename_i hle
   have h5:=zib v
   have h4:=zfE v (by omega)
   obtain ⟨h1,h2⟩:=zme r _ m (by omega) h
   have h3:=zi4 v
   simp only [zdH,List.length_append]
   have h6:mx (n+zdm v) 32=32:=by unfold mx zgV;split<;>omega
   have h7:32≤mx n 32:=by unfold mx zgV;split<;>omega
   constructor<;>omega
def zdI (p:PgD):CdD × Int:=
 if zcn zaA p≠0 then (cd0,zcn zaA p)
 else if p.vars.length > 16 then (cd0,4)
 else if zoV p.vars=true then (cd0,2)
 else if zmP 0 p.vars=none then (cd0,4)
 else if (!zcI p.vars p.start || !zcI p.vars p.message || !zcI p.vars p.tick || !zcI p.vars p.input)=true then (cd0,2)
 else if (!(zcd p.vars p.start).2 || !(zcd p.vars p.message).2 || !(zcd p.vars p.tick).2 || !(zcd p.vars p.input).2)=true then (cd0,7)
 else (⟨zdH p.vars,(zcd p.vars p.start).1,(zcd p.vars p.message).1,(zcd p.vars p.tick).1,(zcd p.vars p.input).1⟩,0)
def zyp (l:List VarD) (pl:List Pl):Prop:=∀ n,zci n pl=if (zaM n 0 l).2.2 then some ((zaM n 0 l).1,(zaM n 0 l).2.1) else none
theorem ziw (n:List UInt8):∀ (l:List VarD) (f:Int),(zaM n f l).2.2=false→(zaM n f l).1=0∧(zaM n f l).2.1=0
 |[],f,_=>⟨rfl,rfl⟩
 |v::r,f,h=>by
  rw [zaM] at h ⊢
  split at h
  ·simp at h
  ·rename_i h1
   rw [if_neg h1]
   split at h
   ·rename_i h2;rw [if_pos h2];exact ⟨rfl,rfl⟩
   ·rename_i h2;rw [if_neg h2];exact ziw n r _ h
theorem zql {l:List VarD} {pl:List Pl} (h:zyp l pl) (n:List UInt8) (arr:Bool) (f:Fl) :
  zfC pl n arr f=(((zaM n 0 l).1,(zaM n 0 l).2.1),(f.1 || !zqk l n,f.2 || (zqk l n&&(arr != decide ((zaM n 0 l).2.1 > 0))))):=by
 unfold zfC zqk
 rw [h n]
 cases hf:(zaM n 0 l).2.2
 ·obtain ⟨h1,h2⟩:=ziw n l 0 hf
  simp [h1,h2]
 ·simp
theorem zqm {l:List VarD} {pl:List Pl} (h:zyp l pl) (op:Int) (n:List UInt8) (a b:Int) (f:Fl) (k1 k2:Int) (hk:k1≠k2) :
  (zde pl op n a b f k1 k2).1=(zdu l op n a b k1 k2).1∧(zde pl op n a b f k1 k2).2.1=(f.1 || ((op==k1 || op==k2)&&!zqk l n)) ∧
  (((op==k1 || op==k2)&&!zqk l n)=false→(zde pl op n a b f k1 k2).2.2=(f.2 || !(zdu l op n a b k1 k2).2)):=by
 unfold zde zdu
 by_cases h1:op=k1
 ·subst h1
  rw [if_pos rfl,zql h]
  have h2:(op==k2)=false:=by simpa using hk
  simp [h2]
  intro hf;simp [hf]
  try (cases decide (0<(zaM n 0 l).2.1)<;>rfl)
 ·have h1':(op==k1)=false:=by simpa using h1
  rw [if_neg h1]
  by_cases h2:op=k2
  ·subst h2
   rw [if_pos rfl,zql h]
   simp [h1']
   intro hf;simp [hf]
   try (cases decide (0<(zaM n 0 l).2.1)<;>rfl)
  ·have h2':(op==k2)=false:=by simpa using h2
   rw [if_neg h2]
   simp [h1',h2']
structure RelR (l:List VarD) (α:Type) (r:α × Fl) (f:Fl) (d:Bool) (q:α × Bool):Prop where
 val:r.1=q.1
 nm:r.2.1=(f.1 || !d)
 sh:d=true→r.2.2=(f.2 || !q.2)
mutual
theorem zui {l:List VarD} {pl:List Pl} (h:zyp l pl):∀ (e:Ex) (f:Fl),RelR l Ex (rsE pl e f) f (zeu l e) (r3E l e)
 |.mk op v n a b args,f=>by
  obtain ⟨h1,h2,h3⟩:=zqm h op n a b f 2 3 (by decide)
  obtain ⟨g1,g2,g3⟩:=zuj h args (zde pl op n a b f 2 3).2
  refine ⟨?_,?_,?_⟩
  ·simp only [rsE,r3E,h1,g1]
  ·simp only [rsE,zeu,g2,h2]
   cases f.1<;>cases ((op==2 || op==3)&&!zqk l n)<;>cases zdf l args<;>rfl
  ·intro hn
   simp only [zeu,Bool.and_eq_true,Bool.not_eq_true'] at hn
   simp only [rsE,r3E,g3 hn.2,h3 hn.1]
   cases f.2<;>cases (zdu l op n a b 2 3).2<;>cases (ze1 l args).2<;>rfl
theorem zuj {l:List VarD} {pl:List Pl} (h:zyp l pl):∀ (e:List Ex) (f:Fl),RelR l (List Ex) (zec pl e f) f (zdf l e) (ze1 l e)
 |[],f=>⟨by simp [zec,ze1],by simp [zec,zdf],by simp [zec,ze1]⟩
 |e::r,f=>by
  obtain ⟨h1,h2,h3⟩:=zui h e f
  obtain ⟨g1,g2,g3⟩:=zuj h r (rsE pl e f).2
  refine ⟨?_,?_,?_⟩
  ·simp only [zec,ze1,h1,g1]
  ·simp only [zec,zdf,g2,h2]
   cases f.1<;>cases zeu l e<;>cases zdf l r<;>rfl
  ·intro hn
   simp only [zdf,Bool.and_eq_true] at hn
   simp only [zec,ze1,g3 hn.2,h3 hn.1]
   cases f.2<;>cases (r3E l e).2<;>cases (ze1 l r).2<;>rfl
end
mutual
theorem zDO {l:List VarD} {pl:List Pl} (h:zyp l pl):∀ (s:Sm) (f:Fl),RelR l Sm (rsS pl s f) f (zmc l s) (r3S l s)
 |.mk k n a b p v body els,f=>by
  obtain ⟨h1,h2,h3⟩:=zqm h k n a b f 1 2 (by decide)
  obtain ⟨p1,p2,p3⟩:=zui h p (zde pl k n a b f 1 2).2
  obtain ⟨v1,v2,v3⟩:=zui h v (rsE pl p (zde pl k n a b f 1 2).2).2
  obtain ⟨b1,b2,b3⟩:=zgL h body (rsE pl v (rsE pl p (zde pl k n a b f 1 2).2).2).2
  obtain ⟨e1,e2,e3⟩:=zgL h els (zck pl body (rsE pl v (rsE pl p (zde pl k n a b f 1 2).2).2).2).2
  refine ⟨?_,?_,?_⟩
  ·simp only [rsS,r3S,h1,p1,v1,b1,e1]
  ·simp only [rsS,zmc,e2,b2,v2,p2,h2]
   cases f.1<;>cases ((k==1 || k==2)&&!zqk l n)<;>cases zeu l p<;>cases zeu l v<;>cases zcI l body<;>cases zcI l els<;>rfl
  ·intro hn
   simp only [zmc,Bool.and_eq_true,Bool.not_eq_true',Bool.or_eq_false_iff,Bool.not_eq_false'] at hn
   obtain ⟨hn0,⟨⟨hnp,hnv⟩,hnb⟩,hne⟩:=hn
   simp only [rsS,r3S,e3 hne,b3 hnb,v3 hnv,p3 hnp,h3 hn0]
   cases f.2<;>cases (zdu l k n a b 1 2).2<;>cases (r3E l p).2<;>cases (r3E l v).2<;>cases (zcd l body).2<;>cases (zcd l els).2<;>rfl
theorem zgL {l:List VarD} {pl:List Pl} (h:zyp l pl):∀ (s:List Sm) (f:Fl),RelR l (List Sm) (zck pl s f) f (zcI l s) (zcd l s)
 |[],f=>⟨by simp [zck,zcd],by simp [zck,zcI],by simp [zck,zcd]⟩
 |e::r,f=>by
  obtain ⟨h1,h2,h3⟩:=zDO h e f
  obtain ⟨g1,g2,g3⟩:=zgL h r (rsS pl e f).2
  refine ⟨?_,?_,?_⟩
  ·simp only [zck,zcd,h1,g1]
  ·simp only [zck,zcI,g2,h2]
   cases f.1<;>cases zmc l e<;>cases zcI l r<;>rfl
  ·intro hn
   simp only [zcI,Bool.and_eq_true] at hn
   simp only [zck,zcd,g3 hn.2,h3 hn.1]
   cases f.2<;>cases (r3S l e).2<;>cases (zcd l r).2<;>rfl
end
theorem zDP {l:List VarD} {pl:List Pl} (h:zyp l pl) (p:PgD) (xs:List Int):zDL xs (rs4 pl p) =
  if (!zcI l p.start || !zcI l p.message || !zcI l p.tick || !zcI l p.input)=true then (cd0,2)
  else if (!(zcd l p.start).2 || !(zcd l p.message).2 || !(zcd l p.tick).2 || !(zcd l p.input).2)=true then (cd0,7)
  else (⟨xs,(zcd l p.start).1,(zcd l p.message).1,(zcd l p.tick).1,(zcd l p.input).1⟩,0):=by
 obtain ⟨a1,a2,a3⟩:=zgL h p.start (false,false)
 obtain ⟨b1,b2,b3⟩:=zgL h p.message (zck pl p.start (false,false)).2
 obtain ⟨c1,c2,c3⟩:=zgL h p.tick (zck pl p.message (zck pl p.start (false,false)).2).2
 obtain ⟨d1,d2,d3⟩:=zgL h p.input (zck pl p.tick (zck pl p.message (zck pl p.start (false,false)).2).2).2
 unfold zDL rs4
 dsimp only
 have hnm:(zck pl p.input (zck pl p.tick (zck pl p.message (zck pl p.start (false,false)).2).2).2).2.1=(!zcI l p.start || !zcI l p.message || !zcI l p.tick || !zcI l p.input):=by
  rw [d2,c2,b2,a2];rfl
 rw [hnm]
 split
 ·rfl
 ·rename_i hn
  simp only [Bool.or_eq_true,Bool.not_eq_true',not_or,Bool.not_eq_false] at hn
  obtain ⟨⟨⟨n1,n2⟩,n3⟩,n4⟩:=hn
  have hsh:(zck pl p.input (zck pl p.tick (zck pl p.message (zck pl p.start (false,false)).2).2).2).2.2=(!(zcd l p.start).2 || !(zcd l p.message).2 || !(zcd l p.tick).2 || !(zcd l p.input).2):=by
   rw [d3 n4,c3 n3,b3 n2,a3 n1];rfl
  rw [hsh,a1,b1,c1,d1]
open Go
theorem zf3 (n m:List UInt8) (a b:Int):∀ l:List Pl,zci n (zkR m a b l)=if n=m then some (a,b) else zci n l
 |[]=>by simp [zkR,zci]
 |p::r=>by
  have ih:=zf3 n m a b r
  rw [zkR]
  by_cases h:m=p.name
  ·rw [if_pos h]
   by_cases h2:n=m
   ·simp [zci,h2]
   ·have:¬ n=p.name:=fun e=>h2 (e.trans h.symm)
    simp [zci,h2,this]
  ·rw [if_neg h]
   by_cases h2:n=p.name
   ·have:¬ n=m:=fun e=>h (e.symm.trans h2)
    simp [zci,h2] at *
    simp [h,Ne.symm] at *
   ·simp [zci,h2,ih]
theorem znG:∀ (l:List VarD) (es:List Pl),(zok es l=none ↔ (l.any (fun v=>(zci v.name es).isSome)=true∨zoV l=true))
 |[],es=>by simp [zok,zoV]
 |v::r,es=>by
  rw [zok]
  by_cases h:(zci v.name es).isSome=true
  ·rw [if_pos h];simp [h]
  ·rw [if_neg h,znG r]
   simp only [List.any_cons,zoV,zf3,Bool.or_eq_true]
   constructor
   ·rintro (h1|h1)
    ·rw [List.any_eq_true] at h1
     obtain ⟨x,hx,hs⟩:=h1
     by_cases hxv:x.name=v.name
     ·right;left;rw [List.any_eq_true];exact ⟨x,hx,by simpa using hxv⟩
     ·rw [if_neg hxv] at hs
      left;right;rw [List.any_eq_true];exact ⟨x,hx,hs⟩
    ·right;right;exact h1
   ·rintro ((h1|h1)|(h1|h1))
    ·exact absurd h1 h
    ·rw [List.any_eq_true] at h1
     obtain ⟨x,hx,hs⟩:=h1
     left;rw [List.any_eq_true];refine ⟨x,hx,?_⟩
     split
     ·rfl
     ·exact hs
    ·rw [List.any_eq_true] at h1
     obtain ⟨x,hx,hs⟩:=h1
     left;rw [List.any_eq_true];refine ⟨x,hx,?_⟩
     rw [if_pos (by simpa using hs)];rfl
    ·right;exact h1
theorem znH (n:List UInt8):∀ (l:List VarD) (es es':List Pl),zok es l=some es'→(∀ v ∈ l,v.name≠n)→zci n es'=zci n es
 |[],es,es',h,_=>by simp [zok] at h;rw [h]
 |v::r,es,es',h,hn=>by
  rw [zok] at h
  split at h
  ·cases h
  ·rw [znH n r _ es' h (fun x hx=>hn x (by simp [hx])),zf3,if_neg (fun e=>hn v (by simp) e.symm)]
def lkF (n:List UInt8):Int→List VarD→Option (Int × Int)
 |_,[]=>none
 |f,v::r=>if v.name=n then some (f,v.size) else lkF n (f+mx v.size 1) r
theorem zqn (n:List UInt8):∀ (l:List VarD) (f:Int),(∀ v ∈ l,v.name≠n)→lkF n f l=none
 |[],f,_=>rfl
 |v::r,f,h=>by rw [lkF,if_neg (h v (by simp))];exact zqn n r _ (fun x hx=>h x (by simp [hx]))
theorem zqo (n:List UInt8):∀ (l:List VarD) (f:Int),lkF n f l=none→∀ v ∈ l,v.name≠n
 |[],f,_,v,hv=>by simp at hv
 |v::r,f,h,x,hx=>by
  rw [lkF] at h
  split at h
  ·cases h
  ·rename_i hne
   rcases List.mem_cons.1 hx with rfl|hx
   ·exact hne
   ·exact zqo n r _ h x hx
theorem zuk (v:VarD):[v.init]++List.replicate ((mx v.size 1).toNat - 1) 0=zxi v:=by
 unfold zxi
 have:(mx v.size 1).toNat - 1=v.size.toNat - 1:=by unfold mx zgV;split<;>omega
 rw [this];rfl
theorem zul (n:Int) (v:VarD) (h0:0≤n):(mx v.size 1 > 32 - n ↔ n+zdm v > 32):=by
 unfold zdm zoh
 split<;>omega
theorem zj1:∀ (l:List VarD) (es:List Pl) (xs:List Int),(zgm es xs l=none ↔ zmP xs.length l=none)∧∀ q,zgm es xs l=some q→q.2=xs++zdH l
 |[],es,xs=>by simp [zgm,zmP,zdH]
 |v::r,es,xs=>by
  rw [zgm,zmP]
  have hs:=zul xs.length v (by omega)
  by_cases h:mx v.size 1 > 32 - (xs.length:Int)
  ·rw [if_pos h,if_pos (hs.1 h)];simp
  ·have h':¬ (xs.length:Int)+zdm v > 32:=fun e=>h (hs.2 e)
   rw [if_neg h,if_neg h']
   have hc:=zfE v (by omega)
   have h1:=zi4 v
   have ih:=zj1 r (zkR v.name xs.length v.size es) (xs++[v.init]++List.replicate ((mx v.size 1).toNat - 1) 0)
   rw [List.append_assoc,zuk] at ih ⊢
   have hl:((xs++zxi v).length:Int)=xs.length+zdm v:=by rw [List.length_append,hc,←h1];omega
   rw [hl] at ih
   refine ⟨ih.1,fun q hq=>?_⟩
   rw [ih.2 q hq,zdH,List.append_assoc]
theorem zlf (n:List UInt8):∀ (l:List VarD) (es:List Pl) (xs:List Int) (q:List Pl × List Int),zoV l=false→zgm es xs l=some q→zci n q.1=(lkF n xs.length l).or (zci n es)
 |[],es,xs,q,_,h=>by simp [zgm] at h;rw [←h];simp [lkF]
 |v::r,es,xs,q,hd,h=>by
  rw [zgm] at h
  split at h
  ·cases h
  ·rename_i hle
   simp only [zoV,Bool.or_eq_false_iff] at hd
   have hl:(((xs++[v.init]++List.replicate ((mx v.size 1).toNat - 1) 0).length:Nat):Int)=xs.length+mx v.size 1:=by
    rw [List.append_assoc,zuk,List.length_append,←zi4 v];omega
   have ih:=zlf n r _ _ q hd.2 h
   rw [hl,zf3] at ih
   rw [ih,lkF]
   by_cases hv:v.name=n
   ·subst hv
    have:∀ x ∈ r,x.name≠v.name:=fun x hx e=>by
     have:=hd.1
     rw [List.any_eq_false] at this
     exact this x hx (by simpa using e)
    rw [zqn _ r _ this];simp
   ·rw [if_neg hv,if_neg (fun e=>hv e.symm)]
theorem zlg (n:List UInt8):∀ (l:List VarD) (f:Int),0≤f→zmP f l≠none→(∀ v ∈ l,0≤v.size)→zaM n f l=match lkF n f l with|some q=>(q.1,q.2,true)|none=>(0,0,false)
 |[],f,_,_,_=>rfl
 |v::r,f,h0,hs,hp=>by
  rw [zmP] at hs
  split at hs
  ·exact absurd rfl hs
  ·rename_i hle
   have hc0:=zib v
   have hc:=zfE v (by omega)
   rw [zaM,lkF]
   by_cases hv:v.name=n
   ·have h1:=hp v (by simp)
    have h2:mx v.size 0=v.size:=by unfold mx zgV;split<;>omega
    simp [hv,h2]
   ·have:(v.name==n)=false:=by simpa using hv
    rw [this,if_neg (by simp),if_neg (by omega),if_neg hv]
    rw [hc] at hs
    exact zlg n r _ (by omega) hs (fun x hx=>hp x (by simp [hx]))
theorem zAl {l:List VarD} {es:List Pl} {q:List Pl × List Int} (hd:zoV l=false) (he:zok [] l=some es) (hf:zgm es [] l=some q) (hp:∀ v ∈ l,0≤v.size):zyp l q.1:=by
 intro n
 have hs:zmP 0 l≠none:=fun h=>by
  have:=(zj1 l es []).1.2 (by simpa using h)
  rw [this] at hf;cases hf
 have h1:=zlf n l es [] q hd hf
 have h2:=zlg n l 0 (by omega) hs hp
 rw [h1,h2]
 simp only [List.length_nil]
 rw [show ((0:Nat):Int)=0 from rfl]
 cases hk:lkF n 0 l with
 |some z=>simp
 |none=>
  have:=znH n l [] es he (zqo n l 0 hk)
  simp [this,zci]
theorem zix (p:PgD):zbu p=zdI p:=by
 unfold zbu zdI
 by_cases h1:zcn zaA p≠0
 ·rw [if_pos h1,if_pos h1]
 ·rw [if_neg h1,if_neg h1]
  by_cases h2:p.vars.length > 16
  ·rw [if_pos h2,if_pos h2]
  ·rw [if_neg h2,if_neg h2]
   have hp:∀ v ∈ p.vars,0≤v.size:=by
    intro v hv
    have h3:zcn zaA p=0:=by simpa using h1
    unfold zcn at h3
    split at h3
    ·cases h3
    ·split at h3
     ·cases h3
     ·rename_i hany
      have:zbA v=true:=by
       cases hg:zbA v with
       |true=>rfl
       |false=>exact absurd (List.any_eq_true.2 ⟨v,hv,by simp [hg]⟩) hany
      unfold zbA at this
      grind
   have hdn:=znG p.vars []
   have h0:p.vars.any (fun v=>(zci v.name []).isSome)=false:=by simp [zci]
   rw [h0] at hdn
   cases hd:zoV p.vars with
   |true=>
    have:zok [] p.vars=none:=hdn.2 (.inr hd)
    rw [this];simp
   |false=>
    cases he:zok [] p.vars with
    |none=>have:=hdn.1 he;rw [hd] at this;simp at this
    |some es=>
     have hfs:=zj1 p.vars es []
     rw [if_neg (by simp)]
     dsimp only
     cases hf:zgm es [] p.vars with
     |none=>
      have:=hfs.1.1 hf
      rw [if_pos (by simpa using this)]
     |some q=>
      have hs:¬ zmP 0 p.vars=none:=fun h=>by
       have:=hfs.1.2 (by simpa using h)
       rw [this] at hf;cases hf
      rw [if_neg hs]
      dsimp only
      rw [zDP (zAl hd he hf hp) p q.2,hfs.2 q hf]
      rfl
def zol (x:UInt8):List PVal:=[.int .u8 (x.toNat:Int)]
def nxt (xs:List UInt8) (a:Nat) (n:Int):Int × Nat:=if a<xs.length then (((xs.getD a 0).toNat:Int).tmod n,a+1) else (0,a)
theorem za9 (xs:List UInt8) (a:Nat) (n:Int) (h:0<n):0≤(nxt xs a n).1∧(nxt xs a n).1<n:=by
 unfold nxt
 split
 ·exact ⟨Int.tmod_nonneg _ (by omega),Int.tmod_lt_of_pos _ h⟩
 ·exact ⟨Int.le_refl _,h⟩
theorem za0 (xs:List UInt8) (a:Nat) (n:Int) (h:a≤xs.length):(nxt xs a n).2≤xs.length:=by unfold nxt;split<;>simp<;>omega
def exL (op value:Int) (name:List UInt8) (args:List Ex):Ex:=.mk op value name 0 0 args
def zum (i:Int):List UInt8:=if i=0 then [120] else if i=1 then [121] else [122]
def zyq (i:Int):List UInt8:=if i=0 then [97] else [98]
def opN (i:Int):Int:=if i=0 then 4 else if i=1 then 5 else 6
def kF (small:Bool) (k m:Int):Int:=if (small&&decide (k≥m))=true then k - m else k
def zdg (xs:List UInt8) (rec:Nat→Ex × Nat) (small:Bool) (a:Nat):Ex × Nat:=
 if kF small (nxt xs a 12).1 8<2 then (exL 1 (nxt xs (nxt xs a 12).2 5).1 [] [],(nxt xs (nxt xs a 12).2 5).2)
 else if kF small (nxt xs a 12).1 8<4 then (exL 2 0 (zum (nxt xs (nxt xs a 12).2 3).1) [],(nxt xs (nxt xs a 12).2 3).2)
 else if kF small (nxt xs a 12).1 8=4 then (exL 7 0 [] [],(nxt xs a 12).2)
 else if kF small (nxt xs a 12).1 8=5 then (exL (opN (nxt xs (nxt xs a 12).2 3).1) 0 [] [],(nxt xs (nxt xs a 12).2 3).2)
 else if kF small (nxt xs a 12).1 8=6∨small=true then (exL 1 (1+(nxt xs (nxt xs a 12).2 200).1) [] [],(nxt xs (nxt xs a 12).2 200).2)
 else if kF small (nxt xs a 12).1 8=7 then (exL 3 0 (zyq (nxt xs (nxt xs a 12).2 2).1) [(rec (nxt xs (nxt xs a 12).2 2).2).1],(rec (nxt xs (nxt xs a 12).2 2).2).2)
 else if kF small (nxt xs a 12).1 8=8 then (exL (8+(nxt xs (nxt xs a 12).2 2).1) 0 [] [(rec (nxt xs (nxt xs a 12).2 2).2).1],(rec (nxt xs (nxt xs a 12).2 2).2).2)
 else (exL (10+(nxt xs (rec (nxt xs a 12).2).2 13).1) 0 [] [(rec (nxt xs a 12).2).1,(rec (nxt xs (rec (nxt xs a 12).2).2 13).2).1],(rec (nxt xs (rec (nxt xs a 12).2).2 13).2).2)
def zbk (xs:List UInt8):Nat→Nat→Ex × Nat
 |0,a=>zdg xs (fun a=>(exL 0 0 [] [],a)) true a
 |d+1,a=>zdg xs (zbk xs d) (decide (d+1≤1)) a
theorem zj2 (xs:List UInt8) (rec:Nat→Ex × Nat) (small:Bool) (a:Nat) (ha:a≤xs.length) (hr:∀ a≤xs.length,(rec a).2≤xs.length):(zdg xs rec small a).2≤xs.length:=by
 have h0:=za0 xs a 12 ha
 unfold zdg
 repeat' split
 all_goals first|exact za0 _ _ _ h0|exact h0|exact hr _ (za0 _ _ _ h0)|exact hr _ (za0 _ _ _ (hr _ h0))
theorem zbP (xs:List UInt8):∀ (d a:Nat),a≤xs.length→(zbk xs d a).2≤xs.length
 |0,a,h=>zj2 xs _ _ a h (fun a h=>h)
 |d+1,a,h=>zj2 xs _ _ a h (fun a h=>zbP xs d a h)
def smL (kind:Int) (name:List UInt8) (place value:Ex) (body els:List Sm):Sm:=.mk kind name 0 0 place value body els
def ex0:Ex:=.mk 0 0 [] 0 0 []
def zb0 (xs:List UInt8) (rec:Int→Nat→List Sm × Nat) (small:Bool) (a:Nat):Sm × Nat:=
 let q:=nxt xs a 10
 if kF small q.1 7<3 then (smL 1 (zum (nxt xs q.2 3).1) ex0 (zbk xs 3 (nxt xs q.2 3).2).1 [] [],(zbk xs 3 (nxt xs q.2 3).2).2)
 else if kF small q.1 7=3 then (smL 2 (zyq (nxt xs q.2 2).1) (zbk xs 2 (nxt xs q.2 2).2).1 (zbk xs 2 (zbk xs 2 (nxt xs q.2 2).2).2).1 [] [],(zbk xs 2 (zbk xs 2 (nxt xs q.2 2).2).2).2)
 else if kF small q.1 7<6 then (smL 5 [] (zbk xs 2 q.2).1 (zbk xs 2 (zbk xs 2 q.2).2).1 [] [],(zbk xs 2 (zbk xs 2 q.2).2).2)
 else if kF small q.1 7=6 then (smL 6 [] ex0 (zbk xs 2 q.2).1 [] [],(zbk xs 2 q.2).2)
 else if kF small q.1 7<9 then (smL 3 [] ex0 (zbk xs 2 q.2).1 (rec 2 (zbk xs 2 q.2).2).1 (rec 1 (rec 2 (zbk xs 2 q.2).2).2).1,(rec 1 (rec 2 (zbk xs 2 q.2).2).2).2)
 else (smL 4 [] ex0 (zbk xs 2 q.2).1 (rec 2 (zbk xs 2 q.2).2).1 [],(rec 2 (zbk xs 2 q.2).2).2)
def zbm (xs:List UInt8) (rec:Int→Nat→List Sm × Nat) (small:Bool):Nat→Nat→List Sm × Nat
 |0,a=>([],a)
 |n+1,a=>((zb0 xs rec small a).1::(zbm xs rec small n (zb0 xs rec small a).2).1,(zbm xs rec small n (zb0 xs rec small a).2).2)
def zcR (xs:List UInt8) (rec:Int→Nat→List Sm × Nat) (small:Bool) (most:Int) (a:Nat):List Sm × Nat:=
 zbm xs rec small (nxt xs a (most+1)).1.toNat (nxt xs a (most+1)).2
def zcJ (xs:List UInt8):Nat→Int→Nat→List Sm × Nat
 |0,most,a=>zcR xs (fun _ a=>([],a)) true most a
 |d+1,most,a=>zcR xs (zcJ xs d) (decide (d+1≤1)) most a
theorem zgM (xs:List UInt8) (rec:Int→Nat→List Sm × Nat) (small:Bool) (a:Nat) (ha:a≤xs.length) (hr:∀ m a,a≤xs.length→(rec m a).2≤xs.length):(zb0 xs rec small a).2≤xs.length:=by
 have h0:=za0 xs a 10 ha
 unfold zb0
 dsimp only
 repeat' split
 all_goals dsimp only
 all_goals first|exact zbP _ _ _ (za0 _ _ _ h0)|exact zbP _ _ _ (zbP _ _ _ (za0 _ _ _ h0))|exact zbP _ _ _ (zbP _ _ _ h0)|exact zbP _ _ _ h0|exact hr _ _ (hr _ _ (zbP _ _ _ h0))|exact hr _ _ (zbP _ _ _ h0)
theorem zfF (xs:List UInt8) (rec:Int→Nat→List Sm × Nat) (small:Bool) (hr:∀ m a,a≤xs.length→(rec m a).2≤xs.length):∀ (n a:Nat),a≤xs.length→(zbm xs rec small n a).2≤xs.length
 |0,a,h=>h
 |n+1,a,h=>zfF xs rec small hr n _ (zgM xs rec small a h hr)
theorem zdh (xs:List UInt8):∀ (d:Nat) (m:Int) (a:Nat),a≤xs.length→(zcJ xs d m a).2≤xs.length
 |0,m,a,h=>zfF xs _ _ (fun _ _ h=>h) _ _ (za0 _ _ _ h)
 |d+1,m,a,h=>zfF xs _ _ (fun m a h=>zdh xs d m a h) _ _ (za0 _ _ _ h)
def eB:Nat→Nat
 |0=>1
 |d+1=>1+2 * eB d
theorem zj3 (xs:List UInt8) (rec:Nat→Ex × Nat) (small:Bool) (a B:Nat) (hr:∀ a,szE (rec a).1≤B):szE (zdg xs rec small a).1≤1+2 * B:=by
 have h:=fun a=>hr a
 unfold zdg
 repeat' split
 all_goals simp only [exL,szE,zh3]
 all_goals try omega
 ·have:=h (nxt xs (nxt xs a 12).2 2).2;omega
 ·have:=h (nxt xs (nxt xs a 12).2 2).2;omega
 ·have:=h (nxt xs a 12).2;have:=h (nxt xs (rec (nxt xs a 12).2).2 13).2;omega
theorem zmf (xs:List UInt8):∀ (d a:Nat),szE (zbk xs d a).1≤1+2 * eB d
 |0,a=>zj3 xs _ _ a 1 (fun a=>by simp [exL,szE,zh3])
 |d+1,a=>zj3 xs _ _ a _ (fun a=>by have:=zmf xs d a;simp only [eB] at *;omega)
def sB:Nat→Nat
 |0=>100
 |d+1=>100+3 * sB d
theorem zj4 (xs:List UInt8) (rec:Int→Nat→List Sm × Nat) (small:Bool) (a B:Nat) (h2:∀ a,zbz (rec 2 a).1≤2 * B) (h1:∀ a,zbz (rec 1 a).1≤B):szS (zb0 xs rec small a).1≤100+3 * B:=by
 have e2:=fun a=>zmf xs 2 a
 have e3:=fun a=>zmf xs 3 a
 simp only [eB] at e2 e3
 unfold zb0
 dsimp only
 repeat' split
 all_goals simp only [smL,szS,zbz,ex0,szE,zh3]
 ·have:=e3 (nxt xs (nxt xs a 10).2 3).2;omega
 ·have:=e2 (nxt xs (nxt xs a 10).2 2).2;have:=e2 (zbk xs 2 (nxt xs (nxt xs a 10).2 2).2).2;omega
 ·have:=e2 (nxt xs a 10).2;have:=e2 (zbk xs 2 (nxt xs a 10).2).2;omega
 ·have:=e2 (nxt xs a 10).2;omega
 ·have:=e2 (nxt xs a 10).2;have:=h2 (zbk xs 2 (nxt xs a 10).2).2;have:=h1 (rec 2 (zbk xs 2 (nxt xs a 10).2).2).2;omega
 ·have:=e2 (nxt xs a 10).2;have:=h2 (zbk xs 2 (nxt xs a 10).2).2;omega
theorem ziy (xs:List UInt8) (rec:Int→Nat→List Sm × Nat) (small:Bool) (B:Nat) (h:∀ a,szS (zb0 xs rec small a).1≤B):∀ (n a:Nat),zbz (zbm xs rec small n a).1≤n * B
 |0,a=>by simp [zbm,zbz]
 |n+1,a=>by
  have h1:=h a
  have h2:=ziy xs rec small B h n (zb0 xs rec small a).2
  simp only [zbm,zbz]
  rw [Nat.succ_mul];omega
theorem zj5 (xs:List UInt8) (rec:Int→Nat→List Sm × Nat) (small:Bool) (B:Nat) (h:∀ a,szS (zb0 xs rec small a).1≤B) (most:Nat) (a:Nat):zbz (zcR xs rec small most a).1≤most * B:=by
 unfold zcR
 have h1:=za9 xs a ((most:Int)+1) (by omega)
 refine Nat.le_trans (ziy xs rec small B h _ _) (Nat.mul_le_mul_right _ (by omega))
theorem zeM (xs:List UInt8):∀ (d:Nat) (most:Nat) (a:Nat),zbz (zcJ xs d most a).1≤most * sB (d+1)
 |0,most,a=>zj5 xs _ _ _ (fun a=>Nat.le_trans (zj4 xs _ _ a 0 (fun _=>by simp [zbz]) (fun _=>by simp [zbz])) (by simp [sB])) most a
 |d+1,most,a=>zj5 xs _ _ _ (fun a=>Nat.le_trans (zj4 xs _ _ a (sB (d+1)) (fun a=>zeM xs d 2 a) (fun a=>by have:=zeM xs d 1 a;simpa using this)) (by simp [sB])) most a
def zxj (u v w:Int):List VarD:=[⟨[120],0,u - 2⟩,⟨[97],1+v,0⟩,⟨[121],0,0⟩,⟨[122],0,w⟩,⟨[98],2,0⟩]
def zcv (xs:List UInt8) (a:Nat):PgD × Nat:=
 let m1:=nxt xs a 7
 let m2:=nxt xs m1.2 5
 let m3:=nxt xs m2.2 3
 let s1:=zcJ xs 2 3 m3.2
 let s2:=zcJ xs 3 4 s1.2
 let s3:=zcJ xs 2 3 s2.2
 let s4:=zcJ xs 2 2 s3.2
 (⟨zxj m1.1 m2.1 m3.1,s1.1,s2.1,s3.1,s4.1⟩,s4.2)
theorem zj6 (xs:List UInt8) (a:Nat) (h:a≤xs.length):(zcv xs a).2≤xs.length:=
 zdh _ _ _ _ (zdh _ _ _ _ (zdh _ _ _ _ (zdh _ _ _ _ (za0 _ _ _ (za0 _ _ _ (za0 _ _ _ h))))))
theorem zoW (xs:List UInt8) (a:Nat):szP (zcv xs a).1≤100000:=by
 unfold zcv szP
 dsimp only
 have h1:=zeM xs 2 3 (nxt xs (nxt xs (nxt xs a 7).2 5).2 3).2
 have h2:=zeM xs 3 4 (zcJ xs 2 3 (nxt xs (nxt xs (nxt xs a 7).2 5).2 3).2).2
 have h3:=zeM xs 2 3 (zcJ xs 3 4 (zcJ xs 2 3 (nxt xs (nxt xs (nxt xs a 7).2 5).2 3).2).2).2
 have h4:=zeM xs 2 2 (zcJ xs 2 3 (zcJ xs 3 4 (zcJ xs 2 3 (nxt xs (nxt xs (nxt xs a 7).2 5).2 3).2).2).2).2
 simp only [sB,Int.cast_ofNat_Int] at h1 h2 h3 h4
 simp only [zxj,List.length_cons,List.length_nil]
 omega
def zAm:List Int:=[9223372036854775807,-9223372036854775808,2147483648,-1,63,64,-65,127,128,1099511627776]
def zhS (xs:List UInt8) (a:Nat):Int × Nat:=
 if (nxt xs a 6).1=5 then (zAm.getD (nxt xs (nxt xs a 6).2 10).1.toNat 0,(nxt xs (nxt xs a 6).2 10).2) else ((nxt xs (nxt xs a 6).2 12).1 - 2,(nxt xs (nxt xs a 6).2 12).2)
theorem zic (xs:List UInt8) (a:Nat) (h:a≤xs.length):(zhS xs a).2≤xs.length:=by
 unfold zhS
 split<;>exact za0 _ _ _ (za0 _ _ _ h)
theorem zoX (xs:List UInt8) (a:Nat):-9223372036854775808≤(zhS xs a).1∧(zhS xs a).1≤9223372036854775807:=by
 unfold zhS
 split
 ·have h:=za9 xs (nxt xs a 6).2 10 (by omega)
  have key:∀ i,i<10→-9223372036854775808≤zAm.getD i 0∧zAm.getD i 0≤9223372036854775807:=by
   have:((List.range 10).all fun i=>decide (-9223372036854775808≤zAm.getD i 0∧zAm.getD i 0≤9223372036854775807))=true:=by decide
   intro i hi
   simpa using List.all_eq_true.1 this i (by simpa using hi)
  exact key _ (by omega)
 ·have h:=za9 xs (nxt xs a 6).2 12 (by omega)
  constructor<;>simp only<;>omega
def zom (q:Bool × List UInt8):List UInt8:=if q.1 then 40::(q.2++[41]) else q.2
def fmN (op value:Int) (nm:List UInt8) (ts:List (Bool × List UInt8)):List UInt8:=
 if op=1 then zei value else if op=2 then nm
 else if op=3 then nm++91::((ts.getD 0 (false,[])).2++[93])
 else if op=4 then [115,101,108,102] else if op=5 then [112,114,111,99,115] else if op=6 then [102,114,111,109] else if op=7 then [118,97,108,117,101]
 else if op=8∨op=9 then sgF op.toNat++zom (ts.getD 0 (false,[]))
 else zom (ts.getD 0 (false,[]))++32::(sgF op.toNat++32::zom (ts.getD 1 (false,[])))
mutual
def fmE:Ex→List UInt8
 |.mk op value nm _ _ args=>fmN op value nm (zon args)
def zon:List Ex→List (Bool × List UInt8)
 |[]=>[]
 |e::r=>(decide (e.op≥8),fmE e)::zon r
end
theorem zDQ (e:Ex):fmE e=fmN e.op e.value e.name (zon e.args):=by cases e;rfl
def zez (n:Nat):List UInt8:=List.replicate (2 * n) 32
def fmS (kind:Int) (nm place value body els:List UInt8) (he:Bool) (n:Nat):List UInt8:=
 if kind=1 then nm++[32,61,32]++value++[59,10]
 else if kind=2 then nm++[91]++place++[93,32,61,32]++value++[59,10]
 else if kind=5 then [115,101,110,100,32]++place++[44,32]++value++[59,10]
 else if kind=6 then [111,117,116,112,117,116,32]++value++[59,10]
 else (if kind=3 then [105,102,32] else [119,104,105,108,101,32])++value++[32,123,10]++body++zez n++(if he then [125,32,101,108,115,101,32,123,10]++els++zez n else [])++[125,10]
mutual
def stT (n:Nat):Sm→List UInt8
 |.mk kind nm _ _ place value body els=>fmS kind nm (fmE place) (fmE value) (lsT (n+1) body) (lsT (n+1) els) (decide (els.length > 0)) n
def lsT (n:Nat):List Sm→List UInt8
 |[]=>[]
 |s::r=>zez n++stT n s++lsT n r
end
theorem zDR (n:Nat) (s:Sm):stT n s=fmS s.kind s.name (fmE s.place) (fmE s.value) (lsT (n+1) s.body) (lsT (n+1) s.els) (decide (s.els.length > 0)) n:=by cases s;rfl
def hdT (nm:List UInt8) (l:List Sm):List UInt8:=if l.length=0 then [] else [111,110,32]++nm++[32,123,10]++lsT 1 l++[125,10]
def itT (n:Int):List UInt8:=if n<0 then 45::zei (-n) else zei n
def vaT (v:VarD):List UInt8:=if v.size≠0 then [97,114,114,97,121,32]++v.name++[91]++itT v.size++[93,59,10] else if v.init≠0 then [118,97,114,32]++v.name++[32,61,32]++itT v.init++[59,10] else [118,97,114,32]++v.name++[59,10]
def vsT (l:List VarD):List UInt8:=(l.map vaT).flatten
def pgT (p:PgD):List UInt8:=vsT p.vars++hdT [115,116,97,114,116] p.start++hdT [109,101,115,115,97,103,101] p.message++hdT [116,105,99,107] p.tick++hdT [105,110,112,117,116] p.input
def zqp (p:PgD):List UInt8 × Int:=
 if zcn zaA p≠0 then ([],zcn zaA p) else if ((pgT p).length:Int) > 4096 then ([],5) else (pgT p,0)
theorem zmg (n:Int):(zei n).length≤20:=by
 unfold zei
 split
 ·simp
 ·exact zt6 _ _
theorem zeA (n:Int):(itT n).length≤21:=by
 unfold itT
 split
 ·have:=zmg (-n);simp only [List.length_cons];omega
 ·have:=zmg n;omega
theorem zj7 {s:List UInt8} (h:zdG s=true):s.length≤16:=by
 rcases Nat.lt_or_ge 16 s.length with h1|h1
 ·rw [zgJ s h1] at h;cases h
 ·exact h1
theorem zAn (op:Nat):(sgF op).length≤2:=by
 have key:∀ (c:Prop) [Decidable c] (a b:List UInt8),a.length≤2→b.length≤2→(if c then a else b).length≤2:=fun c _ a b ha hb=>by split<;>assumption
 unfold sgF
 repeat (refine key _ _ _ (by decide) ?_)
 decide
theorem zqq (q:Bool × List UInt8):(zom q).length≤q.2.length+2:=by
 unfold zom
 split<;>simp
def lnE:List (Bool × List UInt8)→Nat
 |[]=>0
 |q::r=>q.2.length+lnE r
theorem zAo (op value:Int) (nm:List UInt8) (ts:List (Bool × List UInt8)) (hn:nm.length≤16):(fmN op value nm ts).length≤lnE ts+30:=by
 have hd:=zmg value
 have hs:=zAn op.toNat
 have g0:(ts.getD 0 (false,[])).2.length≤lnE ts:=by
  cases ts with
  |nil=>simp
  |cons a r=>simp [lnE]
 have g1:(ts.getD 0 (false,[])).2.length+(ts.getD 1 (false,[])).2.length≤lnE ts:=by
  match ts with
  |[]=>simp [lnE]
  |[a]=>simp [lnE]
  |a::b::r=>simp [lnE]<;>omega
 have o0:=zqq (ts.getD 0 (false,[]))
 have o1:=zqq (ts.getD 1 (false,[]))
 unfold fmN
 repeat' split
 all_goals (try simp only [List.length_append,List.length_cons,List.length_nil])
 all_goals omega
mutual
theorem zgN:∀ e:Ex,zb2 e=true→(fmE e).length≤30 * szE e
 |.mk op value nm slot size args,h=>by
  rw [zhs] at h
  simp only [Bool.and_eq_true,zgw,Ex.op_mk,Ex.value_mk,Ex.name_mk,Ex.slot_mk,Ex.size_mk,Ex.args_mk] at h
  have hn:nm.length≤16:=by
   have:=h.1.2
   unfold zcF at this
   split at this
   ·exact zj7 this
   ·have:nm=[]:=by simpa using this
    subst this;simp
  have:=zAo op value nm (zon args) hn
  have:=zqr args h.2
  simp only [fmE,szE]
  omega
theorem zqr:∀ l:List Ex,zco l=true→lnE (zon l)≤30 * zh3 l
 |[],_=>by simp [zon,lnE]
 |e::r,h=>by
  simp only [zco,Bool.and_eq_true] at h
  have:=zgN e h.1
  have:=zqr r h.2
  simp only [zon,lnE,zh3]
  omega
end
theorem zun {e:Ex} (h:zis e=true):e=exZ:=by
 obtain ⟨op,value,nm,slot,size,args⟩:=e
 simp only [zis,Bool.and_eq_true,beq_iff_eq,Ex.op_mk,Ex.value_mk,Ex.name_mk,Ex.slot_mk,Ex.size_mk,Ex.args_mk,Int.natCast_eq_zero,List.length_eq_zero_iff] at h
 obtain ⟨⟨⟨⟨⟨rfl,rfl⟩,rfl⟩,rfl⟩,rfl⟩,rfl⟩:=h
 rfl
theorem zAp:(fmE exZ).length≤30:=by decide
theorem zAq (kind:Int) (nm place value body els:List UInt8) (he:Bool) (n:Nat):(fmS kind nm place value body els he n).length≤nm.length+place.length+value.length+body.length+els.length+4 * n+40:=by
 unfold fmS zez
 repeat' split
 all_goals simp only [List.length_append,List.length_cons,List.length_nil,List.length_replicate]
 all_goals omega
mutual
theorem zAr (n:Nat):∀ s:Sm,zfz s=true→szS s+n≤2000000→(stT n s).length+4000000≤20000000 * szS s
 |.mk kind nm slot size place value body els,h,hn=>by
  rw [zht] at h
  simp only [Bool.and_eq_true,zjT,Sm.kind_mk,Sm.name_mk,Sm.slot_mk,Sm.size_mk,Sm.place_mk,Sm.value_mk,Sm.body_mk,Sm.els_mk] at h
  have hnm:=h.1.1.1.1.2
  have hp:=h.1.1.1.2
  have hv:=h.2.1.1
  have hb:=h.2.1.2
  have he:=h.2.2
  have h1:nm.length≤16:=by
   unfold zcF at hnm
   split at hnm
   ·exact zj7 hnm
   ·have:nm=[]:=by simpa using hnm
    subst this;simp
  have h2:(fmE place).length≤30 * szE place+30:=by
   by_cases hc:(kind==2 || kind==5)=true
   ·have hp':zb2 place=true:=by simpa only [hc,if_true] using hp
    have:=zgN place hp';omega
   ·have hp':zis place=true:=by simpa only [hc,if_false,Bool.false_eq_true] using hp
    rw [zun hp'];have:=zAp;omega
  have h3:=zgN value hv
  simp only [szS] at hn
  have h4:=zid (n+1) body hb (by omega)
  have h5:=zid (n+1) els he (by omega)
  have h6:=zAq kind nm (fmE place) (fmE value) (lsT (n+1) body) (lsT (n+1) els) (decide (els.length > 0)) n
  simp only [stT,szS]
  omega
theorem zid (n:Nat):∀ l:List Sm,zaA l=true→zbz l+n≤2000000→(lsT n l).length≤20000000 * zbz l
 |[],_,_=>by simp [lsT]
 |s::r,h,hn=>by
  simp only [zaA,Bool.and_eq_true] at h
  simp only [zbz] at hn
  have h1:=zAr n s h.1 (by omega)
  have h2:=zid n r h.2 (by omega)
  simp only [lsT,zbz,List.length_append,zez,List.length_replicate]
  omega
end
theorem zmh (nm:List UInt8) (l:List Sm) (h:zaA l=true) (hn:nm.length≤10) (hs:zbz l≤1000000):(hdT nm l).length≤20000000 * zbz l+100:=by
 have:=zid 1 l h (by omega)
 unfold hdT
 split
 ·simp
 ·simp only [List.length_append,List.length_cons,List.length_nil];omega
theorem zAs (v:VarD) (h:zbA v=true):(vaT v).length≤60:=by
 have hn:v.name.length≤16:=by
  refine zj7 ?_
  unfold zbA at h
  cases hv:zdG v.name with
  |true=>rfl
  |false=>rw [hv] at h;simp at h
 have h1:=zeA v.size
 have h2:=zeA v.init
 unfold vaT
 repeat' split
 all_goals simp only [List.length_append,List.length_cons,List.length_nil]
 all_goals omega
theorem zuo:∀ l:List VarD,l.any (fun v=>!zbA v)=false→(vsT l).length≤60 * l.length
 |[],_=>by simp [vsT]
 |v::r,h=>by
  simp only [List.any_cons,Bool.or_eq_false_iff] at h
  have h1:=zAs v (by simpa using h.1)
  have h2:=zuo r h.2
  simp only [vsT] at h2
  simp only [vsT,List.map_cons,List.flatten_cons,List.length_append,List.length_cons]
  omega
theorem zqs {p:PgD} (h:zcn zaA p=0):p.vars.any (fun v=>!zbA v)=false∧zaA p.start=true∧zaA p.message=true∧zaA p.tick=true∧zaA p.input=true∧zt1 p≤16:=by
 unfold zcn at h
 split at h
 ·cases h
 split at h
 ·cases h
 split at h
 ·cases h
 ·rename_i h1 h2 h3
  simp only [Bool.or_eq_true,not_or,Bool.not_eq_true',Bool.not_eq_false] at h3
  exact ⟨by simpa using h2,h3.1.1.1,h3.1.1.2,h3.1.2,h3.2,by omega⟩
theorem zAt (p:PgD) (h:zcn zaA p=0) (hs:szP p≤1000000):(pgT p).length≤50000000000000:=by
 obtain ⟨h0,h1,h2,h3,h4,_⟩:=zqs h
 unfold szP at hs
 have a0:=zuo p.vars h0
 have a1:=zmh [115,116,97,114,116] p.start h1 (by decide) (by omega)
 have a2:=zmh [109,101,115,115,97,103,101] p.message h2 (by decide) (by omega)
 have a3:=zmh [116,105,99,107] p.tick h3 (by decide) (by omega)
 have a4:=zmh [105,110,112,117,116] p.input h4 (by decide) (by omega)
 unfold pgT
 simp only [List.length_append]
 omega
theorem zup (n:Int) (h0:-9223372036854775808≤n) (h1:n≤9223372036854775807):Lib.itoa n=itT n:=by
 unfold itT
 by_cases h:n<0
 ·rw [if_pos h]
  have e:=zt9 20 n.natAbs (by omega) (by omega)
  unfold Lib.itoa zei
  rw [if_pos h,if_neg (by omega),e]
  congr 2
  omega
 ·rw [if_neg h]
  have:=zxd n h1
  rw [show zgV n 0=n by unfold zgV;split<;>omega] at this
  exact this
def zf4 (n:Int):Bool:=decide (-9223372036854775808≤n)&&decide (n≤9223372036854775807)
theorem zfG {n:Int} (h:zf4 n=true):-9223372036854775808≤n∧n≤9223372036854775807:=by simpa [zf4] using h
mutual
def rgE:Ex→Bool
 |.mk _ v _ _ _ args=>zf4 v&&zsC args
def zsC:List Ex→Bool
 |[]=>true
 |e::r=>rgE e&&zsC r
end
theorem zDS (e:Ex):rgE e=(zf4 e.value&&zsC e.args):=by cases e;rfl
mutual
def rgS:Sm→Bool
 |.mk _ _ _ _ p v b e=>rgE p&&rgE v&&zkC b&&zkC e
def zkC:List Sm→Bool
 |[]=>true
 |s::r=>rgS s&&zkC r
end
theorem zDT (s:Sm):rgS s=(rgE s.place&&rgE s.value&&zkC s.body&&zkC s.els):=by cases s;rfl
theorem zqt:∀ {l:List Sm} {s:Sm},zkC l=true→s ∈ l→rgS s=true
 |x::r,s,h,hm=>by
  simp only [zkC,Bool.and_eq_true] at h
  rcases List.mem_cons.1 hm with rfl|hm
  ·exact h.1
  ·exact zqt h.2 hm
theorem zgO:∀ {l:List Sm} {s:Sm},zaA l=true→s ∈ l→zfz s=true
 |x::r,s,h,hm=>by
  simp only [zaA,Bool.and_eq_true] at h
  rcases List.mem_cons.1 hm with rfl|hm
  ·exact h.1
  ·exact zgO h.2 hm
def rgV (v:VarD):Bool:=zf4 v.size&&zf4 v.init
def rgP (p:PgD):Bool:=p.vars.all rgV&&zkC p.start&&zkC p.message&&zkC p.tick&&zkC p.input
theorem zrN {e:Ex} (h:zb2 e=true):(e.op=1∧0≤e.value∧e.args=[])∨(e.op=2∧e.args=[])∨(e.op=3∧∃ a,e.args=[a]∧zb2 a=true)∨((e.op=4∨e.op=5∨e.op=6∨e.op=7)∧e.args=[])∨((e.op=8∨e.op=9)∧∃ a,e.args=[a]∧zb2 a=true)∨((10≤e.op∧e.op≤22)∧∃ a b,e.args=[a,b]∧zb2 a=true∧zb2 b=true):=by
 rw [zhs] at h
 simp only [Bool.and_eq_true,zgw,beq_iff_eq] at h
 have ha:=h.1.1.1.1.1
 have hv:=h.1.1.2
 have hg:=h.2
 have l0:e.args.length=0→e.args=[]:=List.length_eq_zero_iff.1
 have l1:e.args.length=1→∃ a,e.args=[a]∧zb2 a=true:=fun hl=>by
  obtain ⟨a,e1⟩:=List.length_eq_one_iff.1 hl
  rw [e1] at hg
  simp only [zco,Bool.and_true] at hg
  exact ⟨a,e1,hg⟩
 have l2:e.args.length=2→∃ a b,e.args=[a,b]∧zb2 a=true∧zb2 b=true:=fun hl=>by
  match he:e.args,hl with
  |[a,b],_=>
   rw [he] at hg
   simp only [zco,Bool.and_true,Bool.and_eq_true] at hg
   exact ⟨a,b,rfl,hg⟩
 unfold zlc at ha
 have hv':¬ e.value<0:=by
  intro hx
  simp [hx] at hv
 split at ha
 ·omega
 split at ha
 ·exact .inr (.inr (.inr (.inr (.inr ⟨by omega,l2 (by omega)⟩))))
 split at ha
 ·rename_i h3
  rcases h3 with h3|h3|h3
  ·exact .inr (.inr (.inl ⟨h3,l1 (by omega)⟩))
  ·exact .inr (.inr (.inr (.inr (.inl ⟨.inl h3,l1 (by omega)⟩))))
  ·exact .inr (.inr (.inr (.inr (.inl ⟨.inr h3,l1 (by omega)⟩))))
 ·have:e.op=1∨e.op=2∨e.op=4∨e.op=5∨e.op=6∨e.op=7:=by omega
  rcases this with h1|h1|h1
  ·exact .inl ⟨h1,by omega,l0 (by omega)⟩
  ·exact .inr (.inl ⟨h1,l0 (by omega)⟩)
  ·exact .inr (.inr (.inr (.inl ⟨h1,l0 (by omega)⟩)))
open Go
theorem zdZ (n:Int) (h0:0≤n) (h:n≤9223372036854775808):zei n≠[]∧(∀ c ∈ zei n,isD c=true)∧(zbc (zei n):Int)=n∧((zei n).head?=some 48→n=0)∧(zei n).length≤19:=by
 by_cases hn:n≤0
 ·have:n=0:=by omega
  subst this
  exact ⟨by decide,by decide,by decide,fun _=>rfl,by decide⟩
 ·have e:zei n=dg 20 n.toNat:=by unfold zei;rw [if_neg hn]
  have e2:dg 20 n.toNat=dg 19 n.toNat:=zt5 19 n.toNat (by omega)
  obtain ⟨c,r,h1,h2,h3⟩:=zt7 20 n.toNat (by omega) (by omega)
  refine ⟨by rw [e,h1];simp,fun c hc=>zyn 20 n.toNat c (by rw [←e];exact hc),by rw [e,zyo 20 n.toNat (by omega)];omega,fun hh=>?_,by rw [e,e2];exact zt6 _ _⟩
  rw [e,h1] at hh
  simp at hh
  exact absurd hh h2
def dgs (w:List UInt8):List UInt8:=if w.head?=some 45 then w.tail else w
def zaX (w:List UInt8):Int × Bool:=
 if dgs w=[]∨19<(dgs w).length∨((dgs w).head?=some 48∧(1<(dgs w).length∨1<w.length)) then (0,false)
 else if (dgs w).all isD=false then (0,false)
 else if (dgs w).length<w.length then (IntKind.i64.wrap (-(zbc (dgs w):Int)),decide (zbc (dgs w)≤9223372036854775808))
 else (IntKind.i64.wrap (zbc (dgs w)),decide (zbc (dgs w)<9223372036854775808))
theorem zrO (n:Int) (h0:0≤n) (h:n≤9223372036854775808):(zei n).head?≠some 45:=by
 intro hh
 obtain ⟨_,h2,_⟩:=zdZ n h0 h
 have:=zcQ (h2 45 (List.mem_of_mem_head? hh))
 have h3:(45:UInt8).toNat=45:=rfl
 omega
theorem zuq (v:Int) (h:v<0):itT v=45::zei (-v)∧dgs (itT v)=zei (-v):=by
 have e:itT v=45::zei (-v):=by unfold itT;rw [if_pos h]
 exact ⟨e,by rw [e];simp [dgs]⟩
theorem zur (v:Int) (h:0≤v) (h1:v≤9223372036854775807):itT v=zei v∧dgs (itT v)=zei v:=by
 have e:itT v=zei v:=by unfold itT;rw [if_neg (by omega)]
 refine ⟨e,?_⟩
 rw [e]
 unfold dgs
 rw [if_neg (zrO v h (by omega))]
theorem zoY (v:Int) (h0:-9223372036854775808≤v) (h1:v≤9223372036854775807):zaX (itT v)=(v,true):=by
 by_cases h:v<0
 ·obtain ⟨e1,e2⟩:=zuq v h
  obtain ⟨f1,f2,f3,f4,f5⟩:=zdZ (-v) (by omega) (by omega)
  unfold zaX
  rw [e2,e1,if_neg (by rintro (h'|h'|⟨h',_⟩);exact f1 h';omega;have:=f4 h';omega),if_neg (by simpa using f2),if_pos (by simp)]
  rw [f3,zay _ (by omega) (by omega)]
  simp
  omega
 ·obtain ⟨e1,e2⟩:=zur v (by omega) h1
  obtain ⟨f1,f2,f3,f4,f5⟩:=zdZ v (by omega) (by omega)
  unfold zaX
  rw [e2,e1,if_neg (by rintro (h'|h'|⟨h',h''⟩);exact f1 h';omega;have:=f4 h';subst this;exact absurd h'' (by decide)),if_neg (by simpa using f2),if_neg (by simp)]
  rw [f3,zay _ (by omega) (by omega)]
  simp
  omega
theorem zxk (d:List UInt8) (hne:d≠[]) (hall:∀ c ∈ d,isD c=true) (hh:d.head?=some 48→d.length=1) (hl:d.length≤19):zei (zbc d)=d∧(d.head?≠some 48→0<zbc d):=by
 have hg:d.getD 0 0=48 ↔ d.head?=some 48:=by
  cases d with
  |nil=>exact absurd rfl hne
  |cons c r=>simp
 by_cases h48:d.head?=some 48
 ·refine ⟨?_,fun h=>absurd h48 h⟩
  match d,hh h48 with
  |[c],_=>simp at h48;subst h48;rfl
 ·obtain ⟨h1,h2⟩:=zoT 20 d hall (fun e=>h48 (hg.1 e)) (by omega)
  have h3:=h2 hne
  refine ⟨?_,fun _=>h3⟩
  unfold zei
  rw [if_neg (by omega),Int.toNat_natCast,h1]
theorem zdi (w:List UInt8) (h:(zaX w).2=true):itT (zaX w).1=w∧-9223372036854775808≤(zaX w).1∧(zaX w).1≤9223372036854775807:=by
 unfold zaX at h ⊢
 split at h
 ·cases h
 ·rename_i hc
  rw [if_neg hc]
  split at h
  ·cases h
  ·rename_i ha
   rw [if_neg ha]
   have hall:∀ c ∈ dgs w,isD c=true:=by simpa using ha
   have hne:dgs w≠[]:=fun e=>hc (.inl e)
   have hl:(dgs w).length≤19:=by
    rcases Nat.lt_or_ge 19 (dgs w).length with h'|h'
    ·exact absurd (.inr (.inl h')) hc
    ·exact h'
   have hlead:(dgs w).head?=some 48→(dgs w).length≤1∧w.length≤1:=by
    intro h48
    refine ⟨?_,?_⟩
    ·rcases Nat.lt_or_ge 1 (dgs w).length with h'|h'
     ·exact absurd (.inr (.inr ⟨h48,.inl h'⟩)) hc
     ·exact h'
    ·rcases Nat.lt_or_ge 1 w.length with h'|h'
     ·exact absurd (.inr (.inr ⟨h48,.inr h'⟩)) hc
     ·exact h'
   have hpos:0<(dgs w).length:=List.length_pos_iff.2 hne
   have hb:=zxk (dgs w) hne hall (fun h48=>by have:=(hlead h48).1;omega) hl
   split at h
   ·rename_i hlt
    rw [if_pos hlt]
    have hv:zbc (dgs w)≤9223372036854775808:=by simpa using h
    have h45:w.head?=some 45:=by
     rcases Decidable.em (w.head?=some 45) with h'|h'
     ·exact h'
     ·exfalso
      unfold dgs at hlt
      rw [if_neg h'] at hlt
      omega
    have hw:w=45::dgs w:=by
     cases w with
     |nil=>simp at h45
     |cons c r=>simp at h45;subst h45;simp [dgs]
    have h48:(dgs w).head?≠some 48:=fun e=>by have:=(hlead e).2;omega
    have hp:=hb.2 h48
    have e1:IntKind.i64.wrap (-(zbc (dgs w):Int))=-(zbc (dgs w):Int):=zay _ (by omega) (by omega)
    simp only [e1]
    refine ⟨?_,by omega,by omega⟩
    unfold itT
    rw [if_pos (by omega),Int.neg_neg,hb.1]
    exact hw.symm
   ·rename_i hlt
    rw [if_neg hlt]
    have hv:zbc (dgs w)<9223372036854775808:=by simpa using h
    have hw:dgs w=w:=by
     unfold dgs
     split
     ·rename_i h45
      exfalso
      unfold dgs at hlt
      rw [if_pos h45] at hlt
      cases w with
      |nil=>simp at h45
      |cons c r=>simp at hlt
     ·rfl
    have e1:IntKind.i64.wrap (zbc (dgs w):Int)=(zbc (dgs w):Int):=zay _ (by omega) (by omega)
    simp only [e1]
    refine ⟨?_,by omega,by omega⟩
    unfold itT
    rw [if_neg (by omega),hb.1,hw]
theorem zxl (v:Int) (h0:-9223372036854775808≤v) (h1:v≤9223372036854775807):Lib.parseIntB 64 (itT v)=.ok v:=by
 by_cases h:v<0
 ·obtain ⟨e1,_⟩:=zuq v h
  obtain ⟨f1,f2,f3,f4,f5⟩:=zdZ (-v) (by omega) (by omega)
  have hu:Lib.parseUintB 64 (zei (-v))=.ok (zbc (zei (-v))):=by
   unfold Lib.parseUintB
   rw [if_neg f1,zeW _ (by decide) _ _ f2 (by omega)]
   rw [if_pos]
   ·rfl
   ·show zbc (zei (-v))≤2 ^ 64 - 1
    omega
  rw [e1]
  unfold Lib.parseIntB
  have h45:(45:UInt8).toNat=45:=rfl
  simp only [h45,or_true,if_true,hu]
  rw [if_neg (by simp),if_neg (by simp;omega)]
  congr 1
  omega
 ·obtain ⟨e1,_⟩:=zur v (by omega) h1
  obtain ⟨f1,f2,f3,f4,f5⟩:=zdZ v (by omega) (by omega)
  rw [e1,zgK _ f1 f2,if_pos (by omega),f3]
theorem zqu (w:List UInt8) (v:Int) (h:Lib.parseIntB 64 w=.ok v):-9223372036854775808≤v∧v≤9223372036854775807:=by
 unfold Lib.parseIntB at h
 cases w with
 |nil=>cases h
 |cons c r=>
  simp only at h
  split at h
  ·cases h
  ·cases h
  ·split at h
   ·cases h
   ·split at h
    ·cases h
    ·rename_i u _ h1 h2
     cases h
     simp at h1 h2
     split
     ·rename_i hn;have:=h2 hn;omega
     ·rename_i hn;have:=h1 hn;omega
def zsD (w:List UInt8):Int × Bool:=match Lib.parseIntB 64 w with
 |.ok v=>if Lib.itoa v=w then (v,true) else (0,false)
 |_=>(0,false)
theorem zoZ (w:List UInt8):zsD w=if (zaX w).2=true then ((zaX w).1,true) else (0,false):=by
 by_cases h:(zaX w).2=true
 ·obtain ⟨h1,h2,h3⟩:=zdi w h
  rw [if_pos h]
  unfold zsD
  rw [show Lib.parseIntB 64 w=.ok (zaX w).1 by rw [←zxl _ h2 h3,h1]]
  simp only
  rw [zup _ h2 h3,if_pos h1]
 ·rw [if_neg h]
  unfold zsD
  split
  ·rename_i v hv
   obtain ⟨h2,h3⟩:=zqu w v hv
   rw [if_neg]
   intro hw
   rw [zup _ h2 h3] at hw
   exact h (by rw [←hw,zoY v h2 h3])
  ·rfl
structure StD where
 kind:Int
 proc:Int
 place:Int
 value:Int
 deriving DecidableEq
def zcw (x:StD):List PVal:=[.int .i64 x.kind,.int .i64 x.proc,.int .i64 x.place,.int .i64 x.value]
def stA (x:StD):AVal:=.agg [.pv (.int .i64 x.kind),.pv (.int .i64 x.proc),.pv (.int .i64 x.place),.pv (.int .i64 x.value)]
def st0:StD:=⟨0,0,0,0⟩
def zxn:List (List UInt8):=[[],[100,101,108,105,118,101,114],[116,105,99,107],[105,110,112,117,116],[100,114,111,112],[100,117,112,108,105,99,97,116,101],[114,101,115,101,110,100],[99,104,101,99,107,112,111,105,110,116],[102,108,117,115,104],[97,99,107],[99,114,97,115,104],[114,101,99,111,118,101,114],[114,101,115,116,111,114,101],[99,111,109,109,105,116],[99,111,108,108,101,99,116]]
def zmQ:List (List UInt8):=[[],[105,110,100,101,112,101,110,100,101,110,116],[99,111,111,114,100,105,110,97,116,101,100],[105,110,100,101,120,101,100],[109,111,100,101,108,98,97,115,101,100],[112,101,115,115,105,109,105,115,116,105,99],[115,101,110,100,101,114,98,97,115,101,100],[111,112,116,105,109,105,115,116,105,99],[99,97,117,115,97,108]]
def wdF (k:Int):List UInt8:=if k<1∨14<k then [] else zxn.getD k.toNat []
def prF (k:Int):List UInt8:=if k<1∨8<k then [] else zmQ.getD k.toNat []
def shF (k:Int):Nat:=if k=1∨k=4∨k=5 then 1 else if k=2∨k=3∨k=10 then 2 else if k=6∨k=7∨k=8∨k=9∨k=12 then 3 else 0
def zli (x:StD):List Int:=match shF x.kind with
 |1=>[x.place]
 |2=>[x.proc,x.value]
 |3=>[x.proc]
 |_=>[]
def zeB (x:StD):Bool:=match shF x.kind with
 |1=>x.proc==0&&x.value==0
 |2=>x.place==0
 |3=>x.place==0&&x.value==0
 |_=>x.proc==0&&x.place==0&&x.value==0
def zbf (x:StD):List UInt8:=wdF x.kind++(zli x).flatMap fun n=>32::itT n
def zej (k:Int) (ns:List Int):StD:=match shF k with
 |1=>⟨k,0,ns.getD 0 0,0⟩
 |2=>⟨k,ns.getD 0 0,0,ns.getD 1 0⟩
 |3=>⟨k,ns.getD 0 0,0,0⟩
 |_=>⟨k,0,0,0⟩
def nfF (k:Int):Nat:=match shF k with|1=>1|2=>2|3=>1|_=>0
def kdF (w:List UInt8):Int:=if w=[] then 0 else (zxn.idxOf w:Int)
def zj9 (a:List UInt8) (l:List (List UInt8)):Option StD:=
 if kdF a<1∨14<kdF a then none
 else if l.length≠nfF (kdF a) then none
 else if (l.all fun w=>(zaX w).2)=false then none
 else some (zej (kdF a) (l.map fun w=>(zaX w).1))
def zgn (line:List UInt8):Option StD:=match zal 32 line with
 |[]=>none
 |a::l=>zj9 a l
/-! ### Cutting and joining -/
def zgP (c:UInt8):List (List UInt8)→List UInt8
 |[]=>[]
 |[a]=>a
 |a::b::r=>a++c::zgP c (b::r)
theorem zie (c:UInt8):∀ s,zgP c (zal c s)=s
 |[]=>rfl
 |x::r=>by
  have ih:=zie c r
  have hne:=zbM c r
  rw [zal]
  split
  ·rename_i h
   subst h
   match zal x r,hne,ih with
   |a::t,_,ih=>simp [zgP,ih]
  ·match zal c r,hne,ih with
   |[a],_,ih=>simpa [zgP] using ih
   |a::b::t,_,ih=>simp [zgP] at ih ⊢;exact ih
theorem zlj (c:UInt8):∀ l:List (List UInt8),l≠[]→(∀ w ∈ l,c ∉ w)→zal c (zgP c l)=l
 |[],h,_=>absurd rfl h
 |[a],_,h=>zeT c a (h a (by simp))
 |a::b::r,_,h=>by
  rw [zgP,zfS c _ a (h a (by simp)),zlj c (b::r) (by simp) (fun w hw=>h w (by simp only [List.mem_cons] at hw ⊢;exact .inr hw))]
theorem zrS (n:Int) (h0:-9223372036854775808≤n) (h1:n≤9223372036854775807) (c:UInt8) (hc:c=32∨c=10):c ∉ itT n:=by
 have key:∀ m:Int,0≤m→m≤9223372036854775808→c ∉ zei m:=fun m a b hm=>by
  obtain ⟨_,h,_⟩:=zdZ m a b
  have h2:=zcQ (h c hm)
  rcases hc with rfl|rfl
  ·have:(32:UInt8).toNat=32:=rfl
   omega
  ·have:(10:UInt8).toNat=10:=rfl
   omega
 unfold itT
 split
 ·intro h
  rcases List.mem_cons.1 h with h|h
  ·rcases hc with rfl|rfl<;>cases h
  ·exact key _ (by omega) (by omega) h
 ·exact key _ (by omega) (by omega)
theorem zf6 (P:Int→Prop) (h:P 1∧P 2∧P 3∧P 4∧P 5∧P 6∧P 7∧P 8∧P 9∧P 10∧P 11∧P 12∧P 13∧P 14) (k:Int) (h1:1≤k) (h2:k≤14):P k:=by
 obtain ⟨a1,a2,a3,a4,a5,a6,a7,a8,a9,a10,a11,a12,a13,a14⟩:=h
 have:k=1∨k=2∨k=3∨k=4∨k=5∨k=6∨k=7∨k=8∨k=9∨k=10∨k=11∨k=12∨k=13∨k=14:=by omega
 rcases this with rfl|rfl|rfl|rfl|rfl|rfl|rfl|rfl|rfl|rfl|rfl|rfl|rfl|rfl<;>assumption
theorem zAz (k:Int) (h1:1≤k) (h2:k≤14):kdF (wdF k)=k:=by
 refine zf6 (fun k=>kdF (wdF k)=k) ?_ k h1 h2
 decide
theorem zxo (k:Int) (c:UInt8) (hc:c=32∨c=10):c ∉ wdF k:=by
 by_cases h:k<1∨14<k
 ·unfold wdF;rw [if_pos h];simp
 ·rcases hc with rfl|rfl
  ·refine zf6 (fun k=>(32:UInt8) ∉ wdF k) ?_ k (by omega) (by omega)
   decide
  ·refine zf6 (fun k=>(10:UInt8) ∉ wdF k) ?_ k (by omega) (by omega)
   decide
theorem zD2 (w:List UInt8) (h1:1≤kdF w) (h2:kdF w≤14):wdF (kdF w)=w:=by
 have hw:w≠[]:=by
  rintro rfl
  simp [kdF] at h1
 have hk:kdF w=(zxn.idxOf w:Int):=by unfold kdF;rw [if_neg hw]
 have hlt:zxn.idxOf w<zxn.length:=by
  have:zxn.length=15:=rfl
  omega
 unfold wdF
 rw [if_neg (by omega),hk,Int.toNat_natCast]
 have:=List.getElem_idxOf hlt
 simp only [List.getD,List.getElem?_eq_getElem hlt,Option.getD_some]
 exact this
def zqv (x:StD):Bool:=zf4 x.kind&&zf4 x.proc&&zf4 x.place&&zf4 x.value
theorem zuu (x:StD) (h:zqv x=true):∀ n ∈ zli x,-9223372036854775808≤n∧n≤9223372036854775807:=by
 simp only [zqv,Bool.and_eq_true] at h
 obtain ⟨⟨⟨_,h1⟩,h2⟩,h3⟩:=h
 intro n hn
 unfold zli at hn
 split at hn<;>simp at hn
 ·subst hn;exact zfG h2
 ·rcases hn with rfl|rfl
  ·exact zfG h1
  ·exact zfG h3
 ·subst hn;exact zfG h1
theorem znK (a:List UInt8):∀ l:List (List UInt8),(a++l.flatMap fun w=>32::w)=zgP 32 (a::l)
 |[]=>by simp [zgP]
 |b::r=>by
  rw [zgP,←znK b r]
  simp
theorem znL (x:StD):zbf x=zgP 32 (wdF x.kind::(zli x).map itT):=by
 rw [←znK]
 simp [zbf,List.flatMap_map]
theorem zrT (x:StD) (h:zqv x=true):zal 32 (zbf x)=wdF x.kind::(zli x).map itT:=by
 rw [znL]
 refine zlj 32 _ (by simp) ?_
 intro w hw
 rcases List.mem_cons.1 hw with rfl|hw
 ·exact zxo _ _ (.inl rfl)
 ·obtain ⟨n,hn,rfl⟩:=List.mem_map.1 hw
  have:=zuu x h n hn
  exact zrS n this.1 this.2 32 (.inl rfl)
theorem zAA (x:StD):(zli x).length=nfF x.kind:=by
 unfold zli nfF
 split<;>simp_all
theorem zD3 (x:StD) (h:zeB x=true):zej x.kind (zli x)=x:=by
 unfold zeB at h
 obtain ⟨k,p,q,v⟩:=x
 unfold zej zli
 simp only at h ⊢
 split<;>simp_all
theorem zD4 (k:Int) (ns:List Int) (h:ns.length=nfF k):zli (zej k ns)=ns∧zeB (zej k ns)=true∧(zej k ns).kind=k:=by
 have hk:(zej k ns).kind=k:=by unfold zej;split<;>rfl
 refine ⟨?_,?_,hk⟩
 ·unfold zli
  rw [hk]
  unfold nfF at h
  unfold zej
  split at h
  ·match ns,h with|[a],_=>rfl
  ·match ns,h with|[a,b],_=>rfl
  ·match ns,h with|[a],_=>rfl
  ·match ns,h with
   |[],_=>rfl
 ·unfold zeB
  rw [hk]
  unfold zej
  split<;>simp_all
theorem zrU (x:StD) (h1:1≤x.kind) (h2:x.kind≤14) (hr:zqv x=true) (hz:zeB x=true):zgn (zbf x)=some x:=by
 unfold zgn
 rw [zrT x hr]
 simp only
 unfold zj9
 have hall:((zli x).map itT).all (fun w=>(zaX w).2)=true:=by
  rw [List.all_eq_true]
  intro w hw
  obtain ⟨n,hn,rfl⟩:=List.mem_map.1 hw
  have:=zuu x hr n hn
  rw [zoY n this.1 this.2]
 have hmap:((zli x).map itT).map (fun w=>(zaX w).1)=zli x:=by
  rw [List.map_map]
  conv=>rhs;rw [←List.map_id (zli x)]
  refine List.map_congr_left fun n hn=>?_
  have:=zuu x hr n hn
  simp [zoY n this.1 this.2]
 rw [List.length_map,zAz _ h1 h2]
 rw [if_neg (by omega),if_neg (by rw [zAA];omega),hall,if_neg (by simp),hmap,zD3 x hz]
theorem zrV (line:List UInt8) (x:StD) (h:zgn line=some x):zbf x=line∧1≤x.kind∧x.kind≤14∧zqv x=true∧zeB x=true:=by
 unfold zgn at h
 match hs:zal 32 line,zbM 32 line with
 |a::l,_=>
  rw [hs] at h
  simp only at h
  unfold zj9 at h
  split at h
  ·cases h
  ·rename_i hk
   split at h
   ·cases h
   ·rename_i hl
    by_cases ha:(l.all fun w=>(zaX w).2)=false
    ·rw [if_pos ha] at h
     cases h
    ·rw [if_neg ha] at h
     have hx:=Option.some.inj h
     have hall:∀ w ∈ l,(zaX w).2=true:=by simpa using ha
     obtain ⟨f1,f2,f3⟩:=zD4 (kdF a) (l.map fun w=>(zaX w).1) (by rw [List.length_map];omega)
     rw [hx] at f1 f2 f3
     have hmap:(zli x).map itT=l:=by
      rw [f1,List.map_map]
      conv=>rhs;rw [←List.map_id l]
      refine List.map_congr_left fun w hw=>?_
      exact (zdi w (hall w hw)).1
     refine ⟨?_,by omega,by omega,?_,f2⟩
     ·rw [znL,hmap,f3,zD2 a (by omega) (by omega),←hs,zie]
     ·have hrg:∀ n ∈ zli x,zf4 n=true:=by
       intro n hn
       rw [f1] at hn
       obtain ⟨w,hw,rfl⟩:=List.mem_map.1 hn
       have:=zdi w (hall w hw)
       simp [zf4,this.2]
      have h0:zf4 0=true:=by decide
      have hkk:zf4 x.kind=true:=by rw [f3];simp [zf4];omega
      unfold zeB at f2
      unfold zli at hrg
      unfold zqv
      rw [hkk]
      split at f2<;>rename_i e<;>simp only [e,Bool.and_eq_true,beq_iff_eq] at f2 hrg
      ·simp [f2.1,f2.2,h0,hrg x.place (by simp)]
      ·simp [f2,h0,hrg x.proc (by simp),hrg x.value (by simp)]
      ·simp [f2.1,f2.2,h0,hrg x.proc (by simp)]
      ·simp [f2.1.1,f2.1.2,f2.2,h0]
theorem zuv (k:Int) (ns:List Int):zeB (zej k ns)=true∧(zej k ns).kind=k:=by
 have hk:(zej k ns).kind=k:=by unfold zej;split<;>rfl
 refine ⟨?_,hk⟩
 unfold zeB
 rw [hk]
 unfold zej
 split<;>simp_all
theorem zuw (ns:List Int) (h:∀ n ∈ ns,zf4 n=true) (i:Nat):zf4 (ns.getD i 0)=true:=by
 by_cases hi:i<ns.length
 ·rw [List.getD_eq_getElem?_getD,List.getElem?_eq_getElem hi]
  exact h _ (List.getElem_mem hi)
 ·rw [List.getD_eq_getElem?_getD,List.getElem?_eq_none (by omega)]
  decide
theorem zD5 (k:Int) (ns:List Int) (hk:zf4 k=true) (h:∀ n ∈ ns,zf4 n=true):zqv (zej k ns)=true:=by
 have h0:=zuw ns h 0
 have h1:=zuw ns h 1
 have hz:zf4 0=true:=by decide
 unfold zqv zej
 split<;>simp only [hk,h0,h1,hz,Bool.and_true]
def znM (line a:List UInt8) (l:List (List UInt8)):Option StD:=
 if kdF a<1∨14<kdF a then none
 else if ((l.take (nfF (kdF a))).all fun w=>(zaX w).2)=false∨line≠zbf (zej (kdF a) ((l.take (nfF (kdF a))).map fun w=>(zaX w).1)) then none
 else some (zej (kdF a) ((l.take (nfF (kdF a))).map fun w=>(zaX w).1))
theorem zxp (line a:List UInt8) (l:List (List UInt8)) (hs:zal 32 line=a::l):znM line a l=zgn line:=by
 have e0:zgn line=zj9 a l:=by unfold zgn;rw [hs]
 by_cases hk:kdF a<1∨14<kdF a
 ·rw [e0]
  unfold znM zj9
  rw [if_pos hk,if_pos hk]
 ·cases h:zgn line with
  |some x=>
   obtain ⟨b1,b2,b3,b4,b5⟩:=zrV line x h
   have h':=h
   rw [e0] at h'
   unfold zj9 at h'
   rw [if_neg hk] at h'
   split at h'
   ·cases h'
   ·rename_i hl
    have hl:l.length=nfF (kdF a):=by omega
    split at h'
    ·cases h'
    ·rename_i ha
     have hx:=Option.some.inj h'
     unfold znM
     rw [if_neg hk,←hl,List.take_length,hx,if_neg]
     rintro (h1|h1)
     ·exact ha h1
     ·exact h1 b1.symm
  |none=>
   unfold znM
   rw [if_neg hk]
   split
   ·rfl
   ·rename_i hc
    exfalso
    have ha:¬ ((l.take (nfF (kdF a))).all fun w=>(zaX w).2)=false:=fun e=>hc (.inl e)
    have hline:line=zbf (zej (kdF a) ((l.take (nfF (kdF a))).map fun w=>(zaX w).1)):=Decidable.byContradiction fun e=>hc (.inr e)
    have hall:∀ w ∈ l.take (nfF (kdF a)),(zaX w).2=true:=by simpa only [Bool.not_eq_false,List.all_eq_true] using ha
    obtain ⟨z1,z2⟩:=zuv (kdF a) ((l.take (nfF (kdF a))).map fun w=>(zaX w).1)
    have hr:=zD5 (kdF a) ((l.take (nfF (kdF a))).map fun w=>(zaX w).1) (by simp [zf4];omega) (fun n hn=>by
     obtain ⟨w,hw,rfl⟩:=List.mem_map.1 hn
     have:=zdi w (hall w hw)
     simp [zf4,this.2])
    have:=zrU _ (by rw [z2];omega) (by rw [z2];omega) hr z1
    rw [←hline,h] at this
    cases this
variable (l:List TkD)
theorem zo3 (n:Nat) (lv:Nat) (k:Nat):exF l (n+1) (.bin lv) k=(if lv=5 then exF l n .un k else (exF l n (.bin (lv+1)) k).bind fun e k'=>exF l n (.loop lv e) k'):=rfl
theorem zi5 (n:Nat) (lv:Nat) (e:Ex) (k:Nat):exF l (n+1) (.loop lv e) k=(if opF lv (zbK l k)=0 then .ok e k else (exF l n (.bin (lv+1)) (k+1)).bind fun e2 k2=>exF l n (.loop lv (exB (opF lv (zbK l k)) e e2)) k2):=rfl
theorem zux (n:Nat) (k:Nat):exF l (n+1) .un k=(if isT l k [45] then (exF l n .un (k+1)).bind fun e k'=>.ok (exU 8 e) k' else if isT l k [33] then (exF l n .un (k+1)).bind fun e k'=>.ok (exU 9 e) k' else exF l n .prim k):=rfl
theorem ze2 (n:Nat) (k:Nat):exF l (n+1) .prim k=(if zeh l k then (nmF l 0 k).bind fun v k'=>.ok (exC v) k' else if isT l k [115,101,108,102] then .ok (exK 4) (k+1) else if isT l k [112,114,111,99,115] then .ok (exK 5) (k+1) else if isT l k [102,114,111,109] then .ok (exK 6) (k+1) else if isT l k [118,97,108,117,101] then .ok (exK 7) (k+1) else if isT l k [40] then (exF l n (.bin 0) (k+1)).bind fun e k'=>(zaW l [41] k').bind fun _ k2=>.ok e k2 else (zdM l k).bind fun nm k1=>if isT l k1 [91] then (exF l n (.bin 0) (k1+1)).bind fun e k'=>(zaW l [93] k').bind fun _ k2=>.ok (exI nm e) k2 else .ok (exN nm) k1):=rfl
theorem zfH (n:Nat) (k:Nat):smF l (n+1) .block k=((zaW l [123] k).bind fun _ k1=>smF l n (.stmts []) k1):=rfl
theorem zeO (n:Nat) (acc:List Sm) (k:Nat):smF l (n+1) (.stmts acc) k=(if isT l k [125] then .ok acc (k+1) else (smF l n .stmt k).bind fun s k1=>smF l n (.stmts (acc++s)) k1):=rfl
theorem zf7 (n:Nat) (k:Nat):smF l (n+1) .stmt k=(if isT l k [105,102] then (zbr l (k+1)).bind fun e k1=>(smF l n .block k1).bind fun b k2=>if isT l k2 [101,108,115,101] then (smF l n .block (k2+1)).bind fun c k3=>.ok [smE 3 [] exZ e b c] k3 else .ok [smE 3 [] exZ e b []] k2 else if isT l k [119,104,105,108,101] then (zbr l (k+1)).bind fun e k1=>(smF l n .block k1).bind fun b k2=>.ok [smE 4 [] exZ e b []] k2 else if isT l k [115,101,110,100] then (zbr l (k+1)).bind fun p k1=>(zaW l [44] k1).bind fun _ k2=>(zbr l k2).bind fun e k3=>(zaW l [59] k3).bind fun _ k4=>.ok [smE 5 [] p e [] []] k4 else if isT l k [111,117,116,112,117,116] then (zbr l (k+1)).bind fun e k1=>(zaW l [59] k1).bind fun _ k2=>.ok [smE 6 [] exZ e [] []] k2 else (zdM l k).bind fun nm k1=>if isT l k1 [91] then (zbr l (k1+1)).bind fun p k2=>(zaW l [93] k2).bind fun _ k3=>(zaW l [61] k3).bind fun _ k4=>(zbr l k4).bind fun e k5=>(zaW l [59] k5).bind fun _ k6=>.ok [smE 2 nm p e [] []] k6 else (zaW l [61] k1).bind fun _ k4=>(zbr l k4).bind fun e k5=>(zaW l [59] k5).bind fun _ k6=>.ok [smE 1 nm exZ e [] []] k6):=rfl
end Go.Abs
namespace Go.Abs
open Go
section
variable {l:List TkD}
theorem PR.bind_ok {α β:Type} {r:PR α} {f:α→Nat→PR β} {b:β} {k:Nat} (h:r.bind f=.ok b k):∃ a k',r=.ok a k'∧f a k'=.ok b k:=by
 cases r with
 |ok a k'=>exact ⟨a,k',rfl,h⟩
 |bad k'=>cases h
 |out=>cases h
def Ns.need (m:Nat):Ns→Nat
 |.block=>3 * m+1
 |.stmts _=>3 * m+3
 |.stmt=>3 * m+2
theorem zka {k:Nat} (hk:k≤l.length):(zbr l k).on k l.length:=(zjW hk).on
theorem zcx:∀ (n:Nat) (nt:Ns) (k:Nat),k≤l.length→(smF l n nt k).past k l.length
 |0,nt,k,hk=>by cases nt<;>trivial
 |n+1,.block,k,hk=>by
  rw [zfH]
  exact PR.past.bind (zaC hk (by simp)) (fun _ k1 _ h1=>(zcx n (.stmts []) k1 h1).on)
 |n+1,.stmts acc,k,hk=>by
  rw [zeO]
  split
  ·rename_i h
   have:=zaw h (by simp)
   exact ⟨by omega,by omega⟩
  ·exact PR.past.bind (zcx n .stmt k hk) (fun s k1 _ h1=>(zcx n _ k1 h1).on)
 |n+1,.stmt,k,hk=>by
  rw [zf7]
  have semi:∀ (s:List Sm) (k5:Nat),k5≤l.length→((zaW l [59] k5).bind fun _ k6=>PR.ok s k6).on k5 l.length:=fun s k5 h5=>PR.on.bind (zaC h5 (by simp)).on (fun _ k6 _ h6=>PR.ok_on _ h6)
  have valu:∀ (g:Ex→List Sm) (k4:Nat),k4≤l.length→((zbr l k4).bind fun e k5=>(zaW l [59] k5).bind fun _ k6=>PR.ok (g e) k6).on k4 l.length:=fun g k4 h4=>PR.on.bind (zka h4) (fun e k5 _ h5=>semi _ _ h5)
  split
  ·rename_i h
   have:=zaw h (by simp)
   refine PR.on.lt (PR.on.bind (zka (k:=k+1) (by omega)) (fun e k1 _ h1=>PR.on.bind (zcx n .block k1 h1).on (fun b k2 _ h2=>?_))) (by omega)
   split
   ·rename_i h3
    have:=zaw h3 (by simp)
    exact PR.on.le (PR.on.bind (zcx n .block (k2+1) (by omega)).on (fun c k3 _ h3=>PR.ok_on _ h3)) (by omega)
   ·exact PR.ok_on _ h2
  split
  ·rename_i h
   have:=zaw h (by simp)
   exact PR.on.lt (PR.on.bind (zka (k:=k+1) (by omega)) (fun e k1 _ h1=>PR.on.bind (zcx n .block k1 h1).on (fun b k2 _ h2=>PR.ok_on _ h2))) (by omega)
  split
  ·rename_i h
   have:=zaw h (by simp)
   exact PR.on.lt (PR.on.bind (zka (k:=k+1) (by omega)) (fun p k1 _ h1=>PR.on.bind (zaC h1 (by simp)).on (fun _ k2 _ h2=>valu _ k2 h2))) (by omega)
  split
  ·rename_i h
   have:=zaw h (by simp)
   exact PR.on.lt (valu _ (k+1) (by omega)) (by omega)
  ·refine PR.past.bind (za7 hk) (fun nm k1 _ h1=>?_)
   split
   ·rename_i h
    have:=zaw h (by simp)
    exact PR.on.le (PR.on.bind (zka (k:=k1+1) (by omega)) (fun p k2 _ h2=>PR.on.bind (zaC h2 (by simp)).on (fun _ k3 _ h3=>PR.on.bind (zaC h3 (by simp)).on (fun _ k4 _ h4=>valu _ k4 h4)))) (by omega)
   ·exact PR.on.bind (zaC h1 (by simp)).on (fun _ k4 _ h4=>valu _ k4 h4)
theorem zgQ:∀ (n:Nat) (nt:Ns) (k:Nat),k≤l.length→nt.need (l.length - k)≤n→(smF l n nt k).isOut=false
 |0,nt,k,hk,h=>by cases nt<;>simp only [Ns.need] at h<;>omega
 |n+1,.block,k,hk,h=>by
  simp only [Ns.need] at h
  rw [zfH]
  refine PR.bind_out zbB (fun _ k1 he=>?_)
  have h1:=zaC (l:=l) (s:=[123]) hk (by simp)
  rw [he] at h1
  exact zgQ n (.stmts []) k1 h1.2 (by have:=h1.1;have:=h1.2;simp only [Ns.need];omega)
 |n+1,.stmts acc,k,hk,h=>by
  simp only [Ns.need] at h
  rw [zeO]
  split
  ·rfl
  ·refine PR.bind_out (zgQ n .stmt k hk (by simp only [Ns.need];omega)) (fun s k1 he=>?_)
   have h1:=zcx (l:=l) n .stmt k hk
   rw [he] at h1
   exact zgQ n _ k1 h1.2 (by have:=h1.1;have:=h1.2;simp only [Ns.need];omega)
 |n+1,.stmt,k,hk,h=>by
  simp only [Ns.need] at h
  rw [zf7]
  have semi:∀ (s:List Sm) (k5:Nat),((zaW l [59] k5).bind fun _ k6=>PR.ok s k6).isOut=false:=fun s k5=>PR.bind_out zbB (fun _ _ _=>rfl)
  have valu:∀ (g:Ex→List Sm) (k4:Nat),k4≤l.length→((zbr l k4).bind fun e k5=>(zaW l [59] k5).bind fun _ k6=>PR.ok (g e) k6).isOut=false:=fun g k4 h4=>PR.bind_out (zes h4) (fun e k5 _=>semi _ _)
  have okx:∀ {k k1:Nat} {e:Ex},k≤l.length→zbr l k=.ok e k1→k<k1∧k1≤l.length:=fun hk he=>by have:=zjW (l:=l) hk;rw [he] at this;exact this
  have oke:∀ {s:List UInt8} {k k1:Nat} {u:Unit},k≤l.length→s≠[]→zaW l s k=.ok u k1→k<k1∧k1≤l.length:=fun hk hs he=>by have:=zaC (l:=l) hk hs;rw [he] at this;exact this
  have okb:∀ {k k1:Nat} {b:List Sm},k≤l.length→smF l n .block k=.ok b k1→k<k1∧k1≤l.length:=fun hk he=>by have:=zcx (l:=l) n .block _ hk;rw [he] at this;exact this
  split
  ·rename_i h0
   have:=zaw h0 (by simp)
   refine PR.bind_out (zes (by omega)) (fun e k1 he=>?_)
   have h1:=okx (by omega) he
   refine PR.bind_out (zgQ n .block k1 h1.2 (by simp only [Ns.need];omega)) (fun b k2 hb=>?_)
   have h2:=okb h1.2 hb
   split
   ·rename_i h3
    have:=zaw h3 (by simp)
    exact PR.bind_out (zgQ n .block (k2+1) (by omega) (by simp only [Ns.need];omega)) (fun _ _ _=>rfl)
   ·rfl
  split
  ·rename_i h0
   have:=zaw h0 (by simp)
   refine PR.bind_out (zes (by omega)) (fun e k1 he=>?_)
   have h1:=okx (by omega) he
   exact PR.bind_out (zgQ n .block k1 h1.2 (by simp only [Ns.need];omega)) (fun _ _ _=>rfl)
  split
  ·rename_i h0
   have:=zaw h0 (by simp)
   refine PR.bind_out (zes (by omega)) (fun p k1 he=>?_)
   have h1:=okx (by omega) he
   refine PR.bind_out zbB (fun _ k2 hx=>?_)
   exact valu _ k2 (oke h1.2 (by simp) hx).2
  split
  ·rename_i h0
   have:=zaw h0 (by simp)
   exact valu _ (k+1) (by omega)
  ·refine PR.bind_out zdX (fun nm k1 he=>?_)
   have h1:=za7 (l:=l) hk
   rw [he] at h1
   have h1':k<k1∧k1≤l.length:=h1
   split
   ·rename_i h0
    have:=zaw h0 (by simp)
    refine PR.bind_out (zes (by omega)) (fun p k2 hp=>?_)
    have h2:=okx (by omega) hp
    refine PR.bind_out zbB (fun _ k3 hx=>?_)
    have h3:=oke h2.2 (by simp) hx
    refine PR.bind_out zbB (fun _ k4 hy=>?_)
    exact valu _ k4 (oke h3.2 (by simp) hy).2
   ·refine PR.bind_out zbB (fun _ k4 hy=>?_)
    exact valu _ k4 (oke h1'.2 (by simp) hy).2
theorem zo4:∀ {n k k':Nat} {b:List Sm},smF l n .stmt k=.ok b k'→∃ s,b=[s]
 |0,_,_,_,h=>by cases h
 |n+1,k,k',b,h=>by
  rw [zf7] at h
  have semi:∀ {s:Sm} {k5:Nat},((zaW l [59] k5).bind fun _ k6=>PR.ok [s] k6)=.ok b k'→∃ s,b=[s]:=fun h=>by
   obtain ⟨_,_,_,h2⟩:=PR.bind_ok h
   cases h2;exact ⟨_,rfl⟩
  have valu:∀ {g:Ex→Sm} {k4:Nat},((zbr l k4).bind fun e k5=>(zaW l [59] k5).bind fun _ k6=>PR.ok [g e] k6)=.ok b k'→∃ s,b=[s]:=fun h=>by
   obtain ⟨_,_,_,h2⟩:=PR.bind_ok h
   exact semi h2
  split at h
  ·obtain ⟨_,_,_,h2⟩:=PR.bind_ok h
   obtain ⟨_,_,_,h3⟩:=PR.bind_ok h2
   split at h3
   ·obtain ⟨_,_,_,h4⟩:=PR.bind_ok h3
    cases h4;exact ⟨_,rfl⟩
   ·cases h3;exact ⟨_,rfl⟩
  split at h
  ·obtain ⟨_,_,_,h2⟩:=PR.bind_ok h
   obtain ⟨_,_,_,h3⟩:=PR.bind_ok h2
   cases h3;exact ⟨_,rfl⟩
  split at h
  ·obtain ⟨_,_,_,h2⟩:=PR.bind_ok h
   obtain ⟨_,_,_,h3⟩:=PR.bind_ok h2
   exact valu h3
  split at h
  ·exact valu (g:=fun e=>smE 6 [] exZ e [] []) h
  ·obtain ⟨nm,_,_,h2⟩:=PR.bind_ok h
   split at h2
   ·obtain ⟨_,_,_,h3⟩:=PR.bind_ok h2
    obtain ⟨_,_,_,h4⟩:=PR.bind_ok h3
    obtain ⟨_,_,_,h5⟩:=PR.bind_ok h4
    exact valu h5
   ·obtain ⟨_,_,_,h3⟩:=PR.bind_ok h2
    exact valu (g:=fun e=>smE 1 nm exZ e [] []) h3
theorem zeP {k:Nat} (hk:k≤l.length):(zby l k).isOut=false:=zgQ _ _ k hk (by simp only [Ns.need];omega)
theorem zdv {k:Nat} (hk:k≤l.length):(zby l k).past k l.length:=zcx _ _ k hk
end
end Go.Abs
namespace Go.Abs
open Go
section
variable {l:List TkD}
theorem zkb (n:Nat) (acc:List VarD) (k:Nat):zit l (n+1) acc k=(if isT l k [118,97,114] then (zdM l (k+1)).bind fun nm k1=>(zl7 l k1).bind fun v k2=>(zaW l [59] k2).bind fun _ k3=>zit l n (acc++[⟨nm,0,v⟩]) k3
  else if isT l k [97,114,114,97,121] then (zdM l (k+1)).bind fun nm k1=>(zaW l [91] k1).bind fun _ k2=>(nmF l 1 k2).bind fun v k3=>(zaW l [93] k3).bind fun _ k4=>(zaW l [59] k4).bind fun _ k5=>zit l n (acc++[⟨nm,v,0⟩]) k5
  else .ok acc k):=rfl
theorem zuy (n:Nat) (p:PgD) (z:Seen) (k:Nat):zi1 l (n+1) p z k=(if k<l.length then (zaW l [111,110] k).bind fun _ k1=>
   if !z.s&&isT l k1 [115,116,97,114,116] then (zby l (k1+1)).bind fun b k2=>zi1 l n { p with start:=b } { z with s:=true } k2
   else if !z.m&&isT l k1 [109,101,115,115,97,103,101] then (zby l (k1+1)).bind fun b k2=>zi1 l n { p with message:=b } { z with m:=true } k2
   else if !z.t&&isT l k1 [116,105,99,107] then (zby l (k1+1)).bind fun b k2=>zi1 l n { p with tick:=b } { z with t:=true } k2
   else if !z.i&&isT l k1 [105,110,112,117,116] then (zby l (k1+1)).bind fun b k2=>zi1 l n { p with input:=b } { z with i:=true } k2
   else .bad k1
  else .ok p k):=rfl
theorem zhA {k:Nat} (hk:k≤l.length):(zl7 l k).on k l.length:=by
 unfold zl7
 split
 ·rename_i h
  have:=zaw h (by simp)
  split
  ·rename_i h2
   have:=zaw h2 (by simp)
   exact PR.on.le (PR.on.bind (zdW (z:=0) (k:=k+2) (by omega)).on (fun v k' _ h2=>PR.ok_on _ h2)) (by omega)
  ·exact PR.on.le (zdW (by omega)).on (by omega)
 ·exact PR.ok_on _ hk
theorem zuz {k:Nat}:(zl7 l k).isOut=false:=by
 unfold zl7
 split
 ·split
  ·exact PR.bind_out zh8 (fun _ _ _=>rfl)
  ·exact zh8
 ·rfl
theorem zif:∀ (n:Nat) (acc:List VarD) (k:Nat),k≤l.length→(zit l n acc k).on k l.length
 |0,_,_,_=>trivial
 |n+1,acc,k,hk=>by
  rw [zkb]
  split
  ·rename_i h
   have:=zaw h (by simp)
   exact PR.on.le (PR.on.bind (za7 (k:=k+1) (by omega)).on (fun nm k1 _ h1=>PR.on.bind (zhA h1) (fun v k2 _ h2=>PR.on.bind (zaC h2 (by simp)).on (fun _ k3 _ h3=>zif n _ k3 h3)))) (by omega)
  split
  ·rename_i h
   have:=zaw h (by simp)
   exact PR.on.le (PR.on.bind (za7 (k:=k+1) (by omega)).on (fun nm k1 _ h1=>PR.on.bind (zaC h1 (by simp)).on (fun _ k2 _ h2=>PR.on.bind (zdW h2).on (fun v k3 _ h3=>PR.on.bind (zaC h3 (by simp)).on (fun _ k4 _ h4=>PR.on.bind (zaC h4 (by simp)).on (fun _ k5 _ h5=>zif n _ k5 h5)))))) (by omega)
  ·exact PR.ok_on _ hk
theorem zhB:∀ (n:Nat) (acc:List VarD) (k:Nat),k≤l.length→l.length - k+1≤n→(zit l n acc k).isOut=false
 |0,_,k,hk,h=>by omega
 |n+1,acc,k,hk,h=>by
  rw [zkb]
  have on':∀ {α:Type} {r:PR α} {a:α} {k k1:Nat},r.on k l.length→r=.ok a k1→k≤k1∧k1≤l.length:=fun h e=>by rw [e] at h;exact h
  split
  ·rename_i h0
   have:=zaw h0 (by simp)
   refine PR.bind_out zdX (fun nm k1 e1=>?_)
   have h1:=on' (za7 (k:=k+1) (by omega)).on e1
   refine PR.bind_out zuz (fun v k2 e2=>?_)
   have h2:=on' (zhA h1.2) e2
   refine PR.bind_out zbB (fun _ k3 e3=>?_)
   have h3:=on' (zaC h2.2 (by simp)).on e3
   exact zhB n _ k3 h3.2 (by omega)
  split
  ·rename_i h0
   have:=zaw h0 (by simp)
   refine PR.bind_out zdX (fun nm k1 e1=>?_)
   have h1:=on' (za7 (k:=k+1) (by omega)).on e1
   refine PR.bind_out zbB (fun _ k2 e2=>?_)
   have h2:=on' (zaC h1.2 (by simp)).on e2
   refine PR.bind_out zh8 (fun v k3 e3=>?_)
   have h3:=on' (zdW h2.2).on e3
   refine PR.bind_out zbB (fun _ k4 e4=>?_)
   have h4:=on' (zaC h3.2 (by simp)).on e4
   refine PR.bind_out zbB (fun _ k5 e5=>?_)
   have h5:=on' (zaC h4.2 (by simp)).on e5
   exact zhB n _ k5 h5.2 (by omega)
  ·rfl
theorem zqw:∀ (n:Nat) (p:PgD) (z:Seen) (k:Nat),k≤l.length→l.length - k+1≤n→(zi1 l n p z k).isOut=false
 |0,_,_,k,hk,h=>by omega
 |n+1,p,z,k,hk,h=>by
  rw [zuy]
  split
  ·refine PR.bind_out zbB (fun _ k1 e1=>?_)
   have h1:k<k1∧k1≤l.length:=by have:=zaC (l:=l) (s:=[111,110]) hk (by simp);rw [e1] at this;exact this
   have one:∀ {s:List UInt8} (f:List Sm→PgD) (z':Seen),isT l k1 s=true→s≠[]→((zby l (k1+1)).bind fun b k2=>zi1 l n (f b) z' k2).isOut=false:=fun f z' hs hne=>by
    have hlt:=zaw hs hne
    refine PR.bind_out (zeP (by omega)) (fun b k2 e2=>?_)
    have h2:k1+1<k2∧k2≤l.length:=by have:=zdv (l:=l) (k:=k1+1) (by omega);rw [e2] at this;exact this
    exact zqw n _ _ k2 h2.2 (by omega)
   split
   ·rename_i h2;exact one (fun b=>{ p with start:=b }) _ (by simp at h2;exact h2.2) (by simp)
   split
   ·rename_i h2;exact one (fun b=>{ p with message:=b }) _ (by simp at h2;exact h2.2) (by simp)
   split
   ·rename_i h2;exact one (fun b=>{ p with tick:=b }) _ (by simp at h2;exact h2.2) (by simp)
   split
   ·rename_i h2;exact one (fun b=>{ p with input:=b }) _ (by simp at h2;exact h2.2) (by simp)
   ·rfl
  ·rfl
theorem zhC:(zjV l).isOut=false:=by
 unfold zjV
 refine PR.bind_out (zhB _ _ 0 (by omega) (by omega)) (fun vs k e=>?_)
 have h1:0≤k∧k≤l.length:=by have:=zif (l:=l) (l.length+1) [] 0 (by omega);rw [e] at this;exact this
 exact zqw _ _ _ k h1.2 (by omega)
end
end Go.Abs
namespace Go.Abs
open Go
section
variable (l:List TkD)
def zoo (p:PgD) (z:Seen) (k1:Nat):PR (PgD × Seen):=
 if !z.s&&isT l k1 [115,116,97,114,116] then (zby l (k1+1)).bind fun b k2=>.ok ({ p with start:=b },{ z with s:=true }) k2
 else if !z.m&&isT l k1 [109,101,115,115,97,103,101] then (zby l (k1+1)).bind fun b k2=>.ok ({ p with message:=b },{ z with m:=true }) k2
 else if !z.t&&isT l k1 [116,105,99,107] then (zby l (k1+1)).bind fun b k2=>.ok ({ p with tick:=b },{ z with t:=true }) k2
 else if !z.i&&isT l k1 [105,110,112,117,116] then (zby l (k1+1)).bind fun b k2=>.ok ({ p with input:=b },{ z with i:=true }) k2
 else .bad k1
def zo5 (p:PgD) (z:Seen) (k:Nat):PR (PgD × Seen):=(zaW l [111,110] k).bind fun _ k1=>zoo l p z k1
theorem PR.bind_assoc {α β γ:Type} (r:PR α) (f:α→Nat→PR β) (g:β→Nat→PR γ):(r.bind f).bind g=r.bind fun a k=>(f a k).bind g:=by cases r<;>rfl
theorem zkc (n:Nat) (p:PgD) (z:Seen) (k:Nat):zi1 l (n+1) p z k=if k<l.length then (zo5 l p z k).bind fun q k2=>zi1 l n q.1 q.2 k2 else .ok p k:=by
 rw [zuy]
 split
 ·unfold zo5
  rw [PR.bind_assoc]
  congr 1
  funext _ k1
  unfold zoo
  repeat' split
  all_goals first|rfl|(rw [PR.bind_assoc];rfl)
 ·rfl
theorem zAB (p:PgD) (z:Seen) (k1:Nat) (h:k1≤l.length):(zoo l p z k1).on k1 l.length:=by
 have one:∀ {s:List UInt8} (f:List Sm→PgD × Seen),isT l k1 s=true→s≠[]→((zby l (k1+1)).bind fun b k2=>PR.ok (f b) k2).on k1 l.length:=fun f hs hne=>by
  have hlt:=zaw hs hne
  exact PR.on.le (PR.on.bind (zdv (by omega)).on (fun b k2 _ h2=>PR.ok_on _ h2)) (by omega)
 unfold zoo
 split
 ·rename_i h2;exact one (fun b=>({ p with start:=b },_)) (by simp at h2;exact h2.2) (by simp)
 split
 ·rename_i h2;exact one (fun b=>({ p with message:=b },_)) (by simp at h2;exact h2.2) (by simp)
 split
 ·rename_i h2;exact one (fun b=>({ p with tick:=b },_)) (by simp at h2;exact h2.2) (by simp)
 split
 ·rename_i h2;exact one (fun b=>({ p with input:=b },_)) (by simp at h2;exact h2.2) (by simp)
 ·exact ⟨Nat.le_refl _,h⟩
theorem znN (p:PgD) (z:Seen) (k:Nat) (h:k≤l.length):(zo5 l p z k).past k l.length:=by
 unfold zo5
 exact PR.past.bind (zaC h (by simp)) (fun _ k1 _ h1=>zAB l p z k1 h1)
theorem zqx (p:PgD) (z:Seen) (k:Nat) (h:k≤l.length):(zo5 l p z k).isOut=false:=by
 unfold zo5
 refine PR.bind_out zbB (fun _ k1 e1=>?_)
 have h1:k<k1∧k1≤l.length:=by have:=zaC (l:=l) (s:=[111,110]) h (by simp);rw [e1] at this;exact this
 have one:∀ {s:List UInt8} (f:List Sm→PgD × Seen),isT l k1 s=true→s≠[]→((zby l (k1+1)).bind fun b k2=>PR.ok (f b) k2).isOut=false:=fun f hs hne=>by
  have hlt:=zaw hs hne
  exact PR.bind_out (zeP (by omega)) (fun b k2 e2=>rfl)
 unfold zoo
 split
 ·rename_i h2;exact one (fun b=>({ p with start:=b },_)) (by simp at h2;exact h2.2) (by simp)
 split
 ·rename_i h2;exact one (fun b=>({ p with message:=b },_)) (by simp at h2;exact h2.2) (by simp)
 split
 ·rename_i h2;exact one (fun b=>({ p with tick:=b },_)) (by simp at h2;exact h2.2) (by simp)
 split
 ·rename_i h2;exact one (fun b=>({ p with input:=b },_)) (by simp at h2;exact h2.2) (by simp)
 ·rfl
end
end Go.Abs
namespace Go.Abs
open Go
theorem zxq {s:List UInt8} {k e:Nat} {t:TkD} (hk:k<s.length) (h:zcz s k=(t,(e:Int),0)):t.pos=k∧cut s k e=zoU t∧e=k+(zoU t).length∧k<e∧e≤s.length:=by
 obtain ⟨hg,hp,h1,h2,_⟩:=zqi s k e t hk h
 have hw:=hg.word
 have hl:=zh9 s k e h2
 exact ⟨hp,hw.symm,by rw [hw,hl];omega,h1,h2⟩
theorem Sc.len {s:List UInt8} {k:Nat} {l:List TkD} (h:Sc s k l):l.length≤s.length - k:=by
 induction h with
 |fin _=>simp
 |blank _ _ _ ih=>omega
 |@hsh k l hk hh _ ih=>have:=(zl9 s k hk hh);omega
 |@tok k e t l hk hb hh ho _ ih=>
  obtain ⟨h1,h2,h3,h4,h5⟩:=zxq hk ho
  simp only [List.length_cons];omega
theorem Sc.vals {s:List UInt8} {k:Nat} {l:List TkD} (h:Sc s k l):∀ t ∈ l,t.value≤9223372036854775807∧0<(zoU t).length∧(zoU t).length≤s.length∧Good t (zoU t):=by
 intro t ht
 obtain ⟨e,a,_,h2,h3,h4,hg⟩:=h.good t ht
 have hw:=hg.word
 have hl:=zh9 s a e h4
 refine ⟨?_,by rw [hw,hl];omega,by rw [hw,hl];omega,by rw [hw];exact hg⟩
 rcases hg.kinds with ⟨_,_,h,_⟩|⟨_,_,h,_,h5⟩|⟨_,_,h,_⟩
 all_goals rw [h]
 all_goals omega
structure TokOK (t:TkD):Prop where
 k:t.kind=1∨t.kind=2∨t.kind=3
 k1:t.kind=1→∃ c r,t.text=c::r∧isL c=true
 k2:t.kind=2→t.text=[]∧0≤t.value
 k3:t.kind=3→∃ c r,t.text=c::r∧isL c=false
def zbQ (l:List TkD):Prop:=∀ k,k<l.length→TokOK (l.getD k tk0)
def zmj (s:List UInt8):Bool:=match s with|c::_=>!isL c|[]=>false
def zmk (s:List UInt8):Bool:=match s with|c::_=>isL c|[]=>false
theorem TokOK.sign {t:TkD} (h:TokOK t) {s:List UInt8} (hs:zmj s=true) (he:t.text=s):t.kind=3:=by
 cases s with
 |nil=>simp [zmj] at hs
 |cons c r=>
  have hc:isL c=false:=by simpa [zmj] using hs
  rcases h.k with h1|h1|h1
  ·obtain ⟨c',r',e,h2⟩:=h.k1 h1
   rw [he] at e
   cases e
   rw [hc] at h2;cases h2
  ·have:=(h.k2 h1).1
   rw [he] at this;cases this
  ·exact h1
theorem TokOK.word {t:TkD} (h:TokOK t) {s:List UInt8} (hs:zmk s=true) (he:t.text=s):t.kind=1:=by
 cases s with
 |nil=>simp [zmk] at hs
 |cons c r=>
  have hc:isL c=true:=by simpa [zmk] using hs
  rcases h.k with h1|h1|h1
  ·exact h1
  ·have:=(h.k2 h1).1
   rw [he] at this;cases this
  ·obtain ⟨c',r',e,h2⟩:=h.k3 h1
   rw [he] at e
   cases e
   rw [hc] at h2;cases h2
theorem zgx {l:List TkD} {k:Nat} {s:List UInt8} (hk:k<l.length):isT l k s=((l.getD k tk0).text==s):=by
 unfold isT zbK
 rw [if_pos hk]
theorem zuA {l:List TkD} {k:Nat} {s:List UInt8} (hk:¬ k<l.length) (hs:s≠[]):isT l k s=false:=by
 cases h:isT l k s with
 |false=>rfl
 |true=>exact absurd (zaw h hs) hk
theorem zxr {s:List UInt8} (h:zmj s=true):s≠[]:=by rintro rfl;cases h
theorem zxs {s:List UInt8} (h:zmk s=true):s≠[]:=by rintro rfl;cases h
theorem zuB {l:List TkD} (hT:zbQ l) {k:Nat} {s:List UInt8} (hk:k<l.length) (hs:zmj s=true):(((l.getD k tk0).kind==3)&&((l.getD k tk0).text==s))=isT l k s:=by
 rw [zgx hk]
 by_cases he:(l.getD k tk0).text=s
 ·rw [(hT k hk).sign hs he]
  simp
 ·have:((l.getD k tk0).text==s)=false:=by simpa using he
  rw [this,Bool.and_false]
theorem zuC {l:List TkD} (hT:zbQ l) {k:Nat} {s:List UInt8} (hk:k<l.length) (hs:zmk s=true):(((l.getD k tk0).kind==1)&&((l.getD k tk0).text==s))=isT l k s:=by
 rw [zgx hk]
 by_cases he:(l.getD k tk0).text=s
 ·rw [(hT k hk).word hs he]
  simp
 ·have:((l.getD k tk0).text==s)=false:=by simpa using he
  rw [this,Bool.and_false]
variable {l:List TkD}
theorem zi6 {k:Nat} (hk:k<l.length):zeh l k=((l.getD k tk0).kind==2):=by unfold zeh;simp [hk]
theorem zev {k:Nat} {s:List UInt8} (hT:zbQ l) (hk:k<l.length) (hs:zmk s=true) (h:(l.getD k tk0).kind≠1):isT l k s=false:=by
 cases hc:isT l k s with
 |false=>rfl
 |true=>rw [zgx hk] at hc;exact absurd ((hT k hk).word hs (by simpa using hc)) h
theorem zuD {k:Nat} {s:List UInt8} (hT:zbQ l) (hk:k<l.length) (hs:zmj s=true) (h:(l.getD k tk0).kind≠3):isT l k s=false:=by
 cases hc:isT l k s with
 |false=>rfl
 |true=>rw [zgx hk] at hc;exact absurd ((hT k hk).sign hs (by simpa using hc)) h
theorem zxt {m k:Nat} (hk:¬ k<l.length):exF l (m+1) .prim k=.bad k:=by
 rw [ze2]
 have h0:zeh l k=false:=by unfold zeh;simp [hk]
 have h1:zdM l k=.bad k:=by unfold zdM;rw [if_neg (fun h=>hk h.1)]
 simp [h0,zuA hk,h1,PR.bind]
theorem zxu {m k:Nat} (hT:zbQ l) (hk:k<l.length) (h:(l.getD k tk0).kind=2):exF l (m+1) .prim k=.ok (exC (l.getD k tk0).value) (k+1):=by
 rw [ze2,zi6 hk,h]
 have h2:=((hT k hk).k2 h).2
 have:nmF l 0 k=.ok (l.getD k tk0).value (k+1):=by unfold nmF;rw [if_pos ⟨hk,h,h2⟩]
 rw [this]
 rfl
theorem zrW {m k:Nat} (hT:zbQ l) (hk:k<l.length) (h:(l.getD k tk0).kind=3) (hp:isT l k [40]=false):exF l (m+1) .prim k=.bad k:=by
 have hn:¬ (l.getD k tk0).kind=1:=by rw [h];decide
 have h1:zdM l k=.bad k:=by unfold zdM;rw [if_neg (fun g=>hn g.2.1)]
 rw [ze2,zi6 hk,h,zev hT hk rfl hn,zev hT hk rfl hn,zev hT hk rfl hn,zev hT hk rfl hn,hp,h1]
 rfl
theorem zrX {m k:Nat} (hT:zbQ l) (hk:k<l.length) (h:(l.getD k tk0).kind=3) (hp:isT l k [40]=true):exF l (m+1) .prim k=(exF l m (.bin 0) (k+1)).bind fun e k'=>(zaW l [41] k').bind fun _ k2=>.ok e k2:=by
 have hn:¬ (l.getD k tk0).kind=1:=by rw [h];decide
 rw [ze2,zi6 hk,h,zev hT hk rfl hn,zev hT hk rfl hn,zev hT hk rfl hn,zev hT hk rfl hn,hp]
 rfl
theorem zqy {m k:Nat} (hT:zbQ l) (hk:k<l.length) (h:(l.getD k tk0).kind=1):exF l (m+1) .prim k =
  if (l.getD k tk0).text=[115,101,108,102] then .ok (exK 4) (k+1) else if (l.getD k tk0).text=[112,114,111,99,115] then .ok (exK 5) (k+1) else if (l.getD k tk0).text=[102,114,111,109] then .ok (exK 6) (k+1) else if (l.getD k tk0).text=[118,97,108,117,101] then .ok (exK 7) (k+1)
  else (zdM l k).bind fun nm k1=>if isT l k1 [91] then (exF l m (.bin 0) (k1+1)).bind fun e k'=>(zaW l [93] k').bind fun _ k2=>.ok (exI nm e) k2 else .ok (exN nm) k1:=by
 have hp:isT l k [40]=false:=zuD hT hk rfl (by rw [h];decide)
 rw [ze2,zi6 hk,h,hp,zgx hk,zgx hk,zgx hk,zgx hk]
 simp only [beq_iff_eq]
 rfl
end Go.Abs
namespace Go.Abs
open Go
section
variable {l:List TkD}
theorem zuE (op:Int):szE (exK op)=1:=by simp [exK,szE,zh3]
theorem zHB (v:Int):szE (exC v)=1:=by simp [exC,szE,zh3]
theorem zHC (nm:List UInt8):szE (exN nm)=1:=by simp [exN,szE,zh3]
theorem zHD (nm:List UInt8) (e:Ex):szE (exI nm e)=1+szE e:=by simp [exI,szE,zh3]
theorem zD6 (op:Int) (e:Ex):szE (exU op e)=1+szE e:=by simp [exU,szE,zh3]
theorem zHE (op:Int) (a b:Ex):szE (exB op a b)=1+szE a+szE b:=by simp [exB,szE,zh3];omega
theorem zdw {s:List UInt8} {k k':Nat} {u:Unit} (h:zaW l s k=.ok u k'):k'=k+1:=by
 unfold zaW at h;split at h<;>cases h;rfl
theorem zml {k k':Nat} {nm:List UInt8} (h:zdM l k=.ok nm k'):k'=k+1:=by
 unfold zdM at h;split at h<;>cases h;rfl
theorem zyr {z:Int} {k k':Nat} {v:Int} (h:nmF l z k=.ok v k'):k'=k+1:=by
 unfold nmF at h;split at h<;>cases h;rfl
def Nt.pre:Nt→Nat
 |.loop _ e=>szE e
 |_=>0
theorem zfI:∀ (n:Nat) (nt:Nt) (k:Nat) (e:Ex) (k':Nat),exF l n nt k=.ok e k'→szE e+k≤k'+nt.pre
 |0,nt,k,e,k',h=>by cases h
 |n+1,.bin lv,k,e,k',h=>by
  rw [zo3] at h
  split at h
  ·exact zfI n .un k e k' h
  ·obtain ⟨e1,k1,h1,h2⟩:=PR.bind_ok h
   have:=zfI n _ _ _ _ h1
   have:=zfI n _ _ _ _ h2
   simp only [Nt.pre] at *
   omega
 |n+1,.loop lv e0,k,e,k',h=>by
  rw [zi5] at h
  split at h
  ·cases h;simp only [Nt.pre];omega
  ·obtain ⟨e1,k1,h1,h2⟩:=PR.bind_ok h
   have:=zfI n _ _ _ _ h1
   have:=zfI n _ _ _ _ h2
   simp only [Nt.pre,zHE] at *
   omega
 |n+1,.un,k,e,k',h=>by
  rw [zux] at h
  split at h
  ·obtain ⟨e1,k1,h1,h2⟩:=PR.bind_ok h
   have:=zfI n _ _ _ _ h1
   cases h2
   simp only [Nt.pre,zD6] at *
   omega
  split at h
  ·obtain ⟨e1,k1,h1,h2⟩:=PR.bind_ok h
   have:=zfI n _ _ _ _ h1
   cases h2
   simp only [Nt.pre,zD6] at *
   omega
  ·exact zfI n .prim k e k' h
 |n+1,.prim,k,e,k',h=>by
  rw [ze2] at h
  split at h
  ·obtain ⟨v,k1,h1,h2⟩:=PR.bind_ok h
   have:=zyr h1
   cases h2
   simp only [Nt.pre,zHB] at *
   omega
  split at h
  ·cases h;simp only [Nt.pre,zuE] at *;omega
  split at h
  ·cases h;simp only [Nt.pre,zuE] at *;omega
  split at h
  ·cases h;simp only [Nt.pre,zuE] at *;omega
  split at h
  ·cases h;simp only [Nt.pre,zuE] at *;omega
  split at h
  ·obtain ⟨e1,k1,h1,h2⟩:=PR.bind_ok h
   have:=zfI n _ _ _ _ h1
   obtain ⟨u,k2,h3,h4⟩:=PR.bind_ok h2
   have:=zdw h3
   cases h4
   simp only [Nt.pre] at *
   omega
  ·obtain ⟨nm,k1,h1,h2⟩:=PR.bind_ok h
   have:=zml h1
   split at h2
   ·obtain ⟨e1,k2,h3,h4⟩:=PR.bind_ok h2
    have:=zfI n _ _ _ _ h3
    obtain ⟨u,k3,h5,h6⟩:=PR.bind_ok h4
    have:=zdw h5
    cases h6
    simp only [Nt.pre,zHD] at *
    omega
   ·cases h2
    simp only [Nt.pre,zHC] at *
    omega
theorem zkd {k k':Nat} {e:Ex} (h:zbr l k=.ok e k'):szE e+k≤k':=by
 have:=zfI _ _ _ _ _ h
 simpa [Nt.pre] using this
theorem zqz:∀ a b:List Sm,zbz (a++b)=zbz a+zbz b
 |[],b=>by simp [zbz]
 |s::r,b=>by simp only [List.cons_append,zbz,zqz r b];omega
theorem zxv (kind:Int) (nm:List UInt8) (p v:Ex) (b c:List Sm):zbz [smE kind nm p v b c]=1+szE p+szE v+zbz b+zbz c:=by simp [smE,zbz,szS]
theorem zAC (kind:Int) (nm:List UInt8) (p v:Ex) (b c:List Sm):szS (smE kind nm p v b c)=1+szE p+szE v+zbz b+zbz c:=by simp [smE,szS]
def Ns.pre:Ns→Nat
 |.stmts acc=>zbz acc
 |_=>0
theorem zke:∀ (n:Nat) (nt:Ns) (k:Nat) (b:List Sm) (k':Nat),smF l n nt k=.ok b k'→zbz b+2 * k≤2 * k'+nt.pre
 |0,nt,k,e,k',h=>by cases h
 |n+1,.block,k,b,k',h=>by
  rw [zfH] at h
  obtain ⟨u,k1,h1,h2⟩:=PR.bind_ok h
  have:=zdw h1
  have:=zke n _ _ _ _ h2
  simp only [Ns.pre,zbz] at *
  omega
 |n+1,.stmts acc,k,b,k',h=>by
  rw [zeO] at h
  split at h
  ·cases h;simp only [Ns.pre];omega
  ·obtain ⟨s,k1,h1,h2⟩:=PR.bind_ok h
   have:=zke n _ _ _ _ h1
   have:=zke n _ _ _ _ h2
   simp only [Ns.pre,zqz] at *
   omega
 |n+1,.stmt,k,b,k',h=>by
  rw [zf7] at h
  have z0:szE exZ=1:=zuE 0
  have valu:∀ {g:Ex→List Sm} {k4 c:Nat},(∀ e,zbz (g e)=c+szE e)→((zbr l k4).bind fun e k5=>(zaW l [59] k5).bind fun _ k6=>PR.ok (g e) k6)=.ok b k'→zbz b+k4+1≤k'+c:=fun hg h=>by
   obtain ⟨e,k5,h1,h2⟩:=PR.bind_ok h
   have:=zkd h1
   obtain ⟨u,k6,h3,h4⟩:=PR.bind_ok h2
   have:=zdw h3
   cases h4
   rw [hg]
   omega
  split at h
  ·obtain ⟨e,k1,h1,h2⟩:=PR.bind_ok h
   have:=zkd h1
   obtain ⟨b1,k2,h3,h4⟩:=PR.bind_ok h2
   have:=zke n _ _ _ _ h3
   have:=zbw e
   split at h4
   ·obtain ⟨c,k3,h5,h6⟩:=PR.bind_ok h4
    have:=zke n _ _ _ _ h5
    cases h6
    simp only [Ns.pre,zbz,zAC,z0] at *
    omega
   ·cases h4
    simp only [Ns.pre,zbz,zAC,z0] at *
    omega
  split at h
  ·obtain ⟨e,k1,h1,h2⟩:=PR.bind_ok h
   have:=zkd h1
   obtain ⟨b1,k2,h3,h4⟩:=PR.bind_ok h2
   have:=zke n _ _ _ _ h3
   have:=zbw e
   cases h4
   simp only [Ns.pre,zbz,zAC,z0] at *
   omega
  split at h
  ·obtain ⟨p,k1,h1,h2⟩:=PR.bind_ok h
   have:=zkd h1
   obtain ⟨u,k2,h3,h4⟩:=PR.bind_ok h2
   have:=zdw h3
   have:=valu (c:=1+szE p) (fun e=>by rw [zxv];simp only [zbz];omega) h4
   simp only [Ns.pre]
   omega
  split at h
  ·have:=valu (g:=fun e=>[smE 6 [] exZ e [] []]) (c:=2) (fun e=>by rw [zxv,z0];simp [zbz]) h
   simp only [Ns.pre]
   omega
  ·obtain ⟨nm,k1,h1,h2⟩:=PR.bind_ok h
   have:=zml h1
   split at h2
   ·obtain ⟨p,k2,h3,h4⟩:=PR.bind_ok h2
    have:=zkd h3
    obtain ⟨u,k3,h5,h6⟩:=PR.bind_ok h4
    have:=zdw h5
    obtain ⟨u2,k4,h7,h8⟩:=PR.bind_ok h6
    have:=zdw h7
    have:=valu (c:=1+szE p) (fun e=>by rw [zxv];simp only [zbz];omega) h8
    simp only [Ns.pre]
    omega
   ·obtain ⟨u,k3,h5,h6⟩:=PR.bind_ok h2
    have:=zdw h5
    have:=valu (g:=fun e=>[smE 1 nm exZ e [] []]) (c:=2) (fun e=>by rw [zxv,z0];simp [zbz]) h6
    simp only [Ns.pre]
    omega
theorem zhD {k k':Nat} {b:List Sm} (h:zby l k=.ok b k'):zbz b+2 * k≤2 * k':=by
 have:=zke _ _ _ _ _ h
 simpa [Ns.pre] using this
theorem zo6:∀ (n:Nat) (acc:List VarD) (k:Nat) (vs:List VarD) (k':Nat),zit l n acc k=.ok vs k'→k≤l.length→vs.length+k≤k'+acc.length
 |0,_,_,_,_,h,_=>by cases h
 |n+1,acc,k,vs,k',h,hk=>by
  rw [zkb] at h
  split at h
  ·rename_i h0
   have:=zaw h0 (by simp)
   obtain ⟨nm,k1,h1,h2⟩:=PR.bind_ok h
   have:=zml h1
   obtain ⟨v,k2,h3,h4⟩:=PR.bind_ok h2
   have q:k1≤k2∧k2≤l.length:=by
    have:=za7 (l:=l) (k:=k+1) (by omega)
    rw [h1] at this
    have:=zhA (l:=l) (k:=k1) this.2
    rw [h3] at this
    exact this
   obtain ⟨u,k3,h5,h6⟩:=PR.bind_ok h4
   have:=zdw h5
   have q3:k3≤l.length:=by
    have:=zaC (l:=l) (s:=[59]) q.2 (by simp)
    rw [h5] at this
    exact this.2
   have:=zo6 n _ _ _ _ h6 q3
   simp only [List.length_append,List.length_cons,List.length_nil] at this
   omega
  split at h
  ·rename_i h0
   have:=zaw h0 (by simp)
   obtain ⟨nm,k1,h1,h2⟩:=PR.bind_ok h
   have:=zml h1
   obtain ⟨u,k2,h3,h4⟩:=PR.bind_ok h2
   have:=zdw h3
   obtain ⟨v,k3,h5,h6⟩:=PR.bind_ok h4
   have:=zyr h5
   obtain ⟨u2,k4,h7,h8⟩:=PR.bind_ok h6
   have:=zdw h7
   obtain ⟨u3,k5,h9,h10⟩:=PR.bind_ok h8
   have:=zdw h9
   have q3:k5≤l.length:=by
    have a1:=za7 (l:=l) (k:=k+1) (by omega)
    rw [h1] at a1
    have a2:=zaC (l:=l) (s:=[91]) a1.2 (by simp)
    rw [h3] at a2
    have a3:=zdW (l:=l) (z:=1) a2.2
    rw [h5] at a3
    have a4:=zaC (l:=l) (s:=[93]) a3.2 (by simp)
    rw [h7] at a4
    have a5:=zaC (l:=l) (s:=[59]) a4.2 (by simp)
    rw [h9] at a5
    exact a5.2
   have:=zo6 n _ _ _ _ h10 q3
   simp only [List.length_append,List.length_cons,List.length_nil] at this
   omega
  ·cases h
   omega
def PgD.fits (p:PgD) (z:Seen):Prop:=(z.s=false→p.start=[])∧(z.m=false→p.message=[])∧(z.t=false→p.tick=[])∧(z.i=false→p.input=[])
theorem zuF:∀ (n:Nat) (p:PgD) (z:Seen) (k:Nat) (q:PgD) (k':Nat),zi1 l n p z k=.ok q k'→k≤l.length→p.fits z→szP q+2 * k≤2 * k'+szP p∧k'≤l.length
 |0,_,_,_,_,_,h,_,_=>by cases h
 |n+1,p,z,k,q,k',h,hk,hz=>by
  rw [zkc] at h
  split at h
  ·obtain ⟨⟨q1,z1⟩,k2,h1,h2⟩:=PR.bind_ok h
   have hp:=znN l p z k hk
   rw [h1] at hp
   unfold zo5 at h1
   obtain ⟨u,k1,h3,h4⟩:=PR.bind_ok h1
   have:=zdw h3
   unfold zoo at h4
   obtain ⟨f1,f2,f3,f4⟩:=hz
   have key:szP q1+2 * k≤2 * k2+szP p∧q1.fits z1:=by
    split at h4
    ·rename_i hc
     obtain ⟨b,k3,h5,h6⟩:=PR.bind_ok h4
     have:=zhD h5
     cases h6
     have:p.start=[]:=f1 (by simp at hc;exact hc.1)
     exact ⟨by simp only [szP,this,zbz];omega,fun h=>(by cases h),f2,f3,f4⟩
    split at h4
    ·rename_i hc
     obtain ⟨b,k3,h5,h6⟩:=PR.bind_ok h4
     have:=zhD h5
     cases h6
     have:p.message=[]:=f2 (by simp at hc;exact hc.1)
     exact ⟨by simp only [szP,this,zbz];omega,f1,fun h=>(by cases h),f3,f4⟩
    split at h4
    ·rename_i hc
     obtain ⟨b,k3,h5,h6⟩:=PR.bind_ok h4
     have:=zhD h5
     cases h6
     have:p.tick=[]:=f3 (by simp at hc;exact hc.1)
     exact ⟨by simp only [szP,this,zbz];omega,f1,f2,fun h=>(by cases h),f4⟩
    split at h4
    ·rename_i hc
     obtain ⟨b,k3,h5,h6⟩:=PR.bind_ok h4
     have:=zhD h5
     cases h6
     have:p.input=[]:=f4 (by simp at hc;exact hc.1)
     exact ⟨by simp only [szP,this,zbz];omega,f1,f2,f3,fun h=>(by cases h)⟩
    ·cases h4
   have:=zuF n q1 z1 k2 q k' h2 hp.2 key.2
   omega
  ·cases h
   omega
theorem zmm {p:PgD} {k:Nat} (h:zjV l=.ok p k):szP p≤2 * l.length:=by
 unfold zjV at h
 obtain ⟨vs,k1,h1,h2⟩:=PR.bind_ok h
 have a1:=zo6 _ _ _ _ _ h1 (by omega)
 have a2:=zif (l:=l) (l.length+1) [] 0 (by omega)
 rw [h1] at a2
 have a3:=zuF _ _ _ _ _ _ h2 a2.2 ⟨fun _=>rfl,fun _=>rfl,fun _=>rfl,fun _=>rfl⟩
 simp only [szP,zbz,List.length_nil] at a1 a3 ⊢
 omega
theorem zxw {s:List UInt8} {k:Nat} (h:Sc s k l):zbQ l:=fun i hi=>by
 have e:l.getD i tk0=l[i]:=by simp [List.getD,hi]
 rw [e]
 have hg:=(h.vals l[i] (List.getElem_mem hi)).2.2.2
 generalize l[i]=t at hg
 obtain ⟨hne,hk⟩:=hg
 have hd:∀ w:List UInt8,w≠[]→∃ c r,w=c::r∧w.getD 0 0=c:=fun w hw=>by
  cases w with
  |nil=>exact absurd rfl hw
  |cons c r=>exact ⟨c,r,rfl,rfl⟩
 rcases hk with ⟨a1,a2,_,a4,_⟩|⟨a1,a2,a3,_,_⟩|⟨a1,a2,_,a4,_⟩
 ·refine ⟨.inl a1,fun _=>?_,fun h=>by omega,fun h=>by omega⟩
  rw [←a2] at a4 hne
  obtain ⟨c,r,e1,e2⟩:=hd _ hne
  exact ⟨c,r,e1,by rw [←e2];exact a4⟩
 ·exact ⟨.inr (.inl a1),fun h=>by omega,fun _=>⟨a2,by rw [a3];omega⟩,fun h=>by omega⟩
 ·refine ⟨.inr (.inr a1),fun h=>by omega,fun h=>by omega,fun _=>?_⟩
  rw [←a2] at a4 hne
  obtain ⟨c,r,e1,e2⟩:=hd _ hne
  exact ⟨c,r,e1,by rw [←e2];exact a4⟩
theorem zuG {s:List UInt8} {k:Nat} (h:Sc s k l):∀ i,(l.getD i tk0).value≤9223372036854775807:=fun i=>by
 by_cases hi:i<l.length
 ·have e:l.getD i tk0=l[i]:=by simp [List.getD,hi]
  rw [e]
  exact (h.vals l[i] (List.getElem_mem hi)).1
 ·have e:l.getD i tk0=tk0:=by simp [List.getD,Nat.le_of_not_lt hi]
  rw [e];decide
end
end Go.Abs
namespace Go.Abs
open Go
def pgZ:PgD:=⟨[],[],[],[],[]⟩
def zgR (s:List UInt8):PgD × Int × Int:=
 if (zhv s).2.2≠0 then (pgZ,(zhv s).2.1,(zhv s).2.2)
 else match zjV (zhv s).1 with
  |.ok p _=>if zt1 p > 16 then (pgZ,0,6) else (p,0,0)
  |.bad k=>(pgZ,zar (zhv s).1 s.length k,1)
  |.out=>(pgZ,0,0)
theorem zo7 (s:List UInt8):szP (zgR s).1≤1000000000:=by
 have h0:szP pgZ≤1000000000:=by decide
 unfold zgR
 split
 ·exact h0
 ·rename_i h
  obtain ⟨hs,l,hSc,e⟩:=zoS s (by simpa using h)
  rw [e]
  have:=hSc.len
  split
  ·rename_i p k hr
   have:=zmm hr
   split
   ·exact h0
   ·simp only at *;omega
  ·exact h0
  ·exact h0
def zcK (s:List UInt8):List (List UInt8):=(zal 10 s).dropLast
def zgo (s:List UInt8):Bool:=decide ((zal 10 s).getLast (zbM 10 s)≠[])
def zek (s:List UInt8):CdD × Int:=if (zgR s).2.2≠0 then (cd0,(zgR s).2.2) else zbu (zgR s).1
def zcq:List (List UInt8)→List UInt8→Option (List UInt8 × List (List UInt8))
 |[],_=>none
 |l::r,b=>if l=[101,110,100] then some (b,r) else zcq r (b++(l++[10]))
inductive HR where
 |ok (cs:List CdD) (rest:List (List UInt8)) (at_:Int)
 |bad (at_:Int) (e:Int)
def zcr:Nat→List (List UInt8)→Int→List CdD→HR
 |0,_,at_,_=>.bad at_ 1
 |_+1,[],at_,_=>.bad at_ 1
 |f+1,l::r,at_,cs=>
  if l=[112,114,111,99,101,115,115] then
   if 5≤cs.length then .bad at_ 4
   else match zcq r [] with
    |none=>.bad (at_+1+r.length) 1
    |some (b,r')=>if (zek b).2≠0 then .bad at_ (zek b).2 else zcr f r' (at_+1+(r.length - r'.length:Nat)) (cs++[(zek b).1])
  else if l=[115,116,101,112,115]∧cs≠[] then .ok cs r (at_+1)
  else .bad at_ 1
def zbX (torn:Bool):List (List UInt8)→Int→List StD→(List StD × Int × Int)
 |[],at_,xs=>if torn then ([],at_,1) else (xs,0,0)
 |l::r,at_,xs=>match zgn l with
  |none=>([],at_,1)
  |some x=>if 400≤xs.length then ([],at_,4) else zbX torn r (at_+1) (xs++[x])
/-! ### Writing -/
def zgS (p:PgD):List UInt8:=[112,114,111,99,101,115,115,10]++(zqp p).1++[101,110,100,10]
def zrY (p:PgD):Bool:=decide ((zqp p).2≠0)
def zmR (x:StD):Bool:=decide (wdF x.kind=[]) || !zeB x
def zlk (protocol faults:Int):List UInt8:=[112,114,111,116,111,99,111,108,32]++prF protocol++[32]++itT faults++[10]
def zig (ps:List PgD) (protocol faults:Int) (l:List StD):List UInt8:=
 zlk protocol faults++ps.flatMap zgS++[115,116,101,112,115,10]++l.flatMap fun x=>zbf x++[10]
def zcC (ps:List PgD) (protocol faults:Int) (l:List StD):List UInt8 × Int:=
 if protocol<1∨8<protocol then ([],17)
 else if ps=[]∨5<ps.length∨400<l.length then ([],4)
 else match ps.find? zrY with
  |some p=>([],(zqp p).2)
  |none=>match l.find? zmR with
   |some x=>([],if wdF x.kind=[] then 17 else 7)
   |none=>if 65536<(zig ps protocol faults l).length then ([],5) else (zig ps protocol faults l,0)
structure ScD where
 codes:List CdD
 protocol:Int
 faults:Int
 steps:List StD
def zel (line:List UInt8):Int × Int × Bool:=match zal 32 line with
 |[a,b,c]=>if a=[112,114,111,116,111,99,111,108]∧b ∈ zmQ.tail then ((zmQ.idxOf b:Int),(zaX c).1,(zaX c).2) else (0,0,false)
 |_=>(0,0,false)
def zmn (s:List UInt8):ScD × Int × Int:=
 if 65536<s.length then (⟨[],0,0,[]⟩,0,5)
 else match zcK s with
  |[]=>(⟨[],0,0,[]⟩,1,1)
  |l::r=>if (zel l).2.2=false then (⟨[],0,0,[]⟩,1,1)
   else match zcr (r.length+1) r 2 [] with
    |.bad a e=>(⟨[],0,0,[]⟩,a,e)
    |.ok cs r' a=>if (zbX (zgo s) r' a []).2.2≠0 then (⟨[],0,0,[]⟩,(zbX (zgo s) r' a []).2.1,(zbX (zgo s) r' a []).2.2)
     else (⟨cs,(zel l).1,(zel l).2.1,(zbX (zgo s) r' a []).1⟩,0,0)
theorem zys (s:List UInt8) (a i:Nat):cut s a i=(s.drop a).take (i - a):=by
 unfold cut
 rw [List.drop_take]
theorem zxy (c:UInt8) (s:List UInt8) (a i:Nat) (h:a≤i) (hi:i<s.length) (no:∀ k,a≤k→k<i→s.getD k 0≠c) (hc:s.getD i 0=c):zal c (s.drop a)=cut s a i::zal c (s.drop (i+1)):=by
 have e:s.drop a=cut s a i++c::s.drop (i+1):=by
  conv=>lhs;rw [←List.take_append_drop (i - a) (s.drop a)]
  rw [←zys,List.drop_drop,show a+(i - a)=i by omega,List.drop_eq_getElem_cons hi]
  congr 2
  rw [←hc,List.getD_eq_getElem?_getD,List.getElem?_eq_getElem hi]
  rfl
 rw [e]
 refine zfS c _ _ ?_
 intro hm
 rw [zys] at hm
 obtain ⟨k,hk,he⟩:=List.getElem_of_mem hm
 have hk':k<i - a:=by simp at hk;omega
 rw [List.getElem_take,List.getElem_drop] at he
 refine no (a+k) (by omega) (by omega) ?_
 rw [List.getD_eq_getElem?_getD,List.getElem?_eq_getElem (by omega)]
 exact he
theorem zuH (c:UInt8) (s:List UInt8) (a:Nat) (no:∀ k,a≤k→k<s.length→s.getD k 0≠c):zal c (s.drop a)=[cut s a s.length]:=by
 have e:cut s a s.length=s.drop a:=by unfold cut;rw [List.take_length]
 rw [e]
 refine zeT c _ ?_
 intro hm
 obtain ⟨k,hk,he⟩:=List.getElem_of_mem hm
 have hk':k<s.length - a:=by simpa using hk
 rw [List.getElem_drop] at he
 refine no (a+k) (by omega) (by omega) ?_
 rw [List.getD_eq_getElem?_getD,List.getElem?_eq_getElem (by omega)]
 exact he
structure WI (c:UInt8) (s:List UInt8) where
 i:Nat
 a:Nat
 acc:List (List UInt8)
 ha:a≤i
 hi:i≤s.length
 no:∀ k,a≤k→k<i→s.getD k 0≠c
 hl:acc.length≤i
 eq:zal c s=acc++zal c (s.drop a)
variable {c:UInt8} {s:List UInt8} (w:WI c s)
def WI.start (c:UInt8) (s:List UInt8):WI c s:=⟨0,0,[],Nat.le_refl _,Nat.zero_le _,fun _ _ h=>absurd h (Nat.not_lt_zero _),by simp,by simp⟩
def WI.skip (h:w.i<s.length) (hc:s.getD w.i 0≠c):WI c s:=⟨w.i+1,w.a,w.acc,by have:=w.ha;omega,h,fun k h1 h2=>by
 rcases Nat.lt_or_ge k w.i with h3|h3
 ·exact w.no k h1 h3
 ·rw [show k=w.i by omega];exact hc,by have:=w.hl;omega,w.eq⟩
def WI.push (h:w.i<s.length) (hc:s.getD w.i 0=c):WI c s:=⟨w.i+1,w.i+1,w.acc++[cut s w.a w.i],Nat.le_refl _,h,fun k h1 h2=>absurd h2 (by omega),by have:=w.hl;simp;omega,by
 rw [w.eq,zxy c s w.a w.i w.ha h w.no hc];simp⟩
theorem WI.skip_i (h:w.i<s.length) (hc:s.getD w.i 0≠c):(w.skip h hc).i=w.i+1:=rfl
theorem WI.skip_a (h:w.i<s.length) (hc:s.getD w.i 0≠c):(w.skip h hc).a=w.a:=rfl
theorem WI.skip_acc (h:w.i<s.length) (hc:s.getD w.i 0≠c):(w.skip h hc).acc=w.acc:=rfl
theorem WI.push_i (h:w.i<s.length) (hc:s.getD w.i 0=c):(w.push h hc).i=w.i+1:=rfl
theorem WI.push_a (h:w.i<s.length) (hc:s.getD w.i 0=c):(w.push h hc).a=w.i+1:=rfl
theorem WI.push_acc (h:w.i<s.length) (hc:s.getD w.i 0=c):(w.push h hc).acc=w.acc++[cut s w.a w.i]:=rfl
theorem WI.start_i (c:UInt8) (s:List UInt8):(WI.start c s).i=0:=rfl
theorem WI.start_a (c:UInt8) (s:List UInt8):(WI.start c s).a=0:=rfl
theorem WI.start_acc (c:UInt8) (s:List UInt8):(WI.start c s).acc=[]:=rfl
theorem WI.fin (h:w.i=s.length):zal c s=w.acc++[cut s w.a s.length]:=by
 rw [w.eq,zuH c s w.a (fun k h1 h2=>w.no k h1 (by omega))]
def zff (x:List UInt8):List PVal:=[.str x]
end Go.Abs
namespace Go.Abs
open Go
theorem zuI:∀ (l:List UInt8) (acc:Nat),(∀ c ∈ l,isD c=true)→zh7 l acc<(acc+1) * 10 ^ l.length
 |[],acc,_=>by simp [zh7]
 |c::r,acc,h=>by
  have hc:=zcQ (h c (by simp))
  have ih:=zuI r (acc * 10+(c.toNat - 48)) (fun x hx=>h x (by simp [hx]))
  rw [zeL,List.length_cons,Nat.pow_succ]
  refine Nat.lt_of_lt_of_le ih ?_
  have h1:acc * 10+(c.toNat - 48)+1≤(acc+1) * 10:=by omega
  calc (acc * 10+(c.toNat - 48)+1) * 10 ^ r.length≤((acc+1) * 10) * 10 ^ r.length:=Nat.mul_le_mul_right _ h1
   _=(acc+1) * (10 ^ r.length * 10):=by rw [Nat.mul_assoc,Nat.mul_comm 10]
theorem zAF (l:List UInt8) (h:∀ c ∈ l,isD c=true):zbc l<10 ^ l.length:=by
 have:=zuI l 0 h
 simpa [zbc] using this
theorem zef (d:List UInt8) (k:Nat) (hk:k≤d.length) (h:∀ j,j<k→isD (d.getD j 0)=true):∀ c ∈ d.take k,isD c=true:=by
 intro c hc
 obtain ⟨j,hj,rfl⟩:=List.getElem_of_mem hc
 have hj':j<k:=by simp at hj;omega
 have:=h j hj'
 rw [List.getElem_take]
 rwa [List.getD_eq_getElem?_getD,List.getElem?_eq_getElem (by omega)] at this
theorem zhE (d:List UInt8) (k:Nat) (hk:k<d.length):zbc (d.take (k+1))=zbc (d.take k) * 10+((d.getD k 0).toNat - 48):=by
 rw [List.take_succ_eq_append_getElem hk]
 unfold zbc
 rw [zeZ,zeL,List.getD_eq_getElem?_getD,List.getElem?_eq_getElem hk]
 simp [zh7]
theorem zc0 (d:List UInt8) (k:Nat) (hk:k≤d.length) (h:∀ j,j<k→isD (d.getD j 0)=true) (h19:d.length≤19):zbc (d.take k)<10000000000000000000:=by
 have h1:=zAF _ (zef d k hk h)
 have h2:10 ^ (d.take k).length≤10 ^ 19:=Nat.pow_le_pow_right (by omega) (by simp;omega)
 have h3:(10:Nat) ^ 19=10000000000000000000:=by decide
 omega
theorem zi7 (v:Nat) (h:v<10000000000000000000):IntKind.i64.wrap (IntKind.u64.wrap (-(v:Int)))=IntKind.i64.wrap (-(v:Int)):=by
 by_cases h0:v=0
 ·subst h0;decide
 ·have e:IntKind.u64.wrap (-(v:Int))=18446744073709551616 - v:=by
   simp [IntKind.wrap,IntKind.bits,IntKind.signed]
   omega
  rw [e,IntKind.wrap_i64,IntKind.wrap_i64]
  omega
def znO (b:List UInt8):Nat→Int
 |0=>0
 |k+1=>if 1≤k∧prF k=b then k else znO b k
theorem zqB (b:List UInt8):znO b 1=0:=by simp [znO]
theorem zyt (b:List UInt8) (k:Nat) (h:1≤k) (e:prF k=b):znO b (k+1)=k:=by rw [znO,if_pos ⟨h,e⟩]
theorem zyu (b:List UInt8) (k:Nat) (e:prF k≠b):znO b (k+1)=znO b k:=by rw [znO,if_neg (fun h=>e h.2)]
def zc1 (line:List UInt8) (f:Int):Int × Int × Bool:=match zal 32 line with
 |[a,b,c]=>if a=[112,114,111,116,111,99,111,108] then (znO b 9,(zsD c).1,(zsD c).2&&(znO b 9 != 0)) else (0,f,false)
 |_=>(0,f,false)
theorem znP (line:List UInt8) (f:Int) (h:(zal 32 line).length≠3):zc1 line f=(0,f,false):=by
 unfold zc1
 match hs:zal 32 line with
 |[]=>rfl
 |[a]=>rfl
 |[a,b]=>rfl
 |[a,b,c]=>rw [hs] at h;exact absurd rfl h
 |a::b::c::d::r=>rfl
theorem zqC (line:List UInt8) (f:Int) (a b c:List UInt8) (hs:zal 32 line=[a,b,c]):zc1 line f=if a=[112,114,111,116,111,99,111,108] then (znO b 9,(zsD c).1,(zsD c).2&&(znO b 9 != 0)) else (0,f,false):=by
 unfold zc1
 rw [hs]
theorem zxB (P:Nat→Prop) (h:P 1∧P 2∧P 3∧P 4∧P 5∧P 6∧P 7∧P 8) (k:Nat) (h1:1≤k) (h2:k≤8):P k:=by
 obtain ⟨a1,a2,a3,a4,a5,a6,a7,a8⟩:=h
 have:k=1∨k=2∨k=3∨k=4∨k=5∨k=6∨k=7∨k=8:=by omega
 rcases this with rfl|rfl|rfl|rfl|rfl|rfl|rfl|rfl<;>assumption
theorem zuJ (k:Nat) (h1:1≤k) (h2:k≤8):prF k ∈ zmQ.tail:=by
 refine zxB (fun k=>prF (k:Nat) ∈ zmQ.tail) ?_ k h1 h2
 decide
theorem zqD (k:Nat) (h1:1≤k) (h2:k≤8):znO (prF k) 9=k∧(zmQ.idxOf (prF k):Int)=k:=by
 refine zxB (fun k=>znO (prF (k:Nat)) 9=(k:Nat)∧(zmQ.idxOf (prF (k:Nat)):Int)=(k:Nat)) ?_ k h1 h2
 decide
theorem zqE (b:List UInt8) (h:b ∉ zmQ.tail):∀ n:Nat,n≤9→znO b n=0
 |0,_=>rfl
 |n+1,hn=>by
  rw [znO,if_neg,zqE b h n (by omega)]
  rintro ⟨h1,rfl⟩
  exact h (zuJ n h1 (by omega))
theorem znQ (b:List UInt8) (h:b ∈ zmQ.tail):∃ k:Nat,1≤k∧k≤8∧b=prF k:=by
 simp only [zmQ,List.tail_cons,List.mem_cons,List.not_mem_nil,or_false] at h
 rcases h with rfl|rfl|rfl|rfl|rfl|rfl|rfl|rfl
 ·exact ⟨1,by omega,by omega,by decide⟩
 ·exact ⟨2,by omega,by omega,by decide⟩
 ·exact ⟨3,by omega,by omega,by decide⟩
 ·exact ⟨4,by omega,by omega,by decide⟩
 ·exact ⟨5,by omega,by omega,by decide⟩
 ·exact ⟨6,by omega,by omega,by decide⟩
 ·exact ⟨7,by omega,by omega,by decide⟩
 ·exact ⟨8,by omega,by omega,by decide⟩
theorem zll (line:List UInt8) (f:Int):(zc1 line f).2.2=(zel line).2.2∧((zel line).2.2=true→zc1 line f=zel line):=by
 by_cases h3:(zal 32 line).length=3
 ·match hs:zal 32 line,h3 with
  |[a,b,c],_=>
   rw [zqC line f a b c hs]
   have hh:zel line=if a=[112,114,111,116,111,99,111,108]∧b ∈ zmQ.tail then ((zmQ.idxOf b:Int),(zaX c).1,(zaX c).2) else (0,0,false):=by
    unfold zel;rw [hs]
   rw [hh]
   by_cases ha:a=[112,114,111,116,111,99,111,108]
   ·rw [if_pos ha]
    by_cases hb:b ∈ zmQ.tail
    ·rw [if_pos ⟨ha,hb⟩]
     obtain ⟨k,h1,h2,rfl⟩:=znQ b hb
     obtain ⟨e1,e2⟩:=zqD k h1 h2
     rw [e1,e2,zoZ]
     have hk:((k:Int) != 0)=true:=by simp;omega
     rw [hk,Bool.and_true]
     by_cases hn:(zaX c).2=true
     ·rw [if_pos hn,hn];exact ⟨rfl,fun _=>rfl⟩
     ·rw [if_neg hn]
      have:(zaX c).2=false:=by simpa using hn
      rw [this]
      exact ⟨rfl,fun h=>by cases h⟩
    ·rw [if_neg (fun h=>hb h.2),zqE b hb 9 (by omega)]
     simp
   ·rw [if_neg ha,if_neg (fun h=>ha h.1)]
    simp
 ·rw [znP line f h3]
  have hh:zel line=(0,0,false):=by
   unfold zel
   match hs:zal 32 line with
   |[]=>rfl
   |[a]=>rfl
   |[a,b]=>rfl
   |[a,b,c]=>rw [hs] at h3;exact absurd rfl h3
   |a::b::c::d::r=>rfl
  rw [hh]
  simp
theorem zhF (c:UInt8) (s:List UInt8):∀ w ∈ zal c s,w.length≤s.length:=by
 intro w hw
 have hj:=zie c s
 have key:∀ (l:List (List UInt8)) (w:List UInt8),w ∈ l→w.length≤(zgP c l).length:=by
  intro l
  induction l with
  |nil=>intro w hw;simp at hw
  |cons a r ih=>
   intro w hw
   cases r with
   |nil=>simp at hw;subst hw;simp [zgP]
   |cons b r=>
    rcases List.mem_cons.1 hw with rfl|hw
    ·simp [zgP]
    ·have:=ih w hw
     simp only [zgP,List.length_append,List.length_cons]
     omega
 have:=key _ w hw
 rw [hj] at this
 exact this
theorem zhG (c:UInt8):∀ s:List UInt8,(zal c s).length≤s.length+1
 |[]=>by simp [zal]
 |x::r=>by
  have ih:=zhG c r
  rw [zal]
  split
  ·simp;omega
  ·match hs:zal c r,zbM c r with
   |a::t,_=>rw [hs] at ih;simp at ih ⊢;omega
def zcW (line:List UInt8):StD × Bool:=match zgn line with
 |some x=>(x,true)
 |none=>(st0,false)
theorem zf9 {line a:List UInt8} {l:List (List UInt8)} (hs:zal 32 line=a::l):zcW line=match zj9 a l with
 |some x=>(x,true)
 |none=>(st0,false):=by
 unfold zcW zgn
 rw [hs]
theorem zlm {line a:List UInt8} {l:List (List UInt8)} (hs:zal 32 line=a::l) (hno:∀ j:Nat,1≤j→j<15→wdF j≠a):zcW line=(st0,false):=by
 rw [zf9 hs]
 have:zj9 a l=none:=by
  unfold zj9
  by_cases h:kdF a<1∨14<kdF a
  ·rw [if_pos h]
  ·exfalso
   have h2:=zD2 a (by omega) (by omega)
   have h3:((kdF a).toNat:Int)=kdF a:=by omega
   exact hno (kdF a).toNat (by omega) (by omega) (by rw [h3];exact h2)
 rw [this]
theorem zkh (k:Int) (h1:1≤k) (h2:k≤14) (l:List (List UInt8)):zj9 (wdF k) l=if l.length≠nfF k then none else if (l.all fun w=>(zaX w).2)=false then none else some (zej k (l.map fun w=>(zaX w).1)):=by
 unfold zj9
 rw [zAz k h1 h2,if_neg (by omega)]
theorem zdK {line:List UInt8} {k:Int} {l:List (List UInt8)} (hs:zal 32 line=wdF k::l) (h1:1≤k) (h2:k≤14) (hl:l.length≠nfF k):zcW line=(st0,false):=by
 rw [zf9 hs,zkh k h1 h2,if_pos hl]
theorem zAG {line:List UInt8} {k:Int} (hs:zal 32 line=[wdF k]) (h1:1≤k) (h2:k≤14) (h:shF k=0):zcW line=(⟨k,0,0,0⟩,true):=by
 have hn:nfF k=0:=by simp [nfF,h]
 rw [zf9 hs,zkh k h1 h2,if_neg (by rw [hn];simp)]
 simp [zej,h]
theorem zAH {line b:List UInt8} {k:Int} (hs:zal 32 line=[wdF k,b]) (h1:1≤k) (h2:k≤14) (h:shF k=1):zcW line=if (zaX b).2=true then (⟨k,0,(zaX b).1,0⟩,true) else (st0,false):=by
 have hn:nfF k=1:=by simp [nfF,h]
 rw [zf9 hs,zkh k h1 h2,if_neg (by rw [hn];simp)]
 cases h3:(zaX b).2<;>simp [zej,h,h3]
theorem zAI {line b:List UInt8} {k:Int} (hs:zal 32 line=[wdF k,b]) (h1:1≤k) (h2:k≤14) (h:shF k=3):zcW line=if (zaX b).2=true then (⟨k,(zaX b).1,0,0⟩,true) else (st0,false):=by
 have hn:nfF k=1:=by simp [nfF,h]
 rw [zf9 hs,zkh k h1 h2,if_neg (by rw [hn];simp)]
 cases h3:(zaX b).2<;>simp [zej,h,h3]
theorem zAJ {line b c:List UInt8} {k:Int} (hs:zal 32 line=[wdF k,b,c]) (h1:1≤k) (h2:k≤14) (h:shF k=2):zcW line=if (zaX b).2=true then (if (zaX c).2=true then (⟨k,(zaX b).1,0,(zaX c).1⟩,true) else (st0,false)) else (st0,false):=by
 have hn:nfF k=2:=by simp [nfF,h]
 rw [zf9 hs,zkh k h1 h2,if_neg (by rw [hn];simp)]
 cases h3:(zaX b).2<;>cases h4:(zaX c).2<;>simp [zej,h,h3,h4]
theorem zqF {w:List UInt8} (h:(zaX w).2=true):zsD w=((zaX w).1,true):=by rw [zoZ,if_pos h]
theorem zqG {w:List UInt8} (h:(zaX w).2=false):zsD w=(0,false):=by rw [zoZ,if_neg (by rw [h];simp)]
theorem zAK (k:Nat) (h:k<15):((zxn.map PVal.str).drop k).take 1=[.str (wdF k)]:=by
 have:k=0∨k=1∨k=2∨k=3∨k=4∨k=5∨k=6∨k=7∨k=8∨k=9∨k=10∨k=11∨k=12∨k=13∨k=14:=by omega
 rcases this with rfl|rfl|rfl|rfl|rfl|rfl|rfl|rfl|rfl|rfl|rfl|rfl|rfl|rfl|rfl<;>rfl
theorem zAL (k:Nat) (h:k<9):((zmQ.map PVal.str).drop k).take 1=[.str (prF k)]:=by
 have:k=0∨k=1∨k=2∨k=3∨k=4∨k=5∨k=6∨k=7∨k=8:=by omega
 rcases this with rfl|rfl|rfl|rfl|rfl|rfl|rfl|rfl|rfl<;>rfl
variable {P:Program} {env:Env} {pin:Nat} {σ:St} {Q:Exit→St→Prop}
def RN (P:Program) (env:Env) (pin:Nat) (c:Code) (Q:Exit→St→Prop) (t:Tg (c,Q)):Nat→St→Prop
 |0,_=>False
 |n+1,σ=>VC P env pin c σ (zg5 (fun σ'=>RN P env pin c Q t n σ') Q)
theorem zfJ (c:Code) (t:Tg (c,Q)) (n:Nat) (σ:St):RN P env pin c Q t (n+1) σ=VC P env pin c σ (zg5 (fun σ'=>RN P env pin c Q t n σ') Q):=rfl
theorem LW.rounds {c:Code} {t:Tg (Code.loop c,Q)} (hE:za1 P env) (hm:P.follows .mixedOrders=true) (n:Nat) (h:RN P env pin c Q .mk n σ):LW P env pin (.loop c) σ Q t:=by
 refine SW.loop (ι:={q:Nat × St // RN P env pin c Q .mk q.1 q.2}) (fun q=>q.1.2) (fun q=>q.1.1) ⟨(n,σ),h⟩ (zaY.refl _) ?_
 rintro ⟨⟨k,s⟩,hk⟩
 cases k with
 |zero=>exact hk.elim
 |succ k=>
  refine (VC.to hE hm c hk).mono fun e σ' hq=>?_
  cases e with
  |normal=>exact ⟨⟨(k,σ'),hq⟩,zaY.refl _,Nat.lt_succ_self _⟩
  |_=>exact hq
end Go.Abs
namespace Go.Abs
open Go
variable {P:Program} {env:Env} {pin:Nat} {σ:St} {Q:Exit→St→Prop}
variable {K:KT} {t:Tg K} {f:FuncId} {vals:List AVal} {d:Option Nat} {rest:List COp} {acc:Option Tr}
theorem VX.sb {b w:Bool} {r:Option Eff} {T:List Nat} (h1:b=true→VX P env K t (b=w) r T d rest acc σ) (h2:b=false→VX P env K t (b=w) r T d rest acc σ):VX P env K t (b=w) r T d rest acc σ:=by
 cases b
 ·exact h2 rfl
 ·exact h1 rfl
theorem CK.sb {b w:Bool} (h1:b=true→CK P env K t (b=w) f vals d rest acc σ) (h2:b=false→CK P env K t (b=w) f vals d rest acc σ):CK P env K t (b=w) f vals d rest acc σ:=by
 cases b
 ·exact h2 rfl
 ·exact h1 rfl
theorem VX.sa {b w:Bool} {q:Prop} {r:Option Eff} {T:List Nat} (h1:b=true→VX P env K t (b=w∧q) r T d rest acc σ) (h2:b=false→VX P env K t (b=w∧q) r T d rest acc σ):VX P env K t (b=w∧q) r T d rest acc σ:=by
 cases b
 ·exact h2 rfl
 ·exact h1 rfl
theorem CK.sa {b w:Bool} {q:Prop} (h1:b=true→CK P env K t (b=w∧q) f vals d rest acc σ) (h2:b=false→CK P env K t (b=w∧q) f vals d rest acc σ):CK P env K t (b=w∧q) f vals d rest acc σ:=by
 cases b
 ·exact h2 rfl
 ·exact h1 rfl
end Go.Abs
namespace Go.Abs
open Go
theorem zc2:∀ (l:List (List UInt8)) (b b':List UInt8) (r:List (List UInt8)),zcq l b=some (b',r)→r.length<l.length
 |[],_,_,_,h=>by simp [zcq] at h
 |x::l,b,b',r,h=>by
  rw [zcq] at h
  split at h
  ·cases h;simp
  ·have:=zc2 l _ _ _ h
   simp;omega
def zkT (l:List (List UInt8)):Nat:=(l.map fun x=>x.length+1).sum
theorem zce (x:List UInt8) (l:List (List UInt8)):zkT (x::l)=x.length+1+zkT l:=by simp [zkT]
structure PcI (ls:List (List UInt8)) (k0:Nat) where
 k:Nat
 b:List UInt8
 hk:k≤ls.length
 eq:zcq (ls.drop k) b=zcq (ls.drop k0) []
 hb:b.length+zkT (ls.drop k)≤1000000
theorem PcI.line {ls:List (List UInt8)} {k0:Nat} (i:PcI ls k0) (h:i.k<ls.length):ls.drop i.k=ls.getD i.k []::ls.drop (i.k+1):=by
 rw [List.drop_eq_getElem_cons h]
 simp [List.getD,h]
def PcI.next {ls:List (List UInt8)} {k0:Nat} (i:PcI ls k0) (h:i.k<ls.length) (hne:ls.getD i.k []≠[101,110,100]):PcI ls k0:=
 ⟨i.k+1,i.b++(ls.getD i.k []++[10]),h,by
  rw [←i.eq,i.line h,zcq,if_neg hne],by
  have:=i.hb
  rw [i.line h,zce] at this
  simp only [List.length_append,List.length_cons,List.length_nil]
  omega⟩
theorem PcI.fin {ls:List (List UInt8)} {k0:Nat} (i:PcI ls k0) (h:i.k<ls.length) (he:ls.getD i.k []=[101,110,100]):zcq (ls.drop k0) []=some (i.b,ls.drop (i.k+1)):=by
 rw [←i.eq,i.line h,zcq,if_pos he]
theorem PcI.out {ls:List (List UInt8)} {k0:Nat} (i:PcI ls k0) (h:¬ i.k<ls.length):zcq (ls.drop k0) []=none:=by
 rw [←i.eq,List.drop_eq_nil_of_le (by omega),zcq]
section
variable {P:Program} {env:Env} {pin:Nat} {σ σ':St} {Q:Exit→St→Prop}
theorem Rel.wkL {E:Ent} {g:Gh} {M:Mem} {a a':Act} {w:World} (hR:Rel E σ g M a w) (τ:Nat→Nat) (hsize:a'.tmps.size=σ'.slots.length) (hdef:a'.defers=E.ds)
  (hs:∀ i,i<σ'.slots.length→σ'.slot i=.junk∨∃ x,V g σ.dom M x (a'.tmps.getD i undef)∧x=ren τ (σ'.slot i)∧zaB (zaq σ'.objs) (σ'.slot i)=true)
  (ho:zbe τ (zaq σ'.objs) σ 0 σ'.objs) (hinj:∀ i j o o',σ'.obj i=some o→o≠.dead→σ'.obj j=some o'→o'≠.dead→τ i=τ j→i=j) :
  Rel E σ' ⟨fun k=>g.ρ (τ k),fun k=>g.κ (τ k),fun k=>g.ν (τ k)⟩ M a' w:=by
 have hdom:∀ k,zaq σ'.objs k=true→σ'.dom k:=fun k hk h0=>by
  have h1:σ'.objs.getD k none=none:=h0
  simp only [zaq] at hk
  rw [h1] at hk;cases hk
 have hsc:∀ k,zaq σ'.objs k=true→σ'.dom k∧(⟨fun k=>g.ρ (τ k),fun k=>g.κ (τ k),fun k=>g.ν (τ k)⟩:Gh).ρ k=g.ρ (τ k)∧(⟨fun k=>g.ρ (τ k),fun k=>g.κ (τ k),fun k=>g.ν (τ k)⟩:Gh).κ k=g.κ (τ k)∧(⟨fun k=>g.ρ (τ k),fun k=>g.κ (τ k),fun k=>g.ν (τ k)⟩:Gh).ν k=g.ν (τ k):=
  fun k hk=>⟨hdom k hk,rfl,rfl,rfl⟩
 have hown:∀ k ob,zbp (⟨fun k=>g.ρ (τ k),fun k=>g.κ (τ k),fun k=>g.ν (τ k)⟩:Gh) k ob=zbp g (τ k) ob:=fun k ob=>by cases ob<;>rfl
 have hget:∀ k ob b,σ'.obj k=some ob→zbp (⟨fun k=>g.ρ (τ k),fun k=>g.κ (τ k),fun k=>g.ν (τ k)⟩:Gh) k ob=some b→σ.obj (τ k)=some (zgW τ ob)∧zbp g (τ k) (zgW τ ob)=some b∧k<σ'.objs.length:=fun k ob b hk hb=>by
  rcases zeG ho k ob hk with rfl|⟨h1,_⟩
  ·simp [zbp] at hb
  ·rw [Nat.zero_add] at h1
   exact ⟨h1,by rw [zc6,←hown];exact hb,zcU hk⟩
 refine ⟨hsize,hdef,?_,?_,?_,?_,hR.sat,hR.M0,hR.Mnew,hR.size0,hR.same,?_,hR.os,hR.tape,hR.output⟩
 ·intro i hi
  rcases hs i hi with h1|⟨x,h1,h2,h3⟩
  ·rw [h1];exact .junk _
  ·exact zvA hsc h1 _ h2 h3
 ·intro k ob hk
  rcases zeG ho k ob hk with rfl|⟨h1,h2⟩
  ·trivial
  ·rw [Nat.zero_add] at h1
   have hor:=hR.objs _ _ h1
   cases ob with
   |cells cs=>
    obtain ⟨vals,T,hh,hsz,hv⟩:=hor
    refine ⟨vals,T,hh,by rw [hsz,zaL],fun j hj=>?_⟩
    exact zvA hsc (hv j (by rw [zaL];exact hj)) _ (zcN τ cs j) (zb5 _ _ _ h2)
   |row sz xs=>exact hor
   |map kd es=>
    obtain ⟨ents,clock,hh,hsz,hv⟩:=hor
    refine ⟨ents,clock,hh,hsz,fun i e he=>?_⟩
    obtain ⟨en,q1,q2,q3,q4⟩:=hv i e he
    exact ⟨en,q1,q2,q3,zvA hsc q4 _ (ziM _ _).symm (zfq _ _)⟩
   |bh T e B n=>
    obtain ⟨hd,hn,p,hh,hp⟩:=hor
    obtain ⟨k1,k2,k3,k4⟩:=hsc B h2
    exact ⟨k1,hn,p,hh,hp⟩
   |bb e s=>exact hor
   |dead=>trivial
 ·intro k k' ob ob' b hk hk' hb hb'
  obtain ⟨h1,h2,h3⟩:=hget k ob b hk hb
  obtain ⟨h4,h5,h6⟩:=hget k' ob' b hk' hb'
  exact hinj k k' ob ob' hk (fun e=>by subst e;simp [zbp] at hb) hk' (fun e=>by subst e;simp [zbp] at hb') (hR.apart _ _ _ _ b h1 h4 h2 h5)
 ·intro k ob b hk hb i
  obtain ⟨h1,h2,_⟩:=hget k ob b hk hb
  exact hR.offM _ _ b h1 h2 i
 ·intro k ob b hk hb
  obtain ⟨h1,h2,_⟩:=hget k ob b hk hb
  exact hR.own0 _ _ b h1 h2
def zgq:List (Option AObj)→List Nat→List Nat
 |[],_=>[]
 |_,[]=>[]
 |none::r,_::t=>zgq r t
 |some .dead::r,_::t=>zgq r t
 |some (.cells _)::r,k::t=>k::zgq r t
 |some (.row _ _)::r,k::t=>k::zgq r t
 |some (.map _ _)::r,k::t=>k::zgq r t
 |some (.bh _ _ _ _)::r,k::t=>k::zgq r t
 |some (.bb _ _)::r,k::t=>k::zgq r t
theorem zkm:∀ (os:List (Option AObj)) (τ:List Nat) (i:Nat) (o:AObj),os.length=τ.length→os.getD i none=some o→o≠.dead→τ.getD i 0 ∈ zgq os τ
 |[],_,i,o,_,h,_=>by simp [List.getD] at h
 |_::_,[],_,_,hl,_,_=>by simp at hl
 |x::r,k::t,0,o,hl,h,hd=>by
  simp only [List.getD_cons_zero] at h ⊢
  subst h
  cases o<;>simp [zgq] at hd ⊢
 |x::r,k::t,i+1,o,hl,h,hd=>by
  have hm:=zkm r t i o (by simpa using hl) (by simpa [List.getD] using h) hd
  have e:(k::t).getD (i+1) 0=t.getD i 0:=by simp [List.getD]
  rw [e]
  cases x with
  |none=>exact hm
  |some ob=>cases ob<;>first|exact hm|exact List.mem_cons_of_mem _ hm
def zkn:List Nat→Bool
 |[]=>true
 |k::r=>!r.contains k&&zkn r
theorem zqN:∀ (os:List (Option AObj)) (τ:List Nat),os.length=τ.length→zkn (zgq os τ)=true→∀ i j o o',os.getD i none=some o→o≠.dead→os.getD j none=some o'→o'≠.dead→τ.getD i 0=τ.getD j 0→i=j
 |[],_,_,_,i,j,o,o',h,_,_,_,_=>by simp [List.getD] at h
 |_::_,[],hl,_,_,_,_,_,_,_,_,_,_=>by simp at hl
 |x::r,k::t,hl,hn,i,j,o,o',hi,hd,hj,hd',e=>by
  have hl':r.length=t.length:=by simpa using hl
  have tail:zkn (zgq r t)=true:=by
   cases x with
   |none=>exact hn
   |some ob=>cases ob<;>simp only [zgq,zkn,Bool.and_eq_true] at hn<;>first|exact hn|exact hn.2
  have head:∀ ob:AObj,x=some ob→ob≠.dead→k ∉ zgq r t:=fun ob hx hob=>by
   subst hx
   cases ob<;>simp [zgq,zkn] at hn hob ⊢<;>exact hn.1
  match i,j with
  |0,0=>rfl
  |0,j+1=>
   exfalso
   have h1:x=some o:=by simpa using hi
   have h2:=zkm r t j o' hl' (by simpa [List.getD] using hj) hd'
   have e':k=t.getD j 0:=by simpa [List.getD] using e
   rw [←e'] at h2
   exact head o h1 hd h2
  |i+1,0=>
   exfalso
   have h1:x=some o':=by simpa using hj
   have h2:=zkm r t i o hl' (by simpa [List.getD] using hi) hd
   have e':k=t.getD i 0:=by simpa [List.getD] using e.symm
   rw [←e'] at h2
   exact head o' h1 hd' h2
  |i+1,j+1=>
   have:=zqN r t hl' tail i j o o' (by simpa [List.getD] using hi) hd (by simpa [List.getD] using hj) hd' (by simpa [List.getD] using e)
   omega
theorem zaY.wkL (τ:List Nat) (hlen:σ'.objs.length=env.nobj) (hτ:τ.length=env.nobj) (hnd:zkn (zgq σ'.objs τ)=true) (hpin:∀ k,k<pin→tau τ k=k∧(σ.dom k→σ'.dom k))
  (hs:zcB (tau τ) (zaq σ'.objs) σ.slots σ'.slots) (ho:zbe (tau τ) (zaq σ'.objs) σ 0 σ'.objs):zaY env pin σ σ':=fun _=>⟨hlen,fun E g M a w hR=>by
 obtain ⟨hl,hg⟩:=zd5 hs
 refine ⟨_,M,hR.wkL (tau τ) (by rw [hR.size,hl]) hR.defers (fun i hi=>?_) ho (fun i j o o' hi hd hj hd' e=>zqN σ'.objs τ (by omega) hnd i j o o' hi hd hj hd' e),Mem.le_refl _,fun id hid hd=>?_⟩
 ·rcases hg i with h1|⟨h1,h2⟩
  ·exact .inl h1
  ·exact .inr ⟨σ.slot i,hR.slot i,h1,h2⟩
 ·obtain ⟨h1,h2⟩:=hpin id hid
  refine ⟨?_,h2 hd⟩
  simp [Gh.agree,h1]⟩
theorem WMe (τ:List Nat) (hs:zcB (tau τ) (zaq σ'.objs) σ.slots σ'.slots) (ho:zbe (tau τ) (zaq σ'.objs) σ 0 σ'.objs) (hlen:σ'.objs.length=env.nobj:=by rfl) (hτ:τ.length=env.nobj:=by rfl) (hnd:zkn (zgq σ'.objs τ)=true:=by rfl) (hp:∀ k,k<pin→tau τ k=k:=by first|decide|(simp only [List.length_cons,List.length_nil];decide)) (h1:(σ'.objs.take pin).all Option.isSome=true:=by simp) (h2:pin≤σ'.objs.length:=by simp):zaY env pin σ σ':=
 zaY.wkL τ hlen hτ hnd (zBw hp h1 h2) hs ho
end
end Go.Abs
namespace Go.Abs
open Go
def sc0:ScD:=⟨[],0,0,[]⟩
def zem (ls:List (List UInt8)) (torn:Bool):ScD × Int × Int:=
 if (zc1 (ls.getD 0 []) 0).2.2=false then (sc0,1,1)
 else match zcr ls.length (ls.drop 1) 2 [] with
  |.bad a e=>(sc0,a,e)
  |.ok cs r a=>if (zbX torn r a []).2.2≠0 then (sc0,(zbX torn r a []).2.1,(zbX torn r a []).2.2)
   else (⟨cs,(zc1 (ls.getD 0 []) 0).1,(zc1 (ls.getD 0 []) 0).2.1,(zbX torn r a []).1⟩,0,0)
theorem zph (s:List UInt8):zmn s=if 65536<s.length then (sc0,0,5) else zem (zcK s) (zgo s):=by
 unfold zmn
 by_cases hl:65536<s.length
 ·rw [if_pos hl,if_pos hl];rfl
 rw [if_neg hl,if_neg hl]
 cases h:zcK s with
 |nil=>rfl
 |cons l r=>
  obtain ⟨e1,e2⟩:=zll l 0
  unfold zem
  simp only [List.getD_cons_zero,List.length_cons,List.drop_succ_cons,List.drop_zero]
  rw [e1]
  by_cases hh:(zel l).2.2=false
  ·rw [if_pos hh,if_pos hh];rfl
  ·rw [if_neg hh,if_neg hh,e2 (by simpa using hh)]
   rfl
theorem zkq:∀ (l:List (List UInt8)) (b b':List UInt8) (r:List (List UInt8)),zcq l b=some (b',r)→r=l.drop (l.length - r.length)
 |[],_,_,_,h=>by simp [zcq] at h
 |x::l,b,b',r,h=>by
  have hl:=zc2 _ _ _ _ h
  rw [zcq] at h
  split at h
  ·cases h;simp
  ·have hl2:=zc2 _ _ _ _ h
   have:=zkq l _ _ _ h
   simp only [List.length_cons]
   rw [show l.length+1 - r.length=(l.length - r.length)+1 by omega,List.drop_succ_cons]
   exact this
structure RqI (ls:List (List UInt8)) (R:HR) where
 k:Nat
 cs:List CdD
 f:Nat
 hk1:1≤k
 hk:k≤ls.length
 hf:ls.length - k<f
 hcs:cs.length≤5
 eq:zcr f (ls.drop k) ((k:Int)+1) cs=R
section
variable {ls:List (List UInt8)} {R:HR} (i:RqI ls R)
theorem RqI.line (h:i.k<ls.length):ls.drop i.k=ls.getD i.k []::ls.drop (i.k+1):=by
 rw [List.drop_eq_getElem_cons h]
 simp [List.getD,h]
theorem RqI.fuel:∃ g,i.f=g+1:=⟨i.f - 1,by have:=i.hf;omega⟩
theorem RqI.out (h:¬ i.k<ls.length):R=.bad ((i.k+1:Nat):Int) 1:=by
 obtain ⟨g,hg⟩:=i.fuel
 refine i.eq.symm.trans ?_
 rw [hg,List.drop_eq_nil_of_le (by omega),zcr]
 congr 1
theorem RqI.bad (h:i.k<ls.length) (hp:ls.getD i.k []≠[112,114,111,99,101,115,115]) (hs:ls.getD i.k []≠[115,116,101,112,115]∨i.cs=[]):R=.bad ((i.k+1:Nat):Int) 1:=by
 obtain ⟨g,hg⟩:=i.fuel
 refine i.eq.symm.trans ?_
 rw [hg,i.line h,zcr,if_neg hp,if_neg]
 ·congr 1
 ·rintro ⟨a,b⟩
  rcases hs with hs|hs
  ·exact hs a
  ·exact b hs
theorem RqI.steps (h:i.k<ls.length) (hs:ls.getD i.k []=[115,116,101,112,115]) (hc:i.cs≠[]):R=.ok i.cs (ls.drop (i.k+1)) (((i.k+1:Nat):Int)+1):=by
 obtain ⟨g,hg⟩:=i.fuel
 refine i.eq.symm.trans ?_
 rw [hg,i.line h,zcr,hs,if_neg (by decide),if_pos ⟨rfl,hc⟩]
 congr 1
theorem RqI.many (h:i.k<ls.length) (hp:ls.getD i.k []=[112,114,111,99,101,115,115]) (h5:5≤i.cs.length):R=.bad ((i.k+1:Nat):Int) 4:=by
 obtain ⟨g,hg⟩:=i.fuel
 refine i.eq.symm.trans ?_
 rw [hg,i.line h,zcr,if_pos hp,if_pos h5]
 congr 1
theorem RqI.none (h:i.k<ls.length) (hp:ls.getD i.k []=[112,114,111,99,101,115,115]) (h5:¬ 5≤i.cs.length) (hc:zcq (ls.drop (i.k+1)) []=none):R=.bad ((ls.length+1:Nat):Int) 1:=by
 obtain ⟨g,hg⟩:=i.fuel
 refine i.eq.symm.trans ?_
 rw [hg,i.line h,zcr,if_pos hp,if_neg h5,hc]
 simp only [List.length_drop]
 congr 1
 omega
theorem RqI.body (h:i.k<ls.length) (hp:ls.getD i.k []=[112,114,111,99,101,115,115]) (h5:¬ 5≤i.cs.length) {b:List UInt8} {r:List (List UInt8)} (hc:zcq (ls.drop (i.k+1)) []=some (b,r)) (he:(zek b).2≠0):R=.bad ((i.k+1:Nat):Int) (zek b).2:=by
 obtain ⟨g,hg⟩:=i.fuel
 refine i.eq.symm.trans ?_
 rw [hg,i.line h,zcr,if_pos hp,if_neg h5,hc]
 dsimp only
 rw [if_pos he]
 congr 1
def RqI.next (h:i.k<ls.length) (hp:ls.getD i.k []=[112,114,111,99,101,115,115]) (h5:¬ 5≤i.cs.length) {b:List UInt8} {r:List (List UInt8)} (hc:zcq (ls.drop (i.k+1)) []=some (b,r)) (he:(zek b).2=0):RqI ls R:=
 ⟨ls.length - r.length,i.cs++[(zek b).1],i.f - 1,by
  have:=zc2 _ _ _ _ hc
  simp only [List.length_drop] at this
  have:=i.hk1
  omega,by omega,by
  have:=zc2 _ _ _ _ hc
  simp only [List.length_drop] at this
  have:=i.hf
  omega,by simp;omega,by
  obtain ⟨g,hg⟩:=i.fuel
  have hl:=zc2 _ _ _ _ hc
  have hd:=zkq _ _ _ _ hc
  simp only [List.length_drop] at hl
  rw [List.drop_drop,List.length_drop,show i.k+1+(ls.length - (i.k+1) - r.length)=ls.length - r.length by omega] at hd
  refine Eq.trans ?_ i.eq
  rw [hg,i.line h,zcr,if_pos hp,if_neg h5,hc]
  dsimp only
  rw [if_neg (by simpa using he),←hd]
  simp only [List.length_drop,Nat.add_sub_cancel]
  congr 1
  omega⟩
end
structure RsI (ls:List (List UInt8)) (torn:Bool) (S:List StD × Int × Int) where
 k:Nat
 xs:List StD
 hk:k≤ls.length
 hx:xs.length≤400
 eq:zbX torn (ls.drop k) ((k:Int)+1) xs=S
section
variable {ls:List (List UInt8)} {torn:Bool} {S:List StD × Int × Int} (i:RsI ls torn S)
theorem RsI.line (h:i.k<ls.length):ls.drop i.k=ls.getD i.k []::ls.drop (i.k+1):=by
 rw [List.drop_eq_getElem_cons h]
 simp [List.getD,h]
theorem RsI.fin (h:¬ i.k<ls.length) (ht:torn=false):S=(i.xs,0,0):=by
 refine i.eq.symm.trans ?_
 rw [List.drop_eq_nil_of_le (by omega),zbX,if_neg (by rw [ht];simp)]
theorem RsI.cut (h:¬ i.k<ls.length) (ht:torn=true):S=([],((i.k+1:Nat):Int),1):=by
 refine i.eq.symm.trans ?_
 rw [List.drop_eq_nil_of_le (by omega),zbX,if_pos ht]
 rfl
theorem RsI.none (h:i.k<ls.length) (hs:zgn (ls.getD i.k [])=none):S=([],((i.k+1:Nat):Int),1):=by
 refine i.eq.symm.trans ?_
 rw [i.line h,zbX,hs]
 rfl
theorem RsI.many (h:i.k<ls.length) {x:StD} (hs:zgn (ls.getD i.k [])=some x) (h4:400≤i.xs.length):S=([],((i.k+1:Nat):Int),4):=by
 refine i.eq.symm.trans ?_
 rw [i.line h,zbX,hs]
 dsimp only
 rw [if_pos h4]
 rfl
def RsI.next (h:i.k<ls.length) {x:StD} (hs:zgn (ls.getD i.k [])=some x) (h4:¬ 400≤i.xs.length):RsI ls torn S:=
 ⟨i.k+1,i.xs++[x],h,by simp;omega,by
  refine Eq.trans ?_ i.eq
  rw [i.line h,zbX,hs]
  dsimp only
  rw [if_neg h4]
  congr 1⟩
end
end Go.Abs
namespace Go.Abs
open Go
mutual
theorem zyx (l:List VarD):∀ e:Ex,szE (r3E l e).1=szE e
 |.mk op v n a b args=>by simp only [r3E,szE,zuZ l args]
theorem zuZ (l:List VarD):∀ e:List Ex,zh3 (ze1 l e).1=zh3 e
 |[]=>by simp [ze1]
 |e::r=>by simp only [ze1,zh3,zyx l e,zuZ l r]
end
mutual
theorem zEd (l:List VarD):∀ s:Sm,szS (r3S l s).1=szS s
 |.mk k n a b p v body els=>by simp only [r3S,szS,zyx,zmA l body,zmA l els]
theorem zmA (l:List VarD):∀ s:List Sm,zbz (zcd l s).1=zbz s
 |[]=>by simp [zcd]
 |e::r=>by simp only [zcd,zbz,zEd l e,zmA l r]
end
structure CdSz (c:CdD) (n:Nat):Prop where
 h0:c.init.length≤32
 h1:zbz c.start≤n
 h2:zbz c.message≤n
 h3:zbz c.tick≤n
 h4:zbz c.input≤n
theorem zpj (p:PgD):CdSz (zdI p).1 (szP p):=by
 have hz:CdSz cd0 (szP p):=⟨by simp [cd0],by simp [cd0,zbz],by simp [cd0,zbz],by simp [cd0,zbz],by simp [cd0,zbz]⟩
 unfold zdI
 split
 ·exact hz
 ·split
  ·exact hz
  ·split
   ·exact hz
   ·split
    ·exact hz
    ·rename_i hs
     split
     ·exact hz
     ·split
      ·exact hz
      ·cases h:zmP 0 p.vars with
       |none=>exact absurd h hs
       |some m=>
        have:=zme p.vars 0 m (by omega) h
        have h32:mx 0 32=32:=by decide
        rw [h32] at this
        refine ⟨by simp only;omega,?_,?_,?_,?_⟩<;>simp only [zmA]<;>unfold szP<;>omega
def zkU (p:PgD):List PVal:=[.slice (p.vars.map zav),.slice (p.start.map zah),.slice (p.message.map zah),.slice (p.tick.map zah),.slice (p.input.map zah)]
open Go
theorem zmB {α:Type} (q:α→Bool):∀ (l:List α) (k:Nat) (h:k<l.length),(∀ x ∈ l.take k,q x=false)→q l[k]=true→l.find? q=some l[k]
 |x::r,0,_,_,hq=>by simp at hq;simp [List.find?,hq]
 |x::r,k+1,h,hn,hq=>by
  have hx:q x=false:=hn x (by simp)
  have:=zmB q r k (by simpa using h) (fun y hy=>hn y (by simp [hy])) (by simpa using hq)
  simp [List.find?,hx,this]
theorem zpk {α:Type} (q:α→Bool) (l:List α) (h:∀ x ∈ l,q x=false):l.find? q=none:=by
 rw [List.find?_eq_none]
 intro x hx
 simp [h x hx]
theorem zAU (k:Int):(wdF k).length≤10:=by
 by_cases h:k<1∨14<k
 ·unfold wdF;rw [if_pos h];simp
 ·refine zf6 (fun k=>(wdF k).length≤10) ?_ k (by omega) (by omega)
  decide
theorem zu0 (j:Nat) (h1:1≤j) (h2:j≤8):(prF j).length≤11:=by
 refine zxB (fun k=>(prF (k:Nat)).length≤11) ?_ j h1 h2
 decide
theorem zEe (j:Nat) (h1:1≤j) (h2:j≤8):prF j≠[]:=by
 refine zxB (fun k=>prF (k:Nat)≠[]) ?_ j h1 h2
 decide
theorem zqQ (x:StD):(zbf x).length≤60:=by
 have h0:=zAU x.kind
 have h1:=zeA x.place
 have h2:=zeA x.proc
 have h3:=zeA x.value
 unfold zbf zli
 split<;>simp<;>omega
theorem zqR (p:PgD):(zqp p).1.length≤4096:=by
 unfold zqp
 split
 ·simp
 ·split
  ·simp
  ·rename_i h;simp only;omega
theorem zu1 (p:PgD):(zgS p).length≤4110:=by
 have:=zqR p
 simp [zgS]
 omega
theorem zsi (j:Nat) (h1:1≤j) (h2:j≤8) (f:Int):(zlk j f).length≤50:=by
 have h3:=zu0 j h1 h2
 have h4:=zeA f
 simp [zlk]
 omega
theorem zmC {α:Type} (g:α→List UInt8) (B:Nat) (h:∀ x,(g x).length≤B):∀ l:List α,(l.flatMap g).length≤B * l.length
 |[]=>by simp
 |x::r=>by
  have:=zmC g B h r
  have:=h x
  simp only [List.flatMap_cons,List.length_append,List.length_cons,Nat.mul_add]
  omega
def zhJ (x:StD):List UInt8 × Int:=if wdF x.kind=[] then ([],17) else if zeB x=false then ([],7) else (zbf x++[10],0)
theorem zsj (x:StD):zmR x=decide ((zhJ x).2≠0):=by
 unfold zmR zhJ
 by_cases h:wdF x.kind=[]
 ·simp [h]
 ·rw [if_neg h]
  cases hz:zeB x<;>simp [h]
theorem zsk (x:StD) (h:zmR x=true):(zhJ x).2=if wdF x.kind=[] then 17 else 7:=by
 unfold zmR at h
 unfold zhJ
 by_cases h1:wdF x.kind=[]
 ·simp [h1]
 ·rw [if_neg h1,if_neg h1]
  simp [h1] at h
  rw [if_pos h]
section
variable {ps:List PgD} {protocol faults:Int} {l:List StD}
theorem zmD (h:protocol<1∨8<protocol):zcC ps protocol faults l=([],17):=by unfold zcC;rw [if_pos h]
theorem znZ (h:¬ (protocol<1∨8<protocol)) (h2:ps=[]∨5<ps.length∨400<l.length):zcC ps protocol faults l=([],4):=by unfold zcC;rw [if_neg h,if_pos h2]
theorem zn0 (h:¬ (protocol<1∨8<protocol)) (h2:¬ (ps=[]∨5<ps.length∨400<l.length)) (k:Nat) (hk:k<ps.length) (hn:∀ p ∈ ps.take k,zrY p=false) (hb:zrY ps[k]=true):zcC ps protocol faults l=([],(zqp ps[k]).2):=by
 unfold zcC
 rw [if_neg h,if_neg h2,zmB zrY ps k hk hn hb]
theorem ziD (h:¬ (protocol<1∨8<protocol)) (h2:¬ (ps=[]∨5<ps.length∨400<l.length)) (hp:∀ p ∈ ps,zrY p=false) (k:Nat) (hk:k<l.length) (hn:∀ x ∈ l.take k,zmR x=false) (hb:zmR l[k]=true):zcC ps protocol faults l=([],(zhJ l[k]).2):=by
 unfold zcC
 rw [if_neg h,if_neg h2,zpk zrY ps hp,zmB zmR l k hk hn hb,zsk _ hb]
theorem zpl (h:¬ (protocol<1∨8<protocol)) (h2:¬ (ps=[]∨5<ps.length∨400<l.length)) (hp:∀ p ∈ ps,zrY p=false) (hn:∀ x ∈ l,zmR x=false):zcC ps protocol faults l=if 65536<(zig ps protocol faults l).length then ([],5) else (zig ps protocol faults l,0):=by
 unfold zcC
 rw [if_neg h,if_neg h2,zpk zrY ps hp,zpk zmR l hn]
end
structure FpI (ps:List PgD) where
 k:Nat
 hk:k≤ps.length
 no:∀ p ∈ ps.take k,zrY p=false
def FpI.next {ps:List PgD} (i:FpI ps) (h:i.k<ps.length) (hb:zrY ps[i.k]=false):FpI ps:=⟨i.k+1,h,by
 rw [List.take_succ_eq_append_getElem h]
 intro p hp
 rcases List.mem_append.1 hp with hp|hp
 ·exact i.no p hp
 ·simp at hp;subst hp;exact hb⟩
structure FsI (l:List StD) where
 k:Nat
 hk:k≤l.length
 no:∀ x ∈ l.take k,zmR x=false
def FsI.next {l:List StD} (i:FsI l) (h:i.k<l.length) (hb:zmR l[i.k]=false):FsI l:=⟨i.k+1,h,by
 rw [List.take_succ_eq_append_getElem h]
 intro x hx
 rcases List.mem_append.1 hx with hx|hx
 ·exact i.no x hx
 ·simp at hx;subst hx;exact hb⟩
end Go.Abs
namespace Go.Abs
open Go
theorem zn1:∀ (f:Nat) (r:List (List UInt8)) (a:Int) (cs:List CdD) (x e:Int),zcr f r a cs=.bad x e→e≠0
 |0,_,_,_,x,e,h=>by rw [zcr] at h;cases h;decide
 |f+1,[],_,_,x,e,h=>by rw [zcr] at h;cases h;decide
 |f+1,l::r,a,cs,x,e,h=>by
  rw [zcr] at h
  split at h
  ·split at h
   ·cases h;decide
   ·split at h
    ·cases h;decide
    ·split at h
     ·rename_i he
      cases h;exact he
     ·exact zn1 f _ _ _ x e h
  ·split at h
   ·cases h
   ·cases h;decide
theorem zxQ (ls:List (List UInt8)) (torn:Bool) (h:(zem ls torn).2.2=0):∃ d,zem ls torn=(d,0,0):=by
 unfold zem at h ⊢
 split at h
 ·cases h
 ·rename_i h1
  rw [if_neg h1]
  split at h
  ·rename_i a e he
   exact absurd h (zn1 _ _ _ _ _ _ he)
  ·rename_i cs r a he
   split at h
   ·rename_i h2;exact absurd h h2
   ·rename_i h2
    try rw [he]
    try dsimp only
    rw [if_neg h2]
    exact ⟨_,rfl⟩
theorem zu2 (ls:List (List UInt8)) (torn:Bool) (h:(zem ls torn).2.2≠0):∃ a e,zem ls torn=(sc0,a,e)∧e≠0:=by
 unfold zem at h ⊢
 split at h
 ·rename_i h1
  rw [if_pos h1]
  exact ⟨_,_,rfl,by decide⟩
 ·rename_i h1
  rw [if_neg h1]
  split at h
  ·rename_i a e he
   try rw [he]
   exact ⟨_,_,rfl,h⟩
  ·rename_i cs r a he
   split at h
   ·rename_i h2
    try rw [he]
    try dsimp only
    rw [if_pos h2]
    exact ⟨_,_,rfl,h2⟩
   ·exact absurd rfl h
theorem zlr (c:UInt8):∀ s:List UInt8,zkT (zal c s)=s.length+1
 |[]=>by simp [zal,zkT]
 |x::r=>by
  have ih:=zlr c r
  rw [zal]
  split
  ·rw [zce,ih];simp;omega
  ·match hs:zal c r,zbM c r with
   |a::t,_=>
    rw [hs,zce] at ih
    rw [zce];simp;omega
theorem zn2:∀ l:List (List UInt8),zkT l.dropLast≤zkT l
 |[]=>by simp [zkT]
 |[a]=>by simp [zkT]
 |a::b::r=>by
  have:=zn2 (b::r)
  rw [List.dropLast_cons_cons,zce,zce]
  omega
theorem zqS:∀ l:List (List UInt8),l.length≤zkT l
 |[]=>by simp
 |a::r=>by have:=zqS r;rw [zce];simp;omega
theorem zls (s:List UInt8):zkT (zcK s)≤s.length+1∧(zcK s).length≤s.length+1:=by
 have h1:=zn2 (zal 10 s)
 rw [zlr] at h1
 have h2:=zqS (zcK s)
 unfold zcK at h2 ⊢
 omega
theorem zpm (s:List UInt8):((zal 10 s).map fun x=>[PVal.str x]).take ((zal 10 s).length - 1)=(zcK s).map zff:=by
 unfold zcK
 rw [List.dropLast_eq_take,List.map_take]
 rfl
theorem zsl (s:List UInt8):((zal 10 s).map fun x=>[PVal.str x]).getD ((zal 10 s).length - 1) []=[.str ((zal 10 s).getLast (zbM 10 s))]∧((zal 10 s).getLast (zbM 10 s)==[])=!zgo s:=by
 have hp:0<(zal 10 s).length:=List.length_pos_iff.2 (zbM 10 s)
 refine ⟨?_,?_⟩
 ·have hk:(zal 10 s).length - 1<(zal 10 s).length:=by omega
  rw [List.getD_eq_getElem?_getD,List.getElem?_map,List.getElem?_eq_getElem hk,List.getLast_eq_getElem]
  rfl
 ·unfold zgo
  by_cases h:(zal 10 s).getLast (zbM 10 s)=[]
  ·simp [h]
  ·simp [h]
def scA (q:ScD × Int × Int):AVal:=.tup [.agg [.pv (.slice (q.1.codes.map fun c=>[.slice (c.init.map ziv),.slice (c.start.map zah),.slice (c.message.map zah),.slice (c.tick.map zah),.slice (c.input.map zah)])),.pv (.int .i64 q.1.protocol),.pv (.int .i64 q.1.faults)],.pv (.slice (q.1.steps.map zcw)),.pv (.int .i64 q.2.1),.pv (.int .i64 q.2.2)]
theorem zn4 {l:List VarD} {v:VarD} (h:l.any (fun v=>!zbA v)=false) (hm:v ∈ l):zbA v=true:=by
 have:=List.any_eq_false.1 h v hm
 simpa using this
theorem zmE {v:VarD} (h:zbA v=true):0≤v.size:=by
 unfold zbA at h
 split at h
 ·cases h
 ·rename_i h1
  simp at h1
  omega
theorem zmF {v:VarD} (h:zbA v=true):v.init≠-9223372036854775808:=by
 unfold zbA at h
 split at h
 ·cases h
 split at h
 ·cases h
 simpa using h
theorem zsm (n:Int) (h0:-9223372036854775808<n) (h1:n≤9223372036854775807):IntKind.i64.wrap (0 - n)=-n:=by
 rw [zay _ (by omega) (by omega)];omega
end Go.Abs
