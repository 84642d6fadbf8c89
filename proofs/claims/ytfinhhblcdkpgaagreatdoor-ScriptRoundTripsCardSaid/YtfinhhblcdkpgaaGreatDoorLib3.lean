/- A sound walk of the program by abstract states, part 3: its theorems have no condition beyond what they state. -/
import Derived.Test.YtfinhhblcdkpgaaGreatDoorLib2
import Derived.Shelf.Strings.Builder1
import Derived.Shelf.Strings.Split
import Derived.Lib.ParseIntB
import Derived.Lib.Bytealg
import Derived.Lib.Join
import Derived.Lib.ItoaNum
set_option maxRecDepth 100000
set_option maxHeartbeats 64000000
set_option linter.unusedSimpArgs false
set_option linter.unusedVariables false
set_option linter.defProp false
namespace Go.Abs
open Go Go.Proofs Go.Shelf Go.RowKit
def zAV (w:World) (v v':Value):Prop:=v'.ownBlock=v.ownBlock∨∃ g,v'.ownBlock=some g∧w.heap.size≤g
structure AppR (w:World) (e:TypeId) (v v':Value) (n:Nat) (xs:List Value) (w':World):Prop where
 own:w'.ownsRow 0 e 1 v' n xs
 grow:w.grownBy w' v.ownBlock
 place:zAV w v v'
section
variable {P:Program} (w:World)
theorem zrz (t u ty e:TypeId) (i:TypeInfo) (ht:P.underlying t=some (.slice e)) (hu:P.underlying u=some .string) (hi:P.info? e=some i) (hz:i.zero=some (.int .u8 0))
  (hsize:i.size=1) (hby:i.bytes=1) (v:Value) (n:Nat) (xs:List Value) (hown:w.ownsRow 0 e 1 v n xs) (s:ByteArray) (hbytes:n+s.size≤140737488355328) :
  ∃ v' w',(Builtin.append_ #[t,u] ty #[v,.string s]).run P w=.ok v' w'∧AppR w e v v' (n+s.size) (xs++Lib.strCells s) w':=by
 obtain ⟨v',w',hr,h2,h3,h4⟩:=Lib.run_append_own_string (P:=P) w 0 t u ty e i ht hu hi hz hsize hby v n xs hown s (by unfold maxLen;omega) hbytes (Nat.zero_le _)
 refine ⟨v',w',hr,h2,h3,?_⟩
 have hxl:xs.length=n:=by simpa using hown.1
 rcases hown.2 with ⟨rfl,rfl⟩|⟨g,cap,cur,rfl,hbg,hg,hnc,hcm,hcs,htake⟩
 ·by_cases hm:s.size=0
  ·have:=h4.2 ⟨rfl,hm⟩
   subst this
   exact .inl rfl
  ·have hr2:=run_append_nil_string (P:=P) w t u ty e i (.int .u8 0) ht hu hi hz s (by omega) (by omega) (by rw [hby];omega)
   rw [hr] at hr2
   injection hr2 with h5 h6
   exact .inr ⟨w.heap.size,by rw [h5];rfl,Nat.le_refl _⟩
 ·by_cases hroom:n+s.size≤cap
  ·have hcs':cur.size=cap:=by simpa using hcs
   have hr2:=Lib.run_append_room_string (P:=P) w t u ty e i ht hu hi hsize g n cap cur hg s hroom (by omega)
   rw [hr] at hr2
   injection hr2 with h5 h6
   exact .inl (by rw [h5];rfl)
  ·have holds:∀ j u,xs[j]?=some u→w.cell? ((⟨g,0,none⟩:Addr).add j)=some u:=hown.cells (g:=g) rfl
   have hr2:=Lib.run_append_grow_string (P:=P) w t u ty e i (.int .u8 0) ht hu hi hz ⟨g,0,none⟩ n cap xs (by rw [hsize];simpa using hxl) holds s (by omega) (by omega) (by rw [hby];exact growslice_fits (by omega) (by omega))
   rw [hr] at hr2
   injection hr2 with h5 h6
   exact .inr ⟨w.heap.size,by rw [h5];rfl,Nat.le_refl _⟩
theorem zob (t ty e:TypeId) (i:TypeInfo) (ht:P.underlying t=some (.slice e)) (hi:P.info? e=some i) (hz:i.zero=some (.int .u8 0))
  (hsize:i.size=1) (hby:i.bytes=1) (v:Value) (n:Nat) (xs:List Value) (hown:w.ownsRow 0 e 1 v n xs) (a:Addr) (c:Nat) (x:Value) (hx:w.cell? (a.add 0)=some x) (h1:x.oneCell'=true) (hbytes:n+1≤140737488355328) :
  ∃ v' w',(Builtin.append_ #[t,t] ty #[v,.slice (some a) 1 c]).run P w=.ok v' w'∧AppR w e v v' (n+1) (xs++[x]) w':=by
 have hnews:∀ j u,[x][j]?=some u→w.cell? (a.add j)=some u:=by
  intro j u hj
  match j,hj with
  |0,hj=>simp at hj;subst hj;exact hx
 have hone:∀ u ∈ [x],u.oneCell'=true:=by intro u hu;simp at hu;subst hu;exact h1
 obtain ⟨v',w',hr,h2,h3,h4⟩:=run_append_own (P:=P) w 0 t ty e i (.int .u8 0) 1 1 ht hi hz hsize hby rfl (by decide) v n xs hown a 1 c [x] rfl hnews hone (by unfold maxLen;omega) (by omega) (Nat.zero_le _)
 refine ⟨v',w',hr,h2,h3,?_⟩
 have hxl:xs.length=n:=by simpa using hown.1
 rcases hown.2 with ⟨rfl,rfl⟩|⟨g,cap,cur,rfl,hbg,hg,hnc,hcm,hcs,htake⟩
 ·have hr2:=run_append_nil (P:=P) w t ty e i (.int .u8 0) ht hi hz a 1 c [x] (by rw [hsize];rfl) hnews (by omega) (by omega) (by rw [hby];omega)
  rw [hr] at hr2
  injection hr2 with h5 h6
  exact .inr ⟨w.heap.size,by rw [h5];rfl,Nat.le_refl _⟩
 ·have hcs':cur.size=cap:=by simpa using hcs
  by_cases hroom:n+1≤cap
  ·have hr2:=run_append_room (P:=P) w t ty e i ht hi g n cap cur hg a 1 c [x] (by rw [hsize];rfl) hnews hone hroom (by rw [hsize];simp;omega)
   rw [hr] at hr2
   injection hr2 with h5 h6
   exact .inl (by rw [h5];rfl)
  ·have holds:∀ j u,xs[j]?=some u→w.cell? ((⟨g,0,none⟩:Addr).add j)=some u:=hown.cells (g:=g) rfl
   have hr2:=run_append_grow (P:=P) w t ty e i (.int .u8 0) ht hi hz ⟨g,0,none⟩ n cap xs (by rw [hsize];simpa using hxl) holds a 1 c [x] (by rw [hsize];rfl) hnews (by omega) (by omega) (by rw [hby];exact growslice_fits (by omega) (by omega))
   rw [hr] at hr2
   injection hr2 with h5 h6
   exact .inr ⟨w.heap.size,by rw [h5];rfl,Nat.le_refl _⟩
theorem ze1 {ops:Array Oper} {rest:List Oper} {o:Oper} {a:Act} {Q:Exit→Act→World→Prop} (hgd:o.guard=none) (sl x:Operand) (t u:TypeId)
  (ho:o.op=.call { callee:=.builtin .append,args:=#[sl,x],argTypes:=#[t,u] }) (v y:Value) (hs:a.eval sl=v) (hx:a.eval x=y) {R:Value→World→Prop}
  (hr:∃ v' w',(Builtin.append_ #[t,u] o.type #[v,y]).run P w=.ok v' w'∧R v' w')
  (h:∀ v' w',R v' w'→wpList P ops Q rest (a.put o.dst v') w'):wpList P ops Q (o::rest) a w:=by
 refine wpList_plain hgd fun K hK=>?_
 obtain ⟨v',w',hr,h2⟩:=hr
 unfold Oper.wp execOp
 simp only [ho,resolve,invoke,builtin,Sem.run_bind,Sem.run_pure,Result.andThen_ok,List.map_toArray,List.map_cons,List.map_nil,hs,hx,hr]
 exact hK _ _ (h v' w' h2)
end
structure BPost (T e b:Nat) (w w':World) (v v':Value) (bs:List Value):Prop where
 head:w'.heap[b]?=some (.cells #[.pointer (some ⟨b,0,none⟩),v'] T (0,0))
 own:w'.ownsRow 0 e 1 v' bs.length bs
 place:zAV w v v'
 frame:∀ k,k<w.heap.size→k≠b→v.ownBlock≠some k→w'.heap[k]?=w.heap[k]?
 size:w.heap.size≤w'.heap.size
 os:w'.os=w.os
 tape:w'.tape=w.tape
 output:w'.output=w.output
section
variable {P:Program} {ρ:Ren}
theorem zlG (L:Lays.n240 P ρ) (X:Builder.X72 P ρ) (b:Nat) (p v:Value) (w:World) (hbk:w.heap[b]?=some (.cells #[p,v] (ρ.t 72) (0,0))) (hp:p=.pointer none∨p=.pointer (some ⟨b,0,none⟩)) :
  Calls P (ρ.f 240) #[.pointer (some ⟨b,0,none⟩)] w fun e w1=>e=.returned (.tuple #[])∧(w1.heap[b]?=some (.cells #[.pointer (some ⟨b,0,none⟩),v] (ρ.t 72) (0,0))∧w.grownBy w1 (some b)∧w1.heap.size=w.heap.size):=by
 have h0:w.cell? ⟨b,0,none⟩=some p:=by rw [Lib.cell_of_heap hbk];rfl
 rcases hp with rfl|rfl
 ·refine (Any.Builder_copyCheck_fresh L X b w h0 (by simp [World.shape?,hbk]) (Lib.frozen_of_heap hbk 0)).mono ?_
  rintro e w' ⟨rfl,rfl⟩
  refine ⟨rfl,by simp [World.setCell,Array.getElem?_modify,hbk],⟨rfl,rfl,rfl,by simp [World.setCell],fun k _ hk=>Below.heap_setCell _ _ _ _ (fun e=>hk (by simp [e]))⟩,by simp [World.setCell]⟩
 ·refine (Any.Builder_copyCheck_used L X b w h0).mono ?_
  rintro e w' ⟨rfl,rfl⟩
  exact ⟨rfl,hbk,⟨rfl,rfl,rfl,Nat.le_refl _,fun _ _ _=>rfl⟩,rfl⟩
theorem zgV (L:Lays.n166 P ρ) (X:Builder.Extra P ρ) (b:Nat) (p v:Value) (bs:List Value) (s:ByteArray) (w:World) (hbk:w.heap[b]?=some (.cells #[p,v] (ρ.t 72) (0,0))) (hp:p=.pointer none∨p=.pointer (some ⟨b,0,none⟩))
  (hown:w.ownsRow 0 (ρ.t 5) 1 v bs.length bs) (hlen:bs.length+s.size≤140737488355328) :
  Calls P (ρ.f 166) #[.pointer (some ⟨b,0,none⟩),.string s] w fun e w'=>e=.returned (.tuple #[.int .i64 s.size,.nilIface])∧∃ v',BPost (ρ.t 72) (ρ.t 5) b w w' v v' (bs++Lib.strCells s):=by
 obtain ⟨i0,hi,hz0,hz1,hz2⟩:=info_parts X.infoByte
 have hne:v.ownBlock≠some b:=Lib.ownBlock_ne hown hbk X.neB5
 have hlt:b<w.heap.size:=by
  rcases Nat.lt_or_ge b w.heap.size with h'|h'
  ·exact h'
  ·simp [Array.getElem?_eq_none h'] at hbk
 have mixed:=L.mixed
 have t72:=L.t72;have a72:=L.a72;have z72:=L.z72;have v72:=L.v72;have u72:=run_underlying L.t72
 have t70:=L.t70;have a70:=L.a70;have z70:=L.z70;have v70:=L.v70;have u70:=run_underlying L.t70
 have t37:=L.t37;have a37:=L.a37;have z37:=L.z37;have v37:=L.v37;have u37:=run_underlying L.t37
 have t3:=L.t3;have a3:=L.a3;have z3:=L.z3;have v3:=L.v3;have u3:=run_underlying L.t3
 have t9:=L.t9;have a9:=L.a9;have z9:=L.z9;have v9:=L.v9;have u9:=run_underlying L.t9
 have t4:=L.t4;have a4:=L.a4;have z4:=L.z4;have v4:=L.v4;have u4:=run_underlying L.t4
 have t164:=L.t164;have a164:=L.a164;have z164:=L.z164;have v164:=L.v164;have u164:=run_underlying L.t164
 have t5:=X.t5;have a5:=X.a5;have z5:=X.z5;have v5:=X.v5;have u5:=run_underlying X.t5
 have e240:∀ args w,(callFunc (ρ.f 240) args).run P w=.ok (.enter (ρ.f 240) args) w:=enters_of L.f240 (by kernel_rfl) rfl
 go_enter L.f166,Body.n166_ntmps ρ
 go_wp2_with (go_at_fn (ρ.f 240);refine (zlG { L with } X.toX72 b p v _ hbk hp).mono ?_)
 rintro e w1 ⟨rfl,hbk1,hg1,hs1⟩
 have HS:Hid (w1.heap.size=w.heap.size):=hs1
 clear hs1
 have hown1:=hown.kept hg1 (Or.inr hne)
 have c0:w1.cell? ⟨b,0,none⟩=some (.pointer (some ⟨b,0,none⟩)):=by rw [Lib.cell_of_heap hbk1];rfl
 have c1:w1.cell? ⟨b,1,none⟩=some v:=by rw [Lib.cell_of_heap hbk1];rfl
 go_wp2_with (at_builtin;refine ze1 _ rfl _ _ (ρ.t 37) (ρ.t 9) rfl v (.string s) rfl rfl (zrz w1 (ρ.t 37) (ρ.t 9) _ (ρ.t 5) i0 L.t37 L.t9 hi hz0 hz1 hz2 v bs.length bs hown1 s hlen) ?_)
 rintro v' w2 hR
 have hs1:=HS.out
 have hown':=hR.own
 have hgrow:=hR.grow
 have hpl:=hR.place
 clear hR
 have hb2:w2.heap[b]?=some (.cells #[.pointer (some ⟨b,0,none⟩),v] (ρ.t 72) (0,0)):=by
  rw [hgrow.block b (by omega) (fun e=>hne e.symm)]
  exact hbk1
 have d0:w2.cell? ⟨b,0,none⟩=some (.pointer (some ⟨b,0,none⟩)):=by rw [Lib.cell_of_heap hb2];rfl
 have d1:w2.cell? ⟨b,1,none⟩=some v:=by rw [Lib.cell_of_heap hb2];rfl
 have f1:w2.frozen? ⟨b,1,none⟩=false:=Lib.frozen_of_heap hb2 1
 have hne':v'.ownBlock≠some b:=Lib.ownBlock_ne hown' hb2 X.neB5
 obtain ⟨ao,n',cap,rfl⟩:∃ ao n' cap,v'=.slice ao n' cap:=by
  rcases hown'.2 with ⟨hv,_⟩|⟨g,cap,cur,hv,_⟩
  ·exact ⟨_,_,_,hv⟩
  ·exact ⟨_,_,_,hv⟩
 clear hs1
 go_wp2
 go_ret2
 have hs1:=HS.out
 refine ⟨rfl,.slice ao n' cap,?_⟩
 refine ⟨by simp [World.setCell,Array.getElem?_modify,hb2],?_,?_,?_,?_,?_,?_,?_⟩
 ·have:=hown'.kept (row:=some b) (w':=w2.setCell ⟨b,1,none⟩ (.slice ao n' cap)) ⟨rfl,rfl,rfl,by simp [World.setCell],fun k _ hk=>Below.heap_setCell _ _ _ _ (fun e=>hk (by simp [e]))⟩ (Or.inr hne')
  simpa [Lib.strCells_length] using this
 ·rcases hpl with h|⟨g,h,hh⟩
  ·exact .inl h
  ·exact .inr ⟨g,h,by omega⟩
 ·intro k hk hkb hkv
  rw [Below.heap_setCell _ _ _ _ hkb,hgrow.block k (by omega) (fun e=>hkv e.symm),hg1.block k hk (by simpa using hkb)]
 ·have:=hgrow.size;simp [World.setCell];omega
 ·exact hgrow.os.trans hg1.os
 ·exact hgrow.tape.trans hg1.tape
 ·exact hgrow.output.trans hg1.output
theorem zjx (L:Lays.n167 P ρ) (X:Builder.Extra P ρ) (b:Nat) (p v:Value) (bs:List Value) (c:Int) (w:World) (hbk:w.heap[b]?=some (.cells #[p,v] (ρ.t 72) (0,0))) (hp:p=.pointer none∨p=.pointer (some ⟨b,0,none⟩))
  (hown:w.ownsRow 0 (ρ.t 5) 1 v bs.length bs) (hlen:bs.length+1≤140737488355328) :
  Calls P (ρ.f 167) #[.pointer (some ⟨b,0,none⟩),.int .u8 c] w fun e w'=>e=.returned .nilIface∧∃ v',BPost (ρ.t 72) (ρ.t 5) b w w' v v' (bs++[.int .u8 c]):=by
 obtain ⟨i0,hi,hz0,hz1,hz2⟩:=info_parts X.infoByte
 have hne:v.ownBlock≠some b:=Lib.ownBlock_ne hown hbk X.neB5
 have hlt:b<w.heap.size:=by
  rcases Nat.lt_or_ge b w.heap.size with h'|h'
  ·exact h'
  ·simp [Array.getElem?_eq_none h'] at hbk
 have mixed:=L.mixed
 have t72:=L.t72;have a72:=L.a72;have z72:=L.z72;have v72:=L.v72;have u72:=run_underlying L.t72
 have t70:=L.t70;have a70:=L.a70;have z70:=L.z70;have v70:=L.v70;have u70:=run_underlying L.t70
 have t5:=L.t5;have a5:=L.a5;have z5:=L.z5;have v5:=L.v5;have u5:=run_underlying L.t5
 have t37:=L.t37;have a37:=L.a37;have z37:=L.z37;have v37:=L.v37;have u37:=run_underlying L.t37
 have t9:=L.t9;have a9:=L.a9;have z9:=L.z9;have v9:=L.v9;have u9:=run_underlying L.t9
 have t4:=L.t4;have a4:=L.a4;have z4:=L.z4;have v4:=L.v4;have u4:=run_underlying L.t4
 have t164:=L.t164;have a164:=L.a164;have z164:=L.z164;have v164:=L.v164;have u164:=run_underlying L.t164
 have e240:∀ args w,(callFunc (ρ.f 240) args).run P w=.ok (.enter (ρ.f 240) args) w:=enters_of L.f240 (by kernel_rfl) rfl
 go_enter L.f167,Body.n167_ntmps ρ
 go_wp2_with (go_at_fn (ρ.f 240);refine (zlG { L with } X.toX72 b p v _ hbk hp).mono ?_)
 rintro e w1 ⟨rfl,hbk1,hg1,hs1⟩
 have HS:Hid (w1.heap.size=w.heap.size):=hs1
 clear hs1
 have hown1:=hown.kept hg1 (Or.inr hne)
 have c0:w1.cell? ⟨b,0,none⟩=some (.pointer (some ⟨b,0,none⟩)):=by rw [Lib.cell_of_heap hbk1];rfl
 have c1:w1.cell? ⟨b,1,none⟩=some v:=by rw [Lib.cell_of_heap hbk1];rfl
 go_wp2_with (at_builtin;refine ze1 _ rfl _ _ (ρ.t 37) (ρ.t 37) rfl v (.slice (some ⟨w1.heap.size,0,none⟩) 1 1) rfl rfl (zob _ (ρ.t 37) _ (ρ.t 5) i0 L.t37 hi hz0 hz1 hz2 v bs.length bs (hown1.alloc _) ⟨w1.heap.size,0,none⟩ 1 (.int .u8 c) ?cx rfl hlen) ?_)
 case cx=>simp [Addr.add]
 rintro v' w2 hR
 have hs1:=HS.out
 have hown':=hR.own
 have hgrow:=hR.grow
 have hpl:=hR.place
 clear hR
 have hb2:w2.heap[b]?=some (.cells #[.pointer (some ⟨b,0,none⟩),v] (ρ.t 72) (0,0)):=by
  rw [hgrow.block b (by simp;omega) (fun e=>hne e.symm),Lib.alloc_old w1 _ b (by omega)]
  exact hbk1
 have d0:w2.cell? ⟨b,0,none⟩=some (.pointer (some ⟨b,0,none⟩)):=by rw [Lib.cell_of_heap hb2];rfl
 have d1:w2.cell? ⟨b,1,none⟩=some v:=by rw [Lib.cell_of_heap hb2];rfl
 have f1:w2.frozen? ⟨b,1,none⟩=false:=Lib.frozen_of_heap hb2 1
 have hne':v'.ownBlock≠some b:=Lib.ownBlock_ne hown' hb2 X.neB5
 obtain ⟨g,cap,rfl⟩:∃ g cap,v'=.slice (some ⟨g,0,none⟩) (bs.length+1) cap:=by
  rcases hown'.2 with ⟨_,h0⟩|⟨g,cap,cur,hv,_⟩
  ·omega
  ·exact ⟨g,cap,hv⟩
 clear hs1
 go_wp2
 go_ret
 have hs1:=HS.out
 refine ⟨rfl,.slice (some ⟨g,0,none⟩) (bs.length+1) cap,?_⟩
 refine ⟨by simp [World.setCell,Array.getElem?_modify,hb2],?_,?_,?_,?_,?_,?_,?_⟩
 ·have:=hown'.kept (row:=some b) (w':=w2.setCell ⟨b,1,none⟩ (.slice (some ⟨g,0,none⟩) (bs.length+1) cap)) ⟨rfl,rfl,rfl,by simp [World.setCell],fun k _ hk=>Below.heap_setCell _ _ _ _ (fun e=>hk (by simp [e]))⟩ (Or.inr hne')
  simpa using this
 ·rcases hpl with h|⟨g',h,hh⟩
  ·exact .inl h
  ·exact .inr ⟨g',h,by simp at hh;omega⟩
 ·intro k hk hkb hkv
  rw [Below.heap_setCell _ _ _ _ hkb,hgrow.block k (by simp;omega) (fun e=>hkv e.symm),Lib.alloc_old w1 _ k (by omega),hg1.block k hk (by simpa using hkb)]
 ·have:=hgrow.size;simp at this;simp [World.setCell];omega
 ·exact hgrow.os.trans hg1.os
 ·exact hgrow.tape.trans hg1.tape
 ·exact hgrow.output.trans hg1.output
theorem zi6 (w:World) (g n:Nat):w.grownBy (w.drew.freeze ⟨g,0,none⟩ n) (some g):=by
 unfold World.freeze
 split
 ·exact ⟨rfl,rfl,rfl,Nat.le_refl _,fun _ _ _=>rfl⟩
 ·exact ⟨rfl,rfl,rfl,by rw [Array.size_modify];exact Nat.le_refl _,fun k _ hk=>by
   simp only [Array.getElem?_modify]
   rw [if_neg (fun e=>hk (by simp [e]))]
   rfl⟩
theorem zuG (L:Lays.n169 P ρ) (X:Builder.Extra P ρ) (b:Nat) (p v:Value) (l:List UInt8) (w:World) (hbk:w.heap[b]?=some (.cells #[p,v] (ρ.t 72) (0,0)))
  (hown:w.ownsRow 0 (ρ.t 5) 1 v l.length (Lib.byteCells l)) (h0:l≠[]) :
  Calls P (ρ.f 169) #[.pointer (some ⟨b,0,none⟩)] w fun e w'=>e=.returned (.string ⟨l.toArray⟩)∧w.grownBy w' v.ownBlock:=by
 have hl0:l.length≠0:=by simpa using h0
 obtain ⟨g,cap,cur,rfl,hbg,hg,hnc,hcm,hcs,htake⟩:∃ g cap cur,v=.slice (some ⟨g,0,none⟩) l.length cap∧0≤g∧w.heap[g]?=some (.cells cur (ρ.t 5) (0,0))∧l.length≤cap∧cap≤maxLen∧cur.size=cap * 1∧cur.toList.take (l.length * 1)=Lib.byteCells l:=by
  rcases hown.2 with ⟨_,hz⟩|⟨g,cap,cur,hv,r⟩
  ·exact absurd hz hl0
  ·exact ⟨g,cap,cur,hv,r⟩
 have c1:w.drew.cell? ⟨b,1,none⟩=some (.slice (some ⟨g,0,none⟩) l.length cap):=by
  have:w.drew.heap[b]?=some (.cells #[p,.slice (some ⟨g,0,none⟩) l.length cap] (ρ.t 72) (0,0)):=hbk
  rw [Lib.cell_of_heap this];rfl
 have hSD:(Builtin.unsafeSliceData_ #[(ρ.t 37)] (ρ.t 127) #[.slice (some ⟨g,0,none⟩) l.length cap]).run P w.drew=.ok (.pointer (some ⟨g,0,none⟩)) w.drew:=
  Lib.run_unsafeSliceData_row _ _ _ _ _ _ (by omega)
 have hUS:(Builtin.unsafeString_ #[(ρ.t 127),(ρ.t 3)] (ρ.t 9) #[.pointer (some ⟨g,0,none⟩),.int .i64 l.length]).run P w.drew=.ok (.string ⟨l.toArray⟩) (w.drew.freeze ⟨g,0,none⟩ l.length):=by
  refine Lib.run_unsafeString_row w.drew (ρ.t 127) (ρ.t 3) (ρ.t 9) (ρ.t 5) L.t127 X.cellsByte g cur.size (by have hg':w.drew.heap[g]?=some (.cells cur (ρ.t 5) (0,0)):=hg;simp [World.shape?,hg']) l h0 (by omega) (by unfold maxLen at hcm;omega) ?_
  intro j x hx
  have:=hown.cells (g:=g) rfl j (.int .u8 x.toNat) (by simp [Lib.byteCells,hx])
  exact this
 have HG:=zi6 w g l.length
 have mixed:=L.mixed
 have t72:=L.t72;have a72:=L.a72;have z72:=L.z72;have v72:=L.v72;have u72:=run_underlying L.t72
 have t70:=L.t70;have a70:=L.a70;have z70:=L.z70;have v70:=L.v70;have u70:=run_underlying L.t70
 have t37:=L.t37;have a37:=L.a37;have z37:=L.z37;have v37:=L.v37;have u37:=run_underlying L.t37
 have t127:=L.t127;have a127:=L.a127;have z127:=L.z127;have v127:=L.v127;have u127:=run_underlying L.t127
 have t3:=L.t3;have a3:=L.a3;have z3:=L.z3;have v3:=L.v3;have u3:=run_underlying L.t3
 have t9:=L.t9;have a9:=L.a9;have z9:=L.z9;have v9:=L.v9;have u9:=run_underlying L.t9
 have t5:=X.t5;have a5:=X.a5;have z5:=X.z5;have v5:=X.v5;have u5:=run_underlying X.t5
 go_enter L.f169,Body.n169_ntmps ρ
 go_wp2
 go_region_o
 all_goals (go_wp2;go_ret;exact ⟨rfl,HG⟩)
theorem bString (L:Lays.n169 P ρ) (X:Builder.Extra P ρ) (b:Nat) (p v:Value) (l:List UInt8) (w:World) (hbk:w.heap[b]?=some (.cells #[p,v] (ρ.t 72) (0,0)))
  (hown:w.ownsRow 0 (ρ.t 5) 1 v l.length (Lib.byteCells l)) :
  Calls P (ρ.f 169) #[.pointer (some ⟨b,0,none⟩)] w fun e w'=>e=.returned (.string ⟨l.toArray⟩)∧w.grownBy w' v.ownBlock:=by
 have fin:∀ {w':World},Below w.heap.size w w'→w.grownBy w' v.ownBlock:=fun h=>⟨h.os,h.tape,h.output,h.size,fun k hk _=>h.block k hk⟩
 cases l with
 |nil=>
  rcases hown.2 with ⟨rfl,_⟩|⟨g,cap,cur,rfl,hbg,hg,_,_,_,_⟩
  ·exact (Any.Builder_String_nil L X w.heap.size b p w hbk).mono (fun _ _ h=>⟨h.1,fin h.2⟩)
  ·by_cases hc0:cap=0
   ·subst hc0
    exact (Any.Builder_String_noroom L X w.heap.size b g p cur w (Nat.le_refl _) hbk hg).mono (fun _ _ h=>⟨h.1,fin h.2⟩)
   ·exact (Any.Builder_String_room L X w.heap.size b g cap p w hc0 hbk).mono (fun _ _ h=>⟨h.1,fin h.2⟩)
 |cons x r=>exact zuG L X b p v (x::r) w hbk hown (by simp)
end
/-! ### Contracts -/
theorem zm9 {g:Gh} {D:Nat→Prop} {M:Mem} {w:World} {e id:Nat} {t:List UInt8} (h:OR g D M w id (.bb e t)):w.ownsRow 0 e 1 (zhB g id t.length) t.length (zbO t):=by
 refine ⟨by simp [zbO],?_⟩
 unfold zhB
 cases hν:g.ν id with
 |true=>exact .inl ⟨by simp,by rw [h.1 hν];rfl⟩
 |false=>
  obtain ⟨cur,h1,h2,h3,h4,h5⟩:=h.2 hν
  exact .inr ⟨g.ρ id,g.κ id,cur,by simp,Nat.zero_le _,h1,h2,h3,by omega,by simpa using h5⟩
theorem zf1 (g:Gh) (B n:Nat) (k:Nat):(zhB g B n).ownBlock=some k→g.ν B=false∧g.ρ B=k:=by
 unfold zhB
 cases hν:g.ν B<;>simp [Value.ownBlock]
theorem zrA {a b c:AObj} {id:Nat} {o:AObj} (h:[some a,some b,some c].getD id none=some o):(id=0∧o=a)∨(id=1∧o=b)∨(id=2∧o=c):=by
 match id,h with
 |0,h=>simp at h;exact .inl ⟨rfl,h.symm⟩
 |1,h=>simp at h;exact .inr (.inl ⟨rfl,h.symm⟩)
 |2,h=>simp at h;exact .inr (.inr ⟨rfl,h.symm⟩)
 |n+3,h=>simp [List.getD] at h
theorem AC.bwrite {P:Program} {gl:Nat→Option (List PVal)} {f:FuncId} {T e:Nat} {t s:List UInt8} {q:PVal} {res:AVal} (hTe:T≠e)
  (h:∀ (w:World) (b:Nat) (p v y:Value) (M:Mem),Rd M q y→w.heap[b]?=some (.cells #[p,v] T (0,0))→(p=.pointer none∨p=.pointer (some ⟨b,0,none⟩))→w.ownsRow 0 e 1 v t.length (zbO t) →
   Calls P f #[.pointer (some ⟨b,0,none⟩),y] w fun en w'=>∃ r v',en=.returned r∧(∀ g D M',V g D M' res r)∧BPost T e b w w' v v' (zbO s)) :
  AC P gl f [.ref 0 0,.pv q] [some (.bh T e 1 t.length),some (.bb e t)] res [some (.bh T e 2 s.length),some .dead,some (.bb e s)]:=by
 intro w M g vargs hR hG
 have hl:vargs.length=2:=by simpa using hR.size
 match vargs,hl with
 |[x0,x1],_=>
  have h0:V g _ M (.ref 0 0) x0:=hR.slots 0 (by simp)
  have h1:V g _ M (.pv q) x1:=hR.slots 1 (by simp)
  have h1:=h1.pv_inv
  obtain ⟨hD,hn0,p,hheap,hp⟩:OR g _ M w 0 (.bh T e 1 t.length):=hR.objs 0 _ rfl
  have hbb:OR g _ M w 1 (.bb e t):=hR.objs 1 _ rfl
  have hown:=zm9 hbb
  cases h0
  refine Calls.mono (h w (g.ρ 0) p (zhB g 1 t.length) x1 M h1 hheap hp hown) ?_
  rintro en w' ⟨r,v',rfl,hv,hB⟩
  have hne':v'.ownBlock≠some (g.ρ 0):=Lib.ownBlock_ne hB.own hB.head hTe
  have hlt:g.ρ 0<w.heap.size:=(Array.getElem?_eq_some_iff.1 hheap).1
  have hso:(zbO s).length=s.length:=by simp [zbO]
  obtain ⟨r2,k2,n2,hbuf,hs0,hs1,hpl,hr0⟩:∃ (r2 k2:Nat) (n2:Bool),v'=(if n2 then .slice none 0 0 else .slice (some ⟨r2,0,none⟩) s.length k2)∧(n2=true→s=[]) ∧
    (n2=false→∃ cur,w'.heap[r2]?=some (.cells cur e (0,0))∧s.length≤k2∧k2≤9223372036854775807∧cur.size=k2∧cur.toList.take s.length=zbO s) ∧
    (n2=false→(g.ν 1=false∧g.ρ 1=r2)∨w.heap.size≤r2)∧(n2=false→r2≠g.ρ 0):=by
   rcases hB.own.2 with ⟨hv',hn⟩|⟨g2,cap,cur,hv',_,hg2,hnc,hcm,hcs,htake⟩
   ·exact ⟨0,0,true,by simpa using hv',fun _=>List.eq_nil_of_length_eq_zero (by omega),by simp,by simp,by simp⟩
   ·rw [hso] at hv' hnc htake
    refine ⟨g2,cap,false,by simpa using hv',by simp,fun _=>⟨cur,hg2,hnc,hcm,by omega,by simpa using htake⟩,fun _=>?_,fun _ hc=>hne' (by rw [hv',hc];rfl)⟩
    have ho:v'.ownBlock=some g2:=by rw [hv'];rfl
    rcases hB.place with h'|⟨g3,h',hh⟩
    ·rw [ho] at h'
     exact .inl (zf1 g 1 _ _ h'.symm)
    ·rw [ho] at h'
     injection h' with h'
     exact .inr (by omega)
  have hsat:∀ b i u,M b i=some u→w'.cell? ⟨b,i,none⟩=some u:=by
   intro b i u hu
   have hc:=hR.sat b i u hu
   have hb:b<w.heap.size:=World.block_lt_of_cell? w ⟨b,i,none⟩ hc
   have e1:b≠g.ρ 0:=fun hbe=>by
    have:=hR.offM 0 (.bh T e 1 t.length) b rfl (by simp [za9,hbe]) i
    rw [this] at hu;cases hu
   have e2:(zhB g 1 t.length).ownBlock≠some b:=fun hbe=>by
    obtain ⟨hν,hρ⟩:=zf1 g 1 _ _ hbe
    have:=hR.offM 1 (.bb e t) b rfl (by simp [za9,hν,hρ]) i
    rw [this] at hu;cases hu
   exact (World.cell?_of_block (w:=w) (w':=w') (a:=⟨b,i,none⟩) (hB.frame b hb e1 e2)).trans hc
  have hoffN:∀ b i,w.heap.size≤b→M b i=none:=by
   intro b i hb
   cases hm:M b i with
   |none=>rfl
   |some u=>
    have:=World.block_lt_of_cell? w ⟨b,i,none⟩ (hR.sat b i u hm)
    simp at this
    omega
  refine ⟨r,⟨fun id=>if id=2 then r2 else g.ρ id,fun id=>if id=2 then k2 else g.κ id,fun id=>if id=2 then n2 else g.ν id⟩,M,rfl,⟨rfl,rfl,fun i hi=>?_,fun id o ho=>?_,fun id id' o o' b ho ho' hb hb'=>?_,fun id o b ho hb i=>?_,hsat,Mem.le_refl _,fun _ _ _ _=>rfl,hB.size,fun b hb hnb=>?_,fun id o b ho hb=>?_,hB.os,hB.tape,hB.output⟩,fun id hid=>?_⟩
  ·have hi0:i=0:=by simpa using hi
   subst hi0
   exact hv _ _ _
  ·rcases zrA ho with ⟨rfl,rfl⟩|⟨rfl,rfl⟩|⟨rfl,rfl⟩
   ·refine ⟨by simp [St.dom,St.obj],fun hν=>by rw [hs0 (by simpa using hν)];rfl,.pointer (some ⟨g.ρ 0,0,none⟩),?_,.inr (by simp)⟩
    have hh:=hB.head
    rw [hbuf] at hh
    simpa [zhB] using hh
   ·trivial
   ·exact ⟨fun hν=>hs0 (by simpa using hν),fun hν=>by simpa using hs1 (by simpa using hν)⟩
  ·rcases zrA ho with ⟨rfl,rfl⟩|⟨rfl,rfl⟩|⟨rfl,rfl⟩<;>rcases zrA ho' with ⟨rfl,rfl⟩|⟨rfl,rfl⟩|⟨rfl,rfl⟩
   ·rfl
   ·simp [za9] at hb'
   ·exfalso
    simp [za9] at hb hb'
    exact hr0 hb'.1 (by omega)
   ·simp [za9] at hb
   ·rfl
   ·simp [za9] at hb
   ·exfalso
    simp [za9] at hb hb'
    exact hr0 hb.1 (by omega)
   ·simp [za9] at hb'
   ·rfl
  ·rcases zrA ho with ⟨rfl,rfl⟩|⟨rfl,rfl⟩|⟨rfl,rfl⟩
   ·exact hR.offM 0 (.bh T e 1 t.length) b rfl (by simpa [za9] using hb) i
   ·simp [za9] at hb
   ·simp [za9] at hb
    rcases hpl hb.1 with ⟨hν,hρ⟩|hge
    ·exact hR.offM 1 (.bb e t) b rfl (by simp [za9,hν];omega) i
    ·exact hoffN b i (by omega)
  ·have e1:b≠g.ρ 0:=fun hbe=>hnb ⟨0,_,rfl,by simp [za9,hbe]⟩
   have e2:(zhB g 1 t.length).ownBlock≠some b:=fun hbe=>by
    obtain ⟨hν,hρ⟩:=zf1 g 1 _ _ hbe
    exact hnb ⟨1,_,rfl,by simp [za9,hν,hρ]⟩
   exact hB.frame b hb e1 e2
  ·rcases zrA ho with ⟨rfl,rfl⟩|⟨rfl,rfl⟩|⟨rfl,rfl⟩
   ·exact .inl ⟨0,_,rfl,by simpa [za9] using hb⟩
   ·simp [za9] at hb
   ·simp [za9] at hb
    rcases hpl hb.1 with ⟨hν,hρ⟩|hge
    ·exact .inl ⟨1,_,rfl,by simp [za9,hν];omega⟩
    ·exact .inr (show w.heap.size≤b by omega)
  ·have:id≠2:=fun he=>by subst he;simp [zak] at hid
   simp [Gh.agree,this]
theorem zuH {a b:AObj} {id:Nat} {o:AObj} (h:[some a,some b].getD id none=some o):(id=0∧o=a)∨(id=1∧o=b):=by
 match id,h with
 |0,h=>simp at h;exact .inl ⟨rfl,h.symm⟩
 |1,h=>simp at h;exact .inr ⟨rfl,h.symm⟩
 |n+2,h=>simp [List.getD] at h
theorem AC.bstring {P:Program} {gl:Nat→Option (List PVal)} {f:FuncId} {T e:Nat} {t:List UInt8}
  (h:∀ (w:World) (b:Nat) (p v:Value),w.heap[b]?=some (.cells #[p,v] T (0,0))→w.ownsRow 0 e 1 v t.length (zbO t) →
   Calls P f #[.pointer (some ⟨b,0,none⟩)] w fun en w'=>en=.returned (.string ⟨t.toArray⟩)∧w.grownBy w' v.ownBlock) :
  AC P gl f [.ref 0 0] [some (.bh T e 1 t.length),some (.bb e t)] (.pv (.str t)) [some .dead,some .dead]:=by
 intro w M g vargs hR hG
 have hl:vargs.length=1:=by simpa using hR.size
 match vargs,hl with
 |[x0],_=>
  have h0:V g _ M (.ref 0 0) x0:=hR.slots 0 (by simp)
  obtain ⟨hD,hn0,p,hheap,hp⟩:OR g _ M w 0 (.bh T e 1 t.length):=hR.objs 0 _ rfl
  have hbb:OR g _ M w 1 (.bb e t):=hR.objs 1 _ rfl
  have hown:=zm9 hbb
  cases h0
  refine Calls.mono (h w (g.ρ 0) p (zhB g 1 t.length) hheap hown) ?_
  rintro en w' ⟨rfl,hB⟩
  have hsat:∀ b i u,M b i=some u→w'.cell? ⟨b,i,none⟩=some u:=by
   intro b i u hu
   have hc:=hR.sat b i u hu
   have hb:b<w.heap.size:=World.block_lt_of_cell? w ⟨b,i,none⟩ hc
   have e2:(zhB g 1 t.length).ownBlock≠some b:=fun hbe=>by
    obtain ⟨hν,hρ⟩:=zf1 g 1 _ _ hbe
    have:=hR.offM 1 (.bb e t) b rfl (by simp [za9,hν,hρ]) i
    rw [this] at hu;cases hu
   exact (World.cell?_of_block (w:=w) (w':=w') (a:=⟨b,i,none⟩) (hB.block b hb (fun e=>e2 e.symm))).trans hc
  refine ⟨_,g,M,rfl,⟨rfl,rfl,fun i hi=>?_,fun id o ho=>?_,fun id id' o o' b ho ho' hb hb'=>?_,fun id o b ho hb i=>?_,hsat,Mem.le_refl _,fun _ _ _ _=>rfl,hB.size,fun b hb hnb=>?_,fun id o b ho hb=>?_,hB.os,hB.tape,hB.output⟩,fun id hid=>⟨rfl,rfl,rfl⟩⟩
  ·have hi0:i=0:=by simpa using hi
   subst hi0
   exact zxD _ _ _ _
  ·rcases zuH ho with ⟨rfl,rfl⟩|⟨rfl,rfl⟩<;>trivial
  ·rcases zuH ho with ⟨rfl,rfl⟩|⟨rfl,rfl⟩<;>simp [za9] at hb
  ·rcases zuH ho with ⟨rfl,rfl⟩|⟨rfl,rfl⟩<;>simp [za9] at hb
  ·exact hB.block b hb (fun hbe=>by
    obtain ⟨hν,hρ⟩:=zf1 g 1 _ _ hbe.symm
    exact hnb ⟨1,_,rfl,by simp [za9,hν,hρ]⟩)
  ·rcases zuH ho with ⟨rfl,rfl⟩|⟨rfl,rfl⟩<;>simp [za9] at hb
theorem AC.blen {P:Program} {gl:Nat→Option (List PVal)} {f:FuncId} {T e:Nat} {t:List UInt8}
  (h:∀ (w:World) (b:Nat) (p v:Value),w.heap[b]?=some (.cells #[p,v] T (0,0))→(p=.pointer none∨p=.pointer (some ⟨b,0,none⟩))→w.ownsRow 0 e 1 v t.length (zbO t) →
   Calls P f #[.pointer (some ⟨b,0,none⟩)] w fun en w'=>en=.returned (.int .i64 t.length)∧w'=w) :
  AC P gl f [.ref 0 0] [some (.bh T e 1 t.length),some (.bb e t)] (.pv (.int .i64 t.length)) [some (.bh T e 1 t.length),some (.bb e t)]:=by
 intro w M g vargs hR hG
 have hl:vargs.length=1:=by simpa using hR.size
 match vargs,hl with
 |[x0],_=>
  have h0:V g _ M (.ref 0 0) x0:=hR.slots 0 (by simp)
  obtain ⟨hD,hn0,p,hheap,hp⟩:OR g _ M w 0 (.bh T e 1 t.length):=hR.objs 0 _ rfl
  have hbb:OR g _ M w 1 (.bb e t):=hR.objs 1 _ rfl
  have hown:=zm9 hbb
  cases h0
  refine Calls.mono (h w (g.ρ 0) p (zhB g 1 t.length) hheap hp hown) ?_
  rintro en w' ⟨rfl,rfl⟩
  refine ⟨_,g,M,rfl,⟨rfl,rfl,fun i hi=>?_,hR.objs,hR.apart,hR.offM,hR.sat,hR.M0,hR.Mnew,hR.size0,hR.same,hR.own0,hR.os,hR.tape,hR.output⟩,fun id hid=>⟨rfl,rfl,rfl⟩⟩
  have hi0:i=0:=by simpa using hi
  subst hi0
  exact zAU _ _ _ _ _
theorem zna (s:List UInt8):Lib.strCells ⟨s.toArray⟩=zbO s:=by simp [Lib.strCells,zbO]
theorem zf2 (a b:List UInt8):zbO (a++b)=zbO a++zbO b:=by simp [zbO]
section
variable {P:Program} {ρ:Ren} {gl:Nat→Option (List PVal)}
theorem AC.bString (L:Lays.n169 P ρ) (X:Builder.Extra P ρ) (t:List UInt8) :
  AC P gl (ρ.f 169) [.ref 0 0] [some (.bh (ρ.t 72) (ρ.t 5) 1 t.length),some (.bb (ρ.t 5) t)] (.pv (.str t)) [some .dead,some .dead]:=
 AC.bstring fun w b p v hbk hown=>Go.Abs.bString L X b p v t w hbk hown
theorem AC.bLen (L:Lays.n170 P ρ) (hne:ρ.t 72≠ρ.t 5) (t:List UInt8) :
  AC P gl (ρ.f 170) [.ref 0 0] [some (.bh (ρ.t 72) (ρ.t 5) 1 t.length),some (.bb (ρ.t 5) t)] (.pv (.int .i64 t.length)) [some (.bh (ρ.t 72) (ρ.t 5) 1 t.length),some (.bb (ρ.t 5) t)]:=
 AC.blen fun w b p v hbk hp hown=>by
  have hb:t.length=(zbO t).length:=by simp [zbO]
  have hnb:=Lib.ownBlock_ne hown hbk hne
  rw [hb] at hown
  have:=Any.Builder_Len L 0 b (zbO t) w (hp.elim (fun e=>.inl ⟨Nat.zero_le _,v,e ▸ hbk,hown,hnb⟩) (fun e=>.inr ⟨Nat.zero_le _,v,e ▸ hbk,hown,hnb⟩))
  rw [←hb] at this
  exact this
end
end Go.Abs
namespace Go.Abs
open Go Go.Proofs Go.Shelf Go.RowKit
def zaf (c:UInt8):List UInt8→List (List UInt8)
 |[]=>[[]]
 |x::r=>if x=c then []::zaf c r else match zaf c r with
  |[]=>[[x]]
  |h::t=>(x::h)::t
theorem zbi (c:UInt8):∀ s,zaf c s≠[]
 |[]=>by simp [zaf]
 |x::r=>by
  unfold zaf
  split
  ·simp
  ·split<;>simp
theorem zfD (c:UInt8):∀ s,c ∉ s→zaf c s=[s]
 |[],_=>rfl
 |x::r,h=>by
  have h1:x≠c:=fun e=>h (by simp [e])
  rw [zaf,if_neg h1,zfD c r (fun e=>h (by simp [e]))]
theorem zb7 (c:UInt8) (r:List UInt8):∀ a,c ∉ a→zaf c (a++c::r)=a::zaf c r
 |[],_=>by simp [zaf]
 |x::a,h=>by
  have h1:x≠c:=fun e=>h (by simp [e])
  rw [List.cons_append,zaf,if_neg h1,zb7 c r a (fun e=>h (by simp [e]))]
theorem zrB (c:UInt8):∀ (n:Nat) (s:ByteArray),s.size≤n→(Lib.splitB ⟨#[c]⟩ 0 (Lib.countB s ⟨#[c]⟩) s).map (fun b=>b.data.toList)=zaf c s.data.toList:=by
 intro n
 induction n with
 |zero=>
  intro s hs
  have e:s.data.toList=[]:=List.eq_nil_of_length_eq_zero (by rw [Array.length_toList];exact Nat.le_zero.1 hs)
  have hi:Lib.indexB s ⟨#[c]⟩=-1:=by
   show Lib.index _ _=_
   rw [e];rfl
  rw [Lib.splitB_miss _ _ _ _ hi,e]
  simp [e,zaf]
 |succ n ih=>
  intro s hs
  have h1:Lib.index s.data.toList [c]=Lib.indexByte s.data.toList c:=Lib.index_one _ _
  have hge:=Lib.indexByte_ge s.data.toList c
  by_cases hm:Lib.indexByte s.data.toList c=-1
  ·have hi:Lib.indexB s ⟨#[c]⟩=-1:=h1.trans hm
   rw [Lib.splitB_miss _ _ _ _ hi]
   have hno:c ∉ s.data.toList:=fun hc=>by
    obtain ⟨k,hk,he⟩:=List.getElem_of_mem hc
    exact Lib.indexByte_none hm k (by rw [List.getElem?_eq_getElem hk,he])
   rw [zfD c _ hno]
   rfl
  ·obtain ⟨i,hi⟩:∃ i:Nat,Lib.indexByte s.data.toList c=i:=⟨(Lib.indexByte s.data.toList c).toNat,by omega⟩
   have hB:Lib.indexB s ⟨#[c]⟩=i:=h1.trans hi
   obtain ⟨hc,hno⟩:=Lib.indexByte_some hi
   obtain ⟨hlt,hce⟩:=List.getElem?_eq_some_iff.1 hc
   rw [Lib.countB_hit s ⟨#[c]⟩ i (Nat.le_refl 1) hB,Nat.add_comm,Lib.splitB_hit _ _ _ _ i hB]
   have hd:s.data.toList=s.data.toList.take i++c::s.data.toList.drop (i+1):=by
    rw [←hce,List.getElem_cons_drop,List.take_append_drop]
   have hnc:c ∉ s.data.toList.take i:=fun hm'=>by
    obtain ⟨k,hk,he⟩:=List.getElem_of_mem hm'
    have hk':k<i:=by simp at hk;omega
    refine hno k hk' ?_
    rw [List.getElem_take] at he
    rw [List.getElem?_eq_getElem (by omega),he]
   conv=>rhs;rw [hd,zb7 c _ _ hnc]
   rw [List.map_cons,ih (s.extract (i+(ByteArray.mk #[c]).size) s.size) (by simp [ByteArray.size_extract];have:(ByteArray.mk #[c]).size=1:=rfl;omega)]
   congr 1
   ·simp [ByteArray.data_extract]
   ·rw [Lib.extract_to_end]
    rfl
theorem AC.ofTexts {P:Program} {gl:Nat→Option (List PVal)} {f:FuncId} {ps:List PVal} {us:List (List UInt8)}
  (h:∀ (w:World) (M:Mem) (vs:List Value),vs.length=ps.length→(∀ i,i<ps.length→Rd M (ps.getD i .nilptr) (vs.getD i undef))→(∀ b i u,M b i=some u→w.cell? ⟨b,i,none⟩=some u) →
   GOK ⟨fun _=>none,gl,fun _=>0,0⟩ M→(∀ b cs,gl b=some cs→cs≠[]→∃ vals T l,w.heap[b]?=some (.cells vals T l)∧vals.size=cs.length) →
   Calls P f vs.toArray w fun e w'=>∃ T,e=.returned (.slice (some ⟨w.heap.size,0,none⟩) us.length us.length)∧w'=w.alloc (.cells (us.map fun s=>Value.string ⟨s.toArray⟩).toArray T)) :
  AC P gl f (ps.map .pv) [] (.pv (.slice (us.map fun s=>[.str s]))) []:=by
 intro w M g vargs hR hG
 have hl:vargs.length=ps.length:=by simpa using hR.size
 refine Calls.mono (h w M vargs hl (fun i hi=>?_) hR.sat hG.1 (fun b cs hb hne=>(hG.2 b cs hb hne).2)) ?_
 ·have:=hR.slots i (by simpa using hi)
  have e1:St.slot ⟨ps.map .pv,[]⟩ i=.pv (ps.getD i .nilptr):=by simp [St.slot,List.getD,hi]
  rw [e1] at this
  have e2:vargs.toArray.getD i undef=vargs.getD i undef:=by simp [List.getD]
  rw [←e2]
  exact this.pv_inv
 ·rintro e w' ⟨T,rfl,rfl⟩
  have hoff:∀ i,M w.heap.size i=none:=by
   intro i
   cases hm:M w.heap.size i with
   |none=>rfl
   |some u=>
    have:=World.block_lt_of_cell? w ⟨w.heap.size,i,none⟩ (hR.sat _ i u hm)
    simp at this
  have hx:Ext w (w.alloc (.cells (us.map fun s=>Value.string ⟨s.toArray⟩).toArray T)):=(Below.refl _ w).alloc (Nat.le_refl _) _
  refine ⟨_,g,fun b i=>if b=w.heap.size then (us[i]?).map (fun s=>Value.string ⟨s.toArray⟩) else M b i,rfl,⟨rfl,rfl,fun i hi=>?_,fun id o ho=>by simp [St.obj] at ho,fun id id' o o' b ho=>by simp [St.obj] at ho,fun id o b ho=>by simp [St.obj] at ho,fun b i u hu=>?_,fun b i u hu=>?_,fun b i hb _=>?_,hx.size,fun b hb _=>hx.block b hb,fun id o b ho=>by simp [St.obj] at ho,hx.os,hx.tape,hx.output⟩,fun id hid=>by simp [zak] at hid⟩
  ·have hi0:i=0:=by simpa using hi
   subst hi0
   have hlen:us.length=(us.map fun s=>[PVal.str s]).length:=by simp
   refine .pv ?_
   have:=Rd.slice (M:=fun b i=>if b=w.heap.size then (us[i]?).map (fun s=>Value.string ⟨s.toArray⟩) else M b i) (us.map fun s=>[PVal.str s]) 1 w.heap.size 0 us.length (fun i _=>Value.string ⟨(us.getD i []).toArray⟩) (fun x hx=>by simp at hx;obtain ⟨s,_,rfl⟩:=hx;rfl) (fun i j hi hj=>?_) (fun i j hi hj=>?_) (by simp)
   ·rw [List.length_map] at this
    exact this
   ·have hj0:j=0:=by omega
    subst hj0
    have hi':i<us.length:=by simpa using hi
    simp [List.getD,hi']
   ·have hj0:j=0:=by omega
    subst hj0
    have hi':i<us.length:=by simpa using hi
    have:zbw (us.map fun s=>[PVal.str s]) i 0=.str (us.getD i []):=by simp [zbw,List.getD,hi']
    rw [this]
    exact .str _
  ·by_cases hb:b=w.heap.size
   ·subst hb
    simp only [if_pos] at hu
    rw [Option.map_eq_some_iff] at hu
    obtain ⟨s,hs,rfl⟩:=hu
    rw [Lib.cell_of_heap (zbp w _)]
    simp [hs]
   ·simp only [if_neg hb] at hu
    exact zoa hx (hR.sat b i u hu)
  ·show (if b=w.heap.size then _ else M b i)=_
   rw [if_neg (fun hb=>by subst hb;have h0:=hoff i;exact absurd (h0.symm.trans hu) (by simp))]
   exact hu
  ·show (if b=w.heap.size then _ else M b i)=_
   rw [if_neg (by have:b<w.heap.size:=hb;omega)]
open Go
structure VarD where
 name:List UInt8
 size:Int
 init:Int
def za3 (v:VarD):List PVal:=[.str v.name,.int .i64 v.size,.int .i64 v.init]
inductive Ex where
 |mk (op value:Int) (name:List UInt8) (slot size:Int) (args:List Ex)
def Ex.op:Ex→Int|.mk a _ _ _ _ _=>a
def Ex.value:Ex→Int|.mk _ a _ _ _ _=>a
def Ex.name:Ex→List UInt8|.mk _ _ a _ _ _=>a
def Ex.slot:Ex→Int|.mk _ _ _ a _ _=>a
def Ex.size:Ex→Int|.mk _ _ _ _ a _=>a
def Ex.args:Ex→List Ex|.mk _ _ _ _ _ a=>a
mutual
def zbr:Ex→List PVal
 |.mk op value name slot size args=>[.int .i64 op,.int .i64 value,.str name,.int .i64 slot,.int .i64 size,.slice (zlX args)]
def zlX:List Ex→List (List PVal)
 |[]=>[]
 |e::r=>zbr e::zlX r
end
theorem zjy:∀ l:List Ex,zlX l=l.map zbr
 |[]=>by simp [zlX]
 |e::r=>by simp [zlX,zjy r]
theorem zay (e:Ex):zbr e=[.int .i64 e.op,.int .i64 e.value,.str e.name,.int .i64 e.slot,.int .i64 e.size,.slice (e.args.map zbr)]:=by
 cases e;simp [zbr,zjy,Ex.op,Ex.value,Ex.name,Ex.slot,Ex.size,Ex.args]
theorem zbj (e:Ex):(zbr e).length=6:=by rw [zay];rfl
inductive Sm where
 |mk (kind:Int) (name:List UInt8) (slot size:Int) (place value:Ex) (body els:List Sm)
def Sm.kind:Sm→Int|.mk a _ _ _ _ _ _ _=>a
def Sm.name:Sm→List UInt8|.mk _ a _ _ _ _ _ _=>a
def Sm.slot:Sm→Int|.mk _ _ a _ _ _ _ _=>a
def Sm.size:Sm→Int|.mk _ _ _ a _ _ _ _=>a
def Sm.place:Sm→Ex|.mk _ _ _ _ a _ _ _=>a
def Sm.value:Sm→Ex|.mk _ _ _ _ _ a _ _=>a
def Sm.body:Sm→List Sm|.mk _ _ _ _ _ _ a _=>a
def Sm.els:Sm→List Sm|.mk _ _ _ _ _ _ _ a=>a
mutual
def zam:Sm→List PVal
 |.mk kind name slot size place value body els=>[.int .i64 kind,.str name,.int .i64 slot,.int .i64 size]++zbr place++zbr value++[.slice (zjz body),.slice (zjz els)]
def zjz:List Sm→List (List PVal)
 |[]=>[]
 |e::r=>zam e::zjz r
end
theorem zjA:∀ l:List Sm,zjz l=l.map zam
 |[]=>by simp [zjz]
 |e::r=>by simp [zjz,zjA r]
theorem zar (s:Sm):zam s=[.int .i64 s.kind,.str s.name,.int .i64 s.slot,.int .i64 s.size,
  .int .i64 s.place.op,.int .i64 s.place.value,.str s.place.name,.int .i64 s.place.slot,.int .i64 s.place.size,.slice (s.place.args.map zbr),
  .int .i64 s.value.op,.int .i64 s.value.value,.str s.value.name,.int .i64 s.value.slot,.int .i64 s.value.size,.slice (s.value.args.map zbr),
  .slice (s.body.map zam),.slice (s.els.map zam)]:=by
 cases s;simp [zam,zjA,zay,Sm.kind,Sm.name,Sm.slot,Sm.size,Sm.place,Sm.value,Sm.body,Sm.els]
theorem zeN (s:Sm):(zam s).length=18:=by rw [zar];rfl
abbrev mx:=zc3
mutual
def szE:Ex→Nat
 |.mk _ _ _ _ _ args=>1+zgs args
def zgs:List Ex→Nat
 |[]=>0
 |e::r=>szE e+zgs r
end
theorem zjB (e:Ex):szE e=1+zgs e.args:=by cases e;rfl
theorem zb1 (e:Ex):1≤szE e:=by rw [zjB];omega
theorem zga:∀ l:List Ex,l.length≤zgs l
 |[]=>by simp
 |e::r=>by have:=zga r;have:=zb1 e;simp only [zgs,List.length_cons];omega
theorem zdJ:∀ (l:List Ex) (e:Ex),e ∈ l→szE e≤zgs l
 |[],_,h=>by cases h
 |x::r,e,h=>by
  simp only [zgs]
  rcases List.mem_cons.1 h with rfl|h
  ·omega
  ·have:=zdJ r e h;omega
mutual
def szS:Sm→Nat
 |.mk _ _ _ _ place value body els=>1+szE place+szE value+zbh body+zbh els
def zbh:List Sm→Nat
 |[]=>0
 |e::r=>szS e+zbh r
end
theorem zgb (s:Sm):szS s=1+szE s.place+szE s.value+zbh s.body+zbh s.els:=by cases s;rfl
theorem zfE (s:Sm):1≤szS s:=by rw [zgb];omega
theorem zcU:∀ l:List Sm,l.length≤zbh l
 |[]=>by simp
 |e::r=>by have:=zcU r;have:=zfE e;simp only [zbh,List.length_cons];omega
theorem zbK:∀ (l:List Sm) (e:Sm),e ∈ l→szS e≤zbh l
 |[],_,h=>by cases h
 |x::r,e,h=>by
  simp only [zbh]
  rcases List.mem_cons.1 h with rfl|h
  ·omega
  ·have:=zbK r e h;omega
mutual
def ze8:Ex→Int
 |.mk _ _ _ _ _ args=>1+zdb 0 args
def zdb:Int→List Ex→Int
 |d,[]=>d
 |d,e::r=>zdb (mx d (ze8 e)) r
end
theorem zxY (e:Ex):ze8 e=1+zdb 0 e.args:=by cases e;rfl
mutual
theorem zu1:∀ e:Ex,1≤ze8 e
 |.mk _ _ _ _ _ args=>by simp only [ze8];have:=zkD 0 args;omega
theorem zkD:∀ (d:Int) (l:List Ex),d≤zdb d l
 |d,[]=>by simp [zdb]
 |d,e::r=>by
  have h1:=zkD (mx d (ze8 e)) r
  have h2:d≤mx d (ze8 e):=by unfold mx zc3;split<;>omega
  simp only [zdb];omega
end
theorem zjC (x:Ex):∀ (l:List Ex) (d:Int),zdb d (l++[x])=mx (zdb d l) (ze8 x)
 |[],d=>by simp [zdb]
 |e::r,d=>by simp only [List.cons_append,zdb];exact zjC x r _
mutual
def zjD:Sm→Int
 |.mk _ _ _ _ place value body els=>1+mx (mx (mx (ze8 place) (ze8 value)) (za8 0 body)) (za8 0 els)
def za8:Int→List Sm→Int
 |d,[]=>d
 |d,s::r=>za8 (mx d (zjD s)) r
end
theorem zrT (s:Sm):zjD s=1+mx (mx (mx (ze8 s.place) (ze8 s.value)) (za8 0 s.body)) (za8 0 s.els):=by cases s;rfl
theorem zjE (x:Sm):∀ (l:List Sm) (d:Int),za8 d (l++[x])=mx (za8 d l) (zjD x)
 |[],d=>by simp [za8]
 |e::r,d=>by simp only [List.cons_append,za8];exact zjE x r _
theorem zBj (x y:Int):x≤mx x y:=by unfold mx zc3;split<;>omega
theorem zu2 (s:Sm):1≤zjD s:=by
 rw [zrT]
 have h1:=zu1 s.place
 have h2:=zBj (ze8 s.place) (ze8 s.value)
 have h3:=zBj (mx (ze8 s.place) (ze8 s.value)) (za8 0 s.body)
 have h4:=zBj (mx (mx (ze8 s.place) (ze8 s.value)) (za8 0 s.body)) (za8 0 s.els)
 omega
mutual
theorem zkE:∀ e:Ex,ze8 e≤szE e
 |.mk _ _ _ _ _ args=>by simp only [ze8,szE];have:=zon 0 args;unfold mx zc3 at this;split at this<;>omega
theorem zon:∀ (d:Int) (l:List Ex),zdb d l≤mx d (zgs l)
 |d,[]=>by simp only [zdb,zgs];exact zBj _ _
 |d,e::r=>by
  have h1:=zon (mx d (ze8 e)) r
  have h2:=zkE e
  simp only [zdb,zgs]
  unfold mx zc3 at *
  split at h1<;>split at h1<;>split<;>omega
end
mutual
theorem zrU:∀ s:Sm,zjD s≤szS s
 |.mk _ _ _ _ place value body els=>by
  have h1:=zkE place
  have h2:=zkE value
  have h3:=zkF 0 body
  have h4:=zkF 0 els
  have p1:=zb1 place
  simp only [zjD,szS]
  generalize ze8 place=a at *
  generalize ze8 value=b at *
  generalize za8 0 body=c at *
  generalize za8 0 els=d at *
  unfold mx zc3 at *
  split at h3<;>split at h4<;>(repeat' split)<;>omega
theorem zkF:∀ (d:Int) (l:List Sm),za8 d l≤mx d (zbh l)
 |d,[]=>by simp only [za8,zbh];exact zBj _ _
 |d,e::r=>by
  have h1:=zkF (mx d (zjD e)) r
  have h2:=zrU e
  simp only [za8,zbh]
  generalize za8 (mx d (zjD e)) r=q at *
  unfold mx zc3 at *
  split at h1<;>split at h1<;>split<;>omega
end
open Go
def zeO (n:Int):Bool:=(decide (n≥97)&&decide (n≤122)) || (decide (n≥65)&&decide (n≤90)) || n==95
def zgc (n:Int):Bool:=decide (n≥48)&&decide (n≤57)
def isW (c:UInt8):Bool:=zeO c.toNat || zgc c.toNat
def zrV (s:List UInt8) (a:Nat):Nat:=a+((s.drop a).takeWhile isW).length
def zFt (s:List UInt8):Bool:=s==[118,97,114] || s==[97,114,114,97,121] || s==[111,110] || s==[115,116,97,114,116] || s==[109,101,115,115,97,103,101] || s==[116,105,99,107] || s==[105,110,112,117,116] || s==[105,102] || s==[101,108,115,101] || s==[119,104,105,108,101] || s==[115,101,110,100] || s==[111,117,116,112,117,116] || s==[115,101,108,102] || s==[112,114,111,99,115] || s==[102,114,111,109] || s==[118,97,108,117,101]
def zbb (s:List UInt8):Bool:=!(s==[] || decide ((s.length:Int) > 16) || !zeO (s.getD 0 0).toNat)&&(((zrV s 0:Nat):Int)==(s.length:Int)&&!zFt s)
structure PgD where
 vars:List VarD
 start:List Sm
 message:List Sm
 tick:List Sm
 input:List Sm
def pgA (p:PgD):AVal:=.agg [.pv (.slice (p.vars.map za3)),.pv (.slice (p.start.map zam)),.pv (.slice (p.message.map zam)),.pv (.slice (p.tick.map zam)),.pv (.slice (p.input.map zam))]
def szP (p:PgD):Nat:=zbh p.start+zbh p.message+zbh p.tick+zbh p.input+p.vars.length
def znc (p:PgD):Int:=mx (mx (mx (za8 0 p.start) (za8 0 p.message)) (za8 0 p.tick)) (za8 0 p.input)
def zcB (v:VarD):Bool:=if !zbb v.name || decide (v.size<0) then false else if v.size != 0&&v.init != 0 then false else v.init != -9223372036854775808
def zbF (g:List Sm→Bool) (p:PgD):Int:=
 if znc p > 16 then 6 else if p.vars.any (fun v=>!zcB v) then 7 else if !g p.start || !g p.message || !g p.tick || !g p.input then 7 else 0
theorem zh5 (s:List UInt8) (h:16<s.length):zbb s=false:=by
 have:(s.length:Int) > 16:=by omega
 simp [zbb,this]
def zdK (op:Int):Int:=if op<1∨op > 22 then -1 else if op≥10 then 2 else if op=3∨op=8∨op=9 then 1 else 0
def zaW (name:List UInt8) (m:Bool):Bool:=if m then zbb name else name==[]
def zen (e:Ex):Bool:=e.op==0&&e.value==0&&e.name==[]&&e.slot==0&&e.size==0&&e.args.length==0
def zd0 (op value:Int) (name:List UInt8) (slot size:Int) (n:Nat):Bool:=
 zdK op==(n:Int)&&slot==0&&size==0&&!(decide (value<0) || (value != 0&&op != 1))&&zaW name (op==2 || op==3)
mutual
def zbc:Ex→Bool
 |.mk op value name slot size args=>zd0 op value name slot size args.length&&zby args
def zby:List Ex→Bool
 |[]=>true
 |e::r=>zbc e&&zby r
end
theorem zh6 (e:Ex):zbc e=(zd0 e.op e.value e.name e.slot e.size e.args.length&&zby e.args):=by cases e;simp [zbc,Ex.op,Ex.value,Ex.name,Ex.slot,Ex.size,Ex.args]
theorem zh7:∀ l:List Ex,zby l=l.all zbc
 |[]=>by simp [zby]
 |e::r=>by simp [zby,zh7 r]
def zeo (kind:Int) (name:List UInt8) (slot size:Int) (place:Ex) (nb ne:Nat):Bool:=
 decide (kind≥1)&&decide (kind≤6)&&slot==0&&size==0&&zaW name (kind==1 || kind==2) &&
 (if kind==2 || kind==5 then zbc place else zen place)&&!(decide (nb > 0)&&kind != 3&&kind != 4)&&!(decide (ne > 0)&&kind != 3)
mutual
def zct:Sm→Bool
 |.mk kind name slot size place value body els=>zeo kind name slot size place body.length els.length&&(zbc value&&zan body&&zan els)
def zan:List Sm→Bool
 |[]=>true
 |e::r=>zct e&&zan r
end
theorem zh8 (s:Sm):zct s=(zeo s.kind s.name s.slot s.size s.place s.body.length s.els.length&&(zbc s.value&&zan s.body&&zan s.els)):=by cases s;simp [zct,Sm.kind,Sm.name,Sm.slot,Sm.size,Sm.place,Sm.value,Sm.body,Sm.els]
theorem znd (a b:Nat):((a:Int)==(b:Int))=(a==b):=Bool.eq_iff_iff.mpr (by simp only [beq_iff_eq];omega)
theorem zu3 {a b:Int} (h:¬ a=b):(a==b)=false:=by simpa using h
open Go
structure TkD where
 kind:Int
 text:List UInt8
 value:Int
 pos:Int
def zkG (t:TkD):List PVal:=[.int .i64 t.kind,.str t.text,.int .i64 t.value,.int .i64 t.pos]
def tk0:TkD:=⟨0,[],0,0⟩
def zcd (p:UInt8→Bool) (s:List UInt8) (a:Nat):Nat:=a+((s.drop a).takeWhile p).length
theorem zkH (p:UInt8→Bool) (s:List UInt8) (a:Nat) (h:s.length≤a):zcd p s a=a:=by
 simp [zcd,List.drop_eq_nil_of_le h]
theorem zdr (p:UInt8→Bool) (s:List UInt8) (a:Nat) (h:a<s.length):zcd p s a=if p (s.getD a 0) then zcd p s (a+1) else a:=by
 unfold zcd
 rw [List.drop_eq_getElem_cons h,List.takeWhile_cons]
 have:s.getD a 0=s[a]:=by simp [List.getD,h]
 rw [this]
 split
 ·simp;omega
 ·simp
theorem zfF (p:UInt8→Bool) (s:List UInt8) (a:Nat):a≤zcd p s a:=by unfold zcd;omega
theorem zgE (p:UInt8→Bool) (s:List UInt8) (a:Nat) (h:a≤s.length):zcd p s a≤s.length:=by
 unfold zcd
 have h1:((s.drop a).takeWhile p).length≤(s.drop a).length:=(List.takeWhile_sublist p).length_le
 simp at h1
 omega
theorem zrW (s:List UInt8) (a:Nat):zrV s a=zcd isW s a:=rfl
def isD (c:UInt8):Bool:=zgc c.toNat
def isL (c:UInt8):Bool:=zeO c.toNat
def zb2 (c:UInt8):Bool:=c != 10
def isB (c:UInt8):Bool:=c==9 || c==10 || c==13 || c==32
def cut (s:List UInt8) (a b:Nat):List UInt8:=(s.take b).drop a
def ziR:List UInt8→Nat→Nat
 |[],acc=>acc
 |c::r,acc=>ziR r (acc * 10+(c.toNat - 48))
def zds (l:List UInt8):Nat:=ziR l 0
theorem zrX:∀ (l:List UInt8) (acc:Nat),acc≤ziR l acc
 |[],acc=>by rw [ziR];omega
 |c::r,acc=>by have:=zrX r (acc * 10+(c.toNat - 48));rw [ziR];omega
theorem zec {c:UInt8} (h:isD c=true):48≤c.toNat∧c.toNat≤57:=by
 unfold isD zgc at h
 rw [Bool.and_eq_true,decide_eq_true_eq,decide_eq_true_eq] at h
 omega
theorem zh9 (acc:Nat) (c:UInt8) (r:List UInt8):ziR (c::r) acc=ziR r (acc * 10+(c.toNat - 48)):=by rw [ziR]
theorem zed (M:Nat) (hM:M<18446744073709551620):∀ (l:List UInt8) (acc:Nat),(∀ c ∈ l,isD c=true)→acc≤M→Lib.parseUintM M acc l=if ziR l acc≤M then .ok (ziR l acc) else .range
 |[],acc,_,h=>by rw [Lib.parseUintM,ziR,if_pos h]
 |c::r,acc,hd,h=>by
  have hc:=zec (hd c List.mem_cons_self)
  have hge:=zrX r (acc * 10+(c.toNat - 48))
  rw [Lib.parseUintM,zh9,if_pos hc]
  have ih:=zed M hM r (acc * 10+(c.toNat - 48)) (fun x hx=>hd x (List.mem_cons_of_mem _ hx))
  generalize hq:acc * 10+(c.toNat - 48)=q at *
  by_cases h1:1844674407370955162≤acc
  ·rw [if_pos h1,if_neg (by omega)]
  ·rw [if_neg h1]
   by_cases h2:M<q
   ·rw [if_pos h2,if_neg (by omega)]
   ·rw [if_neg h2]
    exact ih (by omega)
theorem zfG (l:List UInt8) (h0:l≠[]) (hd:∀ c ∈ l,isD c=true):Lib.parseIntB 64 l=if zds l<9223372036854775808 then .ok (zds l:Int) else .range:=by
 cases l with
 |nil=>exact absurd rfl h0
 |cons c r=>
  have hc:=zec (hd c (by simp))
  have e1:¬ (c.toNat=43∨c.toNat=45):=by omega
  have e2:¬ c.toNat=45:=by omega
  have hp:=zed 18446744073709551615 (by omega) (c::r) 0 hd (by omega)
  simp only [Lib.parseIntB,if_neg e1,Lib.parseUintB]
  rw [if_neg (by simp),show (2 ^ 64 - 1:Nat)=18446744073709551615 from rfl,hp]
  have hv0:ziR (c::r) 0=zds (c::r):=rfl
  rw [hv0]
  generalize zds (c::r)=v
  by_cases h1:v≤18446744073709551615
  ·rw [if_pos h1]
   by_cases h2:v<9223372036854775808
   ·rw [if_pos h2]
    simp only [e2]
    rw [if_neg (by simp;omega),if_neg (by simp)]
    simp
   ·rw [if_neg h2]
    simp only [e2]
    rw [if_pos (by simp;omega)]
  ·rw [if_neg h1,if_neg (by omega)]
def zbg (c n:Int):Int:=
 if c==61 || c==33 || c==60 || c==62 then (if n==61 then 2 else 1)
 else if c==40 || c==41 || c==123 || c==125 || c==91 || c==93 || c==44 || c==59 || c==43 || c==45 || c==42 || c==47 || c==37 then 1
 else if (c==38 || c==124)&&n==c then 2 else 0
def zdD (s:List UInt8) (a:Nat):Int:=if a+1<s.length then ((s.getD (a+1) 0).toNat:Int) else 0
def zca (s:List UInt8) (a:Nat):Nat:=if s.getD a 0=48 then a+1 else zcd isD s (a+1)
def zts (s:List UInt8) (a:Nat):TkD × Int × Int:=
 if zcd isW s (zca s a) > zca s a then (tk0,0,1)
 else if zds (cut s a (zca s a))<9223372036854775808 then (⟨2,[],zds (cut s a (zca s a)),a⟩,zca s a,0) else (tk0,0,3)
def zcO (s:List UInt8) (a:Nat):TkD × Int × Int:=
 if isL (s.getD a 0) then (if zcd isW s a - a > 16 then (tk0,0,5) else (⟨1,cut s a (zcd isW s a),0,a⟩,zcd isW s a,0))
 else if isD (s.getD a 0) then zts s a
 else if zbg (s.getD a 0).toNat (zdD s a)=0 then (tk0,0,1)
 else (⟨3,cut s a (a+(zbg (s.getD a 0).toNat (zdD s a)).toNat),0,a⟩,a+zbg (s.getD a 0).toNat (zdD s a),0)
theorem zkI (c n:Int):0≤zbg c n∧zbg c n≤2:=by
 unfold zbg
 repeat' split
 all_goals omega
theorem zlY (s:List UInt8) (a:Nat) (h:a<s.length):a<zca s a∧zca s a≤s.length:=by
 unfold zca
 split
 ·omega
 ·have:=zfF isD s (a+1);have:=zgE isD s (a+1) (by omega);omega
theorem zu4 {c n:Int} (h:zbg c n=2):n=61∨n=38∨n=124:=by
 unfold zbg at h
 grind
theorem zgd (s:List UInt8) (a:Nat) (h:a<s.length) (h0:(zcO s a).2.2=0):∃ e:Nat,(zcO s a).2.1=e∧a<e∧e≤s.length:=by
 unfold zcO at h0 ⊢
 split
 ·rename_i hl
  rw [if_pos hl] at h0
  have hW:isW (s.getD a 0)=true:=by simp [isW];exact .inl hl
  have h1:=zdr isW s a h
  rw [hW,if_pos rfl] at h1
  have h2:=zfF isW s (a+1)
  have h3:=zgE isW s a (by omega)
  split
  ·rename_i h16;rw [if_pos h16] at h0;simp at h0
  ·exact ⟨_,rfl,by omega,h3⟩
 ·rename_i hl
  rw [if_neg hl] at h0
  split
  ·rename_i hd
   rw [if_pos hd] at h0
   unfold zts at h0 ⊢
   have h1:=zlY s a h
   split
   ·rename_i hw;rw [if_pos hw] at h0;simp at h0
   ·rename_i hw
    rw [if_neg hw] at h0
    split
    ·exact ⟨_,rfl,h1.1,h1.2⟩
    ·rename_i hv;rw [if_neg hv] at h0;simp at h0
  ·rename_i hd
   rw [if_neg hd] at h0
   split
   ·rename_i hs;rw [if_pos hs] at h0;simp at h0
   ·rename_i hs
    have h1:=zkI (s.getD a 0).toNat (zdD s a)
    refine ⟨a+(zbg (s.getD a 0).toNat (zdD s a)).toNat,by show (a:Int)+zbg _ _=_;omega,by omega,?_⟩
    by_cases h2:zbg (s.getD a 0).toNat (zdD s a)=2
    ·have h3:=zu4 h2
     have:a+1<s.length:=by
      by_cases h4:a+1<s.length
      ·exact h4
      ·simp [zdD,h4] at h3
     omega
    ·omega
def scanF (s:List UInt8):Nat→Nat→List TkD→List TkD × Int × Int
 |0,_,acc=>(acc,0,0)
 |f+1,a,acc=>
  if a<s.length then
   if isB (s.getD a 0) then scanF s f (a+1) acc
   else if s.getD a 0=35 then scanF s f (zcd zb2 s a) acc
   else if (zcO s a).2.2=0 then scanF s f (zcO s a).2.1.toNat (acc++[(zcO s a).1])
   else ([],a,(zcO s a).2.2)
  else (acc,0,0)
def scan (s:List UInt8):List TkD × Int × Int:=if s.length > 4096 then ([],0,5) else scanF s (s.length+1) 0 []
inductive PR (α:Type) where
 |ok (a:α) (k:Nat)
 |bad (k:Nat)
 |out
def PR.bind {α β:Type} (r:PR α) (f:α→Nat→PR β):PR β:=
 match r with
 |.ok a k=>f a k
 |.bad k=>.bad k
 |.out=>.out
section
variable (l:List TkD)
def zce (k:Nat):List UInt8:=if k<l.length then (l.getD k tk0).text else []
def isT (k:Nat) (s:List UInt8):Bool:=zce l k==s
def za4 (s:List UInt8) (k:Nat):PR Unit:=if isT l k s then .ok () (k+1) else .bad k
def zes (k:Nat):PR (List UInt8):=if k<l.length∧(l.getD k tk0).kind=1∧zbb (l.getD k tk0).text=true then .ok (l.getD k tk0).text (k+1) else .bad k
def nmF (least:Int) (k:Nat):PR Int:=if k<l.length∧(l.getD k tk0).kind=2∧least≤(l.getD k tk0).value then .ok (l.getD k tk0).value (k+1) else .bad k
def isNum (k:Nat):Bool:=decide (k<l.length)&&(l.getD k tk0).kind==2
def opF (lv:Nat) (s:List UInt8):Nat:=
 if lv=0 then (if s==[124,124] then 22 else 0)
 else if lv=1 then (if s==[38,38] then 21 else 0)
 else if lv=2 then (if s==[60] then 15 else if s==[60,61] then 16 else if s==[62] then 17 else if s==[62,61] then 18 else if s==[61,61] then 19 else if s==[33,61] then 20 else 0)
 else if lv=3 then (if s==[43] then 10 else if s==[45] then 11 else 0)
 else if lv=4 then (if s==[42] then 12 else if s==[47] then 13 else if s==[37] then 14 else 0)
 else 0
def exK (op:Int):Ex:=.mk op 0 [] 0 0 []
def exC (v:Int):Ex:=.mk 1 v [] 0 0 []
def exN (nm:List UInt8):Ex:=.mk 2 0 nm 0 0 []
def exI (nm:List UInt8) (e:Ex):Ex:=.mk 3 0 nm 0 0 [e]
def exU (op:Int) (e:Ex):Ex:=.mk op 0 [] 0 0 [e]
def exB (op:Int) (a b:Ex):Ex:=.mk op 0 [] 0 0 [a,b]
def exZ:Ex:=exK 0
inductive Nt where
 |bin (lv:Nat)
 |loop (lv:Nat) (e:Ex)
 |un
 |prim
def exF:Nat→Nt→Nat→PR Ex
 |0,_,_=>.out
 |n+1,.bin lv,k=>if lv=5 then exF n .un k else (exF n (.bin (lv+1)) k).bind fun e k'=>exF n (.loop lv e) k'
 |n+1,.loop lv e,k=>if opF lv (zce l k)=0 then .ok e k else (exF n (.bin (lv+1)) (k+1)).bind fun e2 k2=>exF n (.loop lv (exB (opF lv (zce l k)) e e2)) k2
 |n+1,.un,k=>
  if isT l k [45] then (exF n .un (k+1)).bind fun e k'=>.ok (exU 8 e) k'
  else if isT l k [33] then (exF n .un (k+1)).bind fun e k'=>.ok (exU 9 e) k'
  else exF n .prim k
 |n+1,.prim,k=>
  if isNum l k then (nmF l 0 k).bind fun v k'=>.ok (exC v) k'
  else if isT l k [115,101,108,102] then .ok (exK 4) (k+1)
  else if isT l k [112,114,111,99,115] then .ok (exK 5) (k+1)
  else if isT l k [102,114,111,109] then .ok (exK 6) (k+1)
  else if isT l k [118,97,108,117,101] then .ok (exK 7) (k+1)
  else if isT l k [40] then (exF n (.bin 0) (k+1)).bind fun e k'=>(za4 l [41] k').bind fun _ k2=>.ok e k2
  else (zes l k).bind fun nm k1=>if isT l k1 [91] then (exF n (.bin 0) (k1+1)).bind fun e k'=>(za4 l [93] k').bind fun _ k2=>.ok (exI nm e) k2 else .ok (exN nm) k1
def zbN (k:Nat):PR Ex:=exF l (9 * l.length+20) (.bin 0) k
inductive Ns where
 |block
 |stmts (acc:List Sm)
 |stmt
def smE (kind:Int) (nm:List UInt8) (place value:Ex) (body els:List Sm):Sm:=.mk kind nm 0 0 place value body els
def smF:Nat→Ns→Nat→PR (List Sm)
 |0,_,_=>.out
 |n+1,.block,k=>(za4 l [123] k).bind fun _ k1=>smF n (.stmts []) k1
 |n+1,.stmts acc,k=>if isT l k [125] then .ok acc (k+1) else (smF n .stmt k).bind fun s k1=>smF n (.stmts (acc++s)) k1
 |n+1,.stmt,k=>
  if isT l k [105,102] then (zbN l (k+1)).bind fun e k1=>(smF n .block k1).bind fun b k2=>if isT l k2 [101,108,115,101] then (smF n .block (k2+1)).bind fun c k3=>.ok [smE 3 [] exZ e b c] k3 else .ok [smE 3 [] exZ e b []] k2
  else if isT l k [119,104,105,108,101] then (zbN l (k+1)).bind fun e k1=>(smF n .block k1).bind fun b k2=>.ok [smE 4 [] exZ e b []] k2
  else if isT l k [115,101,110,100] then (zbN l (k+1)).bind fun p k1=>(za4 l [44] k1).bind fun _ k2=>(zbN l k2).bind fun e k3=>(za4 l [59] k3).bind fun _ k4=>.ok [smE 5 [] p e [] []] k4
  else if isT l k [111,117,116,112,117,116] then (zbN l (k+1)).bind fun e k1=>(za4 l [59] k1).bind fun _ k2=>.ok [smE 6 [] exZ e [] []] k2
  else (zes l k).bind fun nm k1=>
   if isT l k1 [91] then (zbN l (k1+1)).bind fun p k2=>(za4 l [93] k2).bind fun _ k3=>(za4 l [61] k3).bind fun _ k4=>(zbN l k4).bind fun e k5=>(za4 l [59] k5).bind fun _ k6=>.ok [smE 2 nm p e [] []] k6
   else (za4 l [61] k1).bind fun _ k4=>(zbN l k4).bind fun e k5=>(za4 l [59] k5).bind fun _ k6=>.ok [smE 1 nm exZ e [] []] k6
def zbk (k:Nat):PR (List Sm):=smF l (3 * l.length+20) .block k
def zgF (k:Nat):PR Int:=if isT l k [61] then (if isT l (k+1) [45] then (nmF l 0 (k+2)).bind fun v k'=>.ok (-v) k' else nmF l 0 (k+1)) else .ok 0 k
def zia:Nat→List VarD→Nat→PR (List VarD)
 |0,_,_=>.out
 |n+1,acc,k=>
  if isT l k [118,97,114] then (zes l (k+1)).bind fun nm k1=>(zgF l k1).bind fun v k2=>(za4 l [59] k2).bind fun _ k3=>zia n (acc++[⟨nm,0,v⟩]) k3
  else if isT l k [97,114,114,97,121] then (zes l (k+1)).bind fun nm k1=>(za4 l [91] k1).bind fun _ k2=>(nmF l 1 k2).bind fun v k3=>(za4 l [93] k3).bind fun _ k4=>(za4 l [59] k4).bind fun _ k5=>zia n (acc++[⟨nm,v,0⟩]) k5
  else .ok acc k
structure Seen where
 s:Bool
 m:Bool
 t:Bool
 i:Bool
def zhd:Nat→PgD→Seen→Nat→PR PgD
 |0,_,_,_=>.out
 |n+1,p,z,k=>
  if k<l.length then (za4 l [111,110] k).bind fun _ k1=>
   if !z.s&&isT l k1 [115,116,97,114,116] then (zbk l (k1+1)).bind fun b k2=>zhd n { p with start:=b } { z with s:=true } k2
   else if !z.m&&isT l k1 [109,101,115,115,97,103,101] then (zbk l (k1+1)).bind fun b k2=>zhd n { p with message:=b } { z with m:=true } k2
   else if !z.t&&isT l k1 [116,105,99,107] then (zbk l (k1+1)).bind fun b k2=>zhd n { p with tick:=b } { z with t:=true } k2
   else if !z.i&&isT l k1 [105,110,112,117,116] then (zbk l (k1+1)).bind fun b k2=>zhd n { p with input:=b } { z with i:=true } k2
   else .bad k1
  else .ok p k
def zja:PR PgD:=(zia l (l.length+1) [] 0).bind fun vs k=>zhd l (l.length+1) ⟨vs,[],[],[],[]⟩ ⟨false,false,false,false⟩ k
def zgW (n:Nat) (k:Nat):Int:=if k<l.length then (l.getD k tk0).pos else n
end
end Go.Abs
namespace Go.Abs
open Go
def PR.on {α:Type} (r:PR α) (k n:Nat):Prop:=match r with|.ok _ k'=>k≤k'∧k'≤n|.bad k'=>k≤k'∧k'≤n|.out=>True
def PR.past {α:Type} (r:PR α) (k n:Nat):Prop:=match r with|.ok _ k'=>k<k'∧k'≤n|.bad k'=>k≤k'∧k'≤n|.out=>True
theorem PR.past.on {α:Type} {r:PR α} {k n:Nat} (h:r.past k n):r.on k n:=by
 cases r<;>simp only [PR.past,PR.on] at *<;>omega
theorem PR.on.le {α:Type} {r:PR α} {k k0 n:Nat} (h:r.on k n) (hk:k0≤k):r.on k0 n:=by
 cases r<;>simp only [PR.on] at *<;>omega
theorem PR.on.lt {α:Type} {r:PR α} {k k0 n:Nat} (h:r.on k n) (hk:k0<k):r.past k0 n:=by
 cases r<;>simp only [PR.past,PR.on] at *<;>omega
theorem PR.on.bind {α β:Type} {r:PR α} {f:α→Nat→PR β} {k n:Nat} (h:r.on k n) (hf:∀ a k',k≤k'→k'≤n→(f a k').on k' n):(r.bind f).on k n:=by
 cases r with
 |ok a k'=>simp only [PR.on,PR.bind] at *;exact PR.on.le (hf a k' h.1 h.2) h.1
 |bad k'=>exact h
 |out=>trivial
theorem PR.past.bind {α β:Type} {r:PR α} {f:α→Nat→PR β} {k n:Nat} (h:r.past k n) (hf:∀ a k',k<k'→k'≤n→(f a k').on k' n):(r.bind f).past k n:=by
 cases r with
 |ok a k'=>simp only [PR.past,PR.bind] at *;exact PR.on.lt (hf a k' h.1 h.2) h.1
 |bad k'=>exact h
 |out=>trivial
theorem PR.ok_on {α:Type} (a:α) {k n:Nat} (h:k≤n):(PR.ok a k).on k n:=⟨Nat.le_refl _,h⟩
section
variable {l:List TkD}
theorem zaz {k:Nat} {s:List UInt8} (h:isT l k s=true) (hs:s≠[]):k<l.length:=by
 unfold isT zce at h
 by_cases hk:k<l.length
 ·exact hk
 ·rw [if_neg hk] at h
  exact absurd (by simpa using h:([]:List UInt8)=s).symm hs
theorem zaD {s:List UInt8} {k:Nat} (hk:k≤l.length) (hs:s≠[]):(za4 l s k).past k l.length:=by
 unfold za4
 split
 ·rename_i h;have:=zaz h hs;exact ⟨by omega,by omega⟩
 ·exact ⟨Nat.le_refl _,hk⟩
theorem zbz {k:Nat} (hk:k≤l.length):(zes l k).past k l.length:=by
 unfold zes
 split
 ·rename_i h;exact ⟨by omega,by omega⟩
 ·exact ⟨Nat.le_refl _,hk⟩
theorem zee {z:Int} {k:Nat} (hk:k≤l.length):(nmF l z k).past k l.length:=by
 unfold nmF
 split
 ·rename_i h;exact ⟨by omega,by omega⟩
 ·exact ⟨Nat.le_refl _,hk⟩
theorem zrY {lv k:Nat} (h:¬ opF lv (zce l k)=0):k<l.length:=by
 by_cases hk:k<l.length
 ·exact hk
 ·exfalso
  apply h
  unfold zce
  rw [if_neg hk]
  unfold opF
  repeat' split
  all_goals first|rfl|simp_all
def Nt.strict:Nt→Bool
 |.loop _ _=>false
 |_=>true
theorem zcY:∀ (n:Nat) (nt:Nt) (k:Nat),k≤l.length→(exF l n nt k).on k l.length∧(nt.strict=true→(exF l n nt k).past k l.length)
 |0,nt,k,hk=>by constructor<;>intros<;>(unfold exF;trivial)
 |n+1,.bin lv,k,hk=>by
  have h:(exF l (n+1) (.bin lv) k).past k l.length:=by
   unfold exF
   split
   ·exact (zcY n .un k hk).2 rfl
   ·exact PR.past.bind ((zcY n (.bin (lv+1)) k hk).2 rfl) (fun e k' _ h2=>(zcY n (.loop lv e) k' h2).1)
  exact ⟨h.on,fun _=>h⟩
 |n+1,.loop lv e,k,hk=>by
  refine ⟨?_,fun h=>by cases h⟩
  unfold exF
  split
  ·exact PR.ok_on _ hk
  ·rename_i h
   have:=zrY h
   exact PR.on.le (PR.on.bind (zcY n (.bin (lv+1)) (k+1) (by omega)).1 (fun e2 k2 _ h2=>(zcY n _ k2 h2).1)) (by omega)
 |n+1,.un,k,hk=>by
  have h:(exF l (n+1) .un k).past k l.length:=by
   unfold exF
   split
   ·rename_i h
    have:=zaz h (by simp)
    exact PR.on.lt (PR.on.bind (zcY n .un (k+1) (by omega)).1 (fun e k' _ h2=>PR.ok_on _ h2)) (by omega)
   ·split
    ·rename_i h
     have:=zaz h (by simp)
     exact PR.on.lt (PR.on.bind (zcY n .un (k+1) (by omega)).1 (fun e k' _ h2=>PR.ok_on _ h2)) (by omega)
    ·exact (zcY n .prim k hk).2 rfl
  exact ⟨h.on,fun _=>h⟩
 |n+1,.prim,k,hk=>by
  have one:∀ {s:List UInt8} {e:Ex},isT l k s=true→s≠[]→(PR.ok e (k+1)).past k l.length:=fun h hs=>⟨by omega,by have:=zaz h hs;omega⟩
  have h:(exF l (n+1) .prim k).past k l.length:=by
   unfold exF
   split
   ·exact PR.past.bind (zee hk) (fun v k' _ h2=>PR.ok_on _ h2)
   split
   ·exact one ‹_› (by simp)
   split
   ·exact one ‹_› (by simp)
   split
   ·exact one ‹_› (by simp)
   split
   ·exact one ‹_› (by simp)
   split
   ·rename_i h
    have:=zaz h (by simp)
    exact PR.on.lt (PR.on.bind (zcY n (.bin 0) (k+1) (by omega)).1 (fun e k' _ h2=>PR.on.bind (zaD h2 (by simp)).on (fun _ k2 _ h3=>PR.ok_on _ h3))) (by omega)
   ·refine PR.past.bind (zbz hk) (fun nm k1 _ h1=>?_)
    split
    ·rename_i h
     have:=zaz h (by simp)
     exact PR.on.le (PR.on.bind (zcY n (.bin 0) (k1+1) (by omega)).1 (fun e k' _ h2=>PR.on.bind (zaD h2 (by simp)).on (fun _ k2 _ h3=>PR.ok_on _ h3))) (by omega)
    ·exact PR.ok_on _ h1
  exact ⟨h.on,fun _=>h⟩
def Nt.need (m:Nat):Nt→Nat
 |.bin lv=>9 * m+(5 - lv)+3
 |.loop _ _=>9 * m+9
 |.un=>9 * m+2
 |.prim=>9 * m+1
def Nt.fit:Nt→Bool
 |.bin lv=>decide (lv≤5)
 |.loop lv _=>decide (lv<5)
 |_=>true
def PR.isOut {α:Type}:PR α→Bool
 |.out=>true
 |_=>false
theorem PR.bind_out {α β:Type} {r:PR α} {f:α→Nat→PR β} (h:r.isOut=false) (hf:∀ a k',r=.ok a k'→(f a k').isOut=false):(r.bind f).isOut=false:=by
 cases r with
 |ok a k'=>exact hf a k' rfl
 |bad k'=>rfl
 |out=>cases h
theorem zbl {s:List UInt8} {k:Nat}:(za4 l s k).isOut=false:=by unfold za4;split<;>rfl
theorem zef {k:Nat}:(zes l k).isOut=false:=by unfold zes;split<;>rfl
theorem zgG {z:Int} {k:Nat}:(nmF l z k).isOut=false:=by unfold nmF;split<;>rfl
theorem zdt:∀ (n:Nat) (nt:Nt) (k:Nat),k≤l.length→nt.fit=true→nt.need (l.length - k)≤n→(exF l n nt k).isOut=false
 |0,nt,k,hk,_,h=>by cases nt<;>simp only [Nt.need] at h<;>omega
 |n+1,.bin lv,k,hk,hf,h=>by
  simp only [Nt.need] at h
  simp only [Nt.fit,decide_eq_true_eq] at hf
  unfold exF
  split
  ·exact zdt n .un k hk rfl (by simp only [Nt.need];omega)
  ·refine PR.bind_out (zdt n (.bin (lv+1)) k hk (by simp only [Nt.fit,decide_eq_true_eq];omega) (by simp only [Nt.need];omega)) (fun e k' he=>?_)
   have h1:=(zcY (l:=l) n (.bin (lv+1)) k hk).2 rfl
   rw [he] at h1
   exact zdt n (.loop lv e) k' h1.2 (by simp only [Nt.fit,decide_eq_true_eq];omega) (by have:=h1.1;have:=h1.2;simp only [Nt.need];omega)
 |n+1,.loop lv e,k,hk,hf,h=>by
  simp only [Nt.need] at h
  simp only [Nt.fit,decide_eq_true_eq] at hf
  unfold exF
  split
  ·rfl
  ·rename_i h0
   have:=zrY h0
   refine PR.bind_out (zdt n (.bin (lv+1)) (k+1) (by omega) (by simp only [Nt.fit,decide_eq_true_eq];omega) (by simp only [Nt.need];omega)) (fun e2 k2 he=>?_)
   have h1:=(zcY (l:=l) n (.bin (lv+1)) (k+1) (by omega)).2 rfl
   rw [he] at h1
   exact zdt n _ k2 h1.2 (by simp only [Nt.fit,decide_eq_true_eq];omega) (by have:=h1.1;have:=h1.2;simp only [Nt.need];omega)
 |n+1,.un,k,hk,hf,h=>by
  simp only [Nt.need] at h
  unfold exF
  split
  ·rename_i h0
   have:=zaz h0 (by simp)
   exact PR.bind_out (zdt n .un (k+1) (by omega) rfl (by simp only [Nt.need];omega)) (fun _ _ _=>rfl)
  ·split
   ·rename_i h0
    have:=zaz h0 (by simp)
    exact PR.bind_out (zdt n .un (k+1) (by omega) rfl (by simp only [Nt.need];omega)) (fun _ _ _=>rfl)
   ·exact zdt n .prim k hk rfl (by simp only [Nt.need];omega)
 |n+1,.prim,k,hk,hf,h=>by
  simp only [Nt.need] at h
  unfold exF
  split
  ·exact PR.bind_out zgG (fun _ _ _=>rfl)
  split
  ·rfl
  split
  ·rfl
  split
  ·rfl
  split
  ·rfl
  split
  ·rename_i h0
   have:=zaz h0 (by simp)
   exact PR.bind_out (zdt n (.bin 0) (k+1) (by omega) rfl (by simp only [Nt.need];omega)) (fun _ _ _=>PR.bind_out zbl (fun _ _ _=>rfl))
  ·refine PR.bind_out zef (fun nm k1 he=>?_)
   have h1:=zbz (l:=l) hk
   rw [he] at h1
   split
   ·rename_i h0
    have:=zaz h0 (by simp)
    exact PR.bind_out (zdt n (.bin 0) (k1+1) (by omega) rfl (by have:=h1.1;simp only [Nt.need];omega)) (fun _ _ _=>PR.bind_out zbl (fun _ _ _=>rfl))
   ·rfl
theorem zdL {k:Nat} (hk:k≤l.length):(zbN l k).isOut=false:=zdt _ _ k hk rfl (by simp only [Nt.need];omega)
theorem zib {k:Nat} (hk:k≤l.length):(zbN l k).past k l.length:=(zcY _ _ k hk).2 rfl
end
end Go.Abs
namespace Go.Abs
open Go
def lvF (op:Nat):Nat:=if op=22 then 0 else if op=21 then 1 else if op=10∨op=11 then 3 else if op=12∨op=13∨op=14 then 4 else 2
def sgF (op:Nat):List UInt8:=
 if op=8∨op=11 then [45] else if op=9 then [33] else if op=10 then [43] else if op=12 then [42] else if op=13 then [47] else if op=14 then [37]
 else if op=15 then [60] else if op=16 then [60,61] else if op=17 then [62] else if op=18 then [62,61] else if op=19 then [61,61] else if op=20 then [33,61] else if op=21 then [38,38] else [124,124]
theorem zwa (k:Nat) (h1:10≤k) (h2:k≤22):opF (lvF k) (sgF k)=k:=by
 have:k=10∨k=11∨k=12∨k=13∨k=14∨k=15∨k=16∨k=17∨k=18∨k=19∨k=20∨k=21∨k=22:=by omega
 rcases this with rfl|rfl|rfl|rfl|rfl|rfl|rfl|rfl|rfl|rfl|rfl|rfl|rfl<;>rfl
theorem zBk {lv:Nat} {s:List UInt8} (h:opF lv s≠0):10≤opF lv s∧opF lv s≤22∧lvF (opF lv s)=lv∧sgF (opF lv s)=s:=by
 unfold opF at h ⊢
 repeat' split
 all_goals first
  |(exfalso;simp_all;done)
  |(rename_i hs;simp only [beq_iff_eq] at hs;subst hs;subst_vars;decide)
def znf:List Ex→AVal
 |[]=>.snil
 |e::r=>.pv (.slice ((e::r).map zbr))
def exA (e:Ex):AVal:=.agg [.pv (.int .i64 e.op),.pv (.int .i64 e.value),.pv (.str e.name),.pv (.int .i64 e.slot),.pv (.int .i64 e.size),znf e.args]
theorem zbV:znf []=.snil:=rfl
theorem za0 (e:Ex) (r:List Ex):znf (e::r)=.pv (.slice ((e::r).map zbr)):=rfl
theorem zxZ (a:List Ex):AVal.isCell (znf a)=true:=by cases a<;>rfl
theorem zrZ (a:List Ex):AVal.cells (znf a)=[znf a]:=by cases a<;>rfl
theorem zfH (ι:Nat→Nat) (a:List Ex):ren ι (znf a)=znf a:=by cases a<;>simp [znf,ren]
theorem zjF (n:Nat→Bool) (a:List Ex):zao n (znf a)=true:=by cases a<;>simp [znf,zao]
theorem zu5 (a:List Ex) (r:List AVal):zeu (znf a::r)=match zeu r with|some ps=>some (.slice (a.map zbr)::ps)|none=>none:=by
 cases a<;>(simp only [znf,zeu,AVal.toP];cases zeu r<;>rfl)
def kA:=And.intro @zxZ<|And.intro @zrZ<|And.intro @zfH<|And.intro @zu5<|@zbV
theorem zu6 (op:Int):exA (exK op)=.agg [.pv (.int .i64 op),.pv (.int .i64 0),.pv (.str []),.pv (.int .i64 0),.pv (.int .i64 0),.snil]:=rfl
theorem zEH (v:Int):exA (exC v)=.agg [.pv (.int .i64 1),.pv (.int .i64 v),.pv (.str []),.pv (.int .i64 0),.pv (.int .i64 0),.snil]:=rfl
theorem zEI (nm:List UInt8):exA (exN nm)=.agg [.pv (.int .i64 2),.pv (.int .i64 0),.pv (.str nm),.pv (.int .i64 0),.pv (.int .i64 0),.snil]:=rfl
theorem zge:∀ l:List UInt8,Lib.indexByte l 10=if (l.takeWhile zb2).length=l.length then -1 else ((l.takeWhile zb2).length:Int)
 |[]=>by simp [Lib.indexByte]
 |b::l=>by
  rw [Lib.indexByte,zge l,List.takeWhile_cons]
  have hle:(l.takeWhile zb2).length≤l.length:=(List.takeWhile_sublist zb2).length_le
  by_cases h:b=10
  ·subst h
   simp [zb2]
  ·have hb:(b==10)=false:=by simpa using h
   have hn:zb2 b=true:=by simp [zb2,h]
   rw [hb,hn,if_neg (by simp),if_pos rfl]
   simp only [List.length_cons]
   by_cases h2:(l.takeWhile zb2).length=l.length
   ·simp [h2]
   ·have h3:¬ ((l.takeWhile zb2).length+1=l.length+1):=by omega
    have h4:¬ (((l.takeWhile zb2).length:Int)=-1):=by omega
    simp [h2,h4]
theorem zjG (s:List UInt8) (a:Nat) (h:a≤s.length):(if Lib.indexByte (s.drop a) 10<0 then (s.length:Int) else a+Lib.indexByte (s.drop a) 10)=zcd zb2 s a:=by
 rw [zge]
 unfold zcd
 have hl:(s.drop a).length=s.length - a:=by simp
 by_cases h2:((s.drop a).takeWhile zb2).length=(s.drop a).length
 ·rw [if_pos h2,if_pos (by omega),h2,hl];omega
 ·rw [if_neg h2,if_neg (by omega)];omega
theorem zho (s:List UInt8) (a k:Nat) (h:k<s.length) (ha:a≤k):cut s a (k+1)=cut s a k++[s.getD k 0]:=by
 unfold cut
 rw [List.take_succ_eq_append_getElem h,List.drop_append_of_le_length (by simp;omega)]
 simp [List.getD,h]
theorem zeg (s:List UInt8) (a k:Nat) (hr1:s.getD a 0≠48→zcd isD s k=zcd isD s (a+1)) (hr2:s.getD a 0=48→k=a+1)
  (hc:((((s.getD a 0).toNat:Nat):Int) != 48&&decide ((k:Int)<s.length)&&zgc ((s.getD k 0).toNat:Int))=false) (h48:((((s.getD a 0).toNat:Nat):Int) != 48)=true ↔ s.getD a 0≠48):zca s a=k:=by
 unfold zca
 by_cases h:s.getD a 0=48
 ·rw [if_pos h,hr2 h]
 ·rw [if_neg h,←hr1 h]
  rw [h48.2 h,Bool.true_and] at hc
  by_cases hlt:k<s.length
  ·rw [zdr isD s k hlt]
   have h1:decide ((k:Int)<s.length)=true:=by simpa using (show (k:Int)<s.length by omega)
   rw [h1,Bool.true_and] at hc
   rw [show isD (s.getD k 0)=false from hc]
   simp
  ·exact zkH isD s k (by omega)
theorem zoo (s:List UInt8) (a:Nat):cut s a a=[]:=by simp [cut]
theorem zr0 (s:List UInt8) (a k:Nat) (h:a<k) (hk:k≤s.length):cut s a k≠[]:=by
 intro e
 have:=congrArg List.length e
 simp [cut] at this
 omega
theorem zkJ (s:List UInt8) (a k:Nat) (hk:k≤s.length):(cut s a k).length=k - a:=by simp [cut];omega
theorem zEJ (c:UInt8) (n:Nat) (h:n<256):(((c.toNat:Int) != (n:Int))=true) ↔ c≠UInt8.ofNat n:=by
 rw [bne_iff_ne]
 constructor
 ·intro h1 h2
  apply h1
  rw [h2]
  simp
  omega
 ·intro h1 h2
  apply h1
  apply UInt8.toNat.inj
  simp
  omega
structure SI (s:List UInt8) where
 k:Nat
 acc:List TkD
 f:Nat
 hk:k≤s.length
 hf:s.length<k+f
 ha:acc.length≤k
 eq:scanF s f k acc=scanF s (s.length+1) 0 []
variable {s:List UInt8} (i:SI s)
theorem SI.fpos (h:i.k<s.length):∃ f,i.f=f+1:=⟨i.f - 1,by have:=i.hf;omega⟩
theorem SI.unf (h:i.k<s.length):scanF s i.f i.k i.acc=(if isB (s.getD i.k 0) then scanF s (i.f - 1) (i.k+1) i.acc else if s.getD i.k 0=35 then scanF s (i.f - 1) (zcd zb2 s i.k) i.acc else if (zcO s i.k).2.2=0 then scanF s (i.f - 1) (zcO s i.k).2.1.toNat (i.acc++[(zcO s i.k).1]) else ([],i.k,(zcO s i.k).2.2)):=by
 obtain ⟨f,hf⟩:=i.fpos h
 rw [hf,scanF,if_pos h]
 rfl
def SI.blank (h:i.k<s.length) (hb:isB (s.getD i.k 0)=true):SI s:=⟨i.k+1,i.acc,i.f - 1,h,by have:=i.hf;omega,by have:=i.ha;omega,by
 have:=i.unf h;rw [if_pos hb] at this;rw [←this];exact i.eq⟩
theorem zkK (h:i.k<s.length) (hh:s.getD i.k 0=35):i.k<zcd zb2 s i.k∧zcd zb2 s i.k≤s.length:=by
 have h1:=zdr zb2 s i.k h
 have h2:zb2 (s.getD i.k 0)=true:=by rw [hh];rfl
 rw [h2,if_pos rfl] at h1
 have h3:=zfF zb2 s (i.k+1)
 exact ⟨by omega,zgE zb2 s i.k (by omega)⟩
def SI.hsh (h:i.k<s.length) (hh:s.getD i.k 0=35):SI s:=⟨zcd zb2 s i.k,i.acc,i.f - 1,(zkK i h hh).2,by have:=i.hf;have:=zkK i h hh;omega,by have:=i.ha;have:=zkK i h hh;omega,by
 have:=i.unf h
 have hb:¬ (isB (s.getD i.k 0)=true):=by rw [hh];decide
 rw [if_neg hb,if_pos hh] at this;rw [←this];exact i.eq⟩
theorem zop (h:i.k<s.length) (h0:(zcO s i.k).2.2=0):i.k<(zcO s i.k).2.1.toNat∧(zcO s i.k).2.1.toNat≤s.length∧(zcO s i.k).2.1=(((zcO s i.k).2.1.toNat:Nat):Int):=by
 obtain ⟨e,h1,h2,h3⟩:=zgd s i.k h h0
 rw [h1]
 exact ⟨by simpa using h2,by simpa using h3,by simp⟩
def SI.tok (h:i.k<s.length) (hb:¬ (isB (s.getD i.k 0)=true)) (hh:¬ s.getD i.k 0=35) (h0:(zcO s i.k).2.2=0):SI s:=
 ⟨(zcO s i.k).2.1.toNat,i.acc++[(zcO s i.k).1],i.f - 1,(zop i h h0).2.1,by have:=i.hf;have:=zop i h h0;omega,by have:=i.ha;have:=zop i h h0;simp;omega,by
 have:=i.unf h
 rw [if_neg hb,if_neg hh,if_pos h0] at this;rw [←this];exact i.eq⟩
theorem SI.bad (h:i.k<s.length) (hb:¬ (isB (s.getD i.k 0)=true)) (hh:¬ s.getD i.k 0=35) (h0:¬ (zcO s i.k).2.2=0):scanF s (s.length+1) 0 []=([],(i.k:Int),(zcO s i.k).2.2):=by
 have:=i.unf h
 rw [if_neg hb,if_neg hh,if_neg h0] at this;rw [←i.eq,this]
theorem SI.fin (h:¬ i.k<s.length):scanF s (s.length+1) 0 []=(i.acc,0,0):=by
 rw [←i.eq]
 cases hf:i.f with
 |zero=>rfl
 |succ f=>rw [scanF,if_neg h]
def SI.start (s:List UInt8):SI s:=⟨0,[],s.length+1,by omega,by omega,by simp,rfl⟩
theorem SI.blank_k (h:i.k<s.length) (hb:isB (s.getD i.k 0)=true):(i.blank h hb).k=i.k+1:=rfl
theorem SI.blank_acc (h:i.k<s.length) (hb:isB (s.getD i.k 0)=true):(i.blank h hb).acc=i.acc:=rfl
theorem SI.hsh_k (h:i.k<s.length) (hb:s.getD i.k 0=35):(i.hsh h hb).k=zcd zb2 s i.k:=rfl
theorem SI.hsh_acc (h:i.k<s.length) (hb:s.getD i.k 0=35):(i.hsh h hb).acc=i.acc:=rfl
theorem SI.tok_k (h:i.k<s.length) (hb:¬ (isB (s.getD i.k 0)=true)) (hh:¬ s.getD i.k 0=35) (h0:(zcO s i.k).2.2=0):(i.tok h hb hh h0).k=(zcO s i.k).2.1.toNat:=rfl
theorem SI.tok_acc (h:i.k<s.length) (hb:¬ (isB (s.getD i.k 0)=true)) (hh:¬ s.getD i.k 0=35) (h0:(zcO s i.k).2.2=0):(i.tok h hb hh h0).acc=i.acc++[(zcO s i.k).1]:=rfl
theorem SI.start_k (s:List UInt8):(SI.start s).k=0:=rfl
theorem SI.start_acc (s:List UInt8):(SI.start s).acc=[]:=rfl
theorem u8f {c d:UInt8} (h:c≠d):(((c.toNat:Nat):Int)==((d.toNat:Nat):Int))=false:=by
 have:¬ ((c.toNat:Int)=d.toNat):=fun e=>h (UInt8.toNat.inj (by omega))
 simpa using this
theorem zx0 {c:UInt8} (h:¬ (isB c=true)):c≠9∧c≠10∧c≠13∧c≠32:=by
 simp [isB] at h;exact ⟨h.1.1.1,h.1.1.2,h.1.2,h.2⟩
theorem zwb {c:UInt8} (h:isB c=true):c=9∨c=10∨c=13∨c=32:=by
 simp [isB] at h
 rcases h with ((h|h)|h)|h<;>simp [h]
end Go.Abs
namespace Go.Abs
open Go
def dg:Nat→Nat→List UInt8
 |0,_=>[]
 |f+1,n=>if n=0 then [] else dg f (n / 10)++[UInt8.ofNat (48+n % 10)]
def zdM (n:Int):List UInt8:=if n≤0 then [48] else dg 20 n.toNat
theorem zdQ (f:Nat):dg f 0=[]:=by cases f<;>simp [dg]
theorem zeP (f n:Nat) (h:n≠0):dg (f+1) n=dg f (n / 10)++[UInt8.ofNat (48+n % 10)]:=by rw [dg,if_neg h]
theorem zr1:∀ (f n:Nat),n<10 ^ f→dg (f+1) n=dg f n
 |0,n,h=>by
  have:n=0:=by simpa using h
  subst this;rw [zdQ,zdQ]
 |f+1,n,h=>by
  by_cases h0:n=0
  ·subst h0;rw [zdQ,zdQ]
  ·rw [zeP _ _ h0,zeP _ _ h0,zr1 f (n / 10) (by rw [Nat.pow_succ] at h;omega)]
theorem dgD (n:Nat):isD (UInt8.ofNat (48+n % 10))=true:=by
 have h:n % 10<10:=Nat.mod_lt _ (by omega)
 unfold isD zgc
 simp
 omega
theorem zr2:∀ (f n:Nat) (c:UInt8),c ∈ dg f n→isD c=true
 |0,_,c,h=>by simp [dg] at h
 |f+1,n,c,h=>by
  by_cases h0:n=0
  ·subst h0;rw [zdQ] at h;simp at h
  ·rw [zeP _ _ h0,List.mem_append,List.mem_singleton] at h
   rcases h with h|rfl
   ·exact zr2 f _ c h
   ·exact dgD n
theorem zfI:∀ (l r:List UInt8) (a:Nat),ziR (l++r) a=ziR r (ziR l a)
 |[],r,a=>by simp [ziR]
 |c::l,r,a=>by simp only [List.cons_append,ziR];exact zfI l r _
theorem zr3:∀ (f n:Nat),n<10 ^ f→zds (dg f n)=n
 |0,n,h=>by have:n=0:=(by simpa using h);subst this;rfl
 |f+1,n,h=>by
  by_cases h0:n=0
  ·subst h0;rw [zdQ];rfl
  ·have hv:=zr3 f (n / 10) (by rw [Nat.pow_succ] at h;omega)
   unfold zds at *
   rw [zeP _ _ h0,zfI,hv]
   have hr:n % 10<10:=Nat.mod_lt _ (by omega)
   have:(UInt8.ofNat (48+n % 10)).toNat=48+n % 10:=by simp;omega
   simp only [ziR,this]
   omega
theorem zoq:∀ (f n:Nat),(dg f n).length≤f
 |0,_=>by simp [dg]
 |f+1,n=>by
  rw [dg]
  split
  ·simp
  ·have:=zoq f (n / 10);simp;omega
theorem zng:∀ (f n:Nat),n<10 ^ f→n≠0→∃ c r,dg f n=c::r∧c≠48∧isD c=true
 |0,n,h,h0=>by simp at h;omega
 |f+1,n,h,h0=>by
  rw [zeP _ _ h0]
  by_cases h1:n / 10=0
  ·rw [h1,zdQ]
   refine ⟨_,[],rfl,?_,dgD n⟩
   intro e
   have:=congrArg UInt8.toNat e
   simp at this
   omega
  ·obtain ⟨c,r,e,h2,h3⟩:=zng f (n / 10) (by rw [Nat.pow_succ] at h;omega) h1
   exact ⟨c,r++[_],by rw [e];rfl,h2,h3⟩
theorem zr4 (p:UInt8→Bool) (d:List UInt8) (h:∀ c ∈ d,p c=true) (k:Nat) (hk:k≤d.length) (r:List UInt8) (hr:∀ c,r.head?=some c→p c=false):zcd p (d++r) k=d.length:=by
 unfold zcd
 rw [List.drop_append_of_le_length hk]
 have h1:(d.drop k++r).takeWhile p=d.drop k:=by
  rw [List.takeWhile_append_of_pos (fun c hc=>h c (List.mem_of_mem_drop hc))]
  cases r with
  |nil=>simp
  |cons c r=>rw [List.takeWhile_cons,hr c rfl];simp
 rw [h1]
 simp
 omega
theorem zu7 {c:UInt8} (h:isD c=true):isL c=false:=by
 have:=zec h
 unfold isL zeO
 simp
 omega
theorem zEK {c:UInt8} (h:isD c=true):isW c=true:=by
 unfold isW
 rw [show zgc c.toNat=true from h];simp
structure Num (d:List UInt8):Prop where
 all:∀ c ∈ d,isD c=true
 ne:d≠[]
 lead:d.getD 0 0=48→d.length=1
theorem zor (n:Int) (h:n≤9223372036854775807):Num (zdM n)∧(zdM n).length≤20∧(zds (zdM n):Int)=zc3 n 0:=by
 unfold zdM
 by_cases h0:n≤0
 ·rw [if_pos h0]
  refine ⟨⟨by decide,by simp,by simp⟩,by simp,?_⟩
  have:zc3 n 0=0:=by unfold zc3;split<;>omega
  rw [this];rfl
 ·rw [if_neg h0]
  have hlt:n.toNat<10 ^ 20:=by omega
  obtain ⟨c,r,e,h2,h3⟩:=zng 20 n.toNat hlt (by omega)
  refine ⟨⟨fun c hc=>zr2 20 _ c hc,by rw [e];simp,fun h48=>by rw [e] at h48;exact absurd (by simpa using h48) h2⟩,zoq 20 _,?_⟩
  rw [zr3 20 _ hlt]
  have:zc3 n 0=n:=by unfold zc3;split<;>omega
  rw [this];omega
theorem zkL (p d r:List UInt8) (h:d≠[]):(p++d++r).getD p.length 0=d.getD 0 0:=by
 cases d with
 |nil=>exact absurd rfl h
 |cons c t=>simp [List.getD]
theorem zx1 (p d r:List UInt8) (hd:Num d) (hr:∀ c,r.head?=some c→isD c=false):zca (p++d++r) p.length=p.length+d.length:=by
 unfold zca
 rw [zkL p d r hd.ne]
 split
 ·rename_i h;rw [hd.lead h]
 ·have hpos:0<d.length:=List.length_pos_iff.2 hd.ne
  unfold zcd
  rw [List.append_assoc,List.drop_append,List.drop_eq_nil_of_le (by omega),List.nil_append,show p.length+1 - p.length=1 by omega]
  have h1:=zr4 isD d hd.all 1 (by omega) r hr
  unfold zcd at h1
  omega
theorem zx2 (p d r:List UInt8):cut (p++d++r) p.length (p.length+d.length)=d:=by
 unfold cut
 rw [List.append_assoc,List.take_append,List.take_of_length_le (by omega),show p.length+d.length - p.length=d.length by omega,List.take_append,List.take_length,List.drop_append]
 simp
theorem zr5 (s:List UInt8) (f a:Nat) (acc:List TkD) (h:s.length≤a):scanF s f a acc=(acc,0,0):=by
 cases f with
 |zero=>rfl
 |succ f=>rw [scanF,if_neg (by omega)]
inductive Sc (s:List UInt8):Nat→List TkD→Prop
 |fin {k:Nat}:s.length≤k→Sc s k []
 |blank {k:Nat} {l:List TkD}:k<s.length→isB (s.getD k 0)=true→Sc s (k+1) l→Sc s k l
 |hsh {k:Nat} {l:List TkD}:k<s.length→s.getD k 0=35→Sc s (zcd zb2 s k) l→Sc s k l
 |tok {k e:Nat} {t:TkD} {l:List TkD}:k<s.length→¬ (isB (s.getD k 0)=true)→¬ s.getD k 0=35→zcO s k=(t,(e:Int),0)→Sc s e l→Sc s k (t::l)
theorem zhp (s:List UInt8) (k:Nat) (h:k<s.length) (hh:s.getD k 0=35):k<zcd zb2 s k∧zcd zb2 s k≤s.length:=by
 have h1:=zdr zb2 s k h
 have h2:zb2 (s.getD k 0)=true:=by rw [hh];rfl
 rw [h2,if_pos rfl] at h1
 have h3:=zfF zb2 s (k+1)
 exact ⟨by omega,zgE zb2 s k (by omega)⟩
theorem zhq (s:List UInt8):∀ (f k:Nat) (acc:List TkD),s.length<k+f→(scanF s f k acc).2.2=0→∃ l,Sc s k l∧scanF s f k acc=(acc++l,0,0)
 |0,k,acc,hf,_=>⟨[],.fin (by omega),by simp [scanF]⟩
 |f+1,k,acc,hf,h=>by
  rw [scanF] at h ⊢
  by_cases hk:k<s.length
  ·rw [if_pos hk] at h ⊢
   by_cases hb:isB (s.getD k 0)=true
   ·rw [if_pos hb] at h ⊢
    obtain ⟨l,h1,h2⟩:=zhq s f (k+1) acc (by omega) h
    exact ⟨l,.blank hk hb h1,h2⟩
   ·rw [if_neg hb] at h ⊢
    by_cases hh:s.getD k 0=35
    ·rw [if_pos hh] at h ⊢
     have hg:=zhp s k hk hh
     obtain ⟨l,h1,h2⟩:=zhq s f (zcd zb2 s k) acc (by omega) h
     exact ⟨l,.hsh hk hh h1,h2⟩
    ·rw [if_neg hh] at h ⊢
     by_cases h0:(zcO s k).2.2=0
     ·rw [if_pos h0] at h ⊢
      obtain ⟨e,he,h1,h2⟩:=zgd s k hk h0
      have het:(zcO s k).2.1.toNat=e:=by rw [he];simp
      rw [het] at h ⊢
      obtain ⟨l,g1,g2⟩:=zhq s f e (acc++[(zcO s k).1]) (by omega) h
      refine ⟨(zcO s k).1::l,.tok hk hb hh ?_ g1,by rw [g2];simp⟩
      rw [←he,←h0]
     ·rw [if_neg h0] at h
      exact absurd h h0
  ·rw [if_neg hk]
   exact ⟨[],.fin (by omega),by simp⟩
theorem zgf (s:List UInt8):∀ (f k:Nat) (acc:List TkD),(scanF s f k acc).2.2≠0→(scanF s f k acc).1=[]∧0≤(scanF s f k acc).2.1∧(scanF s f k acc).2.1≤s.length
 |0,k,acc,h=>by simp [scanF] at h
 |f+1,k,acc,h=>by
  rw [scanF] at h ⊢
  by_cases hk:k<s.length
  ·rw [if_pos hk] at h ⊢
   by_cases hb:isB (s.getD k 0)=true
   ·rw [if_pos hb] at h ⊢
    exact zgf s f _ _ h
   ·rw [if_neg hb] at h ⊢
    by_cases hh:s.getD k 0=35
    ·rw [if_pos hh] at h ⊢
     exact zgf s f _ _ h
    ·rw [if_neg hh] at h ⊢
     by_cases h0:(zcO s k).2.2=0
     ·rw [if_pos h0] at h ⊢
      exact zgf s f _ _ h
     ·rw [if_neg h0]
      exact ⟨rfl,by simp,by simp;omega⟩
  ·rw [if_neg hk] at h
   simp at h
theorem Sc.scanF {s:List UInt8} {k:Nat} {l:List TkD} (h:Sc s k l):∀ (f:Nat) (acc:List TkD),s.length<k+f→Go.Abs.scanF s f k acc=(acc++l,0,0):=by
 induction h with
 |fin hk=>intro f acc _;rw [zr5 s f _ acc hk];simp
 |@blank k l hk hb _ ih=>
  intro f acc hf
  obtain ⟨g,rfl⟩:∃ g,f=g+1:=⟨f - 1,by omega⟩
  rw [Go.Abs.scanF,if_pos hk,if_pos hb,ih g acc (by omega)]
 |@hsh k l hk hh _ ih=>
  intro f acc hf
  obtain ⟨g,rfl⟩:∃ g,f=g+1:=⟨f - 1,by omega⟩
  have hg:=zhp s k hk hh
  have hb:¬ (isB (s.getD k 0)=true):=by rw [hh];decide
  rw [Go.Abs.scanF,if_pos hk,if_neg hb,if_pos hh,ih g acc (by omega)]
 |@tok k e t l hk hb hh ho _ ih=>
  intro f acc hf
  obtain ⟨g,rfl⟩:∃ g,f=g+1:=⟨f - 1,by omega⟩
  obtain ⟨e',he,h1,h2⟩:=zgd s k hk (by rw [ho])
  rw [ho] at he
  simp only at he
  rw [Go.Abs.scanF,if_pos hk,if_neg hb,if_neg hh,ho]
  simp only [if_true,Int.toNat_natCast]
  rw [ih g _ (by omega)]
  simp
theorem zr6 (s:List UInt8) (h:(scan s).2.2=0):s.length≤4096∧∃ l,Sc s 0 l∧scan s=(l,0,0):=by
 unfold scan at h ⊢
 by_cases hl:s.length > 4096
 ·rw [if_pos hl] at h;simp at h
 ·rw [if_neg hl] at h ⊢
  obtain ⟨l,h1,h2⟩:=zhq s (s.length+1) 0 [] (by omega) h
  exact ⟨by omega,l,h1,by rw [h2];simp⟩
theorem Sc.scan {s:List UInt8} {l:List TkD} (h:Sc s 0 l) (hs:s.length≤4096):Go.Abs.scan s=(l,0,0):=by
 unfold Go.Abs.scan
 rw [if_neg (by omega),h.scanF _ _ (by omega)]
 simp
theorem zu8 (s:List UInt8) (h:(scan s).2.2≠0):(scan s).1=[]∧0≤(scan s).2.1∧(scan s).2.1≤s.length:=by
 unfold scan at h ⊢
 by_cases hl:s.length > 4096
 ·rw [if_pos hl];exact ⟨rfl,by simp,by simp⟩
 ·rw [if_neg hl] at h ⊢
  exact zgf s _ _ _ h
structure Good (t:TkD) (w:List UInt8):Prop where
 ne:w≠[]
 kinds:(t.kind=1∧t.text=w∧t.value=0∧isL (w.getD 0 0)=true∧(∀ c ∈ w,isW c=true)∧w.length≤16) ∨
  (t.kind=2∧t.text=[]∧t.value=zds w∧Num w∧zds w<9223372036854775808) ∨
  (t.kind=3∧t.text=w∧t.value=0∧isL (w.getD 0 0)=false∧isD (w.getD 0 0)=false ∧
   ((w.length=1∧zbg (w.getD 0 0).toNat 0=1)∨(w.length=2∧zbg (w.getD 0 0).toNat (w.getD 1 0).toNat=2)))
def nx (r:List UInt8):Int:=match r with
 |[]=>0
 |c::_=>(c.toNat:Int)
def zos (t:TkD) (w r:List UInt8):Prop:=
 (t.kind≠3→∀ c,r.head?=some c→isW c=false)∧(t.kind=3→w.length=1→zbg (w.getD 0 0).toNat (nx r)=1)
theorem zot (s:List UInt8) (a:Nat):zdD s a=nx (s.drop (a+1)):=by
 unfold zdD
 by_cases h:a+1<s.length
 ·rw [if_pos h,List.drop_eq_getElem_cons h]
  simp [nx,List.getD,h]
 ·rw [if_neg h,List.drop_eq_nil_of_le (by omega)]
  rfl
theorem zou {c n:Int} (h:zbg c n=1) (m:Int) (hm:m≠61):zbg c m=1:=by
 unfold zbg at h ⊢
 have hm':(m==61)=false:=by simpa using hm
 rw [hm']
 split
 ·rfl
 ·rename_i h1
  rw [if_neg h1] at h
  split
  ·rfl
  ·rename_i h2
   rw [if_neg h2] at h
   split at h<;>omega
theorem zov (p:UInt8→Bool) (s:List UInt8) (a:Nat):∀ c,(s.drop (zcd p s a)).head?=some c→p c=false:=by
 intro c hc
 unfold zcd at hc
 rw [←List.drop_drop] at hc
 generalize s.drop a=u at hc
 induction u with
 |nil=>simp at hc
 |cons x u ih=>
  rw [List.takeWhile_cons] at hc
  by_cases hx:p x=true
  ·rw [if_pos hx] at hc
   simp at hc
   exact ih (by simpa using hc)
  ·rw [if_neg hx] at hc
   simp at hc
   subst hc
   simpa using hx
theorem zr7 (p:UInt8→Bool) (s:List UInt8) (a:Nat):∀ c ∈ cut s a (zcd p s a),p c=true:=by
 intro c hc
 unfold cut zcd at hc
 rw [List.drop_take,show a+((s.drop a).takeWhile p).length - a=((s.drop a).takeWhile p).length by omega] at hc
 generalize s.drop a=u at hc
 have h1:u.take (u.takeWhile p).length=u.takeWhile p:=by
  induction u with
  |nil=>simp
  |cons x u ih=>
   rw [List.takeWhile_cons]
   by_cases hx:p x=true
   ·rw [if_pos hx] at *
    simp only [List.length_cons,List.take_succ_cons]
    rw [List.takeWhile_cons,if_pos hx] at hc
    simp only [List.length_cons,List.take_succ_cons] at hc
    congr 1
    clear hc
    clear ih
    induction u with
    |nil=>simp
    |cons y u ih2=>
     rw [List.takeWhile_cons]
     by_cases hy:p y=true
     ·rw [if_pos hy];simp only [List.length_cons,List.take_succ_cons];rw [ih2]
     ·rw [if_neg hy];simp
   ·rw [if_neg hx];simp
 rw [h1] at hc
 clear h1
 induction u with
 |nil=>simp at hc
 |cons x u ih=>
  rw [List.takeWhile_cons] at hc
  by_cases hx:p x=true
  ·rw [if_pos hx] at hc
   rcases List.mem_cons.1 hc with rfl|hc
   ·exact hx
   ·exact ih hc
  ·rw [if_neg hx] at hc;simp at hc
theorem zu9 (s:List UInt8) (a e:Nat) (h:a<e) (he:e≤s.length):(cut s a e).getD 0 0=s.getD a 0:=by
 unfold cut
 simp [List.getD,List.getElem?_drop,List.getElem?_take,h]
theorem zva (s:List UInt8) (a e:Nat) (h:a+1<e) (he:e≤s.length):(cut s a e).getD 1 0=s.getD (a+1) 0:=by
 unfold cut
 simp [List.getD,List.getElem?_drop,List.getElem?_take,h]
theorem zow (s:List UInt8) (k e:Nat) (t:TkD) (hk:k<s.length) (h:zcO s k=(t,(e:Int),0)):Good t (cut s k e)∧t.pos=k∧k<e∧e≤s.length∧zos t (cut s k e) (s.drop e):=by
 obtain ⟨e',he',hlt,hle⟩:=zgd s k hk (by rw [h])
 rw [h] at he'
 simp only [Int.ofNat_inj] at he'
 have hee:e=e':=by omega
 subst hee
 have hne:=zr0 s k e hlt hle
 have hg0:=zu9 s k e hlt hle
 have hcl:=zkJ s k e hle
 unfold zcO at h
 by_cases hl:isL (s.getD k 0)=true
 ·rw [if_pos hl] at h
  by_cases h16:zcd isW s k - k > 16
  ·rw [if_pos h16] at h;simp at h
  ·rw [if_neg h16] at h
   simp only [Prod.mk.injEq,Int.ofNat_inj,and_true] at h
   obtain ⟨rfl,h2⟩:=h
   have h2':zcd isW s k=e:=by omega
   subst h2'
   refine ⟨⟨hne,.inl ⟨rfl,rfl,rfl,by rw [hg0];exact hl,zr7 isW s k,by omega⟩⟩,rfl,hlt,hle,?_,?_⟩
   ·intro _;exact zov isW s k
   ·intro hc;simp at hc
 ·rw [if_neg hl] at h
  by_cases hd:isD (s.getD k 0)=true
  ·rw [if_pos hd] at h
   unfold zts at h
   have hnl:=zlY s k hk
   by_cases hw:zcd isW s (zca s k) > zca s k
   ·rw [if_pos hw] at h;simp at h
   ·rw [if_neg hw] at h
    by_cases hv:zds (cut s k (zca s k))<9223372036854775808
    ·rw [if_pos hv] at h
     simp only [Prod.mk.injEq,Int.ofNat_inj,and_true] at h
     obtain ⟨rfl,h2⟩:=h
     have h2':zca s k=e:=by omega
     have hstop:=zov isW s (zca s k)
     have hge:=zfF isW s (zca s k)
     rw [show zcd isW s (zca s k)=zca s k by omega,h2'] at hstop
     rw [h2'] at hv hge hw ⊢
     refine ⟨⟨hne,.inr (.inl ⟨rfl,rfl,rfl,⟨?_,hne,?_⟩,hv⟩)⟩,rfl,hlt,hle,?_,?_⟩
     ·unfold zca at h2'
      split at h2'
      ·rw [←h2',zho s k k hk (Nat.le_refl _),zoo];simpa using hd
      ·have h3:=zr7 isD s k
       rw [zdr isD s k hk,if_pos hd,h2'] at h3
       exact h3
     ·intro h48
      rw [hg0] at h48
      unfold zca at h2'
      rw [if_pos h48] at h2'
      omega
     ·intro _;exact hstop
     ·intro hc;simp at hc
    ·rw [if_neg hv] at h;simp at h
  ·rw [if_neg hd] at h
   by_cases h0:zbg (s.getD k 0).toNat (zdD s k)=0
   ·rw [if_pos h0] at h;simp at h
   ·rw [if_neg h0] at h
    have hs:=zkI (s.getD k 0).toNat (zdD s k)
    simp only [Prod.mk.injEq,and_true] at h
    obtain ⟨rfl,h2⟩:=h
    have h2':k+(zbg (s.getD k 0).toNat (zdD s k)).toNat=e:=by omega
    rw [h2']
    have hl':isL (s.getD k 0)=false:=by simpa using hl
    have hd':isD (s.getD k 0)=false:=by simpa using hd
    by_cases h1:zbg (s.getD k 0).toNat (zdD s k)=1
    ·have he1:e=k+1:=by omega
     refine ⟨⟨hne,.inr (.inr ⟨rfl,rfl,rfl,by rw [hg0];exact hl',by rw [hg0];exact hd',.inl ⟨by omega,?_⟩⟩)⟩,rfl,hlt,hle,?_,?_⟩
     ·rw [hg0];exact zou h1 0 (by omega)
     ·intro hc;simp at hc
     ·intro _ _
      rw [hg0,he1,←zot]
      exact h1
    ·have h22:zbg (s.getD k 0).toNat (zdD s k)=2:=by omega
     have he1:e=k+2:=by omega
     have hg1:=zva s k e (by omega) hle
     refine ⟨⟨hne,.inr (.inr ⟨rfl,rfl,rfl,by rw [hg0];exact hl',by rw [hg0];exact hd',.inr ⟨by omega,?_⟩⟩)⟩,rfl,hlt,hle,?_,?_⟩
     ·rw [hg0,hg1]
      rw [←h22]
      unfold zdD
      rw [if_pos (by omega)]
     ·intro hc;simp at hc
     ·intro _ hc;omega
theorem zx3 (q:UInt8→Bool) (p w r:List UInt8) (hw:∀ c ∈ w,q c=true) (hr:∀ c,r.head?=some c→q c=false):zcd q (p++w++r) p.length=p.length+w.length:=by
 have h1:=zr4 q w hw 0 (by omega) r hr
 unfold zcd at h1 ⊢
 rw [List.append_assoc,List.drop_append,List.drop_eq_nil_of_le (Nat.le_refl _),Nat.sub_self,List.nil_append]
 simp only [List.drop_zero] at h1 ⊢
 omega
theorem zBl (q:UInt8→Bool) (p r:List UInt8) (hr:∀ c,r.head?=some c→q c=false):zcd q (p++r) p.length=p.length:=by
 unfold zcd
 rw [List.drop_append,List.drop_eq_nil_of_le (Nat.le_refl _),Nat.sub_self,List.nil_append,List.drop_zero]
 cases r with
 |nil=>simp
 |cons c t=>rw [List.takeWhile_cons,hr c rfl];simp
theorem zvb (t:TkD) (w p r:List UInt8) (hg:Good t w) (hn:zos t w r):zcO (p++w++r) p.length=({ t with pos:=p.length },((p.length+w.length:Nat):Int),0):=by
 obtain ⟨hne,hk⟩:=hg
 have h0:=zkL p w r hne
 have hcut:=zx2 p w r
 unfold zcO
 rw [h0]
 obtain ⟨kind,text,value,pos⟩:=t
 rcases hk with ⟨h1,h2,h3,h4,h5,h6⟩|⟨h1,h2,h3,h4,h5⟩|⟨h1,h2,h3,h4,h5,h6⟩
 ·simp only at h1 h2 h3
  subst h1 h2 h3
  have hr:=zx3 isW p text r h5 (hn.1 (by simp))
  rw [if_pos h4,hr,if_neg (by omega),hcut]
 ·simp only at h1 h2 h3
  subst h1 h2 h3
  have hD:isD (w.getD 0 0)=true:=by
   cases w with
   |nil=>exact absurd rfl hne
   |cons c t=>exact h4.all c (by simp)
  have hs:=hn.1 (by simp)
  have hne2:=zx1 p w r h4 (fun c hc=>by
   have:=hs c hc
   cases h:isD c with
   |false=>rfl
   |true=>rw [zEK h] at this;exact absurd this (by simp))
  have hr:=zBl isW (p++w) r hs
  rw [List.length_append] at hr
  rw [zu7 hD,if_neg (by simp),if_pos hD]
  unfold zts
  rw [hne2,hcut,hr,if_neg (by omega),if_pos h5]
 ·simp only at h1 h2 h3
  subst h1 h2 h3
  have hnb:zdD (p++text++r) p.length=nx ((text++r).drop 1):=by
   rw [zot,List.append_assoc,List.drop_append,List.drop_eq_nil_of_le (by omega),List.nil_append,show p.length+1 - p.length=1 by omega]
  rw [h4,h5,if_neg (by simp),if_neg (by simp),hnb]
  have key:zbg (text.getD 0 0).toNat (nx ((text++r).drop 1))=text.length:=by
   rcases h6 with ⟨h7,h8⟩|⟨h7,h8⟩
   ·match text,h7 with
    |[c],_=>
     have:=hn.2 rfl rfl
     simpa using this
   ·match text,h7 with
    |[c,d],_=>simpa [nx] using h8
  rw [key]
  have hpos:0<text.length:=List.length_pos_iff.2 hne
  rw [if_neg (by omega),Int.toNat_natCast,hcut]
  simp
def zfk (t:TkD):TkD:={ t with pos:=0 }
def Su (u:List UInt8) (l:List TkD):Prop:=∀ p:List UInt8,∃ l',Sc (p++u) p.length l'∧l'.map zfk=l.map zfk
theorem Su.nil:Su [] []:=fun p=>⟨[],.fin (by simp),rfl⟩
theorem Su.blank {c:UInt8} {u:List UInt8} {l:List TkD} (hc:isB c=true) (h:Su u l):Su (c::u) l:=by
 intro p
 obtain ⟨l',h1,h2⟩:=h (p++[c])
 refine ⟨l',.blank (by simp) ?_ ?_,h2⟩
 ·have:(p++c::u).getD p.length 0=c:=by simp [List.getD]
  rw [this];exact hc
 ·simpa using h1
theorem zpV {t:TkD} {w:List UInt8} (hg:Good t w):¬ (isB (w.getD 0 0)=true)∧¬ w.getD 0 0=35:=by
 have key:∀ c:UInt8,(isB c=true∨c=35)→isL c=false∧isD c=false∧∀ n,zbg c.toNat n=0:=by
  intro c h
  have hx:c=9∨c=10∨c=13∨c=32∨c=35:=by
   rcases h with h|h
   ·rcases zwb h with h|h|h|h<;>simp [h]
   ·simp [h]
  rcases hx with rfl|rfl|rfl|rfl|rfl<;>exact ⟨by decide,by decide,fun n=>by simp [zbg]⟩
 have main:¬ (isB (w.getD 0 0)=true∨w.getD 0 0=35):=by
  intro h
  obtain ⟨h1,h2,h3⟩:=key _ h
  rcases hg.kinds with ⟨_,_,_,h4,_⟩|⟨_,_,_,h4,_⟩|⟨_,_,_,_,_,h4⟩
  ·rw [h1] at h4;simp at h4
  ·have:isD (w.getD 0 0)=true:=by
    cases w with
    |nil=>exact absurd rfl hg.ne
    |cons c t=>exact h4.all c (by simp)
   rw [h2] at this;simp at this
  ·rcases h4 with ⟨_,h4⟩|⟨_,h4⟩
   ·rw [h3] at h4;omega
   ·rw [h3] at h4;omega
 exact ⟨fun h=>main (.inl h),fun h=>main (.inr h)⟩
theorem Sc.good {s:List UInt8} {k:Nat} {l:List TkD} (h:Sc s k l):∀ t ∈ l,∃ e:Nat,∃ a:Nat,t.pos=a∧k≤a∧a<e∧e≤s.length∧Good t (cut s a e):=by
 induction h with
 |fin _=>intro t ht;simp at ht
 |blank hk hb _ ih=>
  intro t ht
  obtain ⟨e,a,h1,h2,h3⟩:=ih t ht
  exact ⟨e,a,h1,by omega,h3⟩
 |@hsh k l hk hh _ ih=>
  intro t ht
  obtain ⟨e,a,h1,h2,h3⟩:=ih t ht
  have:=zhp s k hk hh
  exact ⟨e,a,h1,by omega,h3⟩
 |@tok k e t l hk hb hh ho _ ih=>
  intro x hx
  obtain ⟨g1,g2,g3,g4,_⟩:=zow s k e t hk ho
  rcases List.mem_cons.1 hx with rfl|hx
  ·exact ⟨e,k,g2,by omega,g3,g4,g1⟩
  ·obtain ⟨e',a,h1,h2,h3⟩:=ih x hx
   exact ⟨e',a,h1,by omega,h3⟩
theorem znh:∀ (f:Nat) (d:List UInt8),(∀ c ∈ d,isD c=true)→(d.getD 0 0≠48)→d.length≤f→dg f (zds d)=d∧(d≠[]→0<zds d)
 |0,d,hd,h0,hl=>by
  have:d=[]:=List.length_eq_zero_iff.1 (by omega)
  subst this
  exact ⟨rfl,fun h=>absurd rfl h⟩
 |f+1,d,hd,h0,hl=>by
  by_cases hne:d=[]
  ·subst hne;exact ⟨zdQ _,fun h=>absurd rfl h⟩
  ·obtain ⟨r,c,rfl⟩:∃ r c,d=r++[c]:=⟨d.dropLast,d.getLast hne,(List.dropLast_concat_getLast hne).symm⟩
   have hc:=zec (hd c (by simp))
   have hv:zds (r++[c])=zds r * 10+(c.toNat - 48):=by
    unfold zds;rw [zfI];rfl
   by_cases hr:r=[]
   ·subst hr
    have hc48:c≠48:=by simpa using h0
    have hcn:c.toNat≠48:=fun e=>hc48 (UInt8.toNat.inj (by simpa using e))
    have hv1:zds [c]=c.toNat - 48:=by simp [zds,ziR]
    rw [List.nil_append,hv1,zeP _ _ (by omega),show (c.toNat - 48) / 10=0 by omega,zdQ,show 48+(c.toNat - 48) % 10=c.toNat by omega]
    exact ⟨by simp,fun _=>by omega⟩
   ·have h0':r.getD 0 0≠48:=by
     cases r with
     |nil=>exact absurd rfl hr
     |cons x r=>simpa using h0
    obtain ⟨ih1,ih2⟩:=znh f r (fun x hx=>hd x (by simp [hx])) h0' (by simp at hl;omega)
    have hp:=ih2 hr
    rw [hv,zeP _ _ (by omega),show (zds r * 10+(c.toNat - 48)) / 10=zds r by omega,ih1,show 48+(zds r * 10+(c.toNat - 48)) % 10=c.toNat by omega]
    exact ⟨by simp,fun _=>by omega⟩
theorem zox:∀ (l:List UInt8) (acc:Nat),acc * 10 ^ l.length≤ziR l acc
 |[],acc=>by simp [ziR]
 |c::r,acc=>by
  rw [zh9]
  refine Nat.le_trans ?_ (zox r _)
  rw [List.length_cons,Nat.pow_succ,Nat.mul_comm (10 ^ r.length) 10,←Nat.mul_assoc]
  exact Nat.mul_le_mul_right _ (by omega)
theorem zx4 {d:List UInt8} (hd:Num d) (hv:zds d<9223372036854775808):d.length≤20:=by
 cases d with
 |nil=>simp
 |cons c r=>
  by_cases h48:c=48
  ·subst h48;have:=hd.lead rfl;omega
  ·have hc:=zec (hd.all c (by simp))
   have hcn:c.toNat≠48:=fun e=>h48 (UInt8.toNat.inj (by simpa using e))
   have hlow:=zox r (c.toNat - 48)
   have hvv:zds (c::r)=ziR r (c.toNat - 48):=by unfold zds;rw [zh9];simp
   rw [hvv] at hv
   by_cases hl:r.length≤18
   ·simp;omega
   ·exfalso
    have h1:10 ^ 19≤10 ^ r.length:=Nat.pow_le_pow_right (by omega) (by omega)
    have h2:1 * 10 ^ r.length≤(c.toNat - 48) * 10 ^ r.length:=Nat.mul_le_mul_right _ (by omega)
    have h3:(10:Nat) ^ 19=10000000000000000000:=by decide
    omega
theorem zx5 {d:List UInt8} (hd:Num d) (hv:zds d<9223372036854775808):zdM (zds d)=d:=by
 by_cases h48:d.getD 0 0=48
 ·have hl:=hd.lead h48
  match d,hl with
  |[c],_=>simp at h48;subst h48;rfl
 ·obtain ⟨h1,h2⟩:=znh 20 d hd.all h48 (zx4 hd hv)
  have:=h2 hd.ne
  unfold zdM
  rw [if_neg (by omega),Int.toNat_natCast,h1]
def zni (t:TkD):List UInt8:=if t.kind=1∨t.kind=3 then t.text else if t.kind=2 then zdM t.value else []
theorem Good.word {t:TkD} {w:List UInt8} (hg:Good t w):zni t=w:=by
 unfold zni
 rcases hg.kinds with ⟨h1,h2,_⟩|⟨h1,_,h3,h4,h5⟩|⟨h1,h2,_⟩
 ·rw [if_pos (.inl h1),h2]
 ·rw [if_neg (by omega),if_pos h1,h3,zx5 h4 h5]
 ·rw [if_pos (.inr h1),h2]
theorem zr8:∀ (f m:Nat),0<m→m<10 ^ f→Lib.decDigits m=dg f m
 |0,m,h0,h=>by simp at h;omega
 |f+1,m,h0,h=>by
  rw [zeP _ _ (by omega),Lib.decDigits]
  by_cases h9:m<10
  ·rw [dif_pos h9,Nat.div_eq_of_lt h9,zdQ,Nat.mod_eq_of_lt h9];rfl
  ·rw [dif_neg h9,zr8 f (m / 10) (by omega) (by rw [Nat.pow_succ] at h;omega)]
theorem zvc (v:Int) (h:v≤9223372036854775807):Lib.itoa (zc3 v 0)=zdM v:=by
 unfold zdM Lib.itoa zc3
 by_cases h0:v≤0
 ·rw [if_pos h0]
  by_cases h1:v<0
  ·simp [h1,Lib.decDigits]
  ·have:v=0:=by omega
   subst this
   simp [Lib.decDigits]
 ·rw [if_neg h0,if_neg (by omega:¬ v<0)]
  rw [if_neg (by omega)]
  exact zr8 20 v.toNat (by omega) (by omega)
section
variable (op value:Int) (name:List UInt8) (slot size:Int) (args:List Ex) (place val:Ex) (body els:List Sm)
theorem Ex.op_mk:(Ex.mk op value name slot size args).op=op:=rfl
theorem Ex.value_mk:(Ex.mk op value name slot size args).value=value:=rfl
theorem Ex.name_mk:(Ex.mk op value name slot size args).name=name:=rfl
theorem Ex.slot_mk:(Ex.mk op value name slot size args).slot=slot:=rfl
theorem Ex.size_mk:(Ex.mk op value name slot size args).size=size:=rfl
theorem Ex.args_mk:(Ex.mk op value name slot size args).args=args:=rfl
theorem Sm.kind_mk:(Sm.mk op name slot size place val body els).kind=op:=rfl
theorem Sm.name_mk:(Sm.mk op name slot size place val body els).name=name:=rfl
theorem Sm.slot_mk:(Sm.mk op name slot size place val body els).slot=slot:=rfl
theorem Sm.size_mk:(Sm.mk op name slot size place val body els).size=size:=rfl
theorem Sm.place_mk:(Sm.mk op name slot size place val body els).place=place:=rfl
theorem Sm.value_mk:(Sm.mk op name slot size place val body els).value=val:=rfl
theorem Sm.body_mk:(Sm.mk op name slot size place val body els).body=body:=rfl
theorem Sm.els_mk:(Sm.mk op name slot size place val body els).els=els:=rfl
end
structure Pl where
 name:List UInt8
 slot:Int
 size:Int
def zgH (p:Pl):PVal × Bool × List PVal:=(.str p.name,true,[.int .i64 p.slot,.int .i64 p.size])
def zbX (n:List UInt8):List Pl→Option (Int × Int)
 |[]=>none
 |p::r=>if n=p.name then some (p.slot,p.size) else zbX n r
def zjb (n:List UInt8) (a b:Int):List Pl→List Pl
 |[]=>[⟨n,a,b⟩]
 |p::r=>if n=p.name then ⟨n,a,b⟩::r else p::zjb n a b r
theorem zic (n:List UInt8):∀ l:List Pl,zfi (.str n) (l.map zgH)=(zbX n l).map fun q=>(true,[.int .i64 q.1,.int .i64 q.2])
 |[]=>rfl
 |p::r=>by
  simp only [List.map_cons,zfi,zbX]
  by_cases h:n=p.name
  ·subst h;simp [zfh,zgH]
  ·have:zfh (.str n) (zgH p).1=false:=by simp [zfh,zgH,h]
   rw [this,if_neg h,if_neg (by simp)]
   exact zic n r
theorem zkM (n:List UInt8) (a b:Int):∀ l:List Pl,zpk (.str n) (true,[.int .i64 a,.int .i64 b]) (l.map zgH)=(zjb n a b l).map zgH
 |[]=>rfl
 |p::r=>by
  simp only [List.map_cons,zpk,zjb]
  by_cases h:n=p.name
  ·subst h;simp [zfh,zgH]
  ·have:zfh (.str n) (zgH p).1=false:=by simp [zfh,zgH,h]
   rw [this,if_neg h,if_neg (by simp)]
   simp [zkM n a b r]
abbrev Fl:=Bool × Bool
def zeQ (pl:List Pl) (n:List UInt8) (arr:Bool) (f:Fl):(Int × Int) × Fl:=
 match zbX n pl with
 |none=>((0,0),(true,f.2))
 |some q=>(q,(f.1,f.2 || (arr != decide (q.2 > 0))))
def zcC (pl:List Pl) (op:Int) (n:List UInt8) (a b:Int) (f:Fl) (k1 k2:Int):(Int × Int) × Fl:=
 if op=k1 then zeQ pl n false f else if op=k2 then zeQ pl n true f else ((a,b),f)
mutual
def rsE (pl:List Pl):Ex→Fl→Ex × Fl
 |.mk op v n a b args,f=>
  (.mk op v n (zcC pl op n a b f 2 3).1.1 (zcC pl op n a b f 2 3).1.2 (zdu pl args (zcC pl op n a b f 2 3).2).1,(zdu pl args (zcC pl op n a b f 2 3).2).2)
def zdu (pl:List Pl):List Ex→Fl→List Ex × Fl
 |[],f=>([],f)
 |e::r,f=>((rsE pl e f).1::(zdu pl r (rsE pl e f).2).1,(zdu pl r (rsE pl e f).2).2)
end
theorem zBm (pl:List Pl) (e:Ex) (f:Fl):rsE pl e f=(.mk e.op e.value e.name (zcC pl e.op e.name e.slot e.size f 2 3).1.1 (zcC pl e.op e.name e.slot e.size f 2 3).1.2 (zdu pl e.args (zcC pl e.op e.name e.slot e.size f 2 3).2).1,(zdu pl e.args (zcC pl e.op e.name e.slot e.size f 2 3).2).2):=by
 cases e;simp [rsE,Ex.op,Ex.value,Ex.name,Ex.slot,Ex.size,Ex.args]
theorem zeh (pl:List Pl):∀ (l:List Ex) (f:Fl),(zdu pl l f).1.length=l.length
 |[],f=>by simp [zdu]
 |e::r,f=>by simp [zdu,zeh pl r]
theorem zlZ (pl:List Pl):∀ (l:List Ex) (x:Ex) (f:Fl),zdu pl (l++[x]) f=((zdu pl l f).1++[(rsE pl x (zdu pl l f).2).1],(rsE pl x (zdu pl l f).2).2)
 |[],x,f=>by simp [zdu]
 |e::r,x,f=>by simp [zdu,zlZ pl r]
mutual
def rsS (pl:List Pl):Sm→Fl→Sm × Fl
 |.mk k n a b p v body els,f=>
  let q:=zcC pl k n a b f 1 2
  let p':=rsE pl p q.2
  let v':=rsE pl v p'.2
  let b':=zbZ pl body v'.2
  let e':=zbZ pl els b'.2
  (.mk k n q.1.1 q.1.2 p'.1 v'.1 b'.1 e'.1,e'.2)
def zbZ (pl:List Pl):List Sm→Fl→List Sm × Fl
 |[],f=>([],f)
 |e::r,f=>((rsS pl e f).1::(zbZ pl r (rsS pl e f).2).1,(zbZ pl r (rsS pl e f).2).2)
end
def rsQ (pl:List Pl) (s:Sm) (f:Fl):=zcC pl s.kind s.name s.slot s.size f 1 2
def rsP (pl:List Pl) (s:Sm) (f:Fl):=rsE pl s.place (rsQ pl s f).2
def rsV (pl:List Pl) (s:Sm) (f:Fl):=rsE pl s.value (rsP pl s f).2
def rsB (pl:List Pl) (s:Sm) (f:Fl):=zbZ pl s.body (rsV pl s f).2
def rsL (pl:List Pl) (s:Sm) (f:Fl):=zbZ pl s.els (rsB pl s f).2
theorem zBn (pl:List Pl) (s:Sm) (f:Fl):rsS pl s f=(.mk s.kind s.name (rsQ pl s f).1.1 (rsQ pl s f).1.2 (rsP pl s f).1 (rsV pl s f).1 (rsB pl s f).1 (rsL pl s f).1,(rsL pl s f).2):=by
 cases s;simp [rsS,rsL,rsB,rsV,rsP,rsQ,Sm.kind,Sm.name,Sm.slot,Sm.size,Sm.place,Sm.value,Sm.body,Sm.els]
theorem zkN (pl:List Pl):∀ (l:List Sm) (f:Fl),(zbZ pl l f).1.length=l.length
 |[],f=>by simp [zbZ]
 |e::r,f=>by simp [zbZ,zkN pl r]
theorem zl0 (pl:List Pl):∀ (l:List Sm) (x:Sm) (f:Fl),zbZ pl (l++[x]) f=((zbZ pl l f).1++[(rsS pl x (zbZ pl l f).2).1],(rsS pl x (zbZ pl l f).2).2)
 |[],x,f=>by simp [zbZ]
 |e::r,x,f=>by simp [zbZ,zl0 pl r]
theorem zid (pl:List Pl) (l:List Ex) (f:Fl) (k:Nat) (h:k<l.length):zdu pl (l.take (k+1)) f=((zdu pl (l.take k) f).1++[(rsE pl l[k] (zdu pl (l.take k) f).2).1],(rsE pl l[k] (zdu pl (l.take k) f).2).2):=by rw [List.take_succ_eq_append_getElem h,zlZ]
theorem zr9 (pl:List Pl) (l:List Sm) (f:Fl) (k:Nat) (h:k<l.length):zbZ pl (l.take (k+1)) f=((zbZ pl (l.take k) f).1++[(rsS pl l[k] (zbZ pl (l.take k) f).2).1],(rsS pl l[k] (zbZ pl (l.take k) f).2).2):=by rw [List.take_succ_eq_append_getElem h,zl0]
def zmL:List Pl→List VarD→Option (List Pl)
 |es,[]=>some es
 |es,v::r=>if (zbX v.name es).isSome then none else zmL (zjb v.name 0 0 es) r
def zfl:List Pl→List Int→List VarD→Option (List Pl × List Int)
 |es,xs,[]=>some (es,xs)
 |es,xs,v::r=>if mx v.size 1 > 32 - xs.length then none else zfl (zjb v.name xs.length v.size es) (xs++[v.init]++List.replicate ((mx v.size 1).toNat - 1) 0) r
structure CdD where
 init:List Int
 start:List Sm
 message:List Sm
 tick:List Sm
 input:List Sm
def zl1 (n:Int):List PVal:=[.int .i64 n]
def cdA (c:CdD):AVal:=.agg [.pv (.slice (c.init.map zl1)),.pv (.slice (c.start.map zam)),.pv (.slice (c.message.map zam)),.pv (.slice (c.tick.map zam)),.pv (.slice (c.input.map zam))]
def cd0:CdD:=⟨[],[],[],[],[]⟩
def rs4 (pl:List Pl) (p:PgD):(List Sm × List Sm × List Sm × List Sm) × Fl:=
 let a:=zbZ pl p.start (false,false)
 let b:=zbZ pl p.message a.2
 let c:=zbZ pl p.tick b.2
 let d:=zbZ pl p.input c.2
 ((a.1,b.1,c.1,d.1),d.2)
def zBo (xs:List Int) (r:(List Sm × List Sm × List Sm × List Sm) × Fl):CdD × Int:=
 if r.2.1 then (cd0,2) else if r.2.2 then (cd0,7) else (⟨xs,r.1.1,r.1.2.1,r.1.2.2.1,r.1.2.2.2⟩,0)
def zaR (p:PgD):CdD × Int:=
 if zbF zan p≠0 then (cd0,zbF zan p)
 else if p.vars.length > 16 then (cd0,4)
 else match zmL [] p.vars with
  |none=>(cd0,2)
  |some es=>match zfl es [] p.vars with
   |none=>(cd0,4)
   |some q=>zBo q.2 (rs4 q.1 p)
end Go.Abs
namespace Go.Abs
open Go
theorem zsa (s:List UInt8):(((zrV s 0:Nat):Int)==(s.length:Int))=s.all isW:=by
 rw [znd]
 unfold zrV
 simp only [List.drop_zero,Nat.zero_add]
 induction s with
 |nil=>rfl
 |cons c r ih=>
  rw [List.takeWhile_cons]
  cases h:isW c
  ·simp [h]
  ·simp only [if_true,List.length_cons,List.all_cons,h,Bool.true_and]
   rw [←ih]
   simp
def zaA (name:List UInt8):Int→List VarD→Int × Int × Bool
 |_,[]=>(0,0,false)
 |first,v::r=>if v.name==name then (first,mx v.size 0,true)
  else if mx v.size 1 > 2147483648 - first then (0,0,false) else zaA name (first+mx v.size 1) r
def zjH (l:List VarD) (n:List UInt8):Bool:=(zaA n 0 l).2.2
mutual
def zcZ (l:List VarD):Ex→Bool
 |.mk op _ n _ _ args=>!((op==2 || op==3)&&!zjH l n)&&zb3 l args
def zb3 (l:List VarD):List Ex→Bool
 |[]=>true
 |e::r=>zcZ l e&&zb3 l r
end
mutual
def zhe (l:List VarD):Sm→Bool
 |.mk k n _ _ p v b e=>!((k==1 || k==2)&&!zjH l n)&&!(!zcZ l p || !zcZ l v || !zdv l b || !zdv l e)
def zdv (l:List VarD):List Sm→Bool
 |[]=>true
 |s::r=>zhe l s&&zdv l r
end
def zb4 (l:List VarD) (op:Int) (n:List UInt8) (a b:Int) (k1 k2:Int):(Int × Int) × Bool:=
 if (op==k1 || op==k2)=true then (((zaA n 0 l).1,(zaA n 0 l).2.1),(op==k2)==decide ((zaA n 0 l).2.1 > 0)) else ((a,b),true)
mutual
def r3E (l:List VarD):Ex→Ex × Bool
 |.mk op v n a b args=>(.mk op v n (zb4 l op n a b 2 3).1.1 (zb4 l op n a b 2 3).1.2 (zd1 l args).1,(zb4 l op n a b 2 3).2&&(zd1 l args).2)
def zd1 (l:List VarD):List Ex→List Ex × Bool
 |[]=>([],true)
 |e::r=>((r3E l e).1::(zd1 l r).1,(r3E l e).2&&(zd1 l r).2)
end
mutual
def r3S (l:List VarD):Sm→Sm × Bool
 |.mk k n a b p v body els=>(.mk k n (zb4 l k n a b 1 2).1.1 (zb4 l k n a b 1 2).1.2 (r3E l p).1 (r3E l v).1 (zcg l body).1 (zcg l els).1,
   (zb4 l k n a b 1 2).2&&((r3E l p).2&&(r3E l v).2&&(zcg l body).2&&(zcg l els).2))
def zcg (l:List VarD):List Sm→List Sm × Bool
 |[]=>([],true)
 |s::r=>((r3S l s).1::(zcg l r).1,(r3S l s).2&&(zcg l r).2)
end
open Go
def zqv:List VarD→Bool
 |[]=>false
 |v::r=>r.any (fun x=>x.name==v.name) || zqv r
def zd2 (v:VarD):Int:=zyQ (mx v.size 1) 2147483649
theorem zjI (v:VarD):1≤zd2 v∧zd2 v≤2147483649:=by
 unfold zd2 zyQ mx zc3
 split<;>split<;>omega
def znj:Int→List VarD→Option Int
 |n,[]=>some n
 |n,v::r=>if n+zd2 v > 32 then none else znj (n+zd2 v) r
def zwc (v:VarD):List Int:=v.init::List.replicate (v.size.toNat - 1) 0
def zgI:List VarD→List Int
 |[]=>[]
 |v::r=>zwc v++zgI r
theorem zkO (v:VarD):((zwc v).length:Int)=mx v.size 1:=by
 unfold zwc mx zc3
 simp only [List.length_cons,List.length_replicate]
 split<;>omega
theorem zeR (v:VarD) (h:zd2 v≤32):zd2 v=mx v.size 1:=by
 unfold zd2 zyQ at *
 split<;>split at h<;>omega
theorem zoy:∀ (l:List VarD) (n m:Int),0≤n→znj n l=some m→n+(zgI l).length=m∧m≤mx n 32
 |[],n,m,_,h=>by simp [znj] at h;subst h;simp [zgI,mx,zc3];split<;>omega
 |v::r,n,m,h0,h=>by
  rw [znj] at h
  split at h
  ·cases h
  ·rename_i hle
   have h5:=zjI v
   have h4:=zeR v (by omega)
   obtain ⟨h1,h2⟩:=zoy r _ m (by omega) h
   have h3:=zkO v
   simp only [zgI,List.length_append]
   have h6:mx (n+zd2 v) 32=32:=by unfold mx zc3;split<;>omega
   have h7:32≤mx n 32:=by unfold mx zc3;split<;>omega
   constructor<;>omega
def zdw (p:PgD):CdD × Int:=
 if zbF zan p≠0 then (cd0,zbF zan p)
 else if p.vars.length > 16 then (cd0,4)
 else if zqv p.vars=true then (cd0,2)
 else if znj 0 p.vars=none then (cd0,4)
 else if (!zdv p.vars p.start || !zdv p.vars p.message || !zdv p.vars p.tick || !zdv p.vars p.input)=true then (cd0,2)
 else if (!(zcg p.vars p.start).2 || !(zcg p.vars p.message).2 || !(zcg p.vars p.tick).2 || !(zcg p.vars p.input).2)=true then (cd0,7)
 else (⟨zgI p.vars,(zcg p.vars p.start).1,(zcg p.vars p.message).1,(zcg p.vars p.tick).1,(zcg p.vars p.input).1⟩,0)
def zwd (l:List VarD) (pl:List Pl):Prop:=∀ n,zbX n pl=if (zaA n 0 l).2.2 then some ((zaA n 0 l).1,(zaA n 0 l).2.1) else none
theorem zgX (n:List UInt8):∀ (l:List VarD) (f:Int),(zaA n f l).2.2=false→(zaA n f l).1=0∧(zaA n f l).2.1=0
 |[],f,_=>⟨rfl,rfl⟩
 |v::r,f,h=>by
  rw [zaA] at h ⊢
  split at h
  ·simp at h
  ·rename_i h1
   rw [if_neg h1]
   split at h
   ·rename_i h2;rw [if_pos h2];exact ⟨rfl,rfl⟩
   ·rename_i h2;rw [if_neg h2];exact zgX n r _ h
theorem zoz {l:List VarD} {pl:List Pl} (h:zwd l pl) (n:List UInt8) (arr:Bool) (f:Fl) :
  zeQ pl n arr f=(((zaA n 0 l).1,(zaA n 0 l).2.1),(f.1 || !zjH l n,f.2 || (zjH l n&&(arr != decide ((zaA n 0 l).2.1 > 0))))):=by
 unfold zeQ zjH
 rw [h n]
 cases hf:(zaA n 0 l).2.2
 ·obtain ⟨h1,h2⟩:=zgX n l 0 hf
  simp [h1,h2]
 ·simp
theorem zoA {l:List VarD} {pl:List Pl} (h:zwd l pl) (op:Int) (n:List UInt8) (a b:Int) (f:Fl) (k1 k2:Int) (hk:k1≠k2) :
  (zcC pl op n a b f k1 k2).1=(zb4 l op n a b k1 k2).1∧(zcC pl op n a b f k1 k2).2.1=(f.1 || ((op==k1 || op==k2)&&!zjH l n)) ∧
  (((op==k1 || op==k2)&&!zjH l n)=false→(zcC pl op n a b f k1 k2).2.2=(f.2 || !(zb4 l op n a b k1 k2).2)):=by
 unfold zcC zb4
 by_cases h1:op=k1
 ·subst h1
  rw [if_pos rfl,zoz h]
  have h2:(op==k2)=false:=by simpa using hk
  simp [h2]
  intro hf;simp [hf]
  try (cases decide (0<(zaA n 0 l).2.1)<;>rfl)
 ·have h1':(op==k1)=false:=by simpa using h1
  rw [if_neg h1]
  by_cases h2:op=k2
  ·subst h2
   rw [if_pos rfl,zoz h]
   simp [h1']
   intro hf;simp [hf]
   try (cases decide (0<(zaA n 0 l).2.1)<;>rfl)
  ·have h2':(op==k2)=false:=by simpa using h2
   rw [if_neg h2]
   simp [h1',h2']
structure RelR (l:List VarD) (α:Type) (r:α × Fl) (f:Fl) (d:Bool) (q:α × Bool):Prop where
 val:r.1=q.1
 nm:r.2.1=(f.1 || !d)
 sh:d=true→r.2.2=(f.2 || !q.2)
mutual
theorem zsb {l:List VarD} {pl:List Pl} (h:zwd l pl):∀ (e:Ex) (f:Fl),RelR l Ex (rsE pl e f) f (zcZ l e) (r3E l e)
 |.mk op v n a b args,f=>by
  obtain ⟨h1,h2,h3⟩:=zoA h op n a b f 2 3 (by decide)
  obtain ⟨g1,g2,g3⟩:=zsc h args (zcC pl op n a b f 2 3).2
  refine ⟨?_,?_,?_⟩
  ·simp only [rsE,r3E,h1,g1]
  ·simp only [rsE,zcZ,g2,h2]
   cases f.1<;>cases ((op==2 || op==3)&&!zjH l n)<;>cases zb3 l args<;>rfl
  ·intro hn
   simp only [zcZ,Bool.and_eq_true,Bool.not_eq_true'] at hn
   simp only [rsE,r3E,g3 hn.2,h3 hn.1]
   cases f.2<;>cases (zb4 l op n a b 2 3).2<;>cases (zd1 l args).2<;>rfl
theorem zsc {l:List VarD} {pl:List Pl} (h:zwd l pl):∀ (e:List Ex) (f:Fl),RelR l (List Ex) (zdu pl e f) f (zb3 l e) (zd1 l e)
 |[],f=>⟨by simp [zdu,zd1],by simp [zdu,zb3],by simp [zdu,zd1]⟩
 |e::r,f=>by
  obtain ⟨h1,h2,h3⟩:=zsb h e f
  obtain ⟨g1,g2,g3⟩:=zsc h r (rsE pl e f).2
  refine ⟨?_,?_,?_⟩
  ·simp only [zdu,zd1,h1,g1]
  ·simp only [zdu,zb3,g2,h2]
   cases f.1<;>cases zcZ l e<;>cases zb3 l r<;>rfl
  ·intro hn
   simp only [zb3,Bool.and_eq_true] at hn
   simp only [zdu,zd1,g3 hn.2,h3 hn.1]
   cases f.2<;>cases (r3E l e).2<;>cases (zd1 l r).2<;>rfl
end
mutual
theorem zBp {l:List VarD} {pl:List Pl} (h:zwd l pl):∀ (s:Sm) (f:Fl),RelR l Sm (rsS pl s f) f (zhe l s) (r3S l s)
 |.mk k n a b p v body els,f=>by
  obtain ⟨h1,h2,h3⟩:=zoA h k n a b f 1 2 (by decide)
  obtain ⟨p1,p2,p3⟩:=zsb h p (zcC pl k n a b f 1 2).2
  obtain ⟨v1,v2,v3⟩:=zsb h v (rsE pl p (zcC pl k n a b f 1 2).2).2
  obtain ⟨b1,b2,b3⟩:=zfJ h body (rsE pl v (rsE pl p (zcC pl k n a b f 1 2).2).2).2
  obtain ⟨e1,e2,e3⟩:=zfJ h els (zbZ pl body (rsE pl v (rsE pl p (zcC pl k n a b f 1 2).2).2).2).2
  refine ⟨?_,?_,?_⟩
  ·simp only [rsS,r3S,h1,p1,v1,b1,e1]
  ·simp only [rsS,zhe,e2,b2,v2,p2,h2]
   cases f.1<;>cases ((k==1 || k==2)&&!zjH l n)<;>cases zcZ l p<;>cases zcZ l v<;>cases zdv l body<;>cases zdv l els<;>rfl
  ·intro hn
   simp only [zhe,Bool.and_eq_true,Bool.not_eq_true',Bool.or_eq_false_iff,Bool.not_eq_false'] at hn
   obtain ⟨hn0,⟨⟨hnp,hnv⟩,hnb⟩,hne⟩:=hn
   simp only [rsS,r3S,e3 hne,b3 hnb,v3 hnv,p3 hnp,h3 hn0]
   cases f.2<;>cases (zb4 l k n a b 1 2).2<;>cases (r3E l p).2<;>cases (r3E l v).2<;>cases (zcg l body).2<;>cases (zcg l els).2<;>rfl
theorem zfJ {l:List VarD} {pl:List Pl} (h:zwd l pl):∀ (s:List Sm) (f:Fl),RelR l (List Sm) (zbZ pl s f) f (zdv l s) (zcg l s)
 |[],f=>⟨by simp [zbZ,zcg],by simp [zbZ,zdv],by simp [zbZ,zcg]⟩
 |e::r,f=>by
  obtain ⟨h1,h2,h3⟩:=zBp h e f
  obtain ⟨g1,g2,g3⟩:=zfJ h r (rsS pl e f).2
  refine ⟨?_,?_,?_⟩
  ·simp only [zbZ,zcg,h1,g1]
  ·simp only [zbZ,zdv,g2,h2]
   cases f.1<;>cases zhe l e<;>cases zdv l r<;>rfl
  ·intro hn
   simp only [zdv,Bool.and_eq_true] at hn
   simp only [zbZ,zcg,g3 hn.2,h3 hn.1]
   cases f.2<;>cases (r3S l e).2<;>cases (zcg l r).2<;>rfl
end
theorem zBq {l:List VarD} {pl:List Pl} (h:zwd l pl) (p:PgD) (xs:List Int):zBo xs (rs4 pl p) =
  if (!zdv l p.start || !zdv l p.message || !zdv l p.tick || !zdv l p.input)=true then (cd0,2)
  else if (!(zcg l p.start).2 || !(zcg l p.message).2 || !(zcg l p.tick).2 || !(zcg l p.input).2)=true then (cd0,7)
  else (⟨xs,(zcg l p.start).1,(zcg l p.message).1,(zcg l p.tick).1,(zcg l p.input).1⟩,0):=by
 obtain ⟨a1,a2,a3⟩:=zfJ h p.start (false,false)
 obtain ⟨b1,b2,b3⟩:=zfJ h p.message (zbZ pl p.start (false,false)).2
 obtain ⟨c1,c2,c3⟩:=zfJ h p.tick (zbZ pl p.message (zbZ pl p.start (false,false)).2).2
 obtain ⟨d1,d2,d3⟩:=zfJ h p.input (zbZ pl p.tick (zbZ pl p.message (zbZ pl p.start (false,false)).2).2).2
 unfold zBo rs4
 dsimp only
 have hnm:(zbZ pl p.input (zbZ pl p.tick (zbZ pl p.message (zbZ pl p.start (false,false)).2).2).2).2.1=(!zdv l p.start || !zdv l p.message || !zdv l p.tick || !zdv l p.input):=by
  rw [d2,c2,b2,a2];rfl
 rw [hnm]
 split
 ·rfl
 ·rename_i hn
  simp only [Bool.or_eq_true,Bool.not_eq_true',not_or,Bool.not_eq_false] at hn
  obtain ⟨⟨⟨n1,n2⟩,n3⟩,n4⟩:=hn
  have hsh:(zbZ pl p.input (zbZ pl p.tick (zbZ pl p.message (zbZ pl p.start (false,false)).2).2).2).2.2=(!(zcg l p.start).2 || !(zcg l p.message).2 || !(zcg l p.tick).2 || !(zcg l p.input).2):=by
   rw [d3 n4,c3 n3,b3 n2,a3 n1];rfl
  rw [hsh,a1,b1,c1,d1]
open Go
theorem ze9 (n m:List UInt8) (a b:Int):∀ l:List Pl,zbX n (zjb m a b l)=if n=m then some (a,b) else zbX n l
 |[]=>by simp [zjb,zbX]
 |p::r=>by
  have ih:=ze9 n m a b r
  rw [zjb]
  by_cases h:m=p.name
  ·rw [if_pos h]
   by_cases h2:n=m
   ·simp [zbX,h2]
   ·have:¬ n=p.name:=fun e=>h2 (e.trans h.symm)
    simp [zbX,h2,this]
  ·rw [if_neg h]
   by_cases h2:n=p.name
   ·have:¬ n=m:=fun e=>h (e.symm.trans h2)
    simp [zbX,h2] at *
    simp [h,Ne.symm] at *
   ·simp [zbX,h2,ih]
theorem zl2:∀ (l:List VarD) (es:List Pl),(zmL es l=none ↔ (l.any (fun v=>(zbX v.name es).isSome)=true∨zqv l=true))
 |[],es=>by simp [zmL,zqv]
 |v::r,es=>by
  rw [zmL]
  by_cases h:(zbX v.name es).isSome=true
  ·rw [if_pos h];simp [h]
  ·rw [if_neg h,zl2 r]
   simp only [List.any_cons,zqv,ze9,Bool.or_eq_true]
   constructor
   ·rintro (h1|h1)
    ·rw [List.any_eq_true] at h1
     obtain ⟨x,hx,hs⟩:=h1
     by_cases hxv:x.name=v.name
     ·right;left;rw [List.any_eq_true];exact ⟨x,hx,by simpa using hxv⟩
     ·rw [if_neg hxv] at hs
      left;right;rw [List.any_eq_true];exact ⟨x,hx,hs⟩
    ·right;right;exact h1
   ·rintro ((h1|h1)|(h1|h1))
    ·exact absurd h1 h
    ·rw [List.any_eq_true] at h1
     obtain ⟨x,hx,hs⟩:=h1
     left;rw [List.any_eq_true];refine ⟨x,hx,?_⟩
     split
     ·rfl
     ·exact hs
    ·rw [List.any_eq_true] at h1
     obtain ⟨x,hx,hs⟩:=h1
     left;rw [List.any_eq_true];refine ⟨x,hx,?_⟩
     rw [if_pos (by simpa using hs)];rfl
    ·right;exact h1
theorem zl3 (n:List UInt8):∀ (l:List VarD) (es es':List Pl),zmL es l=some es'→(∀ v ∈ l,v.name≠n)→zbX n es'=zbX n es
 |[],es,es',h,_=>by simp [zmL] at h;rw [h]
 |v::r,es,es',h,hn=>by
  rw [zmL] at h
  split at h
  ·cases h
  ·rw [zl3 n r _ es' h (fun x hx=>hn x (by simp [hx])),ze9,if_neg (fun e=>hn v (by simp) e.symm)]
def lkF (n:List UInt8):Int→List VarD→Option (Int × Int)
 |_,[]=>none
 |f,v::r=>if v.name=n then some (f,v.size) else lkF n (f+mx v.size 1) r
theorem zoB (n:List UInt8):∀ (l:List VarD) (f:Int),(∀ v ∈ l,v.name≠n)→lkF n f l=none
 |[],f,_=>rfl
 |v::r,f,h=>by rw [lkF,if_neg (h v (by simp))];exact zoB n r _ (fun x hx=>h x (by simp [hx]))
theorem zoC (n:List UInt8):∀ (l:List VarD) (f:Int),lkF n f l=none→∀ v ∈ l,v.name≠n
 |[],f,_,v,hv=>by simp at hv
 |v::r,f,h,x,hx=>by
  rw [lkF] at h
  split at h
  ·cases h
  ·rename_i hne
   rcases List.mem_cons.1 hx with rfl|hx
   ·exact hne
   ·exact zoC n r _ h x hx
theorem zsd (v:VarD):[v.init]++List.replicate ((mx v.size 1).toNat - 1) 0=zwc v:=by
 unfold zwc
 have:(mx v.size 1).toNat - 1=v.size.toNat - 1:=by unfold mx zc3;split<;>omega
 rw [this];rfl
theorem zse (n:Int) (v:VarD) (h0:0≤n):(mx v.size 1 > 32 - n ↔ n+zd2 v > 32):=by
 unfold zd2 zyQ
 split<;>omega
theorem zie:∀ (l:List VarD) (es:List Pl) (xs:List Int),(zfl es xs l=none ↔ znj xs.length l=none)∧∀ q,zfl es xs l=some q→q.2=xs++zgI l
 |[],es,xs=>by simp [zfl,znj,zgI]
 |v::r,es,xs=>by
  rw [zfl,znj]
  have hs:=zse xs.length v (by omega)
  by_cases h:mx v.size 1 > 32 - (xs.length:Int)
  ·rw [if_pos h,if_pos (hs.1 h)];simp
  ·have h':¬ (xs.length:Int)+zd2 v > 32:=fun e=>h (hs.2 e)
   rw [if_neg h,if_neg h']
   have hc:=zeR v (by omega)
   have h1:=zkO v
   have ih:=zie r (zjb v.name xs.length v.size es) (xs++[v.init]++List.replicate ((mx v.size 1).toNat - 1) 0)
   rw [List.append_assoc,zsd] at ih ⊢
   have hl:((xs++zwc v).length:Int)=xs.length+zd2 v:=by rw [List.length_append,hc,←h1];omega
   rw [hl] at ih
   refine ⟨ih.1,fun q hq=>?_⟩
   rw [ih.2 q hq,zgI,List.append_assoc]
theorem zjJ (n:List UInt8):∀ (l:List VarD) (es:List Pl) (xs:List Int) (q:List Pl × List Int),zqv l=false→zfl es xs l=some q→zbX n q.1=(lkF n xs.length l).or (zbX n es)
 |[],es,xs,q,_,h=>by simp [zfl] at h;rw [←h];simp [lkF]
 |v::r,es,xs,q,hd,h=>by
  rw [zfl] at h
  split at h
  ·cases h
  ·rename_i hle
   simp only [zqv,Bool.or_eq_false_iff] at hd
   have hl:(((xs++[v.init]++List.replicate ((mx v.size 1).toNat - 1) 0).length:Nat):Int)=xs.length+mx v.size 1:=by
    rw [List.append_assoc,zsd,List.length_append,←zkO v];omega
   have ih:=zjJ n r _ _ q hd.2 h
   rw [hl,ze9] at ih
   rw [ih,lkF]
   by_cases hv:v.name=n
   ·subst hv
    have:∀ x ∈ r,x.name≠v.name:=fun x hx e=>by
     have:=hd.1
     rw [List.any_eq_false] at this
     exact this x hx (by simpa using e)
    rw [zoB _ r _ this];simp
   ·rw [if_neg hv,if_neg (fun e=>hv e.symm)]
theorem zjK (n:List UInt8):∀ (l:List VarD) (f:Int),0≤f→znj f l≠none→(∀ v ∈ l,0≤v.size)→zaA n f l=match lkF n f l with|some q=>(q.1,q.2,true)|none=>(0,0,false)
 |[],f,_,_,_=>rfl
 |v::r,f,h0,hs,hp=>by
  rw [znj] at hs
  split at hs
  ·exact absurd rfl hs
  ·rename_i hle
   have hc0:=zjI v
   have hc:=zeR v (by omega)
   rw [zaA,lkF]
   by_cases hv:v.name=n
   ·have h1:=hp v (by simp)
    have h2:mx v.size 0=v.size:=by unfold mx zc3;split<;>omega
    simp [hv,h2]
   ·have:(v.name==n)=false:=by simpa using hv
    rw [this,if_neg (by simp),if_neg (by omega),if_neg hv]
    rw [hc] at hs
    exact zjK n r _ (by omega) hs (fun x hx=>hp x (by simp [hx]))
theorem zx6 {l:List VarD} {es:List Pl} {q:List Pl × List Int} (hd:zqv l=false) (he:zmL [] l=some es) (hf:zfl es [] l=some q) (hp:∀ v ∈ l,0≤v.size):zwd l q.1:=by
 intro n
 have hs:znj 0 l≠none:=fun h=>by
  have:=(zie l es []).1.2 (by simpa using h)
  rw [this] at hf;cases hf
 have h1:=zjJ n l es [] q hd hf
 have h2:=zjK n l 0 (by omega) hs hp
 rw [h1,h2]
 simp only [List.length_nil]
 rw [show ((0:Nat):Int)=0 from rfl]
 cases hk:lkF n 0 l with
 |some z=>simp
 |none=>
  have:=zl3 n l [] es he (zoC n l 0 hk)
  simp [this,zbX]
theorem zgY (p:PgD):zaR p=zdw p:=by
 unfold zaR zdw
 by_cases h1:zbF zan p≠0
 ·rw [if_pos h1,if_pos h1]
 ·rw [if_neg h1,if_neg h1]
  by_cases h2:p.vars.length > 16
  ·rw [if_pos h2,if_pos h2]
  ·rw [if_neg h2,if_neg h2]
   have hp:∀ v ∈ p.vars,0≤v.size:=by
    intro v hv
    have h3:zbF zan p=0:=by simpa using h1
    unfold zbF at h3
    split at h3
    ·cases h3
    ·split at h3
     ·cases h3
     ·rename_i hany
      have:zcB v=true:=by
       cases hg:zcB v with
       |true=>rfl
       |false=>exact absurd (List.any_eq_true.2 ⟨v,hv,by simp [hg]⟩) hany
      unfold zcB at this
      grind
   have hdn:=zl2 p.vars []
   have h0:p.vars.any (fun v=>(zbX v.name []).isSome)=false:=by simp [zbX]
   rw [h0] at hdn
   cases hd:zqv p.vars with
   |true=>
    have:zmL [] p.vars=none:=hdn.2 (.inr hd)
    rw [this];simp
   |false=>
    cases he:zmL [] p.vars with
    |none=>have:=hdn.1 he;rw [hd] at this;simp at this
    |some es=>
     have hfs:=zie p.vars es []
     rw [if_neg (by simp)]
     dsimp only
     cases hf:zfl es [] p.vars with
     |none=>
      have:=hfs.1.1 hf
      rw [if_pos (by simpa using this)]
     |some q=>
      have hs:¬ znj 0 p.vars=none:=fun h=>by
       have:=hfs.1.2 (by simpa using h)
       rw [this] at hf;cases hf
      rw [if_neg hs]
      dsimp only
      rw [zBq (zx6 hd he hf hp) p q.2,hfs.2 q hf]
      rfl
def zmM (x:UInt8):List PVal:=[.int .u8 (x.toNat:Int)]
def nxt (xs:List UInt8) (a:Nat) (n:Int):Int × Nat:=if a<xs.length then (((xs.getD a 0).toNat:Int).tmod n,a+1) else (0,a)
theorem zaG (xs:List UInt8) (a:Nat) (n:Int) (h:0<n):0≤(nxt xs a n).1∧(nxt xs a n).1<n:=by
 unfold nxt
 split
 ·exact ⟨Int.tmod_nonneg _ (by omega),Int.tmod_lt_of_pos _ h⟩
 ·exact ⟨Int.le_refl _,h⟩
theorem zaX (xs:List UInt8) (a:Nat) (n:Int) (h:a≤xs.length):(nxt xs a n).2≤xs.length:=by unfold nxt;split<;>simp<;>omega
def exL (op value:Int) (name:List UInt8) (args:List Ex):Ex:=.mk op value name 0 0 args
def scal (i:Int):List UInt8:=if i=0 then [120] else if i=1 then [121] else [122]
def ztt (i:Int):List UInt8:=if i=0 then [97] else [98]
def opN (i:Int):Int:=if i=0 then 4 else if i=1 then 5 else 6
def kF (small:Bool) (k m:Int):Int:=if (small&&decide (k≥m))=true then k - m else k
def zbL (xs:List UInt8) (rec:Nat→Ex × Nat) (small:Bool) (a:Nat):Ex × Nat:=
 if kF small (nxt xs a 12).1 8<2 then (exL 1 (nxt xs (nxt xs a 12).2 5).1 [] [],(nxt xs (nxt xs a 12).2 5).2)
 else if kF small (nxt xs a 12).1 8<4 then (exL 2 0 (scal (nxt xs (nxt xs a 12).2 3).1) [],(nxt xs (nxt xs a 12).2 3).2)
 else if kF small (nxt xs a 12).1 8=4 then (exL 7 0 [] [],(nxt xs a 12).2)
 else if kF small (nxt xs a 12).1 8=5 then (exL (opN (nxt xs (nxt xs a 12).2 3).1) 0 [] [],(nxt xs (nxt xs a 12).2 3).2)
 else if kF small (nxt xs a 12).1 8=6∨small=true then (exL 1 (1+(nxt xs (nxt xs a 12).2 200).1) [] [],(nxt xs (nxt xs a 12).2 200).2)
 else if kF small (nxt xs a 12).1 8=7 then (exL 3 0 (ztt (nxt xs (nxt xs a 12).2 2).1) [(rec (nxt xs (nxt xs a 12).2 2).2).1],(rec (nxt xs (nxt xs a 12).2 2).2).2)
 else if kF small (nxt xs a 12).1 8=8 then (exL (8+(nxt xs (nxt xs a 12).2 2).1) 0 [] [(rec (nxt xs (nxt xs a 12).2 2).2).1],(rec (nxt xs (nxt xs a 12).2 2).2).2)
 else (exL (10+(nxt xs (rec (nxt xs a 12).2).2 13).1) 0 [] [(rec (nxt xs a 12).2).1,(rec (nxt xs (rec (nxt xs a 12).2).2 13).2).1],(rec (nxt xs (rec (nxt xs a 12).2).2 13).2).2)
def za2 (xs:List UInt8):Nat→Nat→Ex × Nat
 |0,a=>zbL xs (fun a=>(exL 0 0 [] [],a)) true a
 |d+1,a=>zbL xs (za2 xs d) (decide (d+1≤1)) a
theorem zif (xs:List UInt8) (rec:Nat→Ex × Nat) (small:Bool) (a:Nat) (ha:a≤xs.length) (hr:∀ a≤xs.length,(rec a).2≤xs.length):(zbL xs rec small a).2≤xs.length:=by
 have h0:=zaX xs a 12 ha
 unfold zbL
 repeat' split
 all_goals first|exact zaX _ _ _ h0|exact h0|exact hr _ (zaX _ _ _ h0)|exact hr _ (zaX _ _ _ (hr _ h0))
theorem zbm (xs:List UInt8):∀ (d a:Nat),a≤xs.length→(za2 xs d a).2≤xs.length
 |0,a,h=>zif xs _ _ a h (fun a h=>h)
 |d+1,a,h=>zif xs _ _ a h (fun a h=>zbm xs d a h)
def smL (kind:Int) (name:List UInt8) (place value:Ex) (body els:List Sm):Sm:=.mk kind name 0 0 place value body els
def ex0:Ex:=.mk 0 0 [] 0 0 []
def za5 (xs:List UInt8) (rec:Int→Nat→List Sm × Nat) (small:Bool) (a:Nat):Sm × Nat:=
 let q:=nxt xs a 10
 if kF small q.1 7<3 then (smL 1 (scal (nxt xs q.2 3).1) ex0 (za2 xs 3 (nxt xs q.2 3).2).1 [] [],(za2 xs 3 (nxt xs q.2 3).2).2)
 else if kF small q.1 7=3 then (smL 2 (ztt (nxt xs q.2 2).1) (za2 xs 2 (nxt xs q.2 2).2).1 (za2 xs 2 (za2 xs 2 (nxt xs q.2 2).2).2).1 [] [],(za2 xs 2 (za2 xs 2 (nxt xs q.2 2).2).2).2)
 else if kF small q.1 7<6 then (smL 5 [] (za2 xs 2 q.2).1 (za2 xs 2 (za2 xs 2 q.2).2).1 [] [],(za2 xs 2 (za2 xs 2 q.2).2).2)
 else if kF small q.1 7=6 then (smL 6 [] ex0 (za2 xs 2 q.2).1 [] [],(za2 xs 2 q.2).2)
 else if kF small q.1 7<9 then (smL 3 [] ex0 (za2 xs 2 q.2).1 (rec 2 (za2 xs 2 q.2).2).1 (rec 1 (rec 2 (za2 xs 2 q.2).2).2).1,(rec 1 (rec 2 (za2 xs 2 q.2).2).2).2)
 else (smL 4 [] ex0 (za2 xs 2 q.2).1 (rec 2 (za2 xs 2 q.2).2).1 [],(rec 2 (za2 xs 2 q.2).2).2)
def zaQ (xs:List UInt8) (rec:Int→Nat→List Sm × Nat) (small:Bool):Nat→Nat→List Sm × Nat
 |0,a=>([],a)
 |n+1,a=>((za5 xs rec small a).1::(zaQ xs rec small n (za5 xs rec small a).2).1,(zaQ xs rec small n (za5 xs rec small a).2).2)
def zcl (xs:List UInt8) (rec:Int→Nat→List Sm × Nat) (small:Bool) (most:Int) (a:Nat):List Sm × Nat:=
 zaQ xs rec small (nxt xs a (most+1)).1.toNat (nxt xs a (most+1)).2
def zcb (xs:List UInt8):Nat→Int→Nat→List Sm × Nat
 |0,most,a=>zcl xs (fun _ a=>([],a)) true most a
 |d+1,most,a=>zcl xs (zcb xs d) (decide (d+1≤1)) most a
theorem zfK (xs:List UInt8) (rec:Int→Nat→List Sm × Nat) (small:Bool) (a:Nat) (ha:a≤xs.length) (hr:∀ m a,a≤xs.length→(rec m a).2≤xs.length):(za5 xs rec small a).2≤xs.length:=by
 have h0:=zaX xs a 10 ha
 unfold za5
 dsimp only
 repeat' split
 all_goals dsimp only
 all_goals first|exact zbm _ _ _ (zaX _ _ _ h0)|exact zbm _ _ _ (zbm _ _ _ (zaX _ _ _ h0))|exact zbm _ _ _ (zbm _ _ _ h0)|exact zbm _ _ _ h0|exact hr _ _ (hr _ _ (zbm _ _ _ h0))|exact hr _ _ (zbm _ _ _ h0)
theorem zeS (xs:List UInt8) (rec:Int→Nat→List Sm × Nat) (small:Bool) (hr:∀ m a,a≤xs.length→(rec m a).2≤xs.length):∀ (n a:Nat),a≤xs.length→(zaQ xs rec small n a).2≤xs.length
 |0,a,h=>h
 |n+1,a,h=>zeS xs rec small hr n _ (zfK xs rec small a h hr)
theorem zcD (xs:List UInt8):∀ (d:Nat) (m:Int) (a:Nat),a≤xs.length→(zcb xs d m a).2≤xs.length
 |0,m,a,h=>zeS xs _ _ (fun _ _ h=>h) _ _ (zaX _ _ _ h)
 |d+1,m,a,h=>zeS xs _ _ (fun m a h=>zcD xs d m a h) _ _ (zaX _ _ _ h)
def eB:Nat→Nat
 |0=>1
 |d+1=>1+2 * eB d
theorem zig (xs:List UInt8) (rec:Nat→Ex × Nat) (small:Bool) (a B:Nat) (hr:∀ a,szE (rec a).1≤B):szE (zbL xs rec small a).1≤1+2 * B:=by
 have h:=fun a=>hr a
 unfold zbL
 repeat' split
 all_goals simp only [exL,szE,zgs]
 all_goals try omega
 ·have:=h (nxt xs (nxt xs a 12).2 2).2;omega
 ·have:=h (nxt xs (nxt xs a 12).2 2).2;omega
 ·have:=h (nxt xs a 12).2;have:=h (nxt xs (rec (nxt xs a 12).2).2 13).2;omega
theorem zkP (xs:List UInt8):∀ (d a:Nat),szE (za2 xs d a).1≤1+2 * eB d
 |0,a=>zig xs _ _ a 1 (fun a=>by simp [exL,szE,zgs])
 |d+1,a=>zig xs _ _ a _ (fun a=>by have:=zkP xs d a;simp only [eB] at *;omega)
def sB:Nat→Nat
 |0=>100
 |d+1=>100+3 * sB d
theorem zih (xs:List UInt8) (rec:Int→Nat→List Sm × Nat) (small:Bool) (a B:Nat) (h2:∀ a,zbh (rec 2 a).1≤2 * B) (h1:∀ a,zbh (rec 1 a).1≤B):szS (za5 xs rec small a).1≤100+3 * B:=by
 have e2:=fun a=>zkP xs 2 a
 have e3:=fun a=>zkP xs 3 a
 simp only [eB] at e2 e3
 unfold za5
 dsimp only
 repeat' split
 all_goals simp only [smL,szS,zbh,ex0,szE,zgs]
 ·have:=e3 (nxt xs (nxt xs a 10).2 3).2;omega
 ·have:=e2 (nxt xs (nxt xs a 10).2 2).2;have:=e2 (za2 xs 2 (nxt xs (nxt xs a 10).2 2).2).2;omega
 ·have:=e2 (nxt xs a 10).2;have:=e2 (za2 xs 2 (nxt xs a 10).2).2;omega
 ·have:=e2 (nxt xs a 10).2;omega
 ·have:=e2 (nxt xs a 10).2;have:=h2 (za2 xs 2 (nxt xs a 10).2).2;have:=h1 (rec 2 (za2 xs 2 (nxt xs a 10).2).2).2;omega
 ·have:=e2 (nxt xs a 10).2;have:=h2 (za2 xs 2 (nxt xs a 10).2).2;omega
theorem zgZ (xs:List UInt8) (rec:Int→Nat→List Sm × Nat) (small:Bool) (B:Nat) (h:∀ a,szS (za5 xs rec small a).1≤B):∀ (n a:Nat),zbh (zaQ xs rec small n a).1≤n * B
 |0,a=>by simp [zaQ,zbh]
 |n+1,a=>by
  have h1:=h a
  have h2:=zgZ xs rec small B h n (za5 xs rec small a).2
  simp only [zaQ,zbh]
  rw [Nat.succ_mul];omega
theorem zii (xs:List UInt8) (rec:Int→Nat→List Sm × Nat) (small:Bool) (B:Nat) (h:∀ a,szS (za5 xs rec small a).1≤B) (most:Nat) (a:Nat):zbh (zcl xs rec small most a).1≤most * B:=by
 unfold zcl
 have h1:=zaG xs a ((most:Int)+1) (by omega)
 refine Nat.le_trans (zgZ xs rec small B h _ _) (Nat.mul_le_mul_right _ (by omega))
theorem zd3 (xs:List UInt8):∀ (d:Nat) (most:Nat) (a:Nat),zbh (zcb xs d most a).1≤most * sB (d+1)
 |0,most,a=>zii xs _ _ _ (fun a=>Nat.le_trans (zih xs _ _ a 0 (fun _=>by simp [zbh]) (fun _=>by simp [zbh])) (by simp [sB])) most a
 |d+1,most,a=>zii xs _ _ _ (fun a=>Nat.le_trans (zih xs _ _ a (sB (d+1)) (fun a=>zd3 xs d 2 a) (fun a=>by have:=zd3 xs d 1 a;simpa using this)) (by simp [sB])) most a
def zcJ (u v w:Int):List VarD:=[⟨[120],0,u - 2⟩,⟨[97],1+v,0⟩,⟨[121],0,0⟩,⟨[122],0,w⟩,⟨[98],2,0⟩]
def zaS (xs:List UInt8) (a:Nat):PgD × Nat:=
 let m1:=nxt xs a 7
 let m2:=nxt xs m1.2 5
 let m3:=nxt xs m2.2 3
 let s1:=zcb xs 2 3 m3.2
 let s2:=zcb xs 3 4 s1.2
 let s3:=zcb xs 2 3 s2.2
 let s4:=zcb xs 2 2 s3.2
 (⟨zcJ m1.1 m2.1 m3.1,s1.1,s2.1,s3.1,s4.1⟩,s4.2)
theorem zij (xs:List UInt8) (a:Nat) (h:a≤xs.length):(zaS xs a).2≤xs.length:=
 zcD _ _ _ _ (zcD _ _ _ _ (zcD _ _ _ _ (zcD _ _ _ _ (zaX _ _ _ (zaX _ _ _ (zaX _ _ _ h))))))
theorem znk (xs:List UInt8) (a:Nat):szP (zaS xs a).1≤100000:=by
 unfold zaS szP
 dsimp only
 have h1:=zd3 xs 2 3 (nxt xs (nxt xs (nxt xs a 7).2 5).2 3).2
 have h2:=zd3 xs 3 4 (zcb xs 2 3 (nxt xs (nxt xs (nxt xs a 7).2 5).2 3).2).2
 have h3:=zd3 xs 2 3 (zcb xs 3 4 (zcb xs 2 3 (nxt xs (nxt xs (nxt xs a 7).2 5).2 3).2).2).2
 have h4:=zd3 xs 2 2 (zcb xs 2 3 (zcb xs 3 4 (zcb xs 2 3 (nxt xs (nxt xs (nxt xs a 7).2 5).2 3).2).2).2).2
 simp only [sB,Int.cast_ofNat_Int] at h1 h2 h3 h4
 simp only [zcJ,List.length_cons,List.length_nil]
 omega
def zx7:List Int:=[9223372036854775807,-9223372036854775808,2147483648,-1,63,64,-65,127,128,1099511627776]
def zgt (xs:List UInt8) (a:Nat):Int × Nat:=
 if (nxt xs a 6).1=5 then (zx7.getD (nxt xs (nxt xs a 6).2 10).1.toNat 0,(nxt xs (nxt xs a 6).2 10).2) else ((nxt xs (nxt xs a 6).2 12).1 - 2,(nxt xs (nxt xs a 6).2 12).2)
theorem zgJ (xs:List UInt8) (a:Nat) (h:a≤xs.length):(zgt xs a).2≤xs.length:=by
 unfold zgt
 split<;>exact zaX _ _ _ (zaX _ _ _ h)
theorem znl (xs:List UInt8) (a:Nat):-9223372036854775808≤(zgt xs a).1∧(zgt xs a).1≤9223372036854775807:=by
 unfold zgt
 split
 ·have h:=zaG xs (nxt xs a 6).2 10 (by omega)
  have key:∀ i,i<10→-9223372036854775808≤zx7.getD i 0∧zx7.getD i 0≤9223372036854775807:=by
   have:((List.range 10).all fun i=>decide (-9223372036854775808≤zx7.getD i 0∧zx7.getD i 0≤9223372036854775807))=true:=by decide
   intro i hi
   simpa using List.all_eq_true.1 this i (by simpa using hi)
  exact key _ (by omega)
 ·have h:=zaG xs (nxt xs a 6).2 12 (by omega)
  constructor<;>simp only<;>omega
def zg0 (q:Bool × List UInt8):List UInt8:=if q.1 then 40::(q.2++[41]) else q.2
def fmN (op value:Int) (nm:List UInt8) (ts:List (Bool × List UInt8)):List UInt8:=
 if op=1 then zdM value else if op=2 then nm
 else if op=3 then nm++91::((ts.getD 0 (false,[])).2++[93])
 else if op=4 then [115,101,108,102] else if op=5 then [112,114,111,99,115] else if op=6 then [102,114,111,109] else if op=7 then [118,97,108,117,101]
 else if op=8∨op=9 then sgF op.toNat++zg0 (ts.getD 0 (false,[]))
 else zg0 (ts.getD 0 (false,[]))++32::(sgF op.toNat++32::zg0 (ts.getD 1 (false,[])))
mutual
def fmE:Ex→List UInt8
 |.mk op value nm _ _ args=>fmN op value nm (zl4 args)
def zl4:List Ex→List (Bool × List UInt8)
 |[]=>[]
 |e::r=>(decide (e.op≥8),fmE e)::zl4 r
end
theorem zBr (e:Ex):fmE e=fmN e.op e.value e.name (zl4 e.args):=by cases e;rfl
def zdf (n:Nat):List UInt8:=List.replicate (2 * n) 32
def fmS (kind:Int) (nm place value body els:List UInt8) (he:Bool) (n:Nat):List UInt8:=
 if kind=1 then nm++[32,61,32]++value++[59,10]
 else if kind=2 then nm++[91]++place++[93,32,61,32]++value++[59,10]
 else if kind=5 then [115,101,110,100,32]++place++[44,32]++value++[59,10]
 else if kind=6 then [111,117,116,112,117,116,32]++value++[59,10]
 else (if kind=3 then [105,102,32] else [119,104,105,108,101,32])++value++[32,123,10]++body++zdf n++(if he then [125,32,101,108,115,101,32,123,10]++els++zdf n else [])++[125,10]
mutual
def stT (n:Nat):Sm→List UInt8
 |.mk kind nm _ _ place value body els=>fmS kind nm (fmE place) (fmE value) (lsT (n+1) body) (lsT (n+1) els) (decide (els.length > 0)) n
def lsT (n:Nat):List Sm→List UInt8
 |[]=>[]
 |s::r=>zdf n++stT n s++lsT n r
end
theorem zl5 (n:Nat) (s:Sm):stT n s=fmS s.kind s.name (fmE s.place) (fmE s.value) (lsT (n+1) s.body) (lsT (n+1) s.els) (decide (s.els.length > 0)) n:=by cases s;rfl
def hdT (nm:List UInt8) (l:List Sm):List UInt8:=if l.length=0 then [] else [111,110,32]++nm++[32,123,10]++lsT 1 l++[125,10]
def itT (n:Int):List UInt8:=if n<0 then 45::zdM (-n) else zdM n
def vaT (v:VarD):List UInt8:=if v.size≠0 then [97,114,114,97,121,32]++v.name++[91]++itT v.size++[93,59,10] else if v.init≠0 then [118,97,114,32]++v.name++[32,61,32]++itT v.init++[59,10] else [118,97,114,32]++v.name++[59,10]
def vsT (l:List VarD):List UInt8:=(l.map vaT).flatten
def pgT (p:PgD):List UInt8:=vsT p.vars++hdT [115,116,97,114,116] p.start++hdT [109,101,115,115,97,103,101] p.message++hdT [116,105,99,107] p.tick++hdT [105,110,112,117,116] p.input
def zjc (p:PgD):List UInt8 × Int:=
 if zbF zan p≠0 then ([],zbF zan p) else if ((pgT p).length:Int) > 4096 then ([],5) else (pgT p,0)
theorem zkQ (n:Int):(zdM n).length≤20:=by
 unfold zdM
 split
 ·simp
 ·exact zoq _ _
theorem zdR (n:Int):(itT n).length≤21:=by
 unfold itT
 split
 ·have:=zkQ (-n);simp only [List.length_cons];omega
 ·have:=zkQ n;omega
theorem zik {s:List UInt8} (h:zbb s=true):s.length≤16:=by
 rcases Nat.lt_or_ge 16 s.length with h1|h1
 ·rw [zh5 s h1] at h;cases h
 ·exact h1
theorem zx8 (op:Nat):(sgF op).length≤2:=by
 have key:∀ (c:Prop) [Decidable c] (a b:List UInt8),a.length≤2→b.length≤2→(if c then a else b).length≤2:=fun c _ a b ha hb=>by split<;>assumption
 unfold sgF
 repeat (refine key _ _ _ (by decide) ?_)
 decide
theorem zoD (q:Bool × List UInt8):(zg0 q).length≤q.2.length+2:=by
 unfold zg0
 split<;>simp
def lnE:List (Bool × List UInt8)→Nat
 |[]=>0
 |q::r=>q.2.length+lnE r
theorem zx9 (op value:Int) (nm:List UInt8) (ts:List (Bool × List UInt8)) (hn:nm.length≤16):(fmN op value nm ts).length≤lnE ts+30:=by
 have hd:=zkQ value
 have hs:=zx8 op.toNat
 have g0:(ts.getD 0 (false,[])).2.length≤lnE ts:=by
  cases ts with
  |nil=>simp
  |cons a r=>simp [lnE]
 have g1:(ts.getD 0 (false,[])).2.length+(ts.getD 1 (false,[])).2.length≤lnE ts:=by
  match ts with
  |[]=>simp [lnE]
  |[a]=>simp [lnE]
  |a::b::r=>simp [lnE]<;>omega
 have o0:=zoD (ts.getD 0 (false,[]))
 have o1:=zoD (ts.getD 1 (false,[]))
 unfold fmN
 repeat' split
 all_goals (try simp only [List.length_append,List.length_cons,List.length_nil])
 all_goals omega
mutual
theorem zkR:∀ e:Ex,zbc e=true→(fmE e).length≤30 * szE e
 |.mk op value nm slot size args,h=>by
  rw [zh6] at h
  simp only [Bool.and_eq_true,zd0,Ex.op_mk,Ex.value_mk,Ex.name_mk,Ex.slot_mk,Ex.size_mk,Ex.args_mk] at h
  have hn:nm.length≤16:=by
   have:=h.1.2
   unfold zaW at this
   split at this
   ·exact zik this
   ·have:nm=[]:=by simpa using this
    subst this;simp
  have:=zx9 op value nm (zl4 args) hn
  have:=zoE args h.2
  simp only [fmE,szE]
  omega
theorem zoE:∀ l:List Ex,zby l=true→lnE (zl4 l)≤30 * zgs l
 |[],_=>by simp [zl4,lnE]
 |e::r,h=>by
  simp only [zby,Bool.and_eq_true] at h
  have:=zkR e h.1
  have:=zoE r h.2
  simp only [zl4,lnE,zgs]
  omega
end
theorem zsf {e:Ex} (h:zen e=true):e=exZ:=by
 obtain ⟨op,value,nm,slot,size,args⟩:=e
 simp only [zen,Bool.and_eq_true,beq_iff_eq,Ex.op_mk,Ex.value_mk,Ex.name_mk,Ex.slot_mk,Ex.size_mk,Ex.args_mk,Int.natCast_eq_zero,List.length_eq_zero_iff] at h
 obtain ⟨⟨⟨⟨⟨rfl,rfl⟩,rfl⟩,rfl⟩,rfl⟩,rfl⟩:=h
 rfl
theorem zya:(fmE exZ).length≤30:=by decide
theorem zyb (kind:Int) (nm place value body els:List UInt8) (he:Bool) (n:Nat):(fmS kind nm place value body els he n).length≤nm.length+place.length+value.length+body.length+els.length+4 * n+40:=by
 unfold fmS zdf
 repeat' split
 all_goals simp only [List.length_append,List.length_cons,List.length_nil,List.length_replicate]
 all_goals omega
mutual
theorem zyc (n:Nat):∀ s:Sm,zct s=true→szS s+n≤2000000→(stT n s).length+4000000≤20000000 * szS s
 |.mk kind nm slot size place value body els,h,hn=>by
  rw [zh8] at h
  simp only [Bool.and_eq_true,zeo,Sm.kind_mk,Sm.name_mk,Sm.slot_mk,Sm.size_mk,Sm.place_mk,Sm.value_mk,Sm.body_mk,Sm.els_mk] at h
  have hnm:=h.1.1.1.1.2
  have hp:=h.1.1.1.2
  have hv:=h.2.1.1
  have hb:=h.2.1.2
  have he:=h.2.2
  have h1:nm.length≤16:=by
   unfold zaW at hnm
   split at hnm
   ·exact zik hnm
   ·have:nm=[]:=by simpa using hnm
    subst this;simp
  have h2:(fmE place).length≤30 * szE place+30:=by
   by_cases hc:(kind==2 || kind==5)=true
   ·have hp':zbc place=true:=by simpa only [hc,if_true] using hp
    have:=zkR place hp';omega
   ·have hp':zen place=true:=by simpa only [hc,if_false,Bool.false_eq_true] using hp
    rw [zsf hp'];have:=zya;omega
  have h3:=zkR value hv
  simp only [szS] at hn
  have h4:=zkS (n+1) body hb (by omega)
  have h5:=zkS (n+1) els he (by omega)
  have h6:=zyb kind nm (fmE place) (fmE value) (lsT (n+1) body) (lsT (n+1) els) (decide (els.length > 0)) n
  simp only [stT,szS]
  omega
theorem zkS (n:Nat):∀ l:List Sm,zan l=true→zbh l+n≤2000000→(lsT n l).length≤20000000 * zbh l
 |[],_,_=>by simp [lsT]
 |s::r,h,hn=>by
  simp only [zan,Bool.and_eq_true] at h
  simp only [zbh] at hn
  have h1:=zyc n s h.1 (by omega)
  have h2:=zkS n r h.2 (by omega)
  simp only [lsT,zbh,List.length_append,zdf,List.length_replicate]
  omega
end
theorem zkT (nm:List UInt8) (l:List Sm) (h:zan l=true) (hn:nm.length≤10) (hs:zbh l≤1000000):(hdT nm l).length≤20000000 * zbh l+100:=by
 have:=zkS 1 l h (by omega)
 unfold hdT
 split
 ·simp
 ·simp only [List.length_append,List.length_cons,List.length_nil];omega
theorem zyd (v:VarD) (h:zcB v=true):(vaT v).length≤60:=by
 have hn:v.name.length≤16:=by
  refine zik ?_
  unfold zcB at h
  cases hv:zbb v.name with
  |true=>rfl
  |false=>rw [hv] at h;simp at h
 have h1:=zdR v.size
 have h2:=zdR v.init
 unfold vaT
 repeat' split
 all_goals simp only [List.length_append,List.length_cons,List.length_nil]
 all_goals omega
theorem zsg:∀ l:List VarD,l.any (fun v=>!zcB v)=false→(vsT l).length≤60 * l.length
 |[],_=>by simp [vsT]
 |v::r,h=>by
  simp only [List.any_cons,Bool.or_eq_false_iff] at h
  have h1:=zyd v (by simpa using h.1)
  have h2:=zsg r h.2
  simp only [vsT] at h2
  simp only [vsT,List.map_cons,List.flatten_cons,List.length_append,List.length_cons]
  omega
theorem zoF {p:PgD} (h:zbF zan p=0):p.vars.any (fun v=>!zcB v)=false∧zan p.start=true∧zan p.message=true∧zan p.tick=true∧zan p.input=true∧znc p≤16:=by
 unfold zbF at h
 split at h
 ·cases h
 split at h
 ·cases h
 split at h
 ·cases h
 ·rename_i h1 h2 h3
  simp only [Bool.or_eq_true,not_or,Bool.not_eq_true',Bool.not_eq_false] at h3
  exact ⟨by simpa using h2,h3.1.1.1,h3.1.1.2,h3.1.2,h3.2,by omega⟩
theorem zsh (p:PgD) (h:zbF zan p=0) (hs:szP p≤1000000):(pgT p).length≤50000000000000:=by
 obtain ⟨h0,h1,h2,h3,h4,_⟩:=zoF h
 unfold szP at hs
 have a0:=zsg p.vars h0
 have a1:=zkT [115,116,97,114,116] p.start h1 (by decide) (by omega)
 have a2:=zkT [109,101,115,115,97,103,101] p.message h2 (by decide) (by omega)
 have a3:=zkT [116,105,99,107] p.tick h3 (by decide) (by omega)
 have a4:=zkT [105,110,112,117,116] p.input h4 (by decide) (by omega)
 unfold pgT
 simp only [List.length_append]
 omega
theorem zil (n:Int) (h0:-9223372036854775808≤n) (h1:n≤9223372036854775807):Lib.itoa n=itT n:=by
 unfold itT
 by_cases h:n<0
 ·rw [if_pos h]
  have e:=zr8 20 n.natAbs (by omega) (by omega)
  unfold Lib.itoa zdM
  rw [if_pos h,if_neg (by omega),e]
  congr 2
  omega
 ·rw [if_neg h]
  have:=zvc n h1
  rw [show zc3 n 0=n by unfold zc3;split<;>omega] at this
  exact this
def zgK (n:Int):Bool:=decide (-9223372036854775808≤n)&&decide (n≤9223372036854775807)
theorem zdS {n:Int} (h:zgK n=true):-9223372036854775808≤n∧n≤9223372036854775807:=by simpa [zgK] using h
mutual
def rgE:Ex→Bool
 |.mk _ v _ _ _ args=>zgK v&&zoG args
def zoG:List Ex→Bool
 |[]=>true
 |e::r=>rgE e&&zoG r
end
theorem zBs (e:Ex):rgE e=(zgK e.value&&zoG e.args):=by cases e;rfl
mutual
def rgS:Sm→Bool
 |.mk _ _ _ _ p v b e=>rgE p&&rgE v&&zim b&&zim e
def zim:List Sm→Bool
 |[]=>true
 |s::r=>rgS s&&zim r
end
theorem zsi (s:Sm):rgS s=(rgE s.place&&rgE s.value&&zim s.body&&zim s.els):=by cases s;rfl
theorem zgg:∀ {l:List Sm} {s:Sm},zim l=true→s ∈ l→rgS s=true
 |x::r,s,h,hm=>by
  simp only [zim,Bool.and_eq_true] at h
  rcases List.mem_cons.1 hm with rfl|hm
  ·exact h.1
  ·exact zgg h.2 hm
theorem zdx:∀ {l:List Sm} {s:Sm},zan l=true→s ∈ l→zct s=true
 |x::r,s,h,hm=>by
  simp only [zan,Bool.and_eq_true] at h
  rcases List.mem_cons.1 hm with rfl|hm
  ·exact h.1
  ·exact zdx h.2 hm
def rgV (v:VarD):Bool:=zgK v.size&&zgK v.init
def rgP (p:PgD):Bool:=p.vars.all rgV&&zim p.start&&zim p.message&&zim p.tick&&zim p.input
theorem zpW {e:Ex} (h:zbc e=true):(e.op=1∧0≤e.value∧e.args=[])∨(e.op=2∧e.args=[])∨(e.op=3∧∃ a,e.args=[a]∧zbc a=true)∨((e.op=4∨e.op=5∨e.op=6∨e.op=7)∧e.args=[])∨((e.op=8∨e.op=9)∧∃ a,e.args=[a]∧zbc a=true)∨((10≤e.op∧e.op≤22)∧∃ a b,e.args=[a,b]∧zbc a=true∧zbc b=true):=by
 rw [zh6] at h
 simp only [Bool.and_eq_true,zd0,beq_iff_eq] at h
 have ha:=h.1.1.1.1.1
 have hv:=h.1.1.2
 have hg:=h.2
 have l0:e.args.length=0→e.args=[]:=List.length_eq_zero_iff.1
 have l1:e.args.length=1→∃ a,e.args=[a]∧zbc a=true:=fun hl=>by
  obtain ⟨a,e1⟩:=List.length_eq_one_iff.1 hl
  rw [e1] at hg
  simp only [zby,Bool.and_true] at hg
  exact ⟨a,e1,hg⟩
 have l2:e.args.length=2→∃ a b,e.args=[a,b]∧zbc a=true∧zbc b=true:=fun hl=>by
  match he:e.args,hl with
  |[a,b],_=>
   rw [he] at hg
   simp only [zby,Bool.and_true,Bool.and_eq_true] at hg
   exact ⟨a,b,rfl,hg⟩
 unfold zdK at ha
 have hv':¬ e.value<0:=by
  intro hx
  simp [hx] at hv
 split at ha
 ·omega
 split at ha
 ·exact .inr (.inr (.inr (.inr (.inr ⟨by omega,l2 (by omega)⟩))))
 split at ha
 ·rename_i h3
  rcases h3 with h3|h3|h3
  ·exact .inr (.inr (.inl ⟨h3,l1 (by omega)⟩))
  ·exact .inr (.inr (.inr (.inr (.inl ⟨.inl h3,l1 (by omega)⟩))))
  ·exact .inr (.inr (.inr (.inr (.inl ⟨.inr h3,l1 (by omega)⟩))))
 ·have:e.op=1∨e.op=2∨e.op=4∨e.op=5∨e.op=6∨e.op=7:=by omega
  rcases this with h1|h1|h1
  ·exact .inl ⟨h1,by omega,l0 (by omega)⟩
  ·exact .inr (.inl ⟨h1,l0 (by omega)⟩)
  ·exact .inr (.inr (.inr (.inl ⟨h1,l0 (by omega)⟩)))
open Go
theorem zdg (n:Int) (h0:0≤n) (h:n≤9223372036854775808):zdM n≠[]∧(∀ c ∈ zdM n,isD c=true)∧(zds (zdM n):Int)=n∧((zdM n).head?=some 48→n=0)∧(zdM n).length≤19:=by
 by_cases hn:n≤0
 ·have:n=0:=by omega
  subst this
  exact ⟨by decide,by decide,by decide,fun _=>rfl,by decide⟩
 ·have e:zdM n=dg 20 n.toNat:=by unfold zdM;rw [if_neg hn]
  have e2:dg 20 n.toNat=dg 19 n.toNat:=zr1 19 n.toNat (by omega)
  obtain ⟨c,r,h1,h2,h3⟩:=zng 20 n.toNat (by omega) (by omega)
  refine ⟨by rw [e,h1];simp,fun c hc=>zr2 20 n.toNat c (by rw [←e];exact hc),by rw [e,zr3 20 n.toNat (by omega)];omega,fun hh=>?_,by rw [e,e2];exact zoq _ _⟩
  rw [e,h1] at hh
  simp at hh
  exact absurd hh h2
def dgs (w:List UInt8):List UInt8:=if w.head?=some 45 then w.tail else w
def zdE (w:List UInt8):Int × Bool:=
 if dgs w=[]∨19<(dgs w).length∨((dgs w).head?=some 48∧(1<(dgs w).length∨1<w.length)) then (0,false)
 else if (dgs w).all isD=false then (0,false)
 else if (dgs w).length<w.length then (IntKind.i64.wrap (-(zds (dgs w):Int)),decide (zds (dgs w)≤9223372036854775808))
 else (IntKind.i64.wrap (zds (dgs w)),decide (zds (dgs w)<9223372036854775808))
theorem zpX (n:Int) (h0:0≤n) (h:n≤9223372036854775808):(zdM n).head?≠some 45:=by
 intro hh
 obtain ⟨_,h2,_⟩:=zdg n h0 h
 have:=zec (h2 45 (List.mem_of_mem_head? hh))
 have h3:(45:UInt8).toNat=45:=rfl
 omega
theorem zsj (v:Int) (h:v<0):itT v=45::zdM (-v)∧dgs (itT v)=zdM (-v):=by
 have e:itT v=45::zdM (-v):=by unfold itT;rw [if_pos h]
 exact ⟨e,by rw [e];simp [dgs]⟩
theorem zsk (v:Int) (h:0≤v) (h1:v≤9223372036854775807):itT v=zdM v∧dgs (itT v)=zdM v:=by
 have e:itT v=zdM v:=by unfold itT;rw [if_neg (by omega)]
 refine ⟨e,?_⟩
 rw [e]
 unfold dgs
 rw [if_neg (zpX v h (by omega))]
theorem zkU (v:Int) (h0:-9223372036854775808≤v) (h1:v≤9223372036854775807):zdE (itT v)=(v,true):=by
 by_cases h:v<0
 ·obtain ⟨e1,e2⟩:=zsj v h
  obtain ⟨f1,f2,f3,f4,f5⟩:=zdg (-v) (by omega) (by omega)
  unfold zdE
  rw [e2,e1,if_neg (by rintro (h'|h'|⟨h',_⟩);exact f1 h';omega;have:=f4 h';omega),if_neg (by simpa using f2),if_pos (by simp)]
  rw [f3,zaB _ (by omega) (by omega)]
  simp
  omega
 ·obtain ⟨e1,e2⟩:=zsk v (by omega) h1
  obtain ⟨f1,f2,f3,f4,f5⟩:=zdg v (by omega) (by omega)
  unfold zdE
  rw [e2,e1,if_neg (by rintro (h'|h'|⟨h',h''⟩);exact f1 h';omega;have:=f4 h';subst this;exact absurd h'' (by decide)),if_neg (by simpa using f2),if_neg (by simp)]
  rw [f3,zaB _ (by omega) (by omega)]
  simp
  omega
theorem zvd (d:List UInt8) (hne:d≠[]) (hall:∀ c ∈ d,isD c=true) (hh:d.head?=some 48→d.length=1) (hl:d.length≤19):zdM (zds d)=d∧(d.head?≠some 48→0<zds d):=by
 have hg:d.getD 0 0=48 ↔ d.head?=some 48:=by
  cases d with
  |nil=>exact absurd rfl hne
  |cons c r=>simp
 by_cases h48:d.head?=some 48
 ·refine ⟨?_,fun h=>absurd h48 h⟩
  match d,hh h48 with
  |[c],_=>simp at h48;subst h48;rfl
 ·obtain ⟨h1,h2⟩:=znh 20 d hall (fun e=>h48 (hg.1 e)) (by omega)
  have h3:=h2 hne
  refine ⟨?_,fun _=>h3⟩
  unfold zdM
  rw [if_neg (by omega),Int.toNat_natCast,h1]
theorem zsl (w:List UInt8) (h:(zdE w).2=true):itT (zdE w).1=w∧-9223372036854775808≤(zdE w).1∧(zdE w).1≤9223372036854775807:=by
 unfold zdE at h ⊢
 split at h
 ·cases h
 ·rename_i hc
  rw [if_neg hc]
  split at h
  ·cases h
  ·rename_i ha
   rw [if_neg ha]
   have hall:∀ c ∈ dgs w,isD c=true:=by simpa using ha
   have hne:dgs w≠[]:=fun e=>hc (.inl e)
   have hl:(dgs w).length≤19:=by
    rcases Nat.lt_or_ge 19 (dgs w).length with h'|h'
    ·exact absurd (.inr (.inl h')) hc
    ·exact h'
   have hlead:(dgs w).head?=some 48→(dgs w).length≤1∧w.length≤1:=by
    intro h48
    refine ⟨?_,?_⟩
    ·rcases Nat.lt_or_ge 1 (dgs w).length with h'|h'
     ·exact absurd (.inr (.inr ⟨h48,.inl h'⟩)) hc
     ·exact h'
    ·rcases Nat.lt_or_ge 1 w.length with h'|h'
     ·exact absurd (.inr (.inr ⟨h48,.inr h'⟩)) hc
     ·exact h'
   have hpos:0<(dgs w).length:=List.length_pos_iff.2 hne
   have hb:=zvd (dgs w) hne hall (fun h48=>by have:=(hlead h48).1;omega) hl
   split at h
   ·rename_i hlt
    rw [if_pos hlt]
    have hv:zds (dgs w)≤9223372036854775808:=by simpa using h
    have h45:w.head?=some 45:=by
     rcases Decidable.em (w.head?=some 45) with h'|h'
     ·exact h'
     ·exfalso
      unfold dgs at hlt
      rw [if_neg h'] at hlt
      omega
    have hw:w=45::dgs w:=by
     cases w with
     |nil=>simp at h45
     |cons c r=>simp at h45;subst h45;simp [dgs]
    have h48:(dgs w).head?≠some 48:=fun e=>by have:=(hlead e).2;omega
    have hp:=hb.2 h48
    have e1:IntKind.i64.wrap (-(zds (dgs w):Int))=-(zds (dgs w):Int):=zaB _ (by omega) (by omega)
    simp only [e1]
    refine ⟨?_,by omega,by omega⟩
    unfold itT
    rw [if_pos (by omega),Int.neg_neg,hb.1]
    exact hw.symm
   ·rename_i hlt
    rw [if_neg hlt]
    have hv:zds (dgs w)<9223372036854775808:=by simpa using h
    have hw:dgs w=w:=by
     unfold dgs
     split
     ·rename_i h45
      exfalso
      unfold dgs at hlt
      rw [if_pos h45] at hlt
      cases w with
      |nil=>simp at h45
      |cons c r=>simp at hlt
     ·rfl
    have e1:IntKind.i64.wrap (zds (dgs w):Int)=(zds (dgs w):Int):=zaB _ (by omega) (by omega)
    simp only [e1]
    refine ⟨?_,by omega,by omega⟩
    unfold itT
    rw [if_neg (by omega),hb.1,hw]
theorem zve (v:Int) (h0:-9223372036854775808≤v) (h1:v≤9223372036854775807):Lib.parseIntB 64 (itT v)=.ok v:=by
 by_cases h:v<0
 ·obtain ⟨e1,_⟩:=zsj v h
  obtain ⟨f1,f2,f3,f4,f5⟩:=zdg (-v) (by omega) (by omega)
  have hu:Lib.parseUintB 64 (zdM (-v))=.ok (zds (zdM (-v))):=by
   unfold Lib.parseUintB
   rw [if_neg f1,zed _ (by decide) _ _ f2 (by omega)]
   rw [if_pos]
   ·rfl
   ·show zds (zdM (-v))≤2 ^ 64 - 1
    omega
  rw [e1]
  unfold Lib.parseIntB
  have h45:(45:UInt8).toNat=45:=rfl
  simp only [h45,or_true,if_true,hu]
  rw [if_neg (by simp),if_neg (by simp;omega)]
  congr 1
  omega
 ·obtain ⟨e1,_⟩:=zsk v (by omega) h1
  obtain ⟨f1,f2,f3,f4,f5⟩:=zdg v (by omega) (by omega)
  rw [e1,zfG _ f1 f2,if_pos (by omega),f3]
theorem zoH (w:List UInt8) (v:Int) (h:Lib.parseIntB 64 w=.ok v):-9223372036854775808≤v∧v≤9223372036854775807:=by
 unfold Lib.parseIntB at h
 cases w with
 |nil=>cases h
 |cons c r=>
  simp only at h
  split at h
  ·cases h
  ·cases h
  ·split at h
   ·cases h
   ·split at h
    ·cases h
    ·rename_i u _ h1 h2
     cases h
     simp at h1 h2
     split
     ·rename_i hn;have:=h2 hn;omega
     ·rename_i hn;have:=h1 hn;omega
def zqw (w:List UInt8):Int × Bool:=match Lib.parseIntB 64 w with
 |.ok v=>if Lib.itoa v=w then (v,true) else (0,false)
 |_=>(0,false)
theorem znm (w:List UInt8):zqw w=if (zdE w).2=true then ((zdE w).1,true) else (0,false):=by
 by_cases h:(zdE w).2=true
 ·obtain ⟨h1,h2,h3⟩:=zsl w h
  rw [if_pos h]
  unfold zqw
  rw [show Lib.parseIntB 64 w=.ok (zdE w).1 by rw [←zve _ h2 h3,h1]]
  simp only
  rw [zil _ h2 h3,if_pos h1]
 ·rw [if_neg h]
  unfold zqw
  split
  ·rename_i v hv
   obtain ⟨h2,h3⟩:=zoH w v hv
   rw [if_neg]
   intro hw
   rw [zil _ h2 h3] at hw
   exact h (by rw [←hw,zkU v h2 h3])
  ·rfl
structure StD where
 kind:Int
 proc:Int
 place:Int
 value:Int
 deriving DecidableEq
def zcE (x:StD):List PVal:=[.int .i64 x.kind,.int .i64 x.proc,.int .i64 x.place,.int .i64 x.value]
def stA (x:StD):AVal:=.agg [.pv (.int .i64 x.kind),.pv (.int .i64 x.proc),.pv (.int .i64 x.place),.pv (.int .i64 x.value)]
def st0:StD:=⟨0,0,0,0⟩
def zvf:List (List UInt8):=[[],[100,101,108,105,118,101,114],[116,105,99,107],[105,110,112,117,116],[100,114,111,112],[100,117,112,108,105,99,97,116,101],[114,101,115,101,110,100],[99,104,101,99,107,112,111,105,110,116],[102,108,117,115,104],[97,99,107],[99,114,97,115,104],[114,101,99,111,118,101,114],[114,101,115,116,111,114,101],[99,111,109,109,105,116],[99,111,108,108,101,99,116]]
def zli:List (List UInt8):=[[],[105,110,100,101,112,101,110,100,101,110,116],[99,111,111,114,100,105,110,97,116,101,100],[105,110,100,101,120,101,100],[109,111,100,101,108,98,97,115,101,100],[112,101,115,115,105,109,105,115,116,105,99],[115,101,110,100,101,114,98,97,115,101,100],[111,112,116,105,109,105,115,116,105,99],[99,97,117,115,97,108]]
def wdF (k:Int):List UInt8:=if k<1∨14<k then [] else zvf.getD k.toNat []
def prF (k:Int):List UInt8:=if k<1∨8<k then [] else zli.getD k.toNat []
def shF (k:Int):Nat:=if k=1∨k=4∨k=5 then 1 else if k=2∨k=3∨k=10 then 2 else if k=6∨k=7∨k=8∨k=9∨k=12 then 3 else 0
def zlj (x:StD):List Int:=match shF x.kind with
 |1=>[x.place]
 |2=>[x.proc,x.value]
 |3=>[x.proc]
 |_=>[]
def zeT (x:StD):Bool:=match shF x.kind with
 |1=>x.proc==0&&x.value==0
 |2=>x.place==0
 |3=>x.place==0&&x.value==0
 |_=>x.proc==0&&x.place==0&&x.value==0
def za6 (x:StD):List UInt8:=wdF x.kind++(zlj x).flatMap fun n=>32::itT n
def zg1 (k:Int) (ns:List Int):StD:=match shF k with
 |1=>⟨k,0,ns.getD 0 0,0⟩
 |2=>⟨k,ns.getD 0 0,0,ns.getD 1 0⟩
 |3=>⟨k,ns.getD 0 0,0,0⟩
 |_=>⟨k,0,0,0⟩
def nfF (k:Int):Nat:=match shF k with|1=>1|2=>2|3=>1|_=>0
def kdF (w:List UInt8):Int:=if w=[] then 0 else (zvf.idxOf w:Int)
def znq (a:List UInt8) (l:List (List UInt8)):Option StD:=
 if kdF a<1∨14<kdF a then none
 else if l.length≠nfF (kdF a) then none
 else if (l.all fun w=>(zdE w).2)=false then none
 else some (zg1 (kdF a) (l.map fun w=>(zdE w).1))
def zkX (line:List UInt8):Option StD:=match zaf 32 line with
 |[]=>none
 |a::l=>znq a l
/-! ### Cutting and joining -/
def zet (c:UInt8):List (List UInt8)→List UInt8
 |[]=>[]
 |[a]=>a
 |a::b::r=>a++c::zet c (b::r)
theorem zjL (c:UInt8):∀ s,zet c (zaf c s)=s
 |[]=>rfl
 |x::r=>by
  have ih:=zjL c r
  have hne:=zbi c r
  rw [zaf]
  split
  ·rename_i h
   subst h
   match zaf x r,hne,ih with
   |a::t,_,ih=>simp [zet,ih]
  ·match zaf c r,hne,ih with
   |[a],_,ih=>simpa [zet] using ih
   |a::b::t,_,ih=>simp [zet] at ih ⊢;exact ih
theorem zgL (c:UInt8):∀ l:List (List UInt8),l≠[]→(∀ w ∈ l,c ∉ w)→zaf c (zet c l)=l
 |[],h,_=>absurd rfl h
 |[a],_,h=>zfD c a (h a (by simp))
 |a::b::r,_,h=>by
  rw [zet,zb7 c _ a (h a (by simp)),zgL c (b::r) (by simp) (fun w hw=>h w (by simp only [List.mem_cons] at hw ⊢;exact .inr hw))]
theorem zdh (n:Int) (h0:-9223372036854775808≤n) (h1:n≤9223372036854775807) (c:UInt8) (hc:c=32∨c=10):c ∉ itT n:=by
 have key:∀ m:Int,0≤m→m≤9223372036854775808→c ∉ zdM m:=fun m a b hm=>by
  obtain ⟨_,h,_⟩:=zdg m a b
  have h2:=zec (h c hm)
  rcases hc with rfl|rfl
  ·have:(32:UInt8).toNat=32:=rfl
   omega
  ·have:(10:UInt8).toNat=10:=rfl
   omega
 unfold itT
 split
 ·intro h
  rcases List.mem_cons.1 h with h|h
  ·rcases hc with rfl|rfl<;>cases h
  ·exact key _ (by omega) (by omega) h
 ·exact key _ (by omega) (by omega)
theorem zfb (P:Int→Prop) (h:P 1∧P 2∧P 3∧P 4∧P 5∧P 6∧P 7∧P 8∧P 9∧P 10∧P 11∧P 12∧P 13∧P 14) (k:Int) (h1:1≤k) (h2:k≤14):P k:=by
 obtain ⟨a1,a2,a3,a4,a5,a6,a7,a8,a9,a10,a11,a12,a13,a14⟩:=h
 have:k=1∨k=2∨k=3∨k=4∨k=5∨k=6∨k=7∨k=8∨k=9∨k=10∨k=11∨k=12∨k=13∨k=14:=by omega
 rcases this with rfl|rfl|rfl|rfl|rfl|rfl|rfl|rfl|rfl|rfl|rfl|rfl|rfl|rfl<;>assumption
theorem zBz (k:Int) (h1:1≤k) (h2:k≤14):kdF (wdF k)=k:=by
 refine zfb (fun k=>kdF (wdF k)=k) ?_ k h1 h2
 decide
theorem zoI (k:Int) (c:UInt8) (hc:c=32∨c=10):c ∉ wdF k:=by
 by_cases h:k<1∨14<k
 ·unfold wdF;rw [if_pos h];simp
 ·rcases hc with rfl|rfl
  ·refine zfb (fun k=>(32:UInt8) ∉ wdF k) ?_ k (by omega) (by omega)
   decide
  ·refine zfb (fun k=>(10:UInt8) ∉ wdF k) ?_ k (by omega) (by omega)
   decide
theorem zEM (k:Int) (h1:1≤k) (h2:k≤14):wdF k≠[]:=by
 refine zfb (fun k=>wdF k≠[]) ?_ k h1 h2
 decide
theorem zEN (w:List UInt8) (h1:1≤kdF w) (h2:kdF w≤14):wdF (kdF w)=w:=by
 have hw:w≠[]:=by
  rintro rfl
  simp [kdF] at h1
 have hk:kdF w=(zvf.idxOf w:Int):=by unfold kdF;rw [if_neg hw]
 have hlt:zvf.idxOf w<zvf.length:=by
  have:zvf.length=15:=rfl
  omega
 unfold wdF
 rw [if_neg (by omega),hk,Int.toNat_natCast]
 have:=List.getElem_idxOf hlt
 simp only [List.getD,List.getElem?_eq_getElem hlt,Option.getD_some]
 exact this
def zso (x:StD):Bool:=zgK x.kind&&zgK x.proc&&zgK x.place&&zgK x.value
theorem zoJ (x:StD) (h:zso x=true):∀ n ∈ zlj x,-9223372036854775808≤n∧n≤9223372036854775807:=by
 simp only [zso,Bool.and_eq_true] at h
 obtain ⟨⟨⟨_,h1⟩,h2⟩,h3⟩:=h
 intro n hn
 unfold zlj at hn
 split at hn<;>simp at hn
 ·subst hn;exact zdS h2
 ·rcases hn with rfl|rfl
  ·exact zdS h1
  ·exact zdS h3
 ·subst hn;exact zdS h1
theorem zl9 (a:List UInt8):∀ l:List (List UInt8),(a++l.flatMap fun w=>32::w)=zet 32 (a::l)
 |[]=>by simp [zet]
 |b::r=>by
  rw [zet,←zl9 b r]
  simp
theorem zsp (x:StD):za6 x=zet 32 (wdF x.kind::(zlj x).map itT):=by
 rw [←zl9]
 simp [za6,List.flatMap_map]
theorem zpZ (x:StD) (h:zso x=true):zaf 32 (za6 x)=wdF x.kind::(zlj x).map itT:=by
 rw [zsp]
 refine zgL 32 _ (by simp) ?_
 intro w hw
 rcases List.mem_cons.1 hw with rfl|hw
 ·exact zoI _ _ (.inl rfl)
 ·obtain ⟨n,hn,rfl⟩:=List.mem_map.1 hw
  have:=zoJ x h n hn
  exact zdh n this.1 this.2 32 (.inl rfl)
theorem zyi (x:StD):(zlj x).length=nfF x.kind:=by
 unfold zlj nfF
 split<;>simp_all
theorem zBA (x:StD) (h:zeT x=true):zg1 x.kind (zlj x)=x:=by
 unfold zeT at h
 obtain ⟨k,p,q,v⟩:=x
 unfold zg1 zlj
 simp only at h ⊢
 split<;>simp_all
theorem zp0 (x:StD) (h1:1≤x.kind) (h2:x.kind≤14) (hr:zso x=true) (hz:zeT x=true):zkX (za6 x)=some x:=by
 unfold zkX
 rw [zpZ x hr]
 simp only
 unfold znq
 have hall:((zlj x).map itT).all (fun w=>(zdE w).2)=true:=by
  rw [List.all_eq_true]
  intro w hw
  obtain ⟨n,hn,rfl⟩:=List.mem_map.1 hw
  have:=zoJ x hr n hn
  rw [zkU n this.1 this.2]
 have hmap:((zlj x).map itT).map (fun w=>(zdE w).1)=zlj x:=by
  rw [List.map_map]
  conv=>rhs;rw [←List.map_id (zlj x)]
  refine List.map_congr_left fun n hn=>?_
  have:=zoJ x hr n hn
  simp [zkU n this.1 this.2]
 rw [List.length_map,zBz _ h1 h2]
 rw [if_neg (by omega),if_neg (by rw [zyi];omega),hall,if_neg (by simp),hmap,zBA x hz]
theorem zyj (k:Int) (ns:List Int):zeT (zg1 k ns)=true∧(zg1 k ns).kind=k:=by
 have hk:(zg1 k ns).kind=k:=by unfold zg1;split<;>rfl
 refine ⟨?_,hk⟩
 unfold zeT
 rw [hk]
 unfold zg1
 split<;>simp_all
theorem zsq (ns:List Int) (h:∀ n ∈ ns,zgK n=true) (i:Nat):zgK (ns.getD i 0)=true:=by
 by_cases hi:i<ns.length
 ·rw [List.getD_eq_getElem?_getD,List.getElem?_eq_getElem hi]
  exact h _ (List.getElem_mem hi)
 ·rw [List.getD_eq_getElem?_getD,List.getElem?_eq_none (by omega)]
  decide
theorem zEO (k:Int) (ns:List Int) (hk:zgK k=true) (h:∀ n ∈ ns,zgK n=true):zso (zg1 k ns)=true:=by
 have h0:=zsq ns h 0
 have h1:=zsq ns h 1
 have hz:zgK 0=true:=by decide
 unfold zso zg1
 split<;>simp only [hk,h0,h1,hz,Bool.and_true]
variable (l:List TkD)
theorem zfL (n:Nat) (lv:Nat) (k:Nat):exF l (n+1) (.bin lv) k=(if lv=5 then exF l n .un k else (exF l n (.bin (lv+1)) k).bind fun e k'=>exF l n (.loop lv e) k'):=rfl
theorem zdN (n:Nat) (lv:Nat) (e:Ex) (k:Nat):exF l (n+1) (.loop lv e) k=(if opF lv (zce l k)=0 then .ok e k else (exF l n (.bin (lv+1)) (k+1)).bind fun e2 k2=>exF l n (.loop lv (exB (opF lv (zce l k)) e e2)) k2):=rfl
theorem zio (n:Nat) (k:Nat):exF l (n+1) .un k=(if isT l k [45] then (exF l n .un (k+1)).bind fun e k'=>.ok (exU 8 e) k' else if isT l k [33] then (exF l n .un (k+1)).bind fun e k'=>.ok (exU 9 e) k' else exF l n .prim k):=rfl
theorem zcV (n:Nat) (k:Nat):exF l (n+1) .prim k=(if isNum l k then (nmF l 0 k).bind fun v k'=>.ok (exC v) k' else if isT l k [115,101,108,102] then .ok (exK 4) (k+1) else if isT l k [112,114,111,99,115] then .ok (exK 5) (k+1) else if isT l k [102,114,111,109] then .ok (exK 6) (k+1) else if isT l k [118,97,108,117,101] then .ok (exK 7) (k+1) else if isT l k [40] then (exF l n (.bin 0) (k+1)).bind fun e k'=>(za4 l [41] k').bind fun _ k2=>.ok e k2 else (zes l k).bind fun nm k1=>if isT l k1 [91] then (exF l n (.bin 0) (k1+1)).bind fun e k'=>(za4 l [93] k').bind fun _ k2=>.ok (exI nm e) k2 else .ok (exN nm) k1):=rfl
theorem zc0 (n:Nat) (k:Nat):smF l (n+1) .block k=((za4 l [123] k).bind fun _ k1=>smF l n (.stmts []) k1):=rfl
theorem zcF (n:Nat) (acc:List Sm) (k:Nat):smF l (n+1) (.stmts acc) k=(if isT l k [125] then .ok acc (k+1) else (smF l n .stmt k).bind fun s k1=>smF l n (.stmts (acc++s)) k1):=rfl
theorem zbM (n:Nat) (k:Nat):smF l (n+1) .stmt k=(if isT l k [105,102] then (zbN l (k+1)).bind fun e k1=>(smF l n .block k1).bind fun b k2=>if isT l k2 [101,108,115,101] then (smF l n .block (k2+1)).bind fun c k3=>.ok [smE 3 [] exZ e b c] k3 else .ok [smE 3 [] exZ e b []] k2 else if isT l k [119,104,105,108,101] then (zbN l (k+1)).bind fun e k1=>(smF l n .block k1).bind fun b k2=>.ok [smE 4 [] exZ e b []] k2 else if isT l k [115,101,110,100] then (zbN l (k+1)).bind fun p k1=>(za4 l [44] k1).bind fun _ k2=>(zbN l k2).bind fun e k3=>(za4 l [59] k3).bind fun _ k4=>.ok [smE 5 [] p e [] []] k4 else if isT l k [111,117,116,112,117,116] then (zbN l (k+1)).bind fun e k1=>(za4 l [59] k1).bind fun _ k2=>.ok [smE 6 [] exZ e [] []] k2 else (zes l k).bind fun nm k1=>if isT l k1 [91] then (zbN l (k1+1)).bind fun p k2=>(za4 l [93] k2).bind fun _ k3=>(za4 l [61] k3).bind fun _ k4=>(zbN l k4).bind fun e k5=>(za4 l [59] k5).bind fun _ k6=>.ok [smE 2 nm p e [] []] k6 else (za4 l [61] k1).bind fun _ k4=>(zbN l k4).bind fun e k5=>(za4 l [59] k5).bind fun _ k6=>.ok [smE 1 nm exZ e [] []] k6):=rfl
end Go.Abs
namespace Go.Abs
open Go
section
variable {l:List TkD}
theorem PR.bind_ok {α β:Type} {r:PR α} {f:α→Nat→PR β} {b:β} {k:Nat} (h:r.bind f=.ok b k):∃ a k',r=.ok a k'∧f a k'=.ok b k:=by
 cases r with
 |ok a k'=>exact ⟨a,k',rfl,h⟩
 |bad k'=>cases h
 |out=>cases h
def Ns.need (m:Nat):Ns→Nat
 |.block=>3 * m+1
 |.stmts _=>3 * m+3
 |.stmt=>3 * m+2
theorem zip {k:Nat} (hk:k≤l.length):(zbN l k).on k l.length:=(zib hk).on
theorem zcG:∀ (n:Nat) (nt:Ns) (k:Nat),k≤l.length→(smF l n nt k).past k l.length
 |0,nt,k,hk=>by cases nt<;>trivial
 |n+1,.block,k,hk=>by
  rw [zc0]
  exact PR.past.bind (zaD hk (by simp)) (fun _ k1 _ h1=>(zcG n (.stmts []) k1 h1).on)
 |n+1,.stmts acc,k,hk=>by
  rw [zcF]
  split
  ·rename_i h
   have:=zaz h (by simp)
   exact ⟨by omega,by omega⟩
  ·exact PR.past.bind (zcG n .stmt k hk) (fun s k1 _ h1=>(zcG n _ k1 h1).on)
 |n+1,.stmt,k,hk=>by
  rw [zbM]
  have semi:∀ (s:List Sm) (k5:Nat),k5≤l.length→((za4 l [59] k5).bind fun _ k6=>PR.ok s k6).on k5 l.length:=fun s k5 h5=>PR.on.bind (zaD h5 (by simp)).on (fun _ k6 _ h6=>PR.ok_on _ h6)
  have valu:∀ (g:Ex→List Sm) (k4:Nat),k4≤l.length→((zbN l k4).bind fun e k5=>(za4 l [59] k5).bind fun _ k6=>PR.ok (g e) k6).on k4 l.length:=fun g k4 h4=>PR.on.bind (zip h4) (fun e k5 _ h5=>semi _ _ h5)
  split
  ·rename_i h
   have:=zaz h (by simp)
   refine PR.on.lt (PR.on.bind (zip (k:=k+1) (by omega)) (fun e k1 _ h1=>PR.on.bind (zcG n .block k1 h1).on (fun b k2 _ h2=>?_))) (by omega)
   split
   ·rename_i h3
    have:=zaz h3 (by simp)
    exact PR.on.le (PR.on.bind (zcG n .block (k2+1) (by omega)).on (fun c k3 _ h3=>PR.ok_on _ h3)) (by omega)
   ·exact PR.ok_on _ h2
  split
  ·rename_i h
   have:=zaz h (by simp)
   exact PR.on.lt (PR.on.bind (zip (k:=k+1) (by omega)) (fun e k1 _ h1=>PR.on.bind (zcG n .block k1 h1).on (fun b k2 _ h2=>PR.ok_on _ h2))) (by omega)
  split
  ·rename_i h
   have:=zaz h (by simp)
   exact PR.on.lt (PR.on.bind (zip (k:=k+1) (by omega)) (fun p k1 _ h1=>PR.on.bind (zaD h1 (by simp)).on (fun _ k2 _ h2=>valu _ k2 h2))) (by omega)
  split
  ·rename_i h
   have:=zaz h (by simp)
   exact PR.on.lt (valu _ (k+1) (by omega)) (by omega)
  ·refine PR.past.bind (zbz hk) (fun nm k1 _ h1=>?_)
   split
   ·rename_i h
    have:=zaz h (by simp)
    exact PR.on.le (PR.on.bind (zip (k:=k1+1) (by omega)) (fun p k2 _ h2=>PR.on.bind (zaD h2 (by simp)).on (fun _ k3 _ h3=>PR.on.bind (zaD h3 (by simp)).on (fun _ k4 _ h4=>valu _ k4 h4)))) (by omega)
   ·exact PR.on.bind (zaD h1 (by simp)).on (fun _ k4 _ h4=>valu _ k4 h4)
theorem zfM:∀ (n:Nat) (nt:Ns) (k:Nat),k≤l.length→nt.need (l.length - k)≤n→(smF l n nt k).isOut=false
 |0,nt,k,hk,h=>by cases nt<;>simp only [Ns.need] at h<;>omega
 |n+1,.block,k,hk,h=>by
  simp only [Ns.need] at h
  rw [zc0]
  refine PR.bind_out zbl (fun _ k1 he=>?_)
  have h1:=zaD (l:=l) (s:=[123]) hk (by simp)
  rw [he] at h1
  exact zfM n (.stmts []) k1 h1.2 (by have:=h1.1;have:=h1.2;simp only [Ns.need];omega)
 |n+1,.stmts acc,k,hk,h=>by
  simp only [Ns.need] at h
  rw [zcF]
  split
  ·rfl
  ·refine PR.bind_out (zfM n .stmt k hk (by simp only [Ns.need];omega)) (fun s k1 he=>?_)
   have h1:=zcG (l:=l) n .stmt k hk
   rw [he] at h1
   exact zfM n _ k1 h1.2 (by have:=h1.1;have:=h1.2;simp only [Ns.need];omega)
 |n+1,.stmt,k,hk,h=>by
  simp only [Ns.need] at h
  rw [zbM]
  have semi:∀ (s:List Sm) (k5:Nat),((za4 l [59] k5).bind fun _ k6=>PR.ok s k6).isOut=false:=fun s k5=>PR.bind_out zbl (fun _ _ _=>rfl)
  have valu:∀ (g:Ex→List Sm) (k4:Nat),k4≤l.length→((zbN l k4).bind fun e k5=>(za4 l [59] k5).bind fun _ k6=>PR.ok (g e) k6).isOut=false:=fun g k4 h4=>PR.bind_out (zdL h4) (fun e k5 _=>semi _ _)
  have okx:∀ {k k1:Nat} {e:Ex},k≤l.length→zbN l k=.ok e k1→k<k1∧k1≤l.length:=fun hk he=>by have:=zib (l:=l) hk;rw [he] at this;exact this
  have oke:∀ {s:List UInt8} {k k1:Nat} {u:Unit},k≤l.length→s≠[]→za4 l s k=.ok u k1→k<k1∧k1≤l.length:=fun hk hs he=>by have:=zaD (l:=l) hk hs;rw [he] at this;exact this
  have okb:∀ {k k1:Nat} {b:List Sm},k≤l.length→smF l n .block k=.ok b k1→k<k1∧k1≤l.length:=fun hk he=>by have:=zcG (l:=l) n .block _ hk;rw [he] at this;exact this
  split
  ·rename_i h0
   have:=zaz h0 (by simp)
   refine PR.bind_out (zdL (by omega)) (fun e k1 he=>?_)
   have h1:=okx (by omega) he
   refine PR.bind_out (zfM n .block k1 h1.2 (by simp only [Ns.need];omega)) (fun b k2 hb=>?_)
   have h2:=okb h1.2 hb
   split
   ·rename_i h3
    have:=zaz h3 (by simp)
    exact PR.bind_out (zfM n .block (k2+1) (by omega) (by simp only [Ns.need];omega)) (fun _ _ _=>rfl)
   ·rfl
  split
  ·rename_i h0
   have:=zaz h0 (by simp)
   refine PR.bind_out (zdL (by omega)) (fun e k1 he=>?_)
   have h1:=okx (by omega) he
   exact PR.bind_out (zfM n .block k1 h1.2 (by simp only [Ns.need];omega)) (fun _ _ _=>rfl)
  split
  ·rename_i h0
   have:=zaz h0 (by simp)
   refine PR.bind_out (zdL (by omega)) (fun p k1 he=>?_)
   have h1:=okx (by omega) he
   refine PR.bind_out zbl (fun _ k2 hx=>?_)
   exact valu _ k2 (oke h1.2 (by simp) hx).2
  split
  ·rename_i h0
   have:=zaz h0 (by simp)
   exact valu _ (k+1) (by omega)
  ·refine PR.bind_out zef (fun nm k1 he=>?_)
   have h1:=zbz (l:=l) hk
   rw [he] at h1
   have h1':k<k1∧k1≤l.length:=h1
   split
   ·rename_i h0
    have:=zaz h0 (by simp)
    refine PR.bind_out (zdL (by omega)) (fun p k2 hp=>?_)
    have h2:=okx (by omega) hp
    refine PR.bind_out zbl (fun _ k3 hx=>?_)
    have h3:=oke h2.2 (by simp) hx
    refine PR.bind_out zbl (fun _ k4 hy=>?_)
    exact valu _ k4 (oke h3.2 (by simp) hy).2
   ·refine PR.bind_out zbl (fun _ k4 hy=>?_)
    exact valu _ k4 (oke h1'.2 (by simp) hy).2
theorem zyk:∀ {n k k':Nat} {b:List Sm},smF l n .stmt k=.ok b k'→∃ s,b=[s]
 |0,_,_,_,h=>by cases h
 |n+1,k,k',b,h=>by
  rw [zbM] at h
  have semi:∀ {s:Sm} {k5:Nat},((za4 l [59] k5).bind fun _ k6=>PR.ok [s] k6)=.ok b k'→∃ s,b=[s]:=fun h=>by
   obtain ⟨_,_,_,h2⟩:=PR.bind_ok h
   cases h2;exact ⟨_,rfl⟩
  have valu:∀ {g:Ex→Sm} {k4:Nat},((zbN l k4).bind fun e k5=>(za4 l [59] k5).bind fun _ k6=>PR.ok [g e] k6)=.ok b k'→∃ s,b=[s]:=fun h=>by
   obtain ⟨_,_,_,h2⟩:=PR.bind_ok h
   exact semi h2
  split at h
  ·obtain ⟨_,_,_,h2⟩:=PR.bind_ok h
   obtain ⟨_,_,_,h3⟩:=PR.bind_ok h2
   split at h3
   ·obtain ⟨_,_,_,h4⟩:=PR.bind_ok h3
    cases h4;exact ⟨_,rfl⟩
   ·cases h3;exact ⟨_,rfl⟩
  split at h
  ·obtain ⟨_,_,_,h2⟩:=PR.bind_ok h
   obtain ⟨_,_,_,h3⟩:=PR.bind_ok h2
   cases h3;exact ⟨_,rfl⟩
  split at h
  ·obtain ⟨_,_,_,h2⟩:=PR.bind_ok h
   obtain ⟨_,_,_,h3⟩:=PR.bind_ok h2
   exact valu h3
  split at h
  ·exact valu (g:=fun e=>smE 6 [] exZ e [] []) h
  ·obtain ⟨nm,_,_,h2⟩:=PR.bind_ok h
   split at h2
   ·obtain ⟨_,_,_,h3⟩:=PR.bind_ok h2
    obtain ⟨_,_,_,h4⟩:=PR.bind_ok h3
    obtain ⟨_,_,_,h5⟩:=PR.bind_ok h4
    exact valu h5
   ·obtain ⟨_,_,_,h3⟩:=PR.bind_ok h2
    exact valu (g:=fun e=>smE 1 nm exZ e [] []) h3
theorem zd4 {k:Nat} (hk:k≤l.length):(zbk l k).isOut=false:=zfM _ _ k hk (by simp only [Ns.need];omega)
theorem ziq {k:Nat} (hk:k≤l.length):(zbk l k).past k l.length:=zcG _ _ k hk
end
end Go.Abs
namespace Go.Abs
open Go
section
variable {l:List TkD}
theorem zgM (n:Nat) (acc:List VarD) (k:Nat):zia l (n+1) acc k=(if isT l k [118,97,114] then (zes l (k+1)).bind fun nm k1=>(zgF l k1).bind fun v k2=>(za4 l [59] k2).bind fun _ k3=>zia l n (acc++[⟨nm,0,v⟩]) k3
  else if isT l k [97,114,114,97,121] then (zes l (k+1)).bind fun nm k1=>(za4 l [91] k1).bind fun _ k2=>(nmF l 1 k2).bind fun v k3=>(za4 l [93] k3).bind fun _ k4=>(za4 l [59] k4).bind fun _ k5=>zia l n (acc++[⟨nm,v,0⟩]) k5
  else .ok acc k):=rfl
theorem zkY (n:Nat) (p:PgD) (z:Seen) (k:Nat):zhd l (n+1) p z k=(if k<l.length then (za4 l [111,110] k).bind fun _ k1=>
   if !z.s&&isT l k1 [115,116,97,114,116] then (zbk l (k1+1)).bind fun b k2=>zhd l n { p with start:=b } { z with s:=true } k2
   else if !z.m&&isT l k1 [109,101,115,115,97,103,101] then (zbk l (k1+1)).bind fun b k2=>zhd l n { p with message:=b } { z with m:=true } k2
   else if !z.t&&isT l k1 [116,105,99,107] then (zbk l (k1+1)).bind fun b k2=>zhd l n { p with tick:=b } { z with t:=true } k2
   else if !z.i&&isT l k1 [105,110,112,117,116] then (zbk l (k1+1)).bind fun b k2=>zhd l n { p with input:=b } { z with i:=true } k2
   else .bad k1
  else .ok p k):=rfl
theorem zkZ {k:Nat} (hk:k≤l.length):(zgF l k).on k l.length:=by
 unfold zgF
 split
 ·rename_i h
  have:=zaz h (by simp)
  split
  ·rename_i h2
   have:=zaz h2 (by simp)
   exact PR.on.le (PR.on.bind (zee (z:=0) (k:=k+2) (by omega)).on (fun v k' _ h2=>PR.ok_on _ h2)) (by omega)
  ·exact PR.on.le (zee (by omega)).on (by omega)
 ·exact PR.ok_on _ hk
theorem zsr {k:Nat}:(zgF l k).isOut=false:=by
 unfold zgF
 split
 ·split
  ·exact PR.bind_out zgG (fun _ _ _=>rfl)
  ·exact zgG
 ·rfl
theorem zir:∀ (n:Nat) (acc:List VarD) (k:Nat),k≤l.length→(zia l n acc k).on k l.length
 |0,_,_,_=>trivial
 |n+1,acc,k,hk=>by
  rw [zgM]
  split
  ·rename_i h
   have:=zaz h (by simp)
   exact PR.on.le (PR.on.bind (zbz (k:=k+1) (by omega)).on (fun nm k1 _ h1=>PR.on.bind (zkZ h1) (fun v k2 _ h2=>PR.on.bind (zaD h2 (by simp)).on (fun _ k3 _ h3=>zir n _ k3 h3)))) (by omega)
  split
  ·rename_i h
   have:=zaz h (by simp)
   exact PR.on.le (PR.on.bind (zbz (k:=k+1) (by omega)).on (fun nm k1 _ h1=>PR.on.bind (zaD h1 (by simp)).on (fun _ k2 _ h2=>PR.on.bind (zee h2).on (fun v k3 _ h3=>PR.on.bind (zaD h3 (by simp)).on (fun _ k4 _ h4=>PR.on.bind (zaD h4 (by simp)).on (fun _ k5 _ h5=>zir n _ k5 h5)))))) (by omega)
  ·exact PR.ok_on _ hk
theorem zhr:∀ (n:Nat) (acc:List VarD) (k:Nat),k≤l.length→l.length - k+1≤n→(zia l n acc k).isOut=false
 |0,_,k,hk,h=>by omega
 |n+1,acc,k,hk,h=>by
  rw [zgM]
  have on':∀ {α:Type} {r:PR α} {a:α} {k k1:Nat},r.on k l.length→r=.ok a k1→k≤k1∧k1≤l.length:=fun h e=>by rw [e] at h;exact h
  split
  ·rename_i h0
   have:=zaz h0 (by simp)
   refine PR.bind_out zef (fun nm k1 e1=>?_)
   have h1:=on' (zbz (k:=k+1) (by omega)).on e1
   refine PR.bind_out zsr (fun v k2 e2=>?_)
   have h2:=on' (zkZ h1.2) e2
   refine PR.bind_out zbl (fun _ k3 e3=>?_)
   have h3:=on' (zaD h2.2 (by simp)).on e3
   exact zhr n _ k3 h3.2 (by omega)
  split
  ·rename_i h0
   have:=zaz h0 (by simp)
   refine PR.bind_out zef (fun nm k1 e1=>?_)
   have h1:=on' (zbz (k:=k+1) (by omega)).on e1
   refine PR.bind_out zbl (fun _ k2 e2=>?_)
   have h2:=on' (zaD h1.2 (by simp)).on e2
   refine PR.bind_out zgG (fun v k3 e3=>?_)
   have h3:=on' (zee h2.2).on e3
   refine PR.bind_out zbl (fun _ k4 e4=>?_)
   have h4:=on' (zaD h3.2 (by simp)).on e4
   refine PR.bind_out zbl (fun _ k5 e5=>?_)
   have h5:=on' (zaD h4.2 (by simp)).on e5
   exact zhr n _ k5 h5.2 (by omega)
  ·rfl
theorem zoK:∀ (n:Nat) (p:PgD) (z:Seen) (k:Nat),k≤l.length→l.length - k+1≤n→(zhd l n p z k).isOut=false
 |0,_,_,k,hk,h=>by omega
 |n+1,p,z,k,hk,h=>by
  rw [zkY]
  split
  ·refine PR.bind_out zbl (fun _ k1 e1=>?_)
   have h1:k<k1∧k1≤l.length:=by have:=zaD (l:=l) (s:=[111,110]) hk (by simp);rw [e1] at this;exact this
   have one:∀ {s:List UInt8} (f:List Sm→PgD) (z':Seen),isT l k1 s=true→s≠[]→((zbk l (k1+1)).bind fun b k2=>zhd l n (f b) z' k2).isOut=false:=fun f z' hs hne=>by
    have hlt:=zaz hs hne
    refine PR.bind_out (zd4 (by omega)) (fun b k2 e2=>?_)
    have h2:k1+1<k2∧k2≤l.length:=by have:=ziq (l:=l) (k:=k1+1) (by omega);rw [e2] at this;exact this
    exact zoK n _ _ k2 h2.2 (by omega)
   split
   ·rename_i h2;exact one (fun b=>{ p with start:=b }) _ (by simp at h2;exact h2.2) (by simp)
   split
   ·rename_i h2;exact one (fun b=>{ p with message:=b }) _ (by simp at h2;exact h2.2) (by simp)
   split
   ·rename_i h2;exact one (fun b=>{ p with tick:=b }) _ (by simp at h2;exact h2.2) (by simp)
   split
   ·rename_i h2;exact one (fun b=>{ p with input:=b }) _ (by simp at h2;exact h2.2) (by simp)
   ·rfl
  ·rfl
theorem zma:(zja l).isOut=false:=by
 unfold zja
 refine PR.bind_out (zhr _ _ 0 (by omega) (by omega)) (fun vs k e=>?_)
 have h1:0≤k∧k≤l.length:=by have:=zir (l:=l) (l.length+1) [] 0 (by omega);rw [e] at this;exact this
 exact zoK _ _ _ k h1.2 (by omega)
end
end Go.Abs
namespace Go.Abs
open Go
section
variable (l:List TkD)
def zoL (p:PgD) (z:Seen) (k1:Nat):PR (PgD × Seen):=
 if !z.s&&isT l k1 [115,116,97,114,116] then (zbk l (k1+1)).bind fun b k2=>.ok ({ p with start:=b },{ z with s:=true }) k2
 else if !z.m&&isT l k1 [109,101,115,115,97,103,101] then (zbk l (k1+1)).bind fun b k2=>.ok ({ p with message:=b },{ z with m:=true }) k2
 else if !z.t&&isT l k1 [116,105,99,107] then (zbk l (k1+1)).bind fun b k2=>.ok ({ p with tick:=b },{ z with t:=true }) k2
 else if !z.i&&isT l k1 [105,110,112,117,116] then (zbk l (k1+1)).bind fun b k2=>.ok ({ p with input:=b },{ z with i:=true }) k2
 else .bad k1
def ztu (p:PgD) (z:Seen) (k:Nat):PR (PgD × Seen):=(za4 l [111,110] k).bind fun _ k1=>zoL l p z k1
theorem PR.bind_assoc {α β γ:Type} (r:PR α) (f:α→Nat→PR β) (g:β→Nat→PR γ):(r.bind f).bind g=r.bind fun a k=>(f a k).bind g:=by cases r<;>rfl
theorem zmb (n:Nat) (p:PgD) (z:Seen) (k:Nat):zhd l (n+1) p z k=if k<l.length then (ztu l p z k).bind fun q k2=>zhd l n q.1 q.2 k2 else .ok p k:=by
 rw [zkY]
 split
 ·unfold ztu
  rw [PR.bind_assoc]
  congr 1
  funext _ k1
  unfold zoL
  repeat' split
  all_goals first|rfl|(rw [PR.bind_assoc];rfl)
 ·rfl
theorem zyl (p:PgD) (z:Seen) (k1:Nat) (h:k1≤l.length):(zoL l p z k1).on k1 l.length:=by
 have one:∀ {s:List UInt8} (f:List Sm→PgD × Seen),isT l k1 s=true→s≠[]→((zbk l (k1+1)).bind fun b k2=>PR.ok (f b) k2).on k1 l.length:=fun f hs hne=>by
  have hlt:=zaz hs hne
  exact PR.on.le (PR.on.bind (ziq (by omega)).on (fun b k2 _ h2=>PR.ok_on _ h2)) (by omega)
 unfold zoL
 split
 ·rename_i h2;exact one (fun b=>({ p with start:=b },_)) (by simp at h2;exact h2.2) (by simp)
 split
 ·rename_i h2;exact one (fun b=>({ p with message:=b },_)) (by simp at h2;exact h2.2) (by simp)
 split
 ·rename_i h2;exact one (fun b=>({ p with tick:=b },_)) (by simp at h2;exact h2.2) (by simp)
 split
 ·rename_i h2;exact one (fun b=>({ p with input:=b },_)) (by simp at h2;exact h2.2) (by simp)
 ·exact ⟨Nat.le_refl _,h⟩
theorem zmc (p:PgD) (z:Seen) (k:Nat) (h:k≤l.length):(ztu l p z k).past k l.length:=by
 unfold ztu
 exact PR.past.bind (zaD h (by simp)) (fun _ k1 _ h1=>zyl l p z k1 h1)
theorem zoM (p:PgD) (z:Seen) (k:Nat) (h:k≤l.length):(ztu l p z k).isOut=false:=by
 unfold ztu
 refine PR.bind_out zbl (fun _ k1 e1=>?_)
 have h1:k<k1∧k1≤l.length:=by have:=zaD (l:=l) (s:=[111,110]) h (by simp);rw [e1] at this;exact this
 have one:∀ {s:List UInt8} (f:List Sm→PgD × Seen),isT l k1 s=true→s≠[]→((zbk l (k1+1)).bind fun b k2=>PR.ok (f b) k2).isOut=false:=fun f hs hne=>by
  have hlt:=zaz hs hne
  exact PR.bind_out (zd4 (by omega)) (fun b k2 e2=>rfl)
 unfold zoL
 split
 ·rename_i h2;exact one (fun b=>({ p with start:=b },_)) (by simp at h2;exact h2.2) (by simp)
 split
 ·rename_i h2;exact one (fun b=>({ p with message:=b },_)) (by simp at h2;exact h2.2) (by simp)
 split
 ·rename_i h2;exact one (fun b=>({ p with tick:=b },_)) (by simp at h2;exact h2.2) (by simp)
 split
 ·rename_i h2;exact one (fun b=>({ p with input:=b },_)) (by simp at h2;exact h2.2) (by simp)
 ·rfl
end
end Go.Abs
namespace Go.Abs
open Go
theorem zvg {s:List UInt8} {k e:Nat} {t:TkD} (hk:k<s.length) (h:zcO s k=(t,(e:Int),0)):t.pos=k∧cut s k e=zni t∧e=k+(zni t).length∧k<e∧e≤s.length:=by
 obtain ⟨hg,hp,h1,h2,_⟩:=zow s k e t hk h
 have hw:=hg.word
 have hl:=zkJ s k e h2
 exact ⟨hp,hw.symm,by rw [hw,hl];omega,h1,h2⟩
theorem Sc.len {s:List UInt8} {k:Nat} {l:List TkD} (h:Sc s k l):l.length≤s.length - k:=by
 induction h with
 |fin _=>simp
 |blank _ _ _ ih=>omega
 |@hsh k l hk hh _ ih=>have:=(zhp s k hk hh);omega
 |@tok k e t l hk hb hh ho _ ih=>
  obtain ⟨h1,h2,h3,h4,h5⟩:=zvg hk ho
  simp only [List.length_cons];omega
theorem Sc.vals {s:List UInt8} {k:Nat} {l:List TkD} (h:Sc s k l):∀ t ∈ l,t.value≤9223372036854775807∧0<(zni t).length∧(zni t).length≤s.length∧Good t (zni t):=by
 intro t ht
 obtain ⟨e,a,_,h2,h3,h4,hg⟩:=h.good t ht
 have hw:=hg.word
 have hl:=zkJ s a e h4
 refine ⟨?_,by rw [hw,hl];omega,by rw [hw,hl];omega,by rw [hw];exact hg⟩
 rcases hg.kinds with ⟨_,_,h,_⟩|⟨_,_,h,_,h5⟩|⟨_,_,h,_⟩
 all_goals rw [h]
 all_goals omega
theorem Su.sc {u:List UInt8} {l:List TkD} (h:Su u l):∃ l',Sc u 0 l'∧l'.map zfk=l.map zfk:=by
 obtain ⟨l',h1,h2⟩:=h []
 exact ⟨l',by simpa using h1,h2⟩
section
variable {l:List TkD}
theorem zss (op:Int):szE (exK op)=1:=by simp [exK,szE,zgs]
theorem zEP (v:Int):szE (exC v)=1:=by simp [exC,szE,zgs]
theorem zEQ (nm:List UInt8):szE (exN nm)=1:=by simp [exN,szE,zgs]
theorem zER (nm:List UInt8) (e:Ex):szE (exI nm e)=1+szE e:=by simp [exI,szE,zgs]
theorem zBB (op:Int) (e:Ex):szE (exU op e)=1+szE e:=by simp [exU,szE,zgs]
theorem zES (op:Int) (a b:Ex):szE (exB op a b)=1+szE a+szE b:=by simp [exB,szE,zgs];omega
theorem zcP {s:List UInt8} {k k':Nat} {u:Unit} (h:za4 l s k=.ok u k'):k'=k+1:=by
 unfold za4 at h;split at h<;>cases h;rfl
theorem zk0 {k k':Nat} {nm:List UInt8} (h:zes l k=.ok nm k'):k'=k+1:=by
 unfold zes at h;split at h<;>cases h;rfl
theorem zwf {z:Int} {k k':Nat} {v:Int} (h:nmF l z k=.ok v k'):k'=k+1:=by
 unfold nmF at h;split at h<;>cases h;rfl
def Nt.pre:Nt→Nat
 |.loop _ e=>szE e
 |_=>0
theorem zeU:∀ (n:Nat) (nt:Nt) (k:Nat) (e:Ex) (k':Nat),exF l n nt k=.ok e k'→szE e+k≤k'+nt.pre
 |0,nt,k,e,k',h=>by cases h
 |n+1,.bin lv,k,e,k',h=>by
  rw [zfL] at h
  split at h
  ·exact zeU n .un k e k' h
  ·obtain ⟨e1,k1,h1,h2⟩:=PR.bind_ok h
   have:=zeU n _ _ _ _ h1
   have:=zeU n _ _ _ _ h2
   simp only [Nt.pre] at *
   omega
 |n+1,.loop lv e0,k,e,k',h=>by
  rw [zdN] at h
  split at h
  ·cases h;simp only [Nt.pre];omega
  ·obtain ⟨e1,k1,h1,h2⟩:=PR.bind_ok h
   have:=zeU n _ _ _ _ h1
   have:=zeU n _ _ _ _ h2
   simp only [Nt.pre,zES] at *
   omega
 |n+1,.un,k,e,k',h=>by
  rw [zio] at h
  split at h
  ·obtain ⟨e1,k1,h1,h2⟩:=PR.bind_ok h
   have:=zeU n _ _ _ _ h1
   cases h2
   simp only [Nt.pre,zBB] at *
   omega
  split at h
  ·obtain ⟨e1,k1,h1,h2⟩:=PR.bind_ok h
   have:=zeU n _ _ _ _ h1
   cases h2
   simp only [Nt.pre,zBB] at *
   omega
  ·exact zeU n .prim k e k' h
 |n+1,.prim,k,e,k',h=>by
  rw [zcV] at h
  split at h
  ·obtain ⟨v,k1,h1,h2⟩:=PR.bind_ok h
   have:=zwf h1
   cases h2
   simp only [Nt.pre,zEP] at *
   omega
  split at h
  ·cases h;simp only [Nt.pre,zss] at *;omega
  split at h
  ·cases h;simp only [Nt.pre,zss] at *;omega
  split at h
  ·cases h;simp only [Nt.pre,zss] at *;omega
  split at h
  ·cases h;simp only [Nt.pre,zss] at *;omega
  split at h
  ·obtain ⟨e1,k1,h1,h2⟩:=PR.bind_ok h
   have:=zeU n _ _ _ _ h1
   obtain ⟨u,k2,h3,h4⟩:=PR.bind_ok h2
   have:=zcP h3
   cases h4
   simp only [Nt.pre] at *
   omega
  ·obtain ⟨nm,k1,h1,h2⟩:=PR.bind_ok h
   have:=zk0 h1
   split at h2
   ·obtain ⟨e1,k2,h3,h4⟩:=PR.bind_ok h2
    have:=zeU n _ _ _ _ h3
    obtain ⟨u,k3,h5,h6⟩:=PR.bind_ok h4
    have:=zcP h5
    cases h6
    simp only [Nt.pre,zER] at *
    omega
   ·cases h2
    simp only [Nt.pre,zEQ] at *
    omega
theorem zis {k k':Nat} {e:Ex} (h:zbN l k=.ok e k'):szE e+k≤k':=by
 have:=zeU _ _ _ _ _ h
 simpa [Nt.pre] using this
theorem zoN:∀ a b:List Sm,zbh (a++b)=zbh a+zbh b
 |[],b=>by simp [zbh]
 |s::r,b=>by simp only [List.cons_append,zbh,zoN r b];omega
theorem zvh (kind:Int) (nm:List UInt8) (p v:Ex) (b c:List Sm):zbh [smE kind nm p v b c]=1+szE p+szE v+zbh b+zbh c:=by simp [smE,zbh,szS]
theorem zym (kind:Int) (nm:List UInt8) (p v:Ex) (b c:List Sm):szS (smE kind nm p v b c)=1+szE p+szE v+zbh b+zbh c:=by simp [smE,szS]
def Ns.pre:Ns→Nat
 |.stmts acc=>zbh acc
 |_=>0
theorem zit:∀ (n:Nat) (nt:Ns) (k:Nat) (b:List Sm) (k':Nat),smF l n nt k=.ok b k'→zbh b+2 * k≤2 * k'+nt.pre
 |0,nt,k,e,k',h=>by cases h
 |n+1,.block,k,b,k',h=>by
  rw [zc0] at h
  obtain ⟨u,k1,h1,h2⟩:=PR.bind_ok h
  have:=zcP h1
  have:=zit n _ _ _ _ h2
  simp only [Ns.pre,zbh] at *
  omega
 |n+1,.stmts acc,k,b,k',h=>by
  rw [zcF] at h
  split at h
  ·cases h;simp only [Ns.pre];omega
  ·obtain ⟨s,k1,h1,h2⟩:=PR.bind_ok h
   have:=zit n _ _ _ _ h1
   have:=zit n _ _ _ _ h2
   simp only [Ns.pre,zoN] at *
   omega
 |n+1,.stmt,k,b,k',h=>by
  rw [zbM] at h
  have z0:szE exZ=1:=zss 0
  have valu:∀ {g:Ex→List Sm} {k4 c:Nat},(∀ e,zbh (g e)=c+szE e)→((zbN l k4).bind fun e k5=>(za4 l [59] k5).bind fun _ k6=>PR.ok (g e) k6)=.ok b k'→zbh b+k4+1≤k'+c:=fun hg h=>by
   obtain ⟨e,k5,h1,h2⟩:=PR.bind_ok h
   have:=zis h1
   obtain ⟨u,k6,h3,h4⟩:=PR.bind_ok h2
   have:=zcP h3
   cases h4
   rw [hg]
   omega
  split at h
  ·obtain ⟨e,k1,h1,h2⟩:=PR.bind_ok h
   have:=zis h1
   obtain ⟨b1,k2,h3,h4⟩:=PR.bind_ok h2
   have:=zit n _ _ _ _ h3
   have:=zb1 e
   split at h4
   ·obtain ⟨c,k3,h5,h6⟩:=PR.bind_ok h4
    have:=zit n _ _ _ _ h5
    cases h6
    simp only [Ns.pre,zbh,zym,z0] at *
    omega
   ·cases h4
    simp only [Ns.pre,zbh,zym,z0] at *
    omega
  split at h
  ·obtain ⟨e,k1,h1,h2⟩:=PR.bind_ok h
   have:=zis h1
   obtain ⟨b1,k2,h3,h4⟩:=PR.bind_ok h2
   have:=zit n _ _ _ _ h3
   have:=zb1 e
   cases h4
   simp only [Ns.pre,zbh,zym,z0] at *
   omega
  split at h
  ·obtain ⟨p,k1,h1,h2⟩:=PR.bind_ok h
   have:=zis h1
   obtain ⟨u,k2,h3,h4⟩:=PR.bind_ok h2
   have:=zcP h3
   have:=valu (c:=1+szE p) (fun e=>by rw [zvh];simp only [zbh];omega) h4
   simp only [Ns.pre]
   omega
  split at h
  ·have:=valu (g:=fun e=>[smE 6 [] exZ e [] []]) (c:=2) (fun e=>by rw [zvh,z0];simp [zbh]) h
   simp only [Ns.pre]
   omega
  ·obtain ⟨nm,k1,h1,h2⟩:=PR.bind_ok h
   have:=zk0 h1
   split at h2
   ·obtain ⟨p,k2,h3,h4⟩:=PR.bind_ok h2
    have:=zis h3
    obtain ⟨u,k3,h5,h6⟩:=PR.bind_ok h4
    have:=zcP h5
    obtain ⟨u2,k4,h7,h8⟩:=PR.bind_ok h6
    have:=zcP h7
    have:=valu (c:=1+szE p) (fun e=>by rw [zvh];simp only [zbh];omega) h8
    simp only [Ns.pre]
    omega
   ·obtain ⟨u,k3,h5,h6⟩:=PR.bind_ok h2
    have:=zcP h5
    have:=valu (g:=fun e=>[smE 1 nm exZ e [] []]) (c:=2) (fun e=>by rw [zvh,z0];simp [zbh]) h6
    simp only [Ns.pre]
    omega
theorem zgh {k k':Nat} {b:List Sm} (h:zbk l k=.ok b k'):zbh b+2 * k≤2 * k':=by
 have:=zit _ _ _ _ _ h
 simpa [Ns.pre] using this
theorem znr:∀ (n:Nat) (acc:List VarD) (k:Nat) (vs:List VarD) (k':Nat),zia l n acc k=.ok vs k'→k≤l.length→vs.length+k≤k'+acc.length
 |0,_,_,_,_,h,_=>by cases h
 |n+1,acc,k,vs,k',h,hk=>by
  rw [zgM] at h
  split at h
  ·rename_i h0
   have:=zaz h0 (by simp)
   obtain ⟨nm,k1,h1,h2⟩:=PR.bind_ok h
   have:=zk0 h1
   obtain ⟨v,k2,h3,h4⟩:=PR.bind_ok h2
   have q:k1≤k2∧k2≤l.length:=by
    have:=zbz (l:=l) (k:=k+1) (by omega)
    rw [h1] at this
    have:=zkZ (l:=l) (k:=k1) this.2
    rw [h3] at this
    exact this
   obtain ⟨u,k3,h5,h6⟩:=PR.bind_ok h4
   have:=zcP h5
   have q3:k3≤l.length:=by
    have:=zaD (l:=l) (s:=[59]) q.2 (by simp)
    rw [h5] at this
    exact this.2
   have:=znr n _ _ _ _ h6 q3
   simp only [List.length_append,List.length_cons,List.length_nil] at this
   omega
  split at h
  ·rename_i h0
   have:=zaz h0 (by simp)
   obtain ⟨nm,k1,h1,h2⟩:=PR.bind_ok h
   have:=zk0 h1
   obtain ⟨u,k2,h3,h4⟩:=PR.bind_ok h2
   have:=zcP h3
   obtain ⟨v,k3,h5,h6⟩:=PR.bind_ok h4
   have:=zwf h5
   obtain ⟨u2,k4,h7,h8⟩:=PR.bind_ok h6
   have:=zcP h7
   obtain ⟨u3,k5,h9,h10⟩:=PR.bind_ok h8
   have:=zcP h9
   have q3:k5≤l.length:=by
    have a1:=zbz (l:=l) (k:=k+1) (by omega)
    rw [h1] at a1
    have a2:=zaD (l:=l) (s:=[91]) a1.2 (by simp)
    rw [h3] at a2
    have a3:=zee (l:=l) (z:=1) a2.2
    rw [h5] at a3
    have a4:=zaD (l:=l) (s:=[93]) a3.2 (by simp)
    rw [h7] at a4
    have a5:=zaD (l:=l) (s:=[59]) a4.2 (by simp)
    rw [h9] at a5
    exact a5.2
   have:=znr n _ _ _ _ h10 q3
   simp only [List.length_append,List.length_cons,List.length_nil] at this
   omega
  ·cases h
   omega
def PgD.fits (p:PgD) (z:Seen):Prop:=(z.s=false→p.start=[])∧(z.m=false→p.message=[])∧(z.t=false→p.tick=[])∧(z.i=false→p.input=[])
theorem zst:∀ (n:Nat) (p:PgD) (z:Seen) (k:Nat) (q:PgD) (k':Nat),zhd l n p z k=.ok q k'→k≤l.length→p.fits z→szP q+2 * k≤2 * k'+szP p∧k'≤l.length
 |0,_,_,_,_,_,h,_,_=>by cases h
 |n+1,p,z,k,q,k',h,hk,hz=>by
  rw [zmb] at h
  split at h
  ·obtain ⟨⟨q1,z1⟩,k2,h1,h2⟩:=PR.bind_ok h
   have hp:=zmc l p z k hk
   rw [h1] at hp
   unfold ztu at h1
   obtain ⟨u,k1,h3,h4⟩:=PR.bind_ok h1
   have:=zcP h3
   unfold zoL at h4
   obtain ⟨f1,f2,f3,f4⟩:=hz
   have key:szP q1+2 * k≤2 * k2+szP p∧q1.fits z1:=by
    split at h4
    ·rename_i hc
     obtain ⟨b,k3,h5,h6⟩:=PR.bind_ok h4
     have:=zgh h5
     cases h6
     have:p.start=[]:=f1 (by simp at hc;exact hc.1)
     exact ⟨by simp only [szP,this,zbh];omega,fun h=>(by cases h),f2,f3,f4⟩
    split at h4
    ·rename_i hc
     obtain ⟨b,k3,h5,h6⟩:=PR.bind_ok h4
     have:=zgh h5
     cases h6
     have:p.message=[]:=f2 (by simp at hc;exact hc.1)
     exact ⟨by simp only [szP,this,zbh];omega,f1,fun h=>(by cases h),f3,f4⟩
    split at h4
    ·rename_i hc
     obtain ⟨b,k3,h5,h6⟩:=PR.bind_ok h4
     have:=zgh h5
     cases h6
     have:p.tick=[]:=f3 (by simp at hc;exact hc.1)
     exact ⟨by simp only [szP,this,zbh];omega,f1,f2,fun h=>(by cases h),f4⟩
    split at h4
    ·rename_i hc
     obtain ⟨b,k3,h5,h6⟩:=PR.bind_ok h4
     have:=zgh h5
     cases h6
     have:p.input=[]:=f4 (by simp at hc;exact hc.1)
     exact ⟨by simp only [szP,this,zbh];omega,f1,f2,f3,fun h=>(by cases h)⟩
    ·cases h4
   have:=zst n q1 z1 k2 q k' h2 hp.2 key.2
   omega
  ·cases h
   omega
theorem zoO {p:PgD} {k:Nat} (h:zja l=.ok p k):szP p≤2 * l.length:=by
 unfold zja at h
 obtain ⟨vs,k1,h1,h2⟩:=PR.bind_ok h
 have a1:=znr _ _ _ _ _ h1 (by omega)
 have a2:=zir (l:=l) (l.length+1) [] 0 (by omega)
 rw [h1] at a2
 have a3:=zst _ _ _ _ _ _ h2 a2.2 ⟨fun _=>rfl,fun _=>rfl,fun _=>rfl,fun _=>rfl⟩
 simp only [szP,zbh,List.length_nil] at a1 a3 ⊢
 omega
theorem zyn {s:List UInt8} {k:Nat} (h:Sc s k l):∀ i,(l.getD i tk0).value≤9223372036854775807:=fun i=>by
 by_cases hi:i<l.length
 ·have e:l.getD i tk0=l[i]:=by simp [List.getD,hi]
  rw [e]
  exact (h.vals l[i] (List.getElem_mem hi)).1
 ·have e:l.getD i tk0=tk0:=by simp [List.getD,Nat.le_of_not_lt hi]
  rw [e];decide
end
end Go.Abs
namespace Go.Abs
open Go
def pgZ:PgD:=⟨[],[],[],[],[]⟩
def zmN (s:List UInt8):PgD × Int × Int:=
 if (scan s).2.2≠0 then (pgZ,(scan s).2.1,(scan s).2.2)
 else match zja (scan s).1 with
  |.ok p _=>if znc p > 16 then (pgZ,0,6) else (p,0,0)
  |.bad k=>(pgZ,zgW (scan s).1 s.length k,1)
  |.out=>(pgZ,0,0)
theorem zsu (s:List UInt8):szP (zmN s).1≤1000000000:=by
 have h0:szP pgZ≤1000000000:=by decide
 unfold zmN
 split
 ·exact h0
 ·rename_i h
  obtain ⟨hs,l,hSc,e⟩:=zr6 s (by simpa using h)
  rw [e]
  have:=hSc.len
  split
  ·rename_i p k hr
   have:=zoO hr
   split
   ·exact h0
   ·simp only at *;omega
  ·exact h0
  ·exact h0
def zd5 (s:List UInt8):List (List UInt8):=(zaf 10 s).dropLast
def zje (s:List UInt8):Bool:=decide ((zaf 10 s).getLast (zbi 10 s)≠[])
def zdF (s:List UInt8):CdD × Int:=if (zmN s).2.2≠0 then (cd0,(zmN s).2.2) else zaR (zmN s).1
def zbt:List (List UInt8)→List UInt8→Option (List UInt8 × List (List UInt8))
 |[],_=>none
 |l::r,b=>if l=[101,110,100] then some (b,r) else zbt r (b++(l++[10]))
inductive HR where
 |ok (cs:List CdD) (rest:List (List UInt8)) (at_:Int)
 |bad (at_:Int) (e:Int)
def zbT:Nat→List (List UInt8)→Int→List CdD→HR
 |0,_,at_,_=>.bad at_ 1
 |_+1,[],at_,_=>.bad at_ 1
 |f+1,l::r,at_,cs=>
  if l=[112,114,111,99,101,115,115] then
   if 5≤cs.length then .bad at_ 4
   else match zbt r [] with
    |none=>.bad (at_+1+r.length) 1
    |some (b,r')=>if (zdF b).2≠0 then .bad at_ (zdF b).2 else zbT f r' (at_+1+(r.length - r'.length:Nat)) (cs++[(zdF b).1])
  else if l=[115,116,101,112,115]∧cs≠[] then .ok cs r (at_+1)
  else .bad at_ 1
def zbG (torn:Bool):List (List UInt8)→Int→List StD→(List StD × Int × Int)
 |[],at_,xs=>if torn then ([],at_,1) else (xs,0,0)
 |l::r,at_,xs=>match zkX l with
  |none=>([],at_,1)
  |some x=>if 400≤xs.length then ([],at_,4) else zbG torn r (at_+1) (xs++[x])
/-! ### Writing -/
def zbA (p:PgD):List UInt8:=[112,114,111,99,101,115,115,10]++(zjc p).1++[101,110,100,10]
def zlk (p:PgD):Bool:=decide ((zjc p).2≠0)
def zll (x:StD):Bool:=decide (wdF x.kind=[]) || !zeT x
def zg2 (protocol faults:Int):List UInt8:=[112,114,111,116,111,99,111,108,32]++prF protocol++[32]++itT faults++[10]
def zcf (ps:List PgD) (protocol faults:Int) (l:List StD):List UInt8:=
 zg2 protocol faults++ps.flatMap zbA++[115,116,101,112,115,10]++l.flatMap fun x=>za6 x++[10]
def zbB (ps:List PgD) (protocol faults:Int) (l:List StD):List UInt8 × Int:=
 if protocol<1∨8<protocol then ([],17)
 else if ps=[]∨5<ps.length∨400<l.length then ([],4)
 else match ps.find? zlk with
  |some p=>([],(zjc p).2)
  |none=>match l.find? zll with
   |some x=>([],if wdF x.kind=[] then 17 else 7)
   |none=>if 65536<(zcf ps protocol faults l).length then ([],5) else (zcf ps protocol faults l,0)
structure ScD where
 codes:List CdD
 protocol:Int
 faults:Int
 steps:List StD
def zgi (line:List UInt8):Int × Int × Bool:=match zaf 32 line with
 |[a,b,c]=>if a=[112,114,111,116,111,99,111,108]∧b ∈ zli.tail then ((zli.idxOf b:Int),(zdE c).1,(zdE c).2) else (0,0,false)
 |_=>(0,0,false)
def zk1 (s:List UInt8):ScD × Int × Int:=
 if 65536<s.length then (⟨[],0,0,[]⟩,0,5)
 else match zd5 s with
  |[]=>(⟨[],0,0,[]⟩,1,1)
  |l::r=>if (zgi l).2.2=false then (⟨[],0,0,[]⟩,1,1)
   else match zbT (r.length+1) r 2 [] with
    |.bad a e=>(⟨[],0,0,[]⟩,a,e)
    |.ok cs r' a=>if (zbG (zje s) r' a []).2.2≠0 then (⟨[],0,0,[]⟩,(zbG (zje s) r' a []).2.1,(zbG (zje s) r' a []).2.2)
     else (⟨cs,(zgi l).1,(zgi l).2.1,(zbG (zje s) r' a []).1⟩,0,0)
structure WI (c:UInt8) (s:List UInt8) where
 i:Nat
 a:Nat
 acc:List (List UInt8)
 ha:a≤i
 hi:i≤s.length
 no:∀ k,a≤k→k<i→s.getD k 0≠c
 hl:acc.length≤i
 eq:zaf c s=acc++zaf c (s.drop a)
variable {c:UInt8} {s:List UInt8} (w:WI c s)
def zwg (x:List UInt8):List PVal:=[.str x]
end Go.Abs
namespace Go.Abs
open Go
def zmd (b:List UInt8):Nat→Int
 |0=>0
 |k+1=>if 1≤k∧prF k=b then k else zmd b k
theorem zoP (b:List UInt8):zmd b 1=0:=by simp [zmd]
theorem zwh (b:List UInt8) (k:Nat) (h:1≤k) (e:prF k=b):zmd b (k+1)=k:=by rw [zmd,if_pos ⟨h,e⟩]
theorem zwi (b:List UInt8) (k:Nat) (e:prF k≠b):zmd b (k+1)=zmd b k:=by rw [zmd,if_neg (fun h=>e h.2)]
def zc1 (line:List UInt8) (f:Int):Int × Int × Bool:=match zaf 32 line with
 |[a,b,c]=>if a=[112,114,111,116,111,99,111,108] then (zmd b 9,(zqw c).1,(zqw c).2&&(zmd b 9 != 0)) else (0,f,false)
 |_=>(0,f,false)
theorem zme (line:List UInt8) (f:Int) (h:(zaf 32 line).length≠3):zc1 line f=(0,f,false):=by
 unfold zc1
 match hs:zaf 32 line with
 |[]=>rfl
 |[a]=>rfl
 |[a,b]=>rfl
 |[a,b,c]=>rw [hs] at h;exact absurd rfl h
 |a::b::c::d::r=>rfl
theorem zoQ (line:List UInt8) (f:Int) (a b c:List UInt8) (hs:zaf 32 line=[a,b,c]):zc1 line f=if a=[112,114,111,116,111,99,111,108] then (zmd b 9,(zqw c).1,(zqw c).2&&(zmd b 9 != 0)) else (0,f,false):=by
 unfold zc1
 rw [hs]
theorem zvj (P:Nat→Prop) (h:P 1∧P 2∧P 3∧P 4∧P 5∧P 6∧P 7∧P 8) (k:Nat) (h1:1≤k) (h2:k≤8):P k:=by
 obtain ⟨a1,a2,a3,a4,a5,a6,a7,a8⟩:=h
 have:k=1∨k=2∨k=3∨k=4∨k=5∨k=6∨k=7∨k=8:=by omega
 rcases this with rfl|rfl|rfl|rfl|rfl|rfl|rfl|rfl<;>assumption
theorem zsv (k:Nat) (h1:1≤k) (h2:k≤8):prF k ∈ zli.tail:=by
 refine zvj (fun k=>prF (k:Nat) ∈ zli.tail) ?_ k h1 h2
 decide
theorem zoR (k:Nat) (h1:1≤k) (h2:k≤8):zmd (prF k) 9=k∧(zli.idxOf (prF k):Int)=k:=by
 refine zvj (fun k=>zmd (prF (k:Nat)) 9=(k:Nat)∧(zli.idxOf (prF (k:Nat)):Int)=(k:Nat)) ?_ k h1 h2
 decide
theorem zoS (b:List UInt8) (h:b ∉ zli.tail):∀ n:Nat,n≤9→zmd b n=0
 |0,_=>rfl
 |n+1,hn=>by
  rw [zmd,if_neg,zoS b h n (by omega)]
  rintro ⟨h1,rfl⟩
  exact h (zsv n h1 (by omega))
theorem zsw (b:List UInt8) (h:b ∈ zli.tail):∃ k:Nat,1≤k∧k≤8∧b=prF k:=by
 simp only [zli,List.tail_cons,List.mem_cons,List.not_mem_nil,or_false] at h
 rcases h with rfl|rfl|rfl|rfl|rfl|rfl|rfl|rfl
 ·exact ⟨1,by omega,by omega,by decide⟩
 ·exact ⟨2,by omega,by omega,by decide⟩
 ·exact ⟨3,by omega,by omega,by decide⟩
 ·exact ⟨4,by omega,by omega,by decide⟩
 ·exact ⟨5,by omega,by omega,by decide⟩
 ·exact ⟨6,by omega,by omega,by decide⟩
 ·exact ⟨7,by omega,by omega,by decide⟩
 ·exact ⟨8,by omega,by omega,by decide⟩
theorem zp1 (line:List UInt8) (f:Int):(zc1 line f).2.2=(zgi line).2.2∧((zgi line).2.2=true→zc1 line f=zgi line):=by
 by_cases h3:(zaf 32 line).length=3
 ·match hs:zaf 32 line,h3 with
  |[a,b,c],_=>
   rw [zoQ line f a b c hs]
   have hh:zgi line=if a=[112,114,111,116,111,99,111,108]∧b ∈ zli.tail then ((zli.idxOf b:Int),(zdE c).1,(zdE c).2) else (0,0,false):=by
    unfold zgi;rw [hs]
   rw [hh]
   by_cases ha:a=[112,114,111,116,111,99,111,108]
   ·rw [if_pos ha]
    by_cases hb:b ∈ zli.tail
    ·rw [if_pos ⟨ha,hb⟩]
     obtain ⟨k,h1,h2,rfl⟩:=zsw b hb
     obtain ⟨e1,e2⟩:=zoR k h1 h2
     rw [e1,e2,znm]
     have hk:((k:Int) != 0)=true:=by simp;omega
     rw [hk,Bool.and_true]
     by_cases hn:(zdE c).2=true
     ·rw [if_pos hn,hn];exact ⟨rfl,fun _=>rfl⟩
     ·rw [if_neg hn]
      have:(zdE c).2=false:=by simpa using hn
      rw [this]
      exact ⟨rfl,fun h=>by cases h⟩
    ·rw [if_neg (fun h=>hb h.2),zoS b hb 9 (by omega)]
     simp
   ·rw [if_neg ha,if_neg (fun h=>ha h.1)]
    simp
 ·rw [zme line f h3]
  have hh:zgi line=(0,0,false):=by
   unfold zgi
   match hs:zaf 32 line with
   |[]=>rfl
   |[a]=>rfl
   |[a,b]=>rfl
   |[a,b,c]=>rw [hs] at h3;exact absurd rfl h3
   |a::b::c::d::r=>rfl
  rw [hh]
  simp
theorem zoT (c:UInt8) (s:List UInt8):∀ w ∈ zaf c s,w.length≤s.length:=by
 intro w hw
 have hj:=zjL c s
 have key:∀ (l:List (List UInt8)) (w:List UInt8),w ∈ l→w.length≤(zet c l).length:=by
  intro l
  induction l with
  |nil=>intro w hw;simp at hw
  |cons a r ih=>
   intro w hw
   cases r with
   |nil=>simp at hw;subst hw;simp [zet]
   |cons b r=>
    rcases List.mem_cons.1 hw with rfl|hw
    ·simp [zet]
    ·have:=ih w hw
     simp only [zet,List.length_append,List.length_cons]
     omega
 have:=key _ w hw
 rw [hj] at this
 exact this
theorem ziv (c:UInt8):∀ s:List UInt8,(zaf c s).length≤s.length+1
 |[]=>by simp [zaf]
 |x::r=>by
  have ih:=ziv c r
  rw [zaf]
  split
  ·simp;omega
  ·match hs:zaf c r,zbi c r with
   |a::t,_=>rw [hs] at ih;simp at ih ⊢;omega
def zfm (line:List UInt8):StD × Bool:=match zkX line with
 |some x=>(x,true)
 |none=>(st0,false)
theorem zfc {line a:List UInt8} {l:List (List UInt8)} (hs:zaf 32 line=a::l):zfm line=match znq a l with
 |some x=>(x,true)
 |none=>(st0,false):=by
 unfold zfm zkX
 rw [hs]
theorem zp2 {line a:List UInt8} {l:List (List UInt8)} (hs:zaf 32 line=a::l) (hno:∀ j:Nat,1≤j→j<15→wdF j≠a):zfm line=(st0,false):=by
 rw [zfc hs]
 have:znq a l=none:=by
  unfold znq
  by_cases h:kdF a<1∨14<kdF a
  ·rw [if_pos h]
  ·exfalso
   have h2:=zEN a (by omega) (by omega)
   have h3:((kdF a).toNat:Int)=kdF a:=by omega
   exact hno (kdF a).toNat (by omega) (by omega) (by rw [h3];exact h2)
 rw [this]
theorem ziw (k:Int) (h1:1≤k) (h2:k≤14) (l:List (List UInt8)):znq (wdF k) l=if l.length≠nfF k then none else if (l.all fun w=>(zdE w).2)=false then none else some (zg1 k (l.map fun w=>(zdE w).1)):=by
 unfold znq
 rw [zBz k h1 h2,if_neg (by omega)]
theorem zc2 {line:List UInt8} {k:Int} {l:List (List UInt8)} (hs:zaf 32 line=wdF k::l) (h1:1≤k) (h2:k≤14) (hl:l.length≠nfF k):zfm line=(st0,false):=by
 rw [zfc hs,ziw k h1 h2,if_pos hl]
theorem zyp {line:List UInt8} {k:Int} (hs:zaf 32 line=[wdF k]) (h1:1≤k) (h2:k≤14) (h:shF k=0):zfm line=(⟨k,0,0,0⟩,true):=by
 have hn:nfF k=0:=by simp [nfF,h]
 rw [zfc hs,ziw k h1 h2,if_neg (by rw [hn];simp)]
 simp [zg1,h]
theorem zyq {line b:List UInt8} {k:Int} (hs:zaf 32 line=[wdF k,b]) (h1:1≤k) (h2:k≤14) (h:shF k=1):zfm line=if (zdE b).2=true then (⟨k,0,(zdE b).1,0⟩,true) else (st0,false):=by
 have hn:nfF k=1:=by simp [nfF,h]
 rw [zfc hs,ziw k h1 h2,if_neg (by rw [hn];simp)]
 cases h3:(zdE b).2<;>simp [zg1,h,h3]
theorem zyr {line b:List UInt8} {k:Int} (hs:zaf 32 line=[wdF k,b]) (h1:1≤k) (h2:k≤14) (h:shF k=3):zfm line=if (zdE b).2=true then (⟨k,(zdE b).1,0,0⟩,true) else (st0,false):=by
 have hn:nfF k=1:=by simp [nfF,h]
 rw [zfc hs,ziw k h1 h2,if_neg (by rw [hn];simp)]
 cases h3:(zdE b).2<;>simp [zg1,h,h3]
theorem zys {line b c:List UInt8} {k:Int} (hs:zaf 32 line=[wdF k,b,c]) (h1:1≤k) (h2:k≤14) (h:shF k=2):zfm line=if (zdE b).2=true then (if (zdE c).2=true then (⟨k,(zdE b).1,0,(zdE c).1⟩,true) else (st0,false)) else (st0,false):=by
 have hn:nfF k=2:=by simp [nfF,h]
 rw [zfc hs,ziw k h1 h2,if_neg (by rw [hn];simp)]
 cases h3:(zdE b).2<;>cases h4:(zdE c).2<;>simp [zg1,h,h3,h4]
theorem zoU {w:List UInt8} (h:(zdE w).2=true):zqw w=((zdE w).1,true):=by rw [znm,if_pos h]
theorem zoV {w:List UInt8} (h:(zdE w).2=false):zqw w=(0,false):=by rw [znm,if_neg (by rw [h];simp)]
theorem zyt (k:Nat) (h:k<15):((zvf.map PVal.str).drop k).take 1=[.str (wdF k)]:=by
 have:k=0∨k=1∨k=2∨k=3∨k=4∨k=5∨k=6∨k=7∨k=8∨k=9∨k=10∨k=11∨k=12∨k=13∨k=14:=by omega
 rcases this with rfl|rfl|rfl|rfl|rfl|rfl|rfl|rfl|rfl|rfl|rfl|rfl|rfl|rfl|rfl<;>rfl
theorem zsx (k:Nat) (h:k<9):((zli.map PVal.str).drop k).take 1=[.str (prF k)]:=by
 have:k=0∨k=1∨k=2∨k=3∨k=4∨k=5∨k=6∨k=7∨k=8:=by omega
 rcases this with rfl|rfl|rfl|rfl|rfl|rfl|rfl|rfl|rfl<;>rfl
variable {P:Program} {env:Env} {pin:Nat} {σ:St} {Q:Exit→St→Prop}
def RN (P:Program) (env:Env) (pin:Nat) (c:Code) (Q:Exit→St→Prop) (t:Tg (c,Q)):Nat→St→Prop
 |0,_=>False
 |n+1,σ=>VC P env pin c σ (zfY (fun σ'=>RN P env pin c Q t n σ') Q)
@[congr] theorem zCu {c:Code} {t:Tg (c,Q)} {n:Nat} {σ σ':St} (h:σ=σ'):RN P env pin c Q t n σ=RN P env pin c Q t n σ':=by rw [h]
theorem zbC (c:Code) (t:Tg (c,Q)) (n:Nat) (σ:St):RN P env pin c Q t (n+1) σ=VC P env pin c σ (zfY (fun σ'=>RN P env pin c Q t n σ') Q):=rfl
theorem LW.rounds {c:Code} {t:Tg (Code.loop c,Q)} (hE:zaL P env) (hm:P.follows .mixedOrders=true) (n:Nat) (h:RN P env pin c Q .mk n σ):LW P env pin (.loop c) σ Q t:=by
 refine SW.loop (ι:={q:Nat × St // RN P env pin c Q .mk q.1 q.2}) (fun q=>q.1.2) (fun q=>q.1.1) ⟨(n,σ),h⟩ (zbU.refl _) ?_
 rintro ⟨⟨k,s⟩,hk⟩
 cases k with
 |zero=>exact hk.elim
 |succ k=>
  refine (VC.to hE hm c hk).mono fun e σ' hq=>?_
  cases e with
  |normal=>exact ⟨⟨(k,σ'),hq⟩,zbU.refl _,Nat.lt_succ_self _⟩
  |_=>exact hq
end Go.Abs
namespace Go.Abs
open Go
variable {P:Program} {env:Env} {pin:Nat} {σ:St} {Q:Exit→St→Prop}
variable {K:KT} {t:Tg K} {f:FuncId} {vals:List AVal} {d:Option Nat} {rest:List COp} {acc:Option Tr}
theorem VX.sb {b w:Bool} {r:Option Eff} {T:List Nat} (h1:b=true→VX P env K t (b=w) r T d rest acc σ) (h2:b=false→VX P env K t (b=w) r T d rest acc σ):VX P env K t (b=w) r T d rest acc σ:=by
 cases b
 ·exact h2 rfl
 ·exact h1 rfl
theorem CK.sb {b w:Bool} (h1:b=true→CK P env K t (b=w) f vals d rest acc σ) (h2:b=false→CK P env K t (b=w) f vals d rest acc σ):CK P env K t (b=w) f vals d rest acc σ:=by
 cases b
 ·exact h2 rfl
 ·exact h1 rfl
theorem VX.sa {b w:Bool} {q:Prop} {r:Option Eff} {T:List Nat} (h1:b=true→VX P env K t (b=w∧q) r T d rest acc σ) (h2:b=false→VX P env K t (b=w∧q) r T d rest acc σ):VX P env K t (b=w∧q) r T d rest acc σ:=by
 cases b
 ·exact h2 rfl
 ·exact h1 rfl
theorem CK.sa {b w:Bool} {q:Prop} (h1:b=true→CK P env K t (b=w∧q) f vals d rest acc σ) (h2:b=false→CK P env K t (b=w∧q) f vals d rest acc σ):CK P env K t (b=w∧q) f vals d rest acc σ:=by
 cases b
 ·exact h2 rfl
 ·exact h1 rfl
end Go.Abs
namespace Go.Abs
open Go
section
variable {P:Program} {env:Env} {pin:Nat} {σ σ':St} {Q:Exit→St→Prop}
theorem Rel.wkL {E:Ent} {g:Gh} {M:Mem} {a a':Act} {w:World} (hR:Rel E σ g M a w) (τ:Nat→Nat) (hsize:a'.tmps.size=σ'.slots.length) (hdef:a'.defers=E.ds)
  (hs:∀ i,i<σ'.slots.length→σ'.slot i=.junk∨∃ x,V g σ.dom M x (a'.tmps.getD i undef)∧x=ren τ (σ'.slot i)∧zao (zak σ'.objs) (σ'.slot i)=true)
  (ho:zaY τ (zak σ'.objs) σ 0 σ'.objs) (hinj:∀ i j o o',σ'.obj i=some o→o≠.dead→σ'.obj j=some o'→o'≠.dead→τ i=τ j→i=j) :
  Rel E σ' ⟨fun k=>g.ρ (τ k),fun k=>g.κ (τ k),fun k=>g.ν (τ k)⟩ M a' w:=by
 have hdom:∀ k,zak σ'.objs k=true→σ'.dom k:=fun k hk h0=>by
  have h1:σ'.objs.getD k none=none:=h0
  simp only [zak] at hk
  rw [h1] at hk;cases hk
 have hsc:∀ k,zak σ'.objs k=true→σ'.dom k∧(⟨fun k=>g.ρ (τ k),fun k=>g.κ (τ k),fun k=>g.ν (τ k)⟩:Gh).ρ k=g.ρ (τ k)∧(⟨fun k=>g.ρ (τ k),fun k=>g.κ (τ k),fun k=>g.ν (τ k)⟩:Gh).κ k=g.κ (τ k)∧(⟨fun k=>g.ρ (τ k),fun k=>g.κ (τ k),fun k=>g.ν (τ k)⟩:Gh).ν k=g.ν (τ k):=
  fun k hk=>⟨hdom k hk,rfl,rfl,rfl⟩
 have hown:∀ k ob,za9 (⟨fun k=>g.ρ (τ k),fun k=>g.κ (τ k),fun k=>g.ν (τ k)⟩:Gh) k ob=za9 g (τ k) ob:=fun k ob=>by cases ob<;>rfl
 have hget:∀ k ob b,σ'.obj k=some ob→za9 (⟨fun k=>g.ρ (τ k),fun k=>g.κ (τ k),fun k=>g.ν (τ k)⟩:Gh) k ob=some b→σ.obj (τ k)=some (zfQ τ ob)∧za9 g (τ k) (zfQ τ ob)=some b∧k<σ'.objs.length:=fun k ob b hk hb=>by
  rcases zdX ho k ob hk with rfl|⟨h1,_⟩
  ·simp [za9] at hb
  ·rw [Nat.zero_add] at h1
   exact ⟨h1,by rw [zcx,←hown];exact hb,zco hk⟩
 refine ⟨hsize,hdef,?_,?_,?_,?_,hR.sat,hR.M0,hR.Mnew,hR.size0,hR.same,?_,hR.os,hR.tape,hR.output⟩
 ·intro i hi
  rcases hs i hi with h1|⟨x,h1,h2,h3⟩
  ·rw [h1];exact .junk _
  ·exact ztE hsc h1 _ h2 h3
 ·intro k ob hk
  rcases zdX ho k ob hk with rfl|⟨h1,h2⟩
  ·trivial
  ·rw [Nat.zero_add] at h1
   have hor:=hR.objs _ _ h1
   cases ob with
   |cells cs=>
    obtain ⟨vals,T,hh,hsz,hv⟩:=hor
    refine ⟨vals,T,hh,by rw [hsz,zau],fun j hj=>?_⟩
    exact ztE hsc (hv j (by rw [zau];exact hj)) _ (zck τ cs j) (zbE _ _ _ h2)
   |row sz xs=>exact hor
   |map kd es=>
    obtain ⟨ents,clock,hh,hsz,hv⟩:=hor
    refine ⟨ents,clock,hh,hsz,fun i e he=>?_⟩
    obtain ⟨en,q1,q2,q3,q4⟩:=hv i e he
    exact ⟨en,q1,q2,q3,ztE hsc q4 _ (zhh _ _).symm (zeE _ _)⟩
   |bh T e B n=>
    obtain ⟨hd,hn,p,hh,hp⟩:=hor
    obtain ⟨k1,k2,k3,k4⟩:=hsc B h2
    exact ⟨k1,hn,p,hh,hp⟩
   |bb e s=>exact hor
   |dead=>trivial
 ·intro k k' ob ob' b hk hk' hb hb'
  obtain ⟨h1,h2,h3⟩:=hget k ob b hk hb
  obtain ⟨h4,h5,h6⟩:=hget k' ob' b hk' hb'
  exact hinj k k' ob ob' hk (fun e=>by subst e;simp [za9] at hb) hk' (fun e=>by subst e;simp [za9] at hb') (hR.apart _ _ _ _ b h1 h4 h2 h5)
 ·intro k ob b hk hb i
  obtain ⟨h1,h2,_⟩:=hget k ob b hk hb
  exact hR.offM _ _ b h1 h2 i
 ·intro k ob b hk hb
  obtain ⟨h1,h2,_⟩:=hget k ob b hk hb
  exact hR.own0 _ _ b h1 h2
def zfo:List (Option AObj)→List Nat→List Nat
 |[],_=>[]
 |_,[]=>[]
 |none::r,_::t=>zfo r t
 |some .dead::r,_::t=>zfo r t
 |some (.cells _)::r,k::t=>k::zfo r t
 |some (.row _ _)::r,k::t=>k::zfo r t
 |some (.map _ _)::r,k::t=>k::zfo r t
 |some (.bh _ _ _ _)::r,k::t=>k::zfo r t
 |some (.bb _ _)::r,k::t=>k::zfo r t
theorem ziy:∀ (os:List (Option AObj)) (τ:List Nat) (i:Nat) (o:AObj),os.length=τ.length→os.getD i none=some o→o≠.dead→τ.getD i 0 ∈ zfo os τ
 |[],_,i,o,_,h,_=>by simp [List.getD] at h
 |_::_,[],_,_,hl,_,_=>by simp at hl
 |x::r,k::t,0,o,hl,h,hd=>by
  simp only [List.getD_cons_zero] at h ⊢
  subst h
  cases o<;>simp [zfo] at hd ⊢
 |x::r,k::t,i+1,o,hl,h,hd=>by
  have hm:=ziy r t i o (by simpa using hl) (by simpa [List.getD] using h) hd
  have e:(k::t).getD (i+1) 0=t.getD i 0:=by simp [List.getD]
  rw [e]
  cases x with
  |none=>exact hm
  |some ob=>cases ob<;>first|exact hm|exact List.mem_cons_of_mem _ hm
def ziz:List Nat→Bool
 |[]=>true
 |k::r=>!r.contains k&&ziz r
theorem zoW:∀ (os:List (Option AObj)) (τ:List Nat),os.length=τ.length→ziz (zfo os τ)=true→∀ i j o o',os.getD i none=some o→o≠.dead→os.getD j none=some o'→o'≠.dead→τ.getD i 0=τ.getD j 0→i=j
 |[],_,_,_,i,j,o,o',h,_,_,_,_=>by simp [List.getD] at h
 |_::_,[],hl,_,_,_,_,_,_,_,_,_,_=>by simp at hl
 |x::r,k::t,hl,hn,i,j,o,o',hi,hd,hj,hd',e=>by
  have hl':r.length=t.length:=by simpa using hl
  have tail:ziz (zfo r t)=true:=by
   cases x with
   |none=>exact hn
   |some ob=>cases ob<;>simp only [zfo,ziz,Bool.and_eq_true] at hn<;>first|exact hn|exact hn.2
  have head:∀ ob:AObj,x=some ob→ob≠.dead→k ∉ zfo r t:=fun ob hx hob=>by
   subst hx
   cases ob<;>simp [zfo,ziz] at hn hob ⊢<;>exact hn.1
  match i,j with
  |0,0=>rfl
  |0,j+1=>
   exfalso
   have h1:x=some o:=by simpa using hi
   have h2:=ziy r t j o' hl' (by simpa [List.getD] using hj) hd'
   have e':k=t.getD j 0:=by simpa [List.getD] using e
   rw [←e'] at h2
   exact head o h1 hd h2
  |i+1,0=>
   exfalso
   have h1:x=some o':=by simpa using hj
   have h2:=ziy r t i o hl' (by simpa [List.getD] using hi) hd
   have e':k=t.getD i 0:=by simpa [List.getD] using e.symm
   rw [←e'] at h2
   exact head o' h1 hd' h2
  |i+1,j+1=>
   have:=zoW r t hl' tail i j o o' (by simpa [List.getD] using hi) hd (by simpa [List.getD] using hj) hd' (by simpa [List.getD] using e)
   omega
theorem zbU.wkL (τ:List Nat) (hlen:σ'.objs.length=env.nobj) (hτ:τ.length=env.nobj) (hnd:ziz (zfo σ'.objs τ)=true) (hpin:∀ k,k<pin→tau τ k=k∧(σ.dom k→σ'.dom k))
  (hs:zcc (tau τ) (zak σ'.objs) σ.slots σ'.slots) (ho:zaY (tau τ) (zak σ'.objs) σ 0 σ'.objs):zbU env pin σ σ':=fun _=>⟨hlen,fun E g M a w hR=>by
 obtain ⟨hl,hg⟩:=zdn hs
 refine ⟨_,M,hR.wkL (tau τ) (by rw [hR.size,hl]) hR.defers (fun i hi=>?_) ho (fun i j o o' hi hd hj hd' e=>zoW σ'.objs τ (by omega) hnd i j o o' hi hd hj hd' e),Mem.le_refl _,fun id hid hd=>?_⟩
 ·rcases hg i with h1|⟨h1,h2⟩
  ·exact .inl h1
  ·exact .inr ⟨σ.slot i,hR.slot i,h1,h2⟩
 ·obtain ⟨h1,h2⟩:=hpin id hid
  refine ⟨?_,h2 hd⟩
  simp [Gh.agree,h1]⟩
theorem WMe (τ:List Nat) (hs:zcc (tau τ) (zak σ'.objs) σ.slots σ'.slots) (ho:zaY (tau τ) (zak σ'.objs) σ 0 σ'.objs) (hlen:σ'.objs.length=env.nobj:=by rfl) (hτ:τ.length=env.nobj:=by rfl) (hnd:ziz (zfo σ'.objs τ)=true:=by rfl) (hp:∀ k,k<pin→tau τ k=k:=by first|decide|(simp only [List.length_cons,List.length_nil];decide)) (h1:(σ'.objs.take pin).all Option.isSome=true:=by simp) (h2:pin≤σ'.objs.length:=by simp):zbU env pin σ σ':=
 zbU.wkL τ hlen hτ hnd (zzg hp h1 h2) hs ho
end
end Go.Abs
namespace Go.Abs
open Go
theorem zcQ:∀ (l:List (List UInt8)) (b b':List UInt8) (r:List (List UInt8)),zbt l b=some (b',r)→r.length<l.length
 |[],_,_,_,h=>by simp [zbt] at h
 |x::l,b,b',r,h=>by
  rw [zbt] at h
  split at h
  ·cases h;simp
  ·have:=zcQ l _ _ _ h
   simp;omega
def zlm (l:List (List UInt8)):Nat:=(l.map fun x=>x.length+1).sum
theorem zch (x:List UInt8) (l:List (List UInt8)):zlm (x::l)=x.length+1+zlm l:=by simp [zlm]
structure PcI (ls:List (List UInt8)) (k0:Nat) where
 k:Nat
 b:List UInt8
 hk:k≤ls.length
 eq:zbt (ls.drop k) b=zbt (ls.drop k0) []
 hb:b.length+zlm (ls.drop k)≤1000000
theorem PcI.line {ls:List (List UInt8)} {k0:Nat} (i:PcI ls k0) (h:i.k<ls.length):ls.drop i.k=ls.getD i.k []::ls.drop (i.k+1):=by
 rw [List.drop_eq_getElem_cons h]
 simp [List.getD,h]
def PcI.next {ls:List (List UInt8)} {k0:Nat} (i:PcI ls k0) (h:i.k<ls.length) (hne:ls.getD i.k []≠[101,110,100]):PcI ls k0:=
 ⟨i.k+1,i.b++(ls.getD i.k []++[10]),h,by
  rw [←i.eq,i.line h,zbt,if_neg hne],by
  have:=i.hb
  rw [i.line h,zch] at this
  simp only [List.length_append,List.length_cons,List.length_nil]
  omega⟩
theorem PcI.fin {ls:List (List UInt8)} {k0:Nat} (i:PcI ls k0) (h:i.k<ls.length) (he:ls.getD i.k []=[101,110,100]):zbt (ls.drop k0) []=some (i.b,ls.drop (i.k+1)):=by
 rw [←i.eq,i.line h,zbt,if_pos he]
theorem PcI.out {ls:List (List UInt8)} {k0:Nat} (i:PcI ls k0) (h:¬ i.k<ls.length):zbt (ls.drop k0) []=none:=by
 rw [←i.eq,List.drop_eq_nil_of_le (by omega),zbt]
def sc0:ScD:=⟨[],0,0,[]⟩
def zdT (ls:List (List UInt8)) (torn:Bool):ScD × Int × Int:=
 if (zc1 (ls.getD 0 []) 0).2.2=false then (sc0,1,1)
 else match zbT ls.length (ls.drop 1) 2 [] with
  |.bad a e=>(sc0,a,e)
  |.ok cs r a=>if (zbG torn r a []).2.2≠0 then (sc0,(zbG torn r a []).2.1,(zbG torn r a []).2.2)
   else (⟨cs,(zc1 (ls.getD 0 []) 0).1,(zc1 (ls.getD 0 []) 0).2.1,(zbG torn r a []).1⟩,0,0)
theorem zsB (s:List UInt8):zk1 s=if 65536<s.length then (sc0,0,5) else zdT (zd5 s) (zje s):=by
 unfold zk1
 by_cases hl:65536<s.length
 ·rw [if_pos hl,if_pos hl];rfl
 rw [if_neg hl,if_neg hl]
 cases h:zd5 s with
 |nil=>rfl
 |cons l r=>
  obtain ⟨e1,e2⟩:=zp1 l 0
  unfold zdT
  simp only [List.getD_cons_zero,List.length_cons,List.drop_succ_cons,List.drop_zero]
  rw [e1]
  by_cases hh:(zgi l).2.2=false
  ·rw [if_pos hh,if_pos hh];rfl
  ·rw [if_neg hh,if_neg hh,e2 (by simpa using hh)]
   rfl
theorem ziD:∀ (l:List (List UInt8)) (b b':List UInt8) (r:List (List UInt8)),zbt l b=some (b',r)→r=l.drop (l.length - r.length)
 |[],_,_,_,h=>by simp [zbt] at h
 |x::l,b,b',r,h=>by
  have hl:=zcQ _ _ _ _ h
  rw [zbt] at h
  split at h
  ·cases h;simp
  ·have hl2:=zcQ _ _ _ _ h
   have:=ziD l _ _ _ h
   simp only [List.length_cons]
   rw [show l.length+1 - r.length=(l.length - r.length)+1 by omega,List.drop_succ_cons]
   exact this
structure RqI (ls:List (List UInt8)) (R:HR) where
 k:Nat
 cs:List CdD
 f:Nat
 hk1:1≤k
 hk:k≤ls.length
 hf:ls.length - k<f
 hcs:cs.length≤5
 eq:zbT f (ls.drop k) ((k:Int)+1) cs=R
section
variable {ls:List (List UInt8)} {R:HR} (i:RqI ls R)
theorem RqI.line (h:i.k<ls.length):ls.drop i.k=ls.getD i.k []::ls.drop (i.k+1):=by
 rw [List.drop_eq_getElem_cons h]
 simp [List.getD,h]
theorem RqI.fuel:∃ g,i.f=g+1:=⟨i.f - 1,by have:=i.hf;omega⟩
theorem RqI.out (h:¬ i.k<ls.length):R=.bad ((i.k+1:Nat):Int) 1:=by
 obtain ⟨g,hg⟩:=i.fuel
 refine i.eq.symm.trans ?_
 rw [hg,List.drop_eq_nil_of_le (by omega),zbT]
 congr 1
theorem RqI.bad (h:i.k<ls.length) (hp:ls.getD i.k []≠[112,114,111,99,101,115,115]) (hs:ls.getD i.k []≠[115,116,101,112,115]∨i.cs=[]):R=.bad ((i.k+1:Nat):Int) 1:=by
 obtain ⟨g,hg⟩:=i.fuel
 refine i.eq.symm.trans ?_
 rw [hg,i.line h,zbT,if_neg hp,if_neg]
 ·congr 1
 ·rintro ⟨a,b⟩
  rcases hs with hs|hs
  ·exact hs a
  ·exact b hs
theorem RqI.steps (h:i.k<ls.length) (hs:ls.getD i.k []=[115,116,101,112,115]) (hc:i.cs≠[]):R=.ok i.cs (ls.drop (i.k+1)) (((i.k+1:Nat):Int)+1):=by
 obtain ⟨g,hg⟩:=i.fuel
 refine i.eq.symm.trans ?_
 rw [hg,i.line h,zbT,hs,if_neg (by decide),if_pos ⟨rfl,hc⟩]
 congr 1
theorem RqI.many (h:i.k<ls.length) (hp:ls.getD i.k []=[112,114,111,99,101,115,115]) (h5:5≤i.cs.length):R=.bad ((i.k+1:Nat):Int) 4:=by
 obtain ⟨g,hg⟩:=i.fuel
 refine i.eq.symm.trans ?_
 rw [hg,i.line h,zbT,if_pos hp,if_pos h5]
 congr 1
theorem RqI.none (h:i.k<ls.length) (hp:ls.getD i.k []=[112,114,111,99,101,115,115]) (h5:¬ 5≤i.cs.length) (hc:zbt (ls.drop (i.k+1)) []=none):R=.bad ((ls.length+1:Nat):Int) 1:=by
 obtain ⟨g,hg⟩:=i.fuel
 refine i.eq.symm.trans ?_
 rw [hg,i.line h,zbT,if_pos hp,if_neg h5,hc]
 simp only [List.length_drop]
 congr 1
 omega
theorem RqI.body (h:i.k<ls.length) (hp:ls.getD i.k []=[112,114,111,99,101,115,115]) (h5:¬ 5≤i.cs.length) {b:List UInt8} {r:List (List UInt8)} (hc:zbt (ls.drop (i.k+1)) []=some (b,r)) (he:(zdF b).2≠0):R=.bad ((i.k+1:Nat):Int) (zdF b).2:=by
 obtain ⟨g,hg⟩:=i.fuel
 refine i.eq.symm.trans ?_
 rw [hg,i.line h,zbT,if_pos hp,if_neg h5,hc]
 dsimp only
 rw [if_pos he]
 congr 1
def RqI.next (h:i.k<ls.length) (hp:ls.getD i.k []=[112,114,111,99,101,115,115]) (h5:¬ 5≤i.cs.length) {b:List UInt8} {r:List (List UInt8)} (hc:zbt (ls.drop (i.k+1)) []=some (b,r)) (he:(zdF b).2=0):RqI ls R:=
 ⟨ls.length - r.length,i.cs++[(zdF b).1],i.f - 1,by
  have:=zcQ _ _ _ _ hc
  simp only [List.length_drop] at this
  have:=i.hk1
  omega,by omega,by
  have:=zcQ _ _ _ _ hc
  simp only [List.length_drop] at this
  have:=i.hf
  omega,by simp;omega,by
  obtain ⟨g,hg⟩:=i.fuel
  have hl:=zcQ _ _ _ _ hc
  have hd:=ziD _ _ _ _ hc
  simp only [List.length_drop] at hl
  rw [List.drop_drop,List.length_drop,show i.k+1+(ls.length - (i.k+1) - r.length)=ls.length - r.length by omega] at hd
  refine Eq.trans ?_ i.eq
  rw [hg,i.line h,zbT,if_pos hp,if_neg h5,hc]
  dsimp only
  rw [if_neg (by simpa using he),←hd]
  simp only [List.length_drop,Nat.add_sub_cancel]
  congr 1
  omega⟩
end
structure RsI (ls:List (List UInt8)) (torn:Bool) (S:List StD × Int × Int) where
 k:Nat
 xs:List StD
 hk:k≤ls.length
 hx:xs.length≤400
 eq:zbG torn (ls.drop k) ((k:Int)+1) xs=S
section
variable {ls:List (List UInt8)} {torn:Bool} {S:List StD × Int × Int} (i:RsI ls torn S)
theorem RsI.line (h:i.k<ls.length):ls.drop i.k=ls.getD i.k []::ls.drop (i.k+1):=by
 rw [List.drop_eq_getElem_cons h]
 simp [List.getD,h]
theorem RsI.fin (h:¬ i.k<ls.length) (ht:torn=false):S=(i.xs,0,0):=by
 refine i.eq.symm.trans ?_
 rw [List.drop_eq_nil_of_le (by omega),zbG,if_neg (by rw [ht];simp)]
theorem RsI.cut (h:¬ i.k<ls.length) (ht:torn=true):S=([],((i.k+1:Nat):Int),1):=by
 refine i.eq.symm.trans ?_
 rw [List.drop_eq_nil_of_le (by omega),zbG,if_pos ht]
 rfl
theorem RsI.none (h:i.k<ls.length) (hs:zkX (ls.getD i.k [])=none):S=([],((i.k+1:Nat):Int),1):=by
 refine i.eq.symm.trans ?_
 rw [i.line h,zbG,hs]
 rfl
theorem RsI.many (h:i.k<ls.length) {x:StD} (hs:zkX (ls.getD i.k [])=some x) (h4:400≤i.xs.length):S=([],((i.k+1:Nat):Int),4):=by
 refine i.eq.symm.trans ?_
 rw [i.line h,zbG,hs]
 dsimp only
 rw [if_pos h4]
 rfl
def RsI.next (h:i.k<ls.length) {x:StD} (hs:zkX (ls.getD i.k [])=some x) (h4:¬ 400≤i.xs.length):RsI ls torn S:=
 ⟨i.k+1,i.xs++[x],h,by simp;omega,by
  refine Eq.trans ?_ i.eq
  rw [i.line h,zbG,hs]
  dsimp only
  rw [if_neg h4]
  congr 1⟩
end
end Go.Abs
namespace Go.Abs
open Go
mutual
theorem zwj (l:List VarD):∀ e:Ex,szE (r3E l e).1=szE e
 |.mk op v n a b args=>by simp only [r3E,szE,zsC l args]
theorem zsC (l:List VarD):∀ e:List Ex,zgs (zd1 l e).1=zgs e
 |[]=>by simp [zd1]
 |e::r=>by simp only [zd1,zgs,zwj l e,zsC l r]
end
mutual
theorem zBD (l:List VarD):∀ s:Sm,szS (r3S l s).1=szS s
 |.mk k n a b p v body els=>by simp only [r3S,szS,zwj,zk5 l body,zk5 l els]
theorem zk5 (l:List VarD):∀ s:List Sm,zbh (zcg l s).1=zbh s
 |[]=>by simp [zcg]
 |e::r=>by simp only [zcg,zbh,zBD l e,zk5 l r]
end
structure CdSz (c:CdD) (n:Nat):Prop where
 h0:c.init.length≤32
 h1:zbh c.start≤n
 h2:zbh c.message≤n
 h3:zbh c.tick≤n
 h4:zbh c.input≤n
theorem znx (p:PgD):CdSz (zdw p).1 (szP p):=by
 have hz:CdSz cd0 (szP p):=⟨by simp [cd0],by simp [cd0,zbh],by simp [cd0,zbh],by simp [cd0,zbh],by simp [cd0,zbh]⟩
 unfold zdw
 split
 ·exact hz
 ·split
  ·exact hz
  ·split
   ·exact hz
   ·split
    ·exact hz
    ·rename_i hs
     split
     ·exact hz
     ·split
      ·exact hz
      ·cases h:znj 0 p.vars with
       |none=>exact absurd h hs
       |some m=>
        have:=zoy p.vars 0 m (by omega) h
        have h32:mx 0 32=32:=by decide
        rw [h32] at this
        refine ⟨by simp only;omega,?_,?_,?_,?_⟩<;>simp only [zk5]<;>unfold szP<;>omega
def zgO (p:PgD):List PVal:=[.slice (p.vars.map za3),.slice (p.start.map zam),.slice (p.message.map zam),.slice (p.tick.map zam),.slice (p.input.map zam)]
open Go
theorem zk6 {α:Type} (q:α→Bool):∀ (l:List α) (k:Nat) (h:k<l.length),(∀ x ∈ l.take k,q x=false)→q l[k]=true→l.find? q=some l[k]
 |x::r,0,_,_,hq=>by simp at hq;simp [List.find?,hq]
 |x::r,k+1,h,hn,hq=>by
  have hx:q x=false:=hn x (by simp)
  have:=zk6 q r k (by simpa using h) (fun y hy=>hn y (by simp [hy])) (by simpa using hq)
  simp [List.find?,hx,this]
theorem zk7 {α:Type} (q:α→Bool) (l:List α) (h:∀ x ∈ l,q x=false):l.find? q=none:=by
 rw [List.find?_eq_none]
 intro x hx
 simp [h x hx]
theorem zsD (k:Int):(wdF k).length≤10:=by
 by_cases h:k<1∨14<k
 ·unfold wdF;rw [if_pos h];simp
 ·refine zfb (fun k=>(wdF k).length≤10) ?_ k (by omega) (by omega)
  decide
theorem zsE (j:Nat) (h1:1≤j) (h2:j≤8):(prF j).length≤11:=by
 refine zvj (fun k=>(prF (k:Nat)).length≤11) ?_ j h1 h2
 decide
theorem zo1 (x:StD):(za6 x).length≤60:=by
 have h0:=zsD x.kind
 have h1:=zdR x.place
 have h2:=zdR x.proc
 have h3:=zdR x.value
 unfold za6 zlj
 split<;>simp<;>omega
theorem zo2 (p:PgD):(zjc p).1.length≤4096:=by
 unfold zjc
 split
 ·simp
 ·split
  ·simp
  ·rename_i h;simp only;omega
theorem zmg (p:PgD):(zbA p).length≤4110:=by
 have:=zo2 p
 simp [zbA]
 omega
theorem zp8 (j:Nat) (h1:1≤j) (h2:j≤8) (f:Int):(zg2 j f).length≤50:=by
 have h3:=zsE j h1 h2
 have h4:=zdR f
 simp [zg2]
 omega
theorem zk8 {α:Type} (g:α→List UInt8) (B:Nat) (h:∀ x,(g x).length≤B):∀ l:List α,(l.flatMap g).length≤B * l.length
 |[]=>by simp
 |x::r=>by
  have:=zk8 g B h r
  have:=h x
  simp only [List.flatMap_cons,List.length_append,List.length_cons,Nat.mul_add]
  omega
def zdA (x:StD):List UInt8 × Int:=if wdF x.kind=[] then ([],17) else if zeT x=false then ([],7) else (za6 x++[10],0)
theorem zp9 (x:StD):zll x=decide ((zdA x).2≠0):=by
 unfold zll zdA
 by_cases h:wdF x.kind=[]
 ·simp [h]
 ·rw [if_neg h]
  cases hz:zeT x<;>simp [h]
theorem zqa (x:StD) (h:zll x=true):(zdA x).2=if wdF x.kind=[] then 17 else 7:=by
 unfold zll at h
 unfold zdA
 by_cases h1:wdF x.kind=[]
 ·simp [h1]
 ·rw [if_neg h1,if_neg h1]
  simp [h1] at h
  rw [if_pos h]
theorem zsF (x:StD) (h:zll x=false):zdA x=(za6 x++[10],0):=by
 unfold zll at h
 simp at h
 unfold zdA
 rw [if_neg h.1,if_neg (by simp [h.2])]
theorem zqb (x:StD):(zdA x).1.length≤61:=by
 have:=zo1 x
 unfold zdA
 split
 ·simp
 ·split
  ·simp
  ·simp;omega
section
variable {ps:List PgD} {protocol faults:Int} {l:List StD}
theorem zgk (h:protocol<1∨8<protocol):zbB ps protocol faults l=([],17):=by unfold zbB;rw [if_pos h]
theorem zmh (h:¬ (protocol<1∨8<protocol)) (h2:ps=[]∨5<ps.length∨400<l.length):zbB ps protocol faults l=([],4):=by unfold zbB;rw [if_neg h,if_pos h2]
theorem zmi (h:¬ (protocol<1∨8<protocol)) (h2:¬ (ps=[]∨5<ps.length∨400<l.length)) (k:Nat) (hk:k<ps.length) (hn:∀ p ∈ ps.take k,zlk p=false) (hb:zlk ps[k]=true):zbB ps protocol faults l=([],(zjc ps[k]).2):=by
 unfold zbB
 rw [if_neg h,if_neg h2,zk6 zlk ps k hk hn hb]
theorem zmj (h:¬ (protocol<1∨8<protocol)) (h2:¬ (ps=[]∨5<ps.length∨400<l.length)) (hp:∀ p ∈ ps,zlk p=false) (k:Nat) (hk:k<l.length) (hn:∀ x ∈ l.take k,zll x=false) (hb:zll l[k]=true):zbB ps protocol faults l=([],(zdA l[k]).2):=by
 unfold zbB
 rw [if_neg h,if_neg h2,zk7 zlk ps hp,zk6 zll l k hk hn hb,zqa _ hb]
theorem zny (h:¬ (protocol<1∨8<protocol)) (h2:¬ (ps=[]∨5<ps.length∨400<l.length)) (hp:∀ p ∈ ps,zlk p=false) (hn:∀ x ∈ l,zll x=false):zbB ps protocol faults l=if 65536<(zcf ps protocol faults l).length then ([],5) else (zcf ps protocol faults l,0):=by
 unfold zbB
 rw [if_neg h,if_neg h2,zk7 zlk ps hp,zk7 zll l hn]
end
structure FpI (ps:List PgD) where
 k:Nat
 hk:k≤ps.length
 no:∀ p ∈ ps.take k,zlk p=false
def FpI.next {ps:List PgD} (i:FpI ps) (h:i.k<ps.length) (hb:zlk ps[i.k]=false):FpI ps:=⟨i.k+1,h,by
 rw [List.take_succ_eq_append_getElem h]
 intro p hp
 rcases List.mem_append.1 hp with hp|hp
 ·exact i.no p hp
 ·simp at hp;subst hp;exact hb⟩
structure FsI (l:List StD) where
 k:Nat
 hk:k≤l.length
 no:∀ x ∈ l.take k,zll x=false
def FsI.next {l:List StD} (i:FsI l) (h:i.k<l.length) (hb:zll l[i.k]=false):FsI l:=⟨i.k+1,h,by
 rw [List.take_succ_eq_append_getElem h]
 intro x hx
 rcases List.mem_append.1 hx with hx|hx
 ·exact i.no x hx
 ·simp at hx;subst hx;exact hb⟩
end Go.Abs
namespace Go.Abs
open Go
theorem zmo:∀ (f:Nat) (r:List (List UInt8)) (a:Int) (cs:List CdD) (x e:Int),zbT f r a cs=.bad x e→e≠0
 |0,_,_,_,x,e,h=>by rw [zbT] at h;cases h;decide
 |f+1,[],_,_,x,e,h=>by rw [zbT] at h;cases h;decide
 |f+1,l::r,a,cs,x,e,h=>by
  rw [zbT] at h
  split at h
  ·split at h
   ·cases h;decide
   ·split at h
    ·cases h;decide
    ·split at h
     ·rename_i he
      cases h;exact he
     ·exact zmo f _ _ _ x e h
  ·split at h
   ·cases h
   ·cases h;decide
theorem zvB (ls:List (List UInt8)) (torn:Bool) (h:(zdT ls torn).2.2=0):∃ d,zdT ls torn=(d,0,0):=by
 unfold zdT at h ⊢
 split at h
 ·cases h
 ·rename_i h1
  rw [if_neg h1]
  split at h
  ·rename_i a e he
   exact absurd h (zmo _ _ _ _ _ _ he)
  ·rename_i cs r a he
   split at h
   ·rename_i h2;exact absurd h h2
   ·rename_i h2
    try rw [he]
    try dsimp only
    rw [if_neg h2]
    exact ⟨_,rfl⟩
theorem zsR (ls:List (List UInt8)) (torn:Bool) (h:(zdT ls torn).2.2≠0):∃ a e,zdT ls torn=(sc0,a,e)∧e≠0:=by
 unfold zdT at h ⊢
 split at h
 ·rename_i h1
  rw [if_pos h1]
  exact ⟨_,_,rfl,by decide⟩
 ·rename_i h1
  rw [if_neg h1]
  split at h
  ·rename_i a e he
   try rw [he]
   exact ⟨_,_,rfl,h⟩
  ·rename_i cs r a he
   split at h
   ·rename_i h2
    try rw [he]
    try dsimp only
    rw [if_pos h2]
    exact ⟨_,_,rfl,h2⟩
   ·exact absurd rfl h
theorem zjU (c:UInt8):∀ s:List UInt8,zlm (zaf c s)=s.length+1
 |[]=>by simp [zaf,zlm]
 |x::r=>by
  have ih:=zjU c r
  rw [zaf]
  split
  ·rw [zch,ih];simp;omega
  ·match hs:zaf c r,zbi c r with
   |a::t,_=>
    rw [hs,zch] at ih
    rw [zch];simp;omega
theorem zmp:∀ l:List (List UInt8),zlm l.dropLast≤zlm l
 |[]=>by simp [zlm]
 |[a]=>by simp [zlm]
 |a::b::r=>by
  have:=zmp (b::r)
  rw [List.dropLast_cons_cons,zch,zch]
  omega
theorem zo9:∀ l:List (List UInt8),l.length≤zlm l
 |[]=>by simp
 |a::r=>by have:=zo9 r;rw [zch];simp;omega
theorem zqm (s:List UInt8):zlm (zd5 s)≤s.length+1∧(zd5 s).length≤s.length+1:=by
 have h1:=zmp (zaf 10 s)
 rw [zjU] at h1
 have h2:=zo9 (zd5 s)
 unfold zd5 at h2 ⊢
 omega
theorem znD (s:List UInt8):((zaf 10 s).map fun x=>[PVal.str x]).take ((zaf 10 s).length - 1)=(zd5 s).map zwg:=by
 unfold zd5
 rw [List.dropLast_eq_take,List.map_take]
 rfl
theorem zqn (s:List UInt8):((zaf 10 s).map fun x=>[PVal.str x]).getD ((zaf 10 s).length - 1) []=[.str ((zaf 10 s).getLast (zbi 10 s))]∧((zaf 10 s).getLast (zbi 10 s)==[])=!zje s:=by
 have hp:0<(zaf 10 s).length:=List.length_pos_iff.2 (zbi 10 s)
 refine ⟨?_,?_⟩
 ·have hk:(zaf 10 s).length - 1<(zaf 10 s).length:=by omega
  rw [List.getD_eq_getElem?_getD,List.getElem?_map,List.getElem?_eq_getElem hk,List.getLast_eq_getElem]
  rfl
 ·unfold zje
  by_cases h:(zaf 10 s).getLast (zbi 10 s)=[]
  ·simp [h]
  ·simp [h]
def scA (q:ScD × Int × Int):AVal:=.tup [.agg [.pv (.slice (q.1.codes.map fun c=>[.slice (c.init.map zl1),.slice (c.start.map zam),.slice (c.message.map zam),.slice (c.tick.map zam),.slice (c.input.map zam)])),.pv (.int .i64 q.1.protocol),.pv (.int .i64 q.1.faults)],.pv (.slice (q.1.steps.map zcE)),.pv (.int .i64 q.2.1),.pv (.int .i64 q.2.2)]
theorem zBK (xs:List UInt8) (a:Nat) (n c:Int) (h:0<n) (hn:n≤1000) (hc:-1000≤c) (hc':c≤1000):zgK (c+(nxt xs a n).1)=true:=by
 have:=zaG xs a n h
 simp only [zgK,Bool.and_eq_true,decide_eq_true_eq]
 omega
theorem zEY (xs:List UInt8) (a:Nat) (n:Int) (h:0<n) (hn:n≤1000):zgK (nxt xs a n).1=true:=by
 have:=zaG xs a n h
 simp only [zgK,Bool.and_eq_true,decide_eq_true_eq]
 omega
theorem zHg:zgK 0=true:=by decide
theorem zEZ (op v:Int) (nm:List UInt8) (l:List Ex):rgE (exL op v nm l)=(zgK v&&zoG l):=rfl
theorem zBL:zoG []=true:=rfl
theorem zBM (e:Ex):zoG [e]=rgE e:=by simp [zoG]
theorem zBN (a b:Ex):zoG [a,b]=(rgE a&&rgE b):=by simp [zoG]
theorem ziI (xs:List UInt8) (rec:Nat→Ex × Nat) (small:Bool) (a:Nat) (hr:∀ a,rgE (rec a).1=true):rgE (zbL xs rec small a).1=true:=by
 unfold zbL
 repeat' split
 all_goals simp only [zEZ,zBL,zBM,zBN,zHg,hr,Bool.and_true,Bool.true_and]
 all_goals first|exact zEY _ _ _ (by omega) (by omega)|exact zBK _ _ _ _ (by omega) (by omega) (by omega) (by omega)
theorem zpc (xs:List UInt8):∀ (d a:Nat),rgE (za2 xs d a).1=true
 |0,a=>ziI xs _ _ a (fun a=>rfl)
 |d+1,a=>ziI xs _ _ a (fun a=>zpc xs d a)
theorem zE0 (kind:Int) (nm:List UInt8) (p v:Ex) (b e:List Sm):rgS (smL kind nm p v b e)=(rgE p&&rgE v&&zim b&&zim e):=rfl
theorem zBO:zim []=true:=rfl
theorem zE1:rgE ex0=true:=rfl
theorem znH (xs:List UInt8) (rec:Int→Nat→List Sm × Nat) (small:Bool) (a:Nat) (hr:∀ m a,zim (rec m a).1=true):rgS (za5 xs rec small a).1=true:=by
 unfold za5
 dsimp only
 repeat' split
 all_goals simp only [zE0,zBO,zE1,zpc,hr,Bool.and_true,Bool.true_and]
theorem zeX (xs:List UInt8) (rec:Int→Nat→List Sm × Nat) (small:Bool) (hr:∀ m a,zim (rec m a).1=true):∀ (n a:Nat),zim (zaQ xs rec small n a).1=true
 |0,a=>rfl
 |n+1,a=>by simp only [zaQ,zim,znH xs rec small a hr,zeX xs rec small hr n,Bool.and_true]
theorem zmr (xs:List UInt8):∀ (d:Nat) (m:Int) (a:Nat),zim (zcb xs d m a).1=true
 |0,m,a=>zeX xs _ _ (fun _ _=>rfl) _ _
 |d+1,m,a=>zeX xs _ _ (fun m a=>zmr xs d m a) _ _
theorem ziJ (xs:List UInt8) (a:Nat):rgP (zaS xs a).1=true:=by
 unfold zaS rgP
 dsimp only
 have h1:=zaG xs a 7 (by omega)
 have h2:=zaG xs (nxt xs a 7).2 5 (by omega)
 have h3:=zaG xs (nxt xs (nxt xs a 7).2 5).2 3 (by omega)
 simp only [zmr,Bool.and_true,zcJ,List.all_cons,List.all_nil,rgV,zgK,Bool.and_eq_true,decide_eq_true_eq]
 omega
def zcu (xs:List UInt8):Nat→Nat→List PgD→List PgD × Nat
 |0,a,ps=>(ps,a)
 |n+1,a,ps=>zcu xs n (zaS xs a).2 (ps++[(zaS xs a).1])
def znI (xs:List UInt8) (a:Nat):StD × Nat:=
 (zg1 (1+(nxt xs a 14).1) [(zgt xs (nxt xs a 14).2).1,(zgt xs (zgt xs (nxt xs a 14).2).2).1],(zgt xs (zgt xs (nxt xs a 14).2).2).2)
def zep (xs:List UInt8):Nat→Nat→List StD→List StD × Nat
 |0,a,l=>(l,a)
 |n+1,a,l=>zep xs n (znI xs a).2 (l++[(znI xs a).1])
structure DrD where
 ps:List PgD
 protocol:Int
 faults:Int
 l:List StD
 at_:Nat
def zhf (xs:List UInt8):DrD:=
 ⟨(zcu xs (1+(nxt xs 0 3).1).toNat (nxt xs 0 3).2 []).1,
 1+(nxt xs (zcu xs (1+(nxt xs 0 3).1).toNat (nxt xs 0 3).2 []).2 8).1,
 (zgt xs (nxt xs (zcu xs (1+(nxt xs 0 3).1).toNat (nxt xs 0 3).2 []).2 8).2).1,
 (zep xs (nxt xs (zgt xs (nxt xs (zcu xs (1+(nxt xs 0 3).1).toNat (nxt xs 0 3).2 []).2 8).2).2 14).1.toNat (nxt xs (zgt xs (nxt xs (zcu xs (1+(nxt xs 0 3).1).toNat (nxt xs 0 3).2 []).2 8).2).2 14).2 []).1,
 (zep xs (nxt xs (zgt xs (nxt xs (zcu xs (1+(nxt xs 0 3).1).toNat (nxt xs 0 3).2 []).2 8).2).2 14).1.toNat (nxt xs (zgt xs (nxt xs (zcu xs (1+(nxt xs 0 3).1).toNat (nxt xs 0 3).2 []).2 8).2).2 14).2 []).2⟩
theorem zvC (xs:List UInt8) (a:Nat) (h:a≤xs.length):(znI xs a).2≤xs.length:=zgJ _ _ (zgJ _ _ (zaX _ _ _ h))
theorem ziK (xs:List UInt8):∀ (n a:Nat) (ps:List PgD),a≤xs.length→(zcu xs n a ps).2≤xs.length
 |0,_,_,h=>h
 |n+1,a,ps,h=>by rw [zcu];exact ziK xs n _ _ (zij xs a h)
theorem zms (xs:List UInt8):∀ (n a:Nat) (l:List StD),a≤xs.length→(zep xs n a l).2≤xs.length
 |0,_,_,h=>h
 |n+1,a,l,h=>by rw [zep];exact zms xs n _ _ (zvC xs a h)
theorem zmt (xs:List UInt8):∀ (n a:Nat) (ps:List PgD),(∀ p ∈ ps,szP p≤100000∧rgP p=true)→(∀ p ∈ (zcu xs n a ps).1,szP p≤100000∧rgP p=true)∧(zcu xs n a ps).1.length=ps.length+n
 |0,_,_,h=>⟨h,rfl⟩
 |n+1,a,ps,h=>by
  rw [zcu]
  have:=zmt xs n (zaS xs a).2 (ps++[(zaS xs a).1]) (by
   intro p hp
   rcases List.mem_append.1 hp with hp|hp
   ·exact h p hp
   ·simp at hp;subst hp;exact ⟨znk xs a,ziJ xs a⟩)
  refine ⟨this.1,?_⟩
  rw [this.2]
  simp
  omega
def zwl (x:StD):Prop:=zso x=true∧zeT x=true∧1≤x.kind∧x.kind≤14
theorem zvD (xs:List UInt8) (a:Nat):zwl (znI xs a).1:=by
 have h:=zaG xs a 14 (by omega)
 have r1:=znl xs (nxt xs a 14).2
 have r2:=znl xs (zgt xs (nxt xs a 14).2).2
 obtain ⟨z1,z2⟩:=zyj (1+(nxt xs a 14).1) [(zgt xs (nxt xs a 14).2).1,(zgt xs (zgt xs (nxt xs a 14).2).2).1]
 refine ⟨?_,z1,by show 1≤(zg1 _ _).kind;rw [z2];omega,by show (zg1 _ _).kind≤14;rw [z2];omega⟩
 refine zEO _ _ (by simp [zgK];omega) ?_
 intro n hn
 simp at hn
 rcases hn with rfl|rfl
 ·simp [zgK];omega
 ·simp [zgK];omega
theorem zmu (xs:List UInt8):∀ (n a:Nat) (l:List StD),(∀ x ∈ l,zwl x)→(∀ x ∈ (zep xs n a l).1,zwl x)∧(zep xs n a l).1.length=l.length+n
 |0,_,_,h=>⟨h,rfl⟩
 |n+1,a,l,h=>by
  rw [zep]
  have:=zmu xs n (znI xs a).2 (l++[(znI xs a).1]) (by
   intro p hp
   rcases List.mem_append.1 hp with hp|hp
   ·exact h p hp
   ·simp at hp;subst hp;exact zvD xs a)
  refine ⟨this.1,?_⟩
  rw [this.2]
  simp
  omega
structure DrOk (xs:List UInt8) (d:DrD):Prop where
 hp:∀ p ∈ d.ps,szP p≤1000000∧rgP p=true
 h1:1≤d.ps.length
 h3:d.ps.length≤3
 q1:1≤d.protocol
 q8:d.protocol≤8
 f:-9223372036854775808≤d.faults∧d.faults≤9223372036854775807
 hl:∀ x ∈ d.l,zwl x
 h14:d.l.length≤13
 ha:d.at_≤xs.length
theorem zvE (xs:List UInt8):DrOk xs (zhf xs):=by
 have n3:=zaG xs 0 3 (by omega)
 have l3:=zaX xs 0 3 (Nat.zero_le _)
 obtain ⟨p1,p2⟩:=zmt xs (1+(nxt xs 0 3).1).toNat (nxt xs 0 3).2 [] (by simp)
 have lp:=ziK xs (1+(nxt xs 0 3).1).toNat (nxt xs 0 3).2 [] l3
 unfold zhf
 generalize zcu xs (1+(nxt xs 0 3).1).toNat (nxt xs 0 3).2 []=P at *
 have n8:=zaG xs P.2 8 (by omega)
 have l8:=zaX xs P.2 8 lp
 generalize nxt xs P.2 8=Q at *
 have hf:=znl xs Q.2
 have lf:=zgJ xs Q.2 l8
 generalize zgt xs Q.2=F at *
 have n14:=zaG xs F.2 14 (by omega)
 have l14:=zaX xs F.2 14 lf
 generalize nxt xs F.2 14=N at *
 obtain ⟨s1,s2⟩:=zmu xs N.1.toNat N.2 [] (by simp)
 have ls:=zms xs N.1.toNat N.2 [] l14
 exact ⟨fun p hp=>by have:=p1 p hp;exact ⟨by omega,this.2⟩,by simp at p2 ⊢;omega,by simp at p2 ⊢;omega,by show 1≤1+Q.1;omega,by show 1+Q.1≤8;omega,hf,s1,by simp at s2 ⊢;omega,ls⟩
structure DrI (xs:List UInt8) (F:List PgD × Nat) where
 n:Nat
 a:Nat
 ps:List PgD
 ha:a≤xs.length
 hn:ps.length+n≤3
 eq:zcu xs n a ps=F
structure DsI (xs:List UInt8) (F:List StD × Nat) where
 n:Nat
 a:Nat
 l:List StD
 ha:a≤xs.length
 hn:l.length+n≤14
 eq:zep xs n a l=F
def zy5 (c:CdD):Prop:=CdSz c 1000000000
theorem zE2:zy5 cd0:=⟨by simp [cd0],by simp [cd0,zbh],by simp [cd0,zbh],by simp [cd0,zbh],by simp [cd0,zbh]⟩
theorem zvF (b:List UInt8):zy5 (zdF b).1:=by
 unfold zdF
 split
 ·exact zE2
 ·rw [zgY]
  have h:=znx (zmN b).1
  have hs:=zsu b
  exact ⟨h.1,by have:=h.2;omega,by have:=h.3;omega,by have:=h.4;omega,by have:=h.5;omega⟩
theorem zmv:∀ (f:Nat) (r:List (List UInt8)) (a:Int) (cs cs':List CdD) (r':List (List UInt8)) (a':Int),(∀ c ∈ cs,zy5 c)→cs.length≤5→zbT f r a cs=.ok cs' r' a'→(∀ c ∈ cs',zy5 c)∧cs'.length≤5
 |0,_,_,_,_,_,_,_,_,h=>by rw [zbT] at h;cases h
 |f+1,[],_,_,_,_,_,_,_,h=>by rw [zbT] at h;cases h
 |f+1,l::r,a,cs,cs',r',a',hc,hl,h=>by
  rw [zbT] at h
  split at h
  ·split at h
   ·cases h
   ·split at h
    ·cases h
    ·rename_i h5 _ b r2 hb
     split at h
     ·cases h
     ·refine zmv f _ _ _ _ _ _ ?_ ?_ h
      ·intro c hm
       rcases List.mem_append.1 hm with hm|hm
       ·exact hc c hm
       ·simp at hm;subst hm;exact zvF b
      ·simp;omega
  ·split at h
   ·cases h;exact ⟨hc,hl⟩
   ·cases h
theorem zjV (torn:Bool):∀ (r:List (List UInt8)) (a:Int) (xs:List StD),xs.length≤400→(zbG torn r a xs).1.length≤400
 |[],a,xs,h=>by
  rw [zbG]
  split
  ·simp
  ·exact h
 |l::r,a,xs,h=>by
  rw [zbG]
  split
  ·simp
  ·split
   ·simp
   ·exact zjV torn r _ _ (by simp;omega)
def zE3 (q:ScD × Int × Int):Prop:=(∀ c ∈ q.1.codes,zy5 c)∧q.1.codes.length≤5∧q.1.steps.length≤400
theorem zvG (a e:Int):zE3 (sc0,a,e):=⟨fun c h=>(by cases h),by simp [sc0],by simp [sc0]⟩
theorem zsX (ls:List (List UInt8)) (torn:Bool):zE3 (zdT ls torn):=by
 unfold zdT
 split
 ·exact zvG _ _
 ·split
  ·exact zvG _ _
  ·rename_i cs r a hp
   split
   ·exact zvG _ _
   ·obtain ⟨h1,h2⟩:=zmv _ _ _ _ _ _ _ (by simp) (by simp) hp
    exact ⟨h1,h2,zjV _ _ _ _ (by simp)⟩
theorem zvH (s:List UInt8):zE3 (zk1 s):=by
 rw [zsB]
 split
 ·exact zvG _ _
 ·exact zsX _ _
theorem znL (ps:List PgD) (p f:Int) (l:List StD):(zbB ps p f l).1.length≤65536:=by
 unfold zbB
 split
 ·simp
 ·split
  ·simp
  ·split
   ·simp
   ·split
    ·simp
    ·split
     ·simp
     ·rename_i h;simp only;omega
end Go.Abs
