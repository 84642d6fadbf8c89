/- A sound walk of the program by abstract states, part 3: its theorems have no condition beyond what they state. -/
import Derived.Test.YtfinhhblcdkpgaaGreatDoorLib2
import Derived.Shelf.Strings.Builder1
import Derived.Shelf.Strings.Split
import Derived.Lib.ParseIntB
import Derived.Lib.Bytealg
import Derived.Lib.Join
import Derived.Lib.ItoaNum
import Derived.ChangeSame
import Derived.ChangeStays
import Derived.WideKeyArgs
import Derived.Deep.Slices
import Derived.ProofKit
import Derived.WalkKit
import Derived.OpenShut
import Derived.ChangeMaps5
import Derived.ChangeSlices
import Derived.HandedShaped
import Derived.Handed
import Derived.Shelf.Vars
set_option maxRecDepth 100000
set_option maxHeartbeats 64000000
set_option linter.unusedSimpArgs false
set_option linter.unusedVariables false
set_option linter.defProp false
namespace Go.Abs
open Go Go.Proofs Go.Shelf Go.RowKit
def zzk (w:World) (v v':Value):Prop:=v'.ownBlock=v.ownBlock∨∃ g,v'.ownBlock=some g∧w.heap.size≤g
structure AppR (w:World) (e:TypeId) (v v':Value) (n:Nat) (xs:List Value) (w':World):Prop where
 own:w'.ownsRow 0 e 1 v' n xs
 grow:w.grownBy w' v.ownBlock
 place:zzk w v v'
section
variable {P:Program} (w:World)
theorem zqI (t u ty e:TypeId) (i:TypeInfo) (ht:P.underlying t=some (.slice e)) (hu:P.underlying u=some .string) (hi:P.info? e=some i) (hz:i.zero=some (.int .u8 0))
  (hsize:i.size=1) (hby:i.bytes=1) (v:Value) (n:Nat) (xs:List Value) (hown:w.ownsRow 0 e 1 v n xs) (s:ByteArray) (hbytes:n+s.size≤140737488355328) :
  ∃ v' w',(Builtin.append_ #[t,u] ty #[v,.string s]).run P w=.ok v' w'∧AppR w e v v' (n+s.size) (xs++Lib.strCells s) w':=by
 obtain ⟨v',w',hr,h2,h3,h4⟩:=Lib.run_append_own_string (P:=P) w 0 t u ty e i ht hu hi hz hsize hby v n xs hown s (by unfold maxLen;omega) hbytes (Nat.zero_le _)
 refine ⟨v',w',hr,h2,h3,?_⟩
 have hxl:xs.length=n:=by simpa using hown.1
 rcases hown.2 with ⟨rfl,rfl⟩|⟨g,cap,cur,rfl,hbg,hg,hnc,hcm,hcs,htake⟩
 ·by_cases hm:s.size=0
  ·have:=h4.2 ⟨rfl,hm⟩
   subst this
   exact .inl rfl
  ·have hr2:=run_append_nil_string (P:=P) w t u ty e i (.int .u8 0) ht hu hi hz s (by omega) (by omega) (by rw [hby];omega)
   rw [hr] at hr2
   injection hr2 with h5 h6
   exact .inr ⟨w.heap.size,by rw [h5];rfl,Nat.le_refl _⟩
 ·by_cases hroom:n+s.size≤cap
  ·have hcs':cur.size=cap:=by simpa using hcs
   have hr2:=Lib.run_append_room_string (P:=P) w t u ty e i ht hu hi hsize g n cap cur hg s hroom (by omega)
   rw [hr] at hr2
   injection hr2 with h5 h6
   exact .inl (by rw [h5];rfl)
  ·have holds:∀ j u,xs[j]?=some u→w.cell? ((⟨g,0,none⟩:Addr).add j)=some u:=hown.cells (g:=g) rfl
   have hr2:=Lib.run_append_grow_string (P:=P) w t u ty e i (.int .u8 0) ht hu hi hz ⟨g,0,none⟩ n cap xs (by rw [hsize];simpa using hxl) holds s (by omega) (by omega) (by rw [hby];exact growslice_fits (by omega) (by omega))
   rw [hr] at hr2
   injection hr2 with h5 h6
   exact .inr ⟨w.heap.size,by rw [h5];rfl,Nat.le_refl _⟩
theorem znx (t ty e:TypeId) (i:TypeInfo) (ht:P.underlying t=some (.slice e)) (hi:P.info? e=some i) (hz:i.zero=some (.int .u8 0))
  (hsize:i.size=1) (hby:i.bytes=1) (v:Value) (n:Nat) (xs:List Value) (hown:w.ownsRow 0 e 1 v n xs) (a:Addr) (c:Nat) (x:Value) (hx:w.cell? (a.add 0)=some x) (h1:x.oneCell'=true) (hbytes:n+1≤140737488355328) :
  ∃ v' w',(Builtin.append_ #[t,t] ty #[v,.slice (some a) 1 c]).run P w=.ok v' w'∧AppR w e v v' (n+1) (xs++[x]) w':=by
 have hnews:∀ j u,[x][j]?=some u→w.cell? (a.add j)=some u:=by
  intro j u hj
  match j,hj with
  |0,hj=>simp at hj;subst hj;exact hx
 have hone:∀ u ∈ [x],u.oneCell'=true:=by intro u hu;simp at hu;subst hu;exact h1
 obtain ⟨v',w',hr,h2,h3,h4⟩:=run_append_own (P:=P) w 0 t ty e i (.int .u8 0) 1 1 ht hi hz hsize hby rfl (by decide) v n xs hown a 1 c [x] rfl hnews hone (by unfold maxLen;omega) (by omega) (Nat.zero_le _)
 refine ⟨v',w',hr,h2,h3,?_⟩
 have hxl:xs.length=n:=by simpa using hown.1
 rcases hown.2 with ⟨rfl,rfl⟩|⟨g,cap,cur,rfl,hbg,hg,hnc,hcm,hcs,htake⟩
 ·have hr2:=run_append_nil (P:=P) w t ty e i (.int .u8 0) ht hi hz a 1 c [x] (by rw [hsize];rfl) hnews (by omega) (by omega) (by rw [hby];omega)
  rw [hr] at hr2
  injection hr2 with h5 h6
  exact .inr ⟨w.heap.size,by rw [h5];rfl,Nat.le_refl _⟩
 ·have hcs':cur.size=cap:=by simpa using hcs
  by_cases hroom:n+1≤cap
  ·have hr2:=run_append_room (P:=P) w t ty e i ht hi g n cap cur hg a 1 c [x] (by rw [hsize];rfl) hnews hone hroom (by rw [hsize];simp;omega)
   rw [hr] at hr2
   injection hr2 with h5 h6
   exact .inl (by rw [h5];rfl)
  ·have holds:∀ j u,xs[j]?=some u→w.cell? ((⟨g,0,none⟩:Addr).add j)=some u:=hown.cells (g:=g) rfl
   have hr2:=run_append_grow (P:=P) w t ty e i (.int .u8 0) ht hi hz ⟨g,0,none⟩ n cap xs (by rw [hsize];simpa using hxl) holds a 1 c [x] (by rw [hsize];rfl) hnews (by omega) (by omega) (by rw [hby];exact growslice_fits (by omega) (by omega))
   rw [hr] at hr2
   injection hr2 with h5 h6
   exact .inr ⟨w.heap.size,by rw [h5];rfl,Nat.le_refl _⟩
theorem zeO {ops:Array Oper} {rest:List Oper} {o:Oper} {a:Act} {Q:Exit→Act→World→Prop} (hgd:o.guard=none) (sl x:Operand) (t u:TypeId)
  (ho:o.op=.call { callee:=.builtin .append,args:=#[sl,x],argTypes:=#[t,u] }) (v y:Value) (hs:a.eval sl=v) (hx:a.eval x=y) {R:Value→World→Prop}
  (hr:∃ v' w',(Builtin.append_ #[t,u] o.type #[v,y]).run P w=.ok v' w'∧R v' w')
  (h:∀ v' w',R v' w'→wpList P ops Q rest (a.put o.dst v') w'):wpList P ops Q (o::rest) a w:=by
 refine wpList_plain hgd fun K hK=>?_
 obtain ⟨v',w',hr,h2⟩:=hr
 unfold Oper.wp execOp
 simp only [ho,resolve,invoke,builtin,Sem.run_bind,Sem.run_pure,Result.andThen_ok,List.map_toArray,List.map_cons,List.map_nil,hs,hx,hr]
 exact hK _ _ (h v' w' h2)
end
structure BPost (T e b:Nat) (w w':World) (v v':Value) (bs:List Value):Prop where
 head:w'.heap[b]?=some (.cells #[.pointer (some ⟨b,0,none⟩),v'] T (0,0))
 own:w'.ownsRow 0 e 1 v' bs.length bs
 place:zzk w v v'
 frame:∀ k,k<w.heap.size→k≠b→v.ownBlock≠some k→w'.heap[k]?=w.heap[k]?
 size:w.heap.size≤w'.heap.size
 os:w'.os=w.os
 tape:w'.tape=w.tape
 output:w'.output=w.output
section
variable {P:Program} {ρ:Ren}
theorem zld (L:Lays.n240 P ρ) (X:Builder.X72 P ρ) (b:Nat) (p v:Value) (w:World) (hbk:w.heap[b]?=some (.cells #[p,v] (ρ.t 72) (0,0))) (hp:p=.pointer none∨p=.pointer (some ⟨b,0,none⟩)) :
  Calls P (ρ.f 240) #[.pointer (some ⟨b,0,none⟩)] w fun e w1=>e=.returned (.tuple #[])∧(w1.heap[b]?=some (.cells #[.pointer (some ⟨b,0,none⟩),v] (ρ.t 72) (0,0))∧w.grownBy w1 (some b)∧w1.heap.size=w.heap.size):=by
 have h0:w.cell? ⟨b,0,none⟩=some p:=by rw [Lib.cell_of_heap hbk];rfl
 rcases hp with rfl|rfl
 ·refine (Any.Builder_copyCheck_fresh L X b w h0 (by simp [World.shape?,hbk]) (Lib.frozen_of_heap hbk 0)).mono ?_
  rintro e w' ⟨rfl,rfl⟩
  refine ⟨rfl,by simp [World.setCell,Array.getElem?_modify,hbk],⟨rfl,rfl,rfl,by simp [World.setCell],fun k _ hk=>Below.heap_setCell _ _ _ _ (fun e=>hk (by simp [e]))⟩,by simp [World.setCell]⟩
 ·refine (Any.Builder_copyCheck_used L X b w h0).mono ?_
  rintro e w' ⟨rfl,rfl⟩
  exact ⟨rfl,hbk,⟨rfl,rfl,rfl,Nat.le_refl _,fun _ _ _=>rfl⟩,rfl⟩
theorem zgK (L:Lays.n166 P ρ) (X:Builder.Extra P ρ) (b:Nat) (p v:Value) (bs:List Value) (s:ByteArray) (w:World) (hbk:w.heap[b]?=some (.cells #[p,v] (ρ.t 72) (0,0))) (hp:p=.pointer none∨p=.pointer (some ⟨b,0,none⟩))
  (hown:w.ownsRow 0 (ρ.t 5) 1 v bs.length bs) (hlen:bs.length+s.size≤140737488355328) :
  Calls P (ρ.f 166) #[.pointer (some ⟨b,0,none⟩),.string s] w fun e w'=>e=.returned (.tuple #[.int .i64 s.size,.nilIface])∧∃ v',BPost (ρ.t 72) (ρ.t 5) b w w' v v' (bs++Lib.strCells s):=by
 obtain ⟨i0,hi,hz0,hz1,hz2⟩:=info_parts X.infoByte
 have hne:v.ownBlock≠some b:=Lib.ownBlock_ne hown hbk X.neB5
 have hlt:b<w.heap.size:=by
  rcases Nat.lt_or_ge b w.heap.size with h'|h'
  ·exact h'
  ·simp [Array.getElem?_eq_none h'] at hbk
 have mixed:=L.mixed
 have t72:=L.t72;have a72:=L.a72;have z72:=L.z72;have v72:=L.v72;have u72:=run_underlying L.t72
 have t70:=L.t70;have a70:=L.a70;have z70:=L.z70;have v70:=L.v70;have u70:=run_underlying L.t70
 have t37:=L.t37;have a37:=L.a37;have z37:=L.z37;have v37:=L.v37;have u37:=run_underlying L.t37
 have t3:=L.t3;have a3:=L.a3;have z3:=L.z3;have v3:=L.v3;have u3:=run_underlying L.t3
 have t9:=L.t9;have a9:=L.a9;have z9:=L.z9;have v9:=L.v9;have u9:=run_underlying L.t9
 have t4:=L.t4;have a4:=L.a4;have z4:=L.z4;have v4:=L.v4;have u4:=run_underlying L.t4
 have t164:=L.t164;have a164:=L.a164;have z164:=L.z164;have v164:=L.v164;have u164:=run_underlying L.t164
 have t5:=X.t5;have a5:=X.a5;have z5:=X.z5;have v5:=X.v5;have u5:=run_underlying X.t5
 have e240:∀ args w,(callFunc (ρ.f 240) args).run P w=.ok (.enter (ρ.f 240) args) w:=enters_of L.f240 (by kernel_rfl) rfl
 go_enter L.f166,Body.n166_ntmps ρ
 go_wp2_with (go_at_fn (ρ.f 240);refine (zld { L with } X.toX72 b p v _ hbk hp).mono ?_)
 rintro e w1 ⟨rfl,hbk1,hg1,hs1⟩
 have HS:Hid (w1.heap.size=w.heap.size):=hs1
 clear hs1
 have hown1:=hown.kept hg1 (Or.inr hne)
 have c0:w1.cell? ⟨b,0,none⟩=some (.pointer (some ⟨b,0,none⟩)):=by rw [Lib.cell_of_heap hbk1];rfl
 have c1:w1.cell? ⟨b,1,none⟩=some v:=by rw [Lib.cell_of_heap hbk1];rfl
 go_wp2_with (at_builtin;refine zeO _ rfl _ _ (ρ.t 37) (ρ.t 9) rfl v (.string s) rfl rfl (zqI w1 (ρ.t 37) (ρ.t 9) _ (ρ.t 5) i0 L.t37 L.t9 hi hz0 hz1 hz2 v bs.length bs hown1 s hlen) ?_)
 rintro v' w2 hR
 have hs1:=HS.out
 have hown':=hR.own
 have hgrow:=hR.grow
 have hpl:=hR.place
 clear hR
 have hb2:w2.heap[b]?=some (.cells #[.pointer (some ⟨b,0,none⟩),v] (ρ.t 72) (0,0)):=by
  rw [hgrow.block b (by omega) (fun e=>hne e.symm)]
  exact hbk1
 have d0:w2.cell? ⟨b,0,none⟩=some (.pointer (some ⟨b,0,none⟩)):=by rw [Lib.cell_of_heap hb2];rfl
 have d1:w2.cell? ⟨b,1,none⟩=some v:=by rw [Lib.cell_of_heap hb2];rfl
 have f1:w2.frozen? ⟨b,1,none⟩=false:=Lib.frozen_of_heap hb2 1
 have hne':v'.ownBlock≠some b:=Lib.ownBlock_ne hown' hb2 X.neB5
 obtain ⟨ao,n',cap,rfl⟩:∃ ao n' cap,v'=.slice ao n' cap:=by
  rcases hown'.2 with ⟨hv,_⟩|⟨g,cap,cur,hv,_⟩
  ·exact ⟨_,_,_,hv⟩
  ·exact ⟨_,_,_,hv⟩
 clear hs1
 go_wp2
 go_ret2
 have hs1:=HS.out
 refine ⟨rfl,.slice ao n' cap,?_⟩
 refine ⟨by simp [World.setCell,Array.getElem?_modify,hb2],?_,?_,?_,?_,?_,?_,?_⟩
 ·have:=hown'.kept (row:=some b) (w':=w2.setCell ⟨b,1,none⟩ (.slice ao n' cap)) ⟨rfl,rfl,rfl,by simp [World.setCell],fun k _ hk=>Below.heap_setCell _ _ _ _ (fun e=>hk (by simp [e]))⟩ (Or.inr hne')
  simpa [Lib.strCells_length] using this
 ·rcases hpl with h|⟨g,h,hh⟩
  ·exact .inl h
  ·exact .inr ⟨g,h,by omega⟩
 ·intro k hk hkb hkv
  rw [Below.heap_setCell _ _ _ _ hkb,hgrow.block k (by omega) (fun e=>hkv e.symm),hg1.block k hk (by simpa using hkb)]
 ·have:=hgrow.size;simp [World.setCell];omega
 ·exact hgrow.os.trans hg1.os
 ·exact hgrow.tape.trans hg1.tape
 ·exact hgrow.output.trans hg1.output
theorem zjm (L:Lays.n167 P ρ) (X:Builder.Extra P ρ) (b:Nat) (p v:Value) (bs:List Value) (c:Int) (w:World) (hbk:w.heap[b]?=some (.cells #[p,v] (ρ.t 72) (0,0))) (hp:p=.pointer none∨p=.pointer (some ⟨b,0,none⟩))
  (hown:w.ownsRow 0 (ρ.t 5) 1 v bs.length bs) (hlen:bs.length+1≤140737488355328) :
  Calls P (ρ.f 167) #[.pointer (some ⟨b,0,none⟩),.int .u8 c] w fun e w'=>e=.returned .nilIface∧∃ v',BPost (ρ.t 72) (ρ.t 5) b w w' v v' (bs++[.int .u8 c]):=by
 obtain ⟨i0,hi,hz0,hz1,hz2⟩:=info_parts X.infoByte
 have hne:v.ownBlock≠some b:=Lib.ownBlock_ne hown hbk X.neB5
 have hlt:b<w.heap.size:=by
  rcases Nat.lt_or_ge b w.heap.size with h'|h'
  ·exact h'
  ·simp [Array.getElem?_eq_none h'] at hbk
 have mixed:=L.mixed
 have t72:=L.t72;have a72:=L.a72;have z72:=L.z72;have v72:=L.v72;have u72:=run_underlying L.t72
 have t70:=L.t70;have a70:=L.a70;have z70:=L.z70;have v70:=L.v70;have u70:=run_underlying L.t70
 have t5:=L.t5;have a5:=L.a5;have z5:=L.z5;have v5:=L.v5;have u5:=run_underlying L.t5
 have t37:=L.t37;have a37:=L.a37;have z37:=L.z37;have v37:=L.v37;have u37:=run_underlying L.t37
 have t9:=L.t9;have a9:=L.a9;have z9:=L.z9;have v9:=L.v9;have u9:=run_underlying L.t9
 have t4:=L.t4;have a4:=L.a4;have z4:=L.z4;have v4:=L.v4;have u4:=run_underlying L.t4
 have t164:=L.t164;have a164:=L.a164;have z164:=L.z164;have v164:=L.v164;have u164:=run_underlying L.t164
 have e240:∀ args w,(callFunc (ρ.f 240) args).run P w=.ok (.enter (ρ.f 240) args) w:=enters_of L.f240 (by kernel_rfl) rfl
 go_enter L.f167,Body.n167_ntmps ρ
 go_wp2_with (go_at_fn (ρ.f 240);refine (zld { L with } X.toX72 b p v _ hbk hp).mono ?_)
 rintro e w1 ⟨rfl,hbk1,hg1,hs1⟩
 have HS:Hid (w1.heap.size=w.heap.size):=hs1
 clear hs1
 have hown1:=hown.kept hg1 (Or.inr hne)
 have c0:w1.cell? ⟨b,0,none⟩=some (.pointer (some ⟨b,0,none⟩)):=by rw [Lib.cell_of_heap hbk1];rfl
 have c1:w1.cell? ⟨b,1,none⟩=some v:=by rw [Lib.cell_of_heap hbk1];rfl
 go_wp2_with (at_builtin;refine zeO _ rfl _ _ (ρ.t 37) (ρ.t 37) rfl v (.slice (some ⟨w1.heap.size,0,none⟩) 1 1) rfl rfl (znx _ (ρ.t 37) _ (ρ.t 5) i0 L.t37 hi hz0 hz1 hz2 v bs.length bs (hown1.alloc _) ⟨w1.heap.size,0,none⟩ 1 (.int .u8 c) ?cx rfl hlen) ?_)
 case cx=>simp [Addr.add]
 rintro v' w2 hR
 have hs1:=HS.out
 have hown':=hR.own
 have hgrow:=hR.grow
 have hpl:=hR.place
 clear hR
 have hb2:w2.heap[b]?=some (.cells #[.pointer (some ⟨b,0,none⟩),v] (ρ.t 72) (0,0)):=by
  rw [hgrow.block b (by simp;omega) (fun e=>hne e.symm),Lib.alloc_old w1 _ b (by omega)]
  exact hbk1
 have d0:w2.cell? ⟨b,0,none⟩=some (.pointer (some ⟨b,0,none⟩)):=by rw [Lib.cell_of_heap hb2];rfl
 have d1:w2.cell? ⟨b,1,none⟩=some v:=by rw [Lib.cell_of_heap hb2];rfl
 have f1:w2.frozen? ⟨b,1,none⟩=false:=Lib.frozen_of_heap hb2 1
 have hne':v'.ownBlock≠some b:=Lib.ownBlock_ne hown' hb2 X.neB5
 obtain ⟨g,cap,rfl⟩:∃ g cap,v'=.slice (some ⟨g,0,none⟩) (bs.length+1) cap:=by
  rcases hown'.2 with ⟨_,h0⟩|⟨g,cap,cur,hv,_⟩
  ·omega
  ·exact ⟨g,cap,hv⟩
 clear hs1
 go_wp2
 go_ret
 have hs1:=HS.out
 refine ⟨rfl,.slice (some ⟨g,0,none⟩) (bs.length+1) cap,?_⟩
 refine ⟨by simp [World.setCell,Array.getElem?_modify,hb2],?_,?_,?_,?_,?_,?_,?_⟩
 ·have:=hown'.kept (row:=some b) (w':=w2.setCell ⟨b,1,none⟩ (.slice (some ⟨g,0,none⟩) (bs.length+1) cap)) ⟨rfl,rfl,rfl,by simp [World.setCell],fun k _ hk=>Below.heap_setCell _ _ _ _ (fun e=>hk (by simp [e]))⟩ (Or.inr hne')
  simpa using this
 ·rcases hpl with h|⟨g',h,hh⟩
  ·exact .inl h
  ·exact .inr ⟨g',h,by simp at hh;omega⟩
 ·intro k hk hkb hkv
  rw [Below.heap_setCell _ _ _ _ hkb,hgrow.block k (by simp;omega) (fun e=>hkv e.symm),Lib.alloc_old w1 _ k (by omega),hg1.block k hk (by simpa using hkb)]
 ·have:=hgrow.size;simp at this;simp [World.setCell];omega
 ·exact hgrow.os.trans hg1.os
 ·exact hgrow.tape.trans hg1.tape
 ·exact hgrow.output.trans hg1.output
theorem zi0 (w:World) (g n:Nat):w.grownBy (w.drew.freeze ⟨g,0,none⟩ n) (some g):=by
 unfold World.freeze
 split
 ·exact ⟨rfl,rfl,rfl,Nat.le_refl _,fun _ _ _=>rfl⟩
 ·exact ⟨rfl,rfl,rfl,by rw [Array.size_modify];exact Nat.le_refl _,fun k _ hk=>by
   simp only [Array.getElem?_modify]
   rw [if_neg (fun e=>hk (by simp [e]))]
   rfl⟩
theorem ztp (L:Lays.n169 P ρ) (X:Builder.Extra P ρ) (b:Nat) (p v:Value) (l:List UInt8) (w:World) (hbk:w.heap[b]?=some (.cells #[p,v] (ρ.t 72) (0,0)))
  (hown:w.ownsRow 0 (ρ.t 5) 1 v l.length (Lib.byteCells l)) (h0:l≠[]) :
  Calls P (ρ.f 169) #[.pointer (some ⟨b,0,none⟩)] w fun e w'=>e=.returned (.string ⟨l.toArray⟩)∧w.grownBy w' v.ownBlock:=by
 have hl0:l.length≠0:=by simpa using h0
 obtain ⟨g,cap,cur,rfl,hbg,hg,hnc,hcm,hcs,htake⟩:∃ g cap cur,v=.slice (some ⟨g,0,none⟩) l.length cap∧0≤g∧w.heap[g]?=some (.cells cur (ρ.t 5) (0,0))∧l.length≤cap∧cap≤maxLen∧cur.size=cap * 1∧cur.toList.take (l.length * 1)=Lib.byteCells l:=by
  rcases hown.2 with ⟨_,hz⟩|⟨g,cap,cur,hv,r⟩
  ·exact absurd hz hl0
  ·exact ⟨g,cap,cur,hv,r⟩
 have c1:w.drew.cell? ⟨b,1,none⟩=some (.slice (some ⟨g,0,none⟩) l.length cap):=by
  have:w.drew.heap[b]?=some (.cells #[p,.slice (some ⟨g,0,none⟩) l.length cap] (ρ.t 72) (0,0)):=hbk
  rw [Lib.cell_of_heap this];rfl
 have hSD:(Builtin.unsafeSliceData_ #[(ρ.t 37)] (ρ.t 127) #[.slice (some ⟨g,0,none⟩) l.length cap]).run P w.drew=.ok (.pointer (some ⟨g,0,none⟩)) w.drew:=
  Lib.run_unsafeSliceData_row _ _ _ _ _ _ (by omega)
 have hUS:(Builtin.unsafeString_ #[(ρ.t 127),(ρ.t 3)] (ρ.t 9) #[.pointer (some ⟨g,0,none⟩),.int .i64 l.length]).run P w.drew=.ok (.string ⟨l.toArray⟩) (w.drew.freeze ⟨g,0,none⟩ l.length):=by
  refine Lib.run_unsafeString_row w.drew (ρ.t 127) (ρ.t 3) (ρ.t 9) (ρ.t 5) L.t127 X.cellsByte g cur.size (by have hg':w.drew.heap[g]?=some (.cells cur (ρ.t 5) (0,0)):=hg;simp [World.shape?,hg']) l h0 (by omega) (by unfold maxLen at hcm;omega) ?_
  intro j x hx
  have:=hown.cells (g:=g) rfl j (.int .u8 x.toNat) (by simp [Lib.byteCells,hx])
  exact this
 have HG:=zi0 w g l.length
 have mixed:=L.mixed
 have t72:=L.t72;have a72:=L.a72;have z72:=L.z72;have v72:=L.v72;have u72:=run_underlying L.t72
 have t70:=L.t70;have a70:=L.a70;have z70:=L.z70;have v70:=L.v70;have u70:=run_underlying L.t70
 have t37:=L.t37;have a37:=L.a37;have z37:=L.z37;have v37:=L.v37;have u37:=run_underlying L.t37
 have t127:=L.t127;have a127:=L.a127;have z127:=L.z127;have v127:=L.v127;have u127:=run_underlying L.t127
 have t3:=L.t3;have a3:=L.a3;have z3:=L.z3;have v3:=L.v3;have u3:=run_underlying L.t3
 have t9:=L.t9;have a9:=L.a9;have z9:=L.z9;have v9:=L.v9;have u9:=run_underlying L.t9
 have t5:=X.t5;have a5:=X.a5;have z5:=X.z5;have v5:=X.v5;have u5:=run_underlying X.t5
 go_enter L.f169,Body.n169_ntmps ρ
 go_wp2
 go_region_o
 all_goals (go_wp2;go_ret;exact ⟨rfl,HG⟩)
theorem bString (L:Lays.n169 P ρ) (X:Builder.Extra P ρ) (b:Nat) (p v:Value) (l:List UInt8) (w:World) (hbk:w.heap[b]?=some (.cells #[p,v] (ρ.t 72) (0,0)))
  (hown:w.ownsRow 0 (ρ.t 5) 1 v l.length (Lib.byteCells l)) :
  Calls P (ρ.f 169) #[.pointer (some ⟨b,0,none⟩)] w fun e w'=>e=.returned (.string ⟨l.toArray⟩)∧w.grownBy w' v.ownBlock:=by
 have fin:∀ {w':World},Below w.heap.size w w'→w.grownBy w' v.ownBlock:=fun h=>⟨h.os,h.tape,h.output,h.size,fun k hk _=>h.block k hk⟩
 cases l with
 |nil=>
  rcases hown.2 with ⟨rfl,_⟩|⟨g,cap,cur,rfl,hbg,hg,_,_,_,_⟩
  ·exact (Any.Builder_String_nil L X w.heap.size b p w hbk).mono (fun _ _ h=>⟨h.1,fin h.2⟩)
  ·by_cases hc0:cap=0
   ·subst hc0
    exact (Any.Builder_String_noroom L X w.heap.size b g p cur w (Nat.le_refl _) hbk hg).mono (fun _ _ h=>⟨h.1,fin h.2⟩)
   ·exact (Any.Builder_String_room L X w.heap.size b g cap p w hc0 hbk).mono (fun _ _ h=>⟨h.1,fin h.2⟩)
 |cons x r=>exact ztp L X b p v (x::r) w hbk hown (by simp)
end
/-! ### Contracts -/
theorem zms {g:Gh} {D:Nat→Prop} {M:Mem} {w:World} {e id:Nat} {t:List UInt8} (h:OR g D M w id (.bb e t)):w.ownsRow 0 e 1 (zht g id t.length) t.length (zbD t):=by
 refine ⟨by simp [zbD],?_⟩
 unfold zht
 cases hν:g.ν id with
 |true=>exact .inl ⟨by simp,by rw [h.1 hν];rfl⟩
 |false=>
  obtain ⟨cur,h1,h2,h3,h4,h5⟩:=h.2 hν
  exact .inr ⟨g.ρ id,g.κ id,cur,by simp,Nat.zero_le _,h1,h2,h3,by omega,by simpa using h5⟩
theorem zfQ (g:Gh) (B n:Nat) (k:Nat):(zht g B n).ownBlock=some k→g.ν B=false∧g.ρ B=k:=by
 unfold zht
 cases hν:g.ν B<;>simp [Value.ownBlock]
theorem zqJ {a b c:AObj} {id:Nat} {o:AObj} (h:[some a,some b,some c].getD id none=some o):(id=0∧o=a)∨(id=1∧o=b)∨(id=2∧o=c):=by
 match id,h with
 |0,h=>simp at h;exact .inl ⟨rfl,h.symm⟩
 |1,h=>simp at h;exact .inr (.inl ⟨rfl,h.symm⟩)
 |2,h=>simp at h;exact .inr (.inr ⟨rfl,h.symm⟩)
 |n+3,h=>simp [List.getD] at h
theorem AC.bwrite {P:Program} {gl:Nat→Option (List PVal)} {f:FuncId} {T e:Nat} {t s:List UInt8} {q:PVal} {res:AVal} (hTe:T≠e)
  (h:∀ (w:World) (b:Nat) (p v y:Value) (M:Mem),Rd M q y→w.heap[b]?=some (.cells #[p,v] T (0,0))→(p=.pointer none∨p=.pointer (some ⟨b,0,none⟩))→w.ownsRow 0 e 1 v t.length (zbD t) →
   Calls P f #[.pointer (some ⟨b,0,none⟩),y] w fun en w'=>∃ r v',en=.returned r∧(∀ g D M',V g D M' res r)∧BPost T e b w w' v v' (zbD s)) :
  AC P gl f [.ref 0 0,.pv q] [some (.bh T e 1 t.length),some (.bb e t)] res [some (.bh T e 2 s.length),some .dead,some (.bb e s)]:=by
 intro w M g vargs hR hG
 have hl:vargs.length=2:=by simpa using hR.size
 match vargs,hl with
 |[x0,x1],_=>
  have h0:V g _ M (.ref 0 0) x0:=hR.slots 0 (by simp)
  have h1:V g _ M (.pv q) x1:=hR.slots 1 (by simp)
  have h1:=h1.pv_inv
  obtain ⟨hD,hn0,p,hheap,hp⟩:OR g _ M w 0 (.bh T e 1 t.length):=hR.objs 0 _ rfl
  have hbb:OR g _ M w 1 (.bb e t):=hR.objs 1 _ rfl
  have hown:=zms hbb
  cases h0
  refine Calls.mono (h w (g.ρ 0) p (zht g 1 t.length) x1 M h1 hheap hp hown) ?_
  rintro en w' ⟨r,v',rfl,hv,hB⟩
  have hne':v'.ownBlock≠some (g.ρ 0):=Lib.ownBlock_ne hB.own hB.head hTe
  have hlt:g.ρ 0<w.heap.size:=(Array.getElem?_eq_some_iff.1 hheap).1
  have hso:(zbD s).length=s.length:=by simp [zbD]
  obtain ⟨r2,k2,n2,hbuf,hs0,hs1,hpl,hr0⟩:∃ (r2 k2:Nat) (n2:Bool),v'=(if n2 then .slice none 0 0 else .slice (some ⟨r2,0,none⟩) s.length k2)∧(n2=true→s=[]) ∧
    (n2=false→∃ cur,w'.heap[r2]?=some (.cells cur e (0,0))∧s.length≤k2∧k2≤9223372036854775807∧cur.size=k2∧cur.toList.take s.length=zbD s) ∧
    (n2=false→(g.ν 1=false∧g.ρ 1=r2)∨w.heap.size≤r2)∧(n2=false→r2≠g.ρ 0):=by
   rcases hB.own.2 with ⟨hv',hn⟩|⟨g2,cap,cur,hv',_,hg2,hnc,hcm,hcs,htake⟩
   ·exact ⟨0,0,true,by simpa using hv',fun _=>List.eq_nil_of_length_eq_zero (by omega),by simp,by simp,by simp⟩
   ·rw [hso] at hv' hnc htake
    refine ⟨g2,cap,false,by simpa using hv',by simp,fun _=>⟨cur,hg2,hnc,hcm,by omega,by simpa using htake⟩,fun _=>?_,fun _ hc=>hne' (by rw [hv',hc];rfl)⟩
    have ho:v'.ownBlock=some g2:=by rw [hv'];rfl
    rcases hB.place with h'|⟨g3,h',hh⟩
    ·rw [ho] at h'
     exact .inl (zfQ g 1 _ _ h'.symm)
    ·rw [ho] at h'
     injection h' with h'
     exact .inr (by omega)
  have hsat:∀ b i u,M b i=some u→w'.cell? ⟨b,i,none⟩=some u:=by
   intro b i u hu
   have hc:=hR.sat b i u hu
   have hb:b<w.heap.size:=World.block_lt_of_cell? w ⟨b,i,none⟩ hc
   have e1:b≠g.ρ 0:=fun hbe=>by
    have:=hR.offM 0 (.bh T e 1 t.length) b rfl (by simp [za0,hbe]) i
    rw [this] at hu;cases hu
   have e2:(zht g 1 t.length).ownBlock≠some b:=fun hbe=>by
    obtain ⟨hν,hρ⟩:=zfQ g 1 _ _ hbe
    have:=hR.offM 1 (.bb e t) b rfl (by simp [za0,hν,hρ]) i
    rw [this] at hu;cases hu
   exact (World.cell?_of_block (w:=w) (w':=w') (a:=⟨b,i,none⟩) (hB.frame b hb e1 e2)).trans hc
  have hoffN:∀ b i,w.heap.size≤b→M b i=none:=by
   intro b i hb
   cases hm:M b i with
   |none=>rfl
   |some u=>
    have:=World.block_lt_of_cell? w ⟨b,i,none⟩ (hR.sat b i u hm)
    simp at this
    omega
  refine ⟨r,⟨fun id=>if id=2 then r2 else g.ρ id,fun id=>if id=2 then k2 else g.κ id,fun id=>if id=2 then n2 else g.ν id⟩,M,rfl,⟨rfl,rfl,fun i hi=>?_,fun id o ho=>?_,fun id id' o o' b ho ho' hb hb'=>?_,fun id o b ho hb i=>?_,hsat,Mem.le_refl _,fun _ _ _ _=>rfl,hB.size,fun b hb hnb=>?_,fun id o b ho hb=>?_,hB.os,hB.tape,hB.output⟩,fun id hid=>?_⟩
  ·have hi0:i=0:=by simpa using hi
   subst hi0
   exact hv _ _ _
  ·rcases zqJ ho with ⟨rfl,rfl⟩|⟨rfl,rfl⟩|⟨rfl,rfl⟩
   ·refine ⟨by simp [St.dom,St.obj],fun hν=>by rw [hs0 (by simpa using hν)];rfl,.pointer (some ⟨g.ρ 0,0,none⟩),?_,.inr (by simp)⟩
    have hh:=hB.head
    rw [hbuf] at hh
    simpa [zht] using hh
   ·trivial
   ·exact ⟨fun hν=>hs0 (by simpa using hν),fun hν=>by simpa using hs1 (by simpa using hν)⟩
  ·rcases zqJ ho with ⟨rfl,rfl⟩|⟨rfl,rfl⟩|⟨rfl,rfl⟩<;>rcases zqJ ho' with ⟨rfl,rfl⟩|⟨rfl,rfl⟩|⟨rfl,rfl⟩
   ·rfl
   ·simp [za0] at hb'
   ·exfalso
    simp [za0] at hb hb'
    exact hr0 hb'.1 (by omega)
   ·simp [za0] at hb
   ·rfl
   ·simp [za0] at hb
   ·exfalso
    simp [za0] at hb hb'
    exact hr0 hb.1 (by omega)
   ·simp [za0] at hb'
   ·rfl
  ·rcases zqJ ho with ⟨rfl,rfl⟩|⟨rfl,rfl⟩|⟨rfl,rfl⟩
   ·exact hR.offM 0 (.bh T e 1 t.length) b rfl (by simpa [za0] using hb) i
   ·simp [za0] at hb
   ·simp [za0] at hb
    rcases hpl hb.1 with ⟨hν,hρ⟩|hge
    ·exact hR.offM 1 (.bb e t) b rfl (by simp [za0,hν];omega) i
    ·exact hoffN b i (by omega)
  ·have e1:b≠g.ρ 0:=fun hbe=>hnb ⟨0,_,rfl,by simp [za0,hbe]⟩
   have e2:(zht g 1 t.length).ownBlock≠some b:=fun hbe=>by
    obtain ⟨hν,hρ⟩:=zfQ g 1 _ _ hbe
    exact hnb ⟨1,_,rfl,by simp [za0,hν,hρ]⟩
   exact hB.frame b hb e1 e2
  ·rcases zqJ ho with ⟨rfl,rfl⟩|⟨rfl,rfl⟩|⟨rfl,rfl⟩
   ·exact .inl ⟨0,_,rfl,by simpa [za0] using hb⟩
   ·simp [za0] at hb
   ·simp [za0] at hb
    rcases hpl hb.1 with ⟨hν,hρ⟩|hge
    ·exact .inl ⟨1,_,rfl,by simp [za0,hν];omega⟩
    ·exact .inr (show w.heap.size≤b by omega)
  ·have:id≠2:=fun he=>by subst he;simp [zak] at hid
   simp [Gh.agree,this]
theorem ztq {a b:AObj} {id:Nat} {o:AObj} (h:[some a,some b].getD id none=some o):(id=0∧o=a)∨(id=1∧o=b):=by
 match id,h with
 |0,h=>simp at h;exact .inl ⟨rfl,h.symm⟩
 |1,h=>simp at h;exact .inr ⟨rfl,h.symm⟩
 |n+2,h=>simp [List.getD] at h
theorem AC.bstring {P:Program} {gl:Nat→Option (List PVal)} {f:FuncId} {T e:Nat} {t:List UInt8}
  (h:∀ (w:World) (b:Nat) (p v:Value),w.heap[b]?=some (.cells #[p,v] T (0,0))→w.ownsRow 0 e 1 v t.length (zbD t) →
   Calls P f #[.pointer (some ⟨b,0,none⟩)] w fun en w'=>en=.returned (.string ⟨t.toArray⟩)∧w.grownBy w' v.ownBlock) :
  AC P gl f [.ref 0 0] [some (.bh T e 1 t.length),some (.bb e t)] (.pv (.str t)) [some .dead,some .dead]:=by
 intro w M g vargs hR hG
 have hl:vargs.length=1:=by simpa using hR.size
 match vargs,hl with
 |[x0],_=>
  have h0:V g _ M (.ref 0 0) x0:=hR.slots 0 (by simp)
  obtain ⟨hD,hn0,p,hheap,hp⟩:OR g _ M w 0 (.bh T e 1 t.length):=hR.objs 0 _ rfl
  have hbb:OR g _ M w 1 (.bb e t):=hR.objs 1 _ rfl
  have hown:=zms hbb
  cases h0
  refine Calls.mono (h w (g.ρ 0) p (zht g 1 t.length) hheap hown) ?_
  rintro en w' ⟨rfl,hB⟩
  have hsat:∀ b i u,M b i=some u→w'.cell? ⟨b,i,none⟩=some u:=by
   intro b i u hu
   have hc:=hR.sat b i u hu
   have hb:b<w.heap.size:=World.block_lt_of_cell? w ⟨b,i,none⟩ hc
   have e2:(zht g 1 t.length).ownBlock≠some b:=fun hbe=>by
    obtain ⟨hν,hρ⟩:=zfQ g 1 _ _ hbe
    have:=hR.offM 1 (.bb e t) b rfl (by simp [za0,hν,hρ]) i
    rw [this] at hu;cases hu
   exact (World.cell?_of_block (w:=w) (w':=w') (a:=⟨b,i,none⟩) (hB.block b hb (fun e=>e2 e.symm))).trans hc
  refine ⟨_,g,M,rfl,⟨rfl,rfl,fun i hi=>?_,fun id o ho=>?_,fun id id' o o' b ho ho' hb hb'=>?_,fun id o b ho hb i=>?_,hsat,Mem.le_refl _,fun _ _ _ _=>rfl,hB.size,fun b hb hnb=>?_,fun id o b ho hb=>?_,hB.os,hB.tape,hB.output⟩,fun id hid=>⟨rfl,rfl,rfl⟩⟩
  ·have hi0:i=0:=by simpa using hi
   subst hi0
   exact zwh _ _ _ _
  ·rcases ztq ho with ⟨rfl,rfl⟩|⟨rfl,rfl⟩<;>trivial
  ·rcases ztq ho with ⟨rfl,rfl⟩|⟨rfl,rfl⟩<;>simp [za0] at hb
  ·rcases ztq ho with ⟨rfl,rfl⟩|⟨rfl,rfl⟩<;>simp [za0] at hb
  ·exact hB.block b hb (fun hbe=>by
    obtain ⟨hν,hρ⟩:=zfQ g 1 _ _ hbe.symm
    exact hnb ⟨1,_,rfl,by simp [za0,hν,hρ]⟩)
  ·rcases ztq ho with ⟨rfl,rfl⟩|⟨rfl,rfl⟩<;>simp [za0] at hb
theorem AC.blen {P:Program} {gl:Nat→Option (List PVal)} {f:FuncId} {T e:Nat} {t:List UInt8}
  (h:∀ (w:World) (b:Nat) (p v:Value),w.heap[b]?=some (.cells #[p,v] T (0,0))→(p=.pointer none∨p=.pointer (some ⟨b,0,none⟩))→w.ownsRow 0 e 1 v t.length (zbD t) →
   Calls P f #[.pointer (some ⟨b,0,none⟩)] w fun en w'=>en=.returned (.int .i64 t.length)∧w'=w) :
  AC P gl f [.ref 0 0] [some (.bh T e 1 t.length),some (.bb e t)] (.pv (.int .i64 t.length)) [some (.bh T e 1 t.length),some (.bb e t)]:=by
 intro w M g vargs hR hG
 have hl:vargs.length=1:=by simpa using hR.size
 match vargs,hl with
 |[x0],_=>
  have h0:V g _ M (.ref 0 0) x0:=hR.slots 0 (by simp)
  obtain ⟨hD,hn0,p,hheap,hp⟩:OR g _ M w 0 (.bh T e 1 t.length):=hR.objs 0 _ rfl
  have hbb:OR g _ M w 1 (.bb e t):=hR.objs 1 _ rfl
  have hown:=zms hbb
  cases h0
  refine Calls.mono (h w (g.ρ 0) p (zht g 1 t.length) hheap hp hown) ?_
  rintro en w' ⟨rfl,rfl⟩
  refine ⟨_,g,M,rfl,⟨rfl,rfl,fun i hi=>?_,hR.objs,hR.apart,hR.offM,hR.sat,hR.M0,hR.Mnew,hR.size0,hR.same,hR.own0,hR.os,hR.tape,hR.output⟩,fun id hid=>⟨rfl,rfl,rfl⟩⟩
  have hi0:i=0:=by simpa using hi
  subst hi0
  exact zzj _ _ _ _ _
theorem zmt (s:List UInt8):Lib.strCells ⟨s.toArray⟩=zbD s:=by simp [Lib.strCells,zbD]
theorem zfR (a b:List UInt8):zbD (a++b)=zbD a++zbD b:=by simp [zbD]
section
variable {P:Program} {ρ:Ren} {gl:Nat→Option (List PVal)}
theorem AC.bString (L:Lays.n169 P ρ) (X:Builder.Extra P ρ) (t:List UInt8) :
  AC P gl (ρ.f 169) [.ref 0 0] [some (.bh (ρ.t 72) (ρ.t 5) 1 t.length),some (.bb (ρ.t 5) t)] (.pv (.str t)) [some .dead,some .dead]:=
 AC.bstring fun w b p v hbk hown=>Go.Abs.bString L X b p v t w hbk hown
theorem AC.bLen (L:Lays.n170 P ρ) (hne:ρ.t 72≠ρ.t 5) (t:List UInt8) :
  AC P gl (ρ.f 170) [.ref 0 0] [some (.bh (ρ.t 72) (ρ.t 5) 1 t.length),some (.bb (ρ.t 5) t)] (.pv (.int .i64 t.length)) [some (.bh (ρ.t 72) (ρ.t 5) 1 t.length),some (.bb (ρ.t 5) t)]:=
 AC.blen fun w b p v hbk hp hown=>by
  have hb:t.length=(zbD t).length:=by simp [zbD]
  have hnb:=Lib.ownBlock_ne hown hbk hne
  rw [hb] at hown
  have:=Any.Builder_Len L 0 b (zbD t) w (hp.elim (fun e=>.inl ⟨Nat.zero_le _,v,e ▸ hbk,hown,hnb⟩) (fun e=>.inr ⟨Nat.zero_le _,v,e ▸ hbk,hown,hnb⟩))
  rw [←hb] at this
  exact this
end
end Go.Abs
namespace Go.Abs
open Go Go.Proofs Go.Shelf Go.RowKit
def zan (c:UInt8):List UInt8→List (List UInt8)
 |[]=>[[]]
 |x::r=>if x=c then []::zan c r else match zan c r with
  |[]=>[[x]]
  |h::t=>(x::h)::t
theorem zbO (c:UInt8):∀ s,zan c s≠[]
 |[]=>by simp [zan]
 |x::r=>by
  unfold zan
  split
  ·simp
  ·split<;>simp
theorem zhU (c:UInt8):∀ s,c ∉ s→zan c s=[s]
 |[],_=>rfl
 |x::r,h=>by
  have h1:x≠c:=fun e=>h (by simp [e])
  rw [zan,if_neg h1,zhU c r (fun e=>h (by simp [e]))]
theorem zjn (c:UInt8) (r:List UInt8):∀ a,c ∉ a→zan c (a++c::r)=a::zan c r
 |[],_=>by simp [zan]
 |x::a,h=>by
  have h1:x≠c:=fun e=>h (by simp [e])
  rw [List.cons_append,zan,if_neg h1,zjn c r a (fun e=>h (by simp [e]))]
theorem zqK (c:UInt8):∀ (n:Nat) (s:ByteArray),s.size≤n→(Lib.splitB ⟨#[c]⟩ 0 (Lib.countB s ⟨#[c]⟩) s).map (fun b=>b.data.toList)=zan c s.data.toList:=by
 intro n
 induction n with
 |zero=>
  intro s hs
  have e:s.data.toList=[]:=List.eq_nil_of_length_eq_zero (by rw [Array.length_toList];exact Nat.le_zero.1 hs)
  have hi:Lib.indexB s ⟨#[c]⟩=-1:=by
   show Lib.index _ _=_
   rw [e];rfl
  rw [Lib.splitB_miss _ _ _ _ hi,e]
  simp [e,zan]
 |succ n ih=>
  intro s hs
  have h1:Lib.index s.data.toList [c]=Lib.indexByte s.data.toList c:=Lib.index_one _ _
  have hge:=Lib.indexByte_ge s.data.toList c
  by_cases hm:Lib.indexByte s.data.toList c=-1
  ·have hi:Lib.indexB s ⟨#[c]⟩=-1:=h1.trans hm
   rw [Lib.splitB_miss _ _ _ _ hi]
   have hno:c ∉ s.data.toList:=fun hc=>by
    obtain ⟨k,hk,he⟩:=List.getElem_of_mem hc
    exact Lib.indexByte_none hm k (by rw [List.getElem?_eq_getElem hk,he])
   rw [zhU c _ hno]
   rfl
  ·obtain ⟨i,hi⟩:∃ i:Nat,Lib.indexByte s.data.toList c=i:=⟨(Lib.indexByte s.data.toList c).toNat,by omega⟩
   have hB:Lib.indexB s ⟨#[c]⟩=i:=h1.trans hi
   obtain ⟨hc,hno⟩:=Lib.indexByte_some hi
   obtain ⟨hlt,hce⟩:=List.getElem?_eq_some_iff.1 hc
   rw [Lib.countB_hit s ⟨#[c]⟩ i (Nat.le_refl 1) hB,Nat.add_comm,Lib.splitB_hit _ _ _ _ i hB]
   have hd:s.data.toList=s.data.toList.take i++c::s.data.toList.drop (i+1):=by
    rw [←hce,List.getElem_cons_drop,List.take_append_drop]
   have hnc:c ∉ s.data.toList.take i:=fun hm'=>by
    obtain ⟨k,hk,he⟩:=List.getElem_of_mem hm'
    have hk':k<i:=by simp at hk;omega
    refine hno k hk' ?_
    rw [List.getElem_take] at he
    rw [List.getElem?_eq_getElem (by omega),he]
   conv=>rhs;rw [hd,zjn c _ _ hnc]
   rw [List.map_cons,ih (s.extract (i+(ByteArray.mk #[c]).size) s.size) (by simp [ByteArray.size_extract];have:(ByteArray.mk #[c]).size=1:=rfl;omega)]
   congr 1
   ·simp [ByteArray.data_extract]
   ·rw [Lib.extract_to_end]
    rfl
theorem AC.ofTexts {P:Program} {gl:Nat→Option (List PVal)} {f:FuncId} {ps:List PVal} {us:List (List UInt8)}
  (h:∀ (w:World) (M:Mem) (vs:List Value),vs.length=ps.length→(∀ i,i<ps.length→Rd M (ps.getD i .nilptr) (vs.getD i undef))→(∀ b i u,M b i=some u→w.cell? ⟨b,i,none⟩=some u) →
   GOK ⟨fun _=>none,gl,fun _=>0,0⟩ M→(∀ b cs,gl b=some cs→cs≠[]→∃ vals T l,w.heap[b]?=some (.cells vals T l)∧vals.size=cs.length) →
   Calls P f vs.toArray w fun e w'=>∃ T,e=.returned (.slice (some ⟨w.heap.size,0,none⟩) us.length us.length)∧w'=w.alloc (.cells (us.map fun s=>Value.string ⟨s.toArray⟩).toArray T)) :
  AC P gl f (ps.map .pv) [] (.pv (.slice (us.map fun s=>[.str s]))) []:=by
 intro w M g vargs hR hG
 have hl:vargs.length=ps.length:=by simpa using hR.size
 refine Calls.mono (h w M vargs hl (fun i hi=>?_) hR.sat hG.1 (fun b cs hb hne=>(hG.2 b cs hb hne).2)) ?_
 ·have:=hR.slots i (by simpa using hi)
  have e1:St.slot ⟨ps.map .pv,[]⟩ i=.pv (ps.getD i .nilptr):=by simp [St.slot,List.getD,hi]
  rw [e1] at this
  have e2:vargs.toArray.getD i undef=vargs.getD i undef:=by simp [List.getD]
  rw [←e2]
  exact this.pv_inv
 ·rintro e w' ⟨T,rfl,rfl⟩
  have hoff:∀ i,M w.heap.size i=none:=by
   intro i
   cases hm:M w.heap.size i with
   |none=>rfl
   |some u=>
    have:=World.block_lt_of_cell? w ⟨w.heap.size,i,none⟩ (hR.sat _ i u hm)
    simp at this
  have hx:Ext w (w.alloc (.cells (us.map fun s=>Value.string ⟨s.toArray⟩).toArray T)):=(Below.refl _ w).alloc (Nat.le_refl _) _
  refine ⟨_,g,fun b i=>if b=w.heap.size then (us[i]?).map (fun s=>Value.string ⟨s.toArray⟩) else M b i,rfl,⟨rfl,rfl,fun i hi=>?_,fun id o ho=>by simp [St.obj] at ho,fun id id' o o' b ho=>by simp [St.obj] at ho,fun id o b ho=>by simp [St.obj] at ho,fun b i u hu=>?_,fun b i u hu=>?_,fun b i hb _=>?_,hx.size,fun b hb _=>hx.block b hb,fun id o b ho=>by simp [St.obj] at ho,hx.os,hx.tape,hx.output⟩,fun id hid=>by simp [zak] at hid⟩
  ·have hi0:i=0:=by simpa using hi
   subst hi0
   have hlen:us.length=(us.map fun s=>[PVal.str s]).length:=by simp
   refine .pv ?_
   have:=Rd.slice (M:=fun b i=>if b=w.heap.size then (us[i]?).map (fun s=>Value.string ⟨s.toArray⟩) else M b i) (us.map fun s=>[PVal.str s]) 1 w.heap.size 0 us.length (fun i _=>Value.string ⟨(us.getD i []).toArray⟩) (fun x hx=>by simp at hx;obtain ⟨s,_,rfl⟩:=hx;rfl) (fun i j hi hj=>?_) (fun i j hi hj=>?_) (by simp)
   ·rw [List.length_map] at this
    exact this
   ·have hj0:j=0:=by omega
    subst hj0
    have hi':i<us.length:=by simpa using hi
    simp [List.getD,hi']
   ·have hj0:j=0:=by omega
    subst hj0
    have hi':i<us.length:=by simpa using hi
    have:zba (us.map fun s=>[PVal.str s]) i 0=.str (us.getD i []):=by simp [zba,List.getD,hi']
    rw [this]
    exact .str _
  ·by_cases hb:b=w.heap.size
   ·subst hb
    simp only [if_pos] at hu
    rw [Option.map_eq_some_iff] at hu
    obtain ⟨s,hs,rfl⟩:=hu
    rw [Lib.cell_of_heap (zbm w _)]
    simp [hs]
   ·simp only [if_neg hb] at hu
    exact znw hx (hR.sat b i u hu)
  ·show (if b=w.heap.size then _ else M b i)=_
   rw [if_neg (fun hb=>by subst hb;have h0:=hoff i;exact absurd (h0.symm.trans hu) (by simp))]
   exact hu
  ·show (if b=w.heap.size then _ else M b i)=_
   rw [if_neg (by have:b<w.heap.size:=hb;omega)]
open Go
structure VarD where
 name:List UInt8
 size:Int
 init:Int
def zas (v:VarD):List PVal:=[.str v.name,.int .i64 v.size,.int .i64 v.init]
inductive Ex where
 |mk (op value:Int) (name:List UInt8) (slot size:Int) (args:List Ex)
def Ex.op:Ex→Int|.mk a _ _ _ _ _=>a
def Ex.value:Ex→Int|.mk _ a _ _ _ _=>a
def Ex.name:Ex→List UInt8|.mk _ _ a _ _ _=>a
def Ex.slot:Ex→Int|.mk _ _ _ a _ _=>a
def Ex.size:Ex→Int|.mk _ _ _ _ a _=>a
def Ex.args:Ex→List Ex|.mk _ _ _ _ _ a=>a
mutual
def zbg:Ex→List PVal
 |.mk op value name slot size args=>[.int .i64 op,.int .i64 value,.str name,.int .i64 slot,.int .i64 size,.slice (zlw args)]
def zlw:List Ex→List (List PVal)
 |[]=>[]
 |e::r=>zbg e::zlw r
end
theorem zjo:∀ l:List Ex,zlw l=l.map zbg
 |[]=>by simp [zlw]
 |e::r=>by simp [zlw,zjo r]
theorem zaq (e:Ex):zbg e=[.int .i64 e.op,.int .i64 e.value,.str e.name,.int .i64 e.slot,.int .i64 e.size,.slice (e.args.map zbg)]:=by
 cases e;simp [zbg,zjo,Ex.op,Ex.value,Ex.name,Ex.slot,Ex.size,Ex.args]
theorem zbh (e:Ex):(zbg e).length=6:=by rw [zaq];rfl
inductive Sm where
 |mk (kind:Int) (name:List UInt8) (slot size:Int) (place value:Ex) (body els:List Sm)
def Sm.kind:Sm→Int|.mk a _ _ _ _ _ _ _=>a
def Sm.name:Sm→List UInt8|.mk _ a _ _ _ _ _ _=>a
def Sm.slot:Sm→Int|.mk _ _ a _ _ _ _ _=>a
def Sm.size:Sm→Int|.mk _ _ _ a _ _ _ _=>a
def Sm.place:Sm→Ex|.mk _ _ _ _ a _ _ _=>a
def Sm.value:Sm→Ex|.mk _ _ _ _ _ a _ _=>a
def Sm.body:Sm→List Sm|.mk _ _ _ _ _ _ a _=>a
def Sm.els:Sm→List Sm|.mk _ _ _ _ _ _ _ a=>a
mutual
def zah:Sm→List PVal
 |.mk kind name slot size place value body els=>[.int .i64 kind,.str name,.int .i64 slot,.int .i64 size]++zbg place++zbg value++[.slice (zjp body),.slice (zjp els)]
def zjp:List Sm→List (List PVal)
 |[]=>[]
 |e::r=>zah e::zjp r
end
theorem zjq:∀ l:List Sm,zjp l=l.map zah
 |[]=>by simp [zjp]
 |e::r=>by simp [zjp,zjq r]
theorem zar (s:Sm):zah s=[.int .i64 s.kind,.str s.name,.int .i64 s.slot,.int .i64 s.size,
  .int .i64 s.place.op,.int .i64 s.place.value,.str s.place.name,.int .i64 s.place.slot,.int .i64 s.place.size,.slice (s.place.args.map zbg),
  .int .i64 s.value.op,.int .i64 s.value.value,.str s.value.name,.int .i64 s.value.slot,.int .i64 s.value.size,.slice (s.value.args.map zbg),
  .slice (s.body.map zah),.slice (s.els.map zah)]:=by
 cases s;simp [zah,zjq,zaq,Sm.kind,Sm.name,Sm.slot,Sm.size,Sm.place,Sm.value,Sm.body,Sm.els]
theorem zez (s:Sm):(zah s).length=18:=by rw [zar];rfl
abbrev mx:=zi8
mutual
def szE:Ex→Nat
 |.mk _ _ _ _ _ args=>1+zgu args
def zgu:List Ex→Nat
 |[]=>0
 |e::r=>szE e+zgu r
end
theorem zgM (e:Ex):szE e=1+zgu e.args:=by cases e;rfl
theorem zbo (e:Ex):1≤szE e:=by rw [zgM];omega
theorem zeW:∀ l:List Ex,l.length≤zgu l
 |[]=>by simp
 |e::r=>by have:=zeW r;have:=zbo e;simp only [zgu,List.length_cons];omega
theorem zdx:∀ (l:List Ex) (e:Ex),e ∈ l→szE e≤zgu l
 |[],_,h=>by cases h
 |x::r,e,h=>by
  simp only [zgu]
  rcases List.mem_cons.1 h with rfl|h
  ·omega
  ·have:=zdx r e h;omega
mutual
def szS:Sm→Nat
 |.mk _ _ _ _ place value body els=>1+szE place+szE value+zbx body+zbx els
def zbx:List Sm→Nat
 |[]=>0
 |e::r=>szS e+zbx r
end
theorem zeA (s:Sm):szS s=1+szE s.place+szE s.value+zbx s.body+zbx s.els:=by cases s;rfl
theorem zcW (s:Sm):1≤szS s:=by rw [zeA];omega
theorem zbW:∀ l:List Sm,l.length≤zbx l
 |[]=>by simp
 |e::r=>by have:=zbW r;have:=zcW e;simp only [zbx,List.length_cons];omega
theorem za1:∀ (l:List Sm) (e:Sm),e ∈ l→szS e≤zbx l
 |[],_,h=>by cases h
 |x::r,e,h=>by
  simp only [zbx]
  rcases List.mem_cons.1 h with rfl|h
  ·omega
  ·have:=za1 r e h;omega
mutual
def zfr:Ex→Int
 |.mk _ _ _ _ _ args=>1+zcO 0 args
def zcO:Int→List Ex→Int
 |d,[]=>d
 |d,e::r=>zcO (mx d (zfr e)) r
end
theorem zq2 (e:Ex):zfr e=1+zcO 0 e.args:=by cases e;rfl
mutual
theorem ztO:∀ e:Ex,1≤zfr e
 |.mk _ _ _ _ _ args=>by simp only [zfr];have:=zhf 0 args;omega
theorem zhf:∀ (d:Int) (l:List Ex),d≤zcO d l
 |d,[]=>by simp [zcO]
 |d,e::r=>by
  have h1:=zhf (mx d (zfr e)) r
  have h2:d≤mx d (zfr e):=by unfold mx zi8;split<;>omega
  simp only [zcO];omega
end
theorem zgv (x:Ex):∀ (l:List Ex) (d:Int),zcO d (l++[x])=mx (zcO d l) (zfr x)
 |[],d=>by simp [zcO]
 |e::r,d=>by simp only [List.cons_append,zcO];exact zgv x r _
mutual
def znM:Sm→Int
 |.mk _ _ _ _ place value body els=>1+mx (mx (mx (zfr place) (zfr value)) (zbd 0 body)) (zbd 0 els)
def zbd:Int→List Sm→Int
 |d,[]=>d
 |d,s::r=>zbd (mx d (znM s)) r
end
theorem zmv (s:Sm):znM s=1+mx (mx (mx (zfr s.place) (zfr s.value)) (zbd 0 s.body)) (zbd 0 s.els):=by cases s;rfl
theorem zgw (x:Sm):∀ (l:List Sm) (d:Int),zbd d (l++[x])=mx (zbd d l) (znM x)
 |[],d=>by simp [zbd]
 |e::r,d=>by simp only [List.cons_append,zbd];exact zgw x r _
theorem zzK (x y:Int):x≤mx x y:=by unfold mx zi8;split<;>omega
theorem znN (s:Sm):1≤znM s:=by
 rw [zmv]
 have h1:=ztO s.place
 have h2:=zzK (zfr s.place) (zfr s.value)
 have h3:=zzK (mx (zfr s.place) (zfr s.value)) (zbd 0 s.body)
 have h4:=zzK (mx (mx (zfr s.place) (zfr s.value)) (zbd 0 s.body)) (zbd 0 s.els)
 omega
mutual
theorem zh3:∀ e:Ex,zfr e≤szE e
 |.mk _ _ _ _ _ args=>by simp only [zfr,szE];have:=znO 0 args;unfold mx zi8 at this;split at this<;>omega
theorem znO:∀ (d:Int) (l:List Ex),zcO d l≤mx d (zgu l)
 |d,[]=>by simp only [zcO,zgu];exact zzK _ _
 |d,e::r=>by
  have h1:=znO (mx d (zfr e)) r
  have h2:=zh3 e
  simp only [zcO,zgu]
  unfold mx zi8 at *
  split at h1<;>split at h1<;>split<;>omega
end
mutual
theorem zmw:∀ s:Sm,znM s≤szS s
 |.mk _ _ _ _ place value body els=>by
  have h1:=zh3 place
  have h2:=zh3 value
  have h3:=zkh 0 body
  have h4:=zkh 0 els
  have p1:=zbo place
  simp only [znM,szS]
  generalize zfr place=a at *
  generalize zfr value=b at *
  generalize zbd 0 body=c at *
  generalize zbd 0 els=d at *
  unfold mx zi8 at *
  split at h3<;>split at h4<;>(repeat' split)<;>omega
theorem zkh:∀ (d:Int) (l:List Sm),zbd d l≤mx d (zbx l)
 |d,[]=>by simp only [zbd,zbx];exact zzK _ _
 |d,e::r=>by
  have h1:=zkh (mx d (znM e)) r
  have h2:=zmw e
  simp only [zbd,zbx]
  generalize zbd (mx d (znM e)) r=q at *
  unfold mx zi8 at *
  split at h1<;>split at h1<;>split<;>omega
end
open Go
def zcX (n:Int):Bool:=(decide (n≥97)&&decide (n≤122)) || (decide (n≥65)&&decide (n≤90)) || n==95
def zd9 (n:Int):Bool:=decide (n≥48)&&decide (n≤57)
def isW (c:UInt8):Bool:=zcX c.toNat || zd9 c.toNat
def ztP (s:List UInt8) (a:Nat):Nat:=a+((s.drop a).takeWhile isW).length
def zq3 (s:List UInt8):Bool:=s==[118,97,114] || s==[97,114,114,97,121] || s==[111,110] || s==[115,116,97,114,116] || s==[109,101,115,115,97,103,101] || s==[116,105,99,107] || s==[105,110,112,117,116] || s==[105,102] || s==[101,108,115,101] || s==[119,104,105,108,101] || s==[115,101,110,100] || s==[111,117,116,112,117,116] || s==[115,101,108,102] || s==[112,114,111,99,115] || s==[102,114,111,109] || s==[118,97,108,117,101]
def zdj (s:List UInt8):Bool:=!(s==[] || decide ((s.length:Int) > 16) || !zcX (s.getD 0 0).toNat)&&(((ztP s 0:Nat):Int)==(s.length:Int)&&!zq3 s)
structure PgD where
 vars:List VarD
 start:List Sm
 message:List Sm
 tick:List Sm
 input:List Sm
def pgA (p:PgD):AVal:=.agg [.pv (.slice (p.vars.map zas)),.pv (.slice (p.start.map zah)),.pv (.slice (p.message.map zah)),.pv (.slice (p.tick.map zah)),.pv (.slice (p.input.map zah))]
def szP (p:PgD):Nat:=zbx p.start+zbx p.message+zbx p.tick+zbx p.input+p.vars.length
def zsc (p:PgD):Int:=mx (mx (mx (zbd 0 p.start) (zbd 0 p.message)) (zbd 0 p.tick)) (zbd 0 p.input)
def zbt (v:VarD):Bool:=if !zdj v.name || decide (v.size<0) then false else if v.size != 0&&v.init != 0 then false else v.init != -9223372036854775808
def zcP (g:List Sm→Bool) (p:PgD):Int:=
 if zsc p > 16 then 6 else if p.vars.any (fun v=>!zbt v) then 7 else if !g p.start || !g p.message || !g p.tick || !g p.input then 7 else 0
theorem zfs (s:List UInt8) (h:16<s.length):zdj s=false:=by
 have:(s.length:Int) > 16:=by omega
 simp [zdj,this]
def zjr (op:Int):Int:=if op<1∨op > 22 then -1 else if op≥10 then 2 else if op=3∨op=8∨op=9 then 1 else 0
def zb1 (name:List UInt8) (m:Bool):Bool:=if m then zdj name else name==[]
def zgN (e:Ex):Bool:=e.op==0&&e.value==0&&e.name==[]&&e.slot==0&&e.size==0&&e.args.length==0
def zfe (op value:Int) (name:List UInt8) (slot size:Int) (n:Nat):Bool:=
 zjr op==(n:Int)&&slot==0&&size==0&&!(decide (value<0) || (value != 0&&op != 1))&&zb1 name (op==2 || op==3)
mutual
def zbq:Ex→Bool
 |.mk op value name slot size args=>zfe op value name slot size args.length&&zbP args
def zbP:List Ex→Bool
 |[]=>true
 |e::r=>zbq e&&zbP r
end
theorem zf3 (e:Ex):zbq e=(zfe e.op e.value e.name e.slot e.size e.args.length&&zbP e.args):=by cases e;simp [zbq,Ex.op,Ex.value,Ex.name,Ex.slot,Ex.size,Ex.args]
def zh4 (kind:Int) (name:List UInt8) (slot size:Int) (place:Ex) (nb ne:Nat):Bool:=
 decide (kind≥1)&&decide (kind≤6)&&slot==0&&size==0&&zb1 name (kind==1 || kind==2) &&
 (if kind==2 || kind==5 then zbq place else zgN place)&&!(decide (nb > 0)&&kind != 3&&kind != 4)&&!(decide (ne > 0)&&kind != 3)
mutual
def zdJ:Sm→Bool
 |.mk kind name slot size place value body els=>zh4 kind name slot size place body.length els.length&&(zbq value&&zao body&&zao els)
def zao:List Sm→Bool
 |[]=>true
 |e::r=>zdJ e&&zao r
end
theorem zf4 (s:Sm):zdJ s=(zh4 s.kind s.name s.slot s.size s.place s.body.length s.els.length&&(zbq s.value&&zao s.body&&zao s.els)):=by cases s;simp [zdJ,Sm.kind,Sm.name,Sm.slot,Sm.size,Sm.place,Sm.value,Sm.body,Sm.els]
theorem zmx (a b:Nat):((a:Int)==(b:Int))=(a==b):=Bool.eq_iff_iff.mpr (by simp only [beq_iff_eq];omega)
theorem zi2 {a b:Int} (h:¬ a=b):(a==b)=false:=by simpa using h
open Go
structure TkD where
 kind:Int
 text:List UInt8
 value:Int
 pos:Int
def zki (t:TkD):List PVal:=[.int .i64 t.kind,.str t.text,.int .i64 t.value,.int .i64 t.pos]
def tk0:TkD:=⟨0,[],0,0⟩
def zcr (p:UInt8→Bool) (s:List UInt8) (a:Nat):Nat:=a+((s.drop a).takeWhile p).length
theorem zkj (p:UInt8→Bool) (s:List UInt8) (a:Nat) (h:s.length≤a):zcr p s a=a:=by
 simp [zcr,List.drop_eq_nil_of_le h]
theorem zdk (p:UInt8→Bool) (s:List UInt8) (a:Nat) (h:a<s.length):zcr p s a=if p (s.getD a 0) then zcr p s (a+1) else a:=by
 unfold zcr
 rw [List.drop_eq_getElem_cons h,List.takeWhile_cons]
 have:s.getD a 0=s[a]:=by simp [List.getD,h]
 rw [this]
 split
 ·simp;omega
 ·simp
theorem zft (p:UInt8→Bool) (s:List UInt8) (a:Nat):a≤zcr p s a:=by unfold zcr;omega
theorem zgx (p:UInt8→Bool) (s:List UInt8) (a:Nat) (h:a≤s.length):zcr p s a≤s.length:=by
 unfold zcr
 have h1:((s.drop a).takeWhile p).length≤(s.drop a).length:=(List.takeWhile_sublist p).length_le
 simp at h1
 omega
theorem zq4 (s:List UInt8) (a:Nat):ztP s a=zcr isW s a:=rfl
def isD (c:UInt8):Bool:=zd9 c.toNat
def isL (c:UInt8):Bool:=zcX c.toNat
def zbQ (c:UInt8):Bool:=c != 10
def isB (c:UInt8):Bool:=c==9 || c==10 || c==13 || c==32
def cut (s:List UInt8) (a b:Nat):List UInt8:=(s.take b).drop a
def ziL:List UInt8→Nat→Nat
 |[],acc=>acc
 |c::r,acc=>ziL r (acc * 10+(c.toNat - 48))
def zdr (l:List UInt8):Nat:=ziL l 0
theorem zq5:∀ (l:List UInt8) (acc:Nat),acc≤ziL l acc
 |[],acc=>by rw [ziL];omega
 |c::r,acc=>by have:=zq5 r (acc * 10+(c.toNat - 48));rw [ziL];omega
theorem zf5 {c:UInt8} (h:isD c=true):48≤c.toNat∧c.toNat≤57:=by
 unfold isD zd9 at h
 rw [Bool.and_eq_true,decide_eq_true_eq,decide_eq_true_eq] at h
 omega
theorem zh5 (acc:Nat) (c:UInt8) (r:List UInt8):ziL (c::r) acc=ziL r (acc * 10+(c.toNat - 48)):=by rw [ziL]
theorem zdU (M:Nat) (hM:M<18446744073709551620):∀ (l:List UInt8) (acc:Nat),(∀ c ∈ l,isD c=true)→acc≤M→Lib.parseUintM M acc l=if ziL l acc≤M then .ok (ziL l acc) else .range
 |[],acc,_,h=>by rw [Lib.parseUintM,ziL,if_pos h]
 |c::r,acc,hd,h=>by
  have hc:=zf5 (hd c List.mem_cons_self)
  have hge:=zq5 r (acc * 10+(c.toNat - 48))
  rw [Lib.parseUintM,zh5,if_pos hc]
  have ih:=zdU M hM r (acc * 10+(c.toNat - 48)) (fun x hx=>hd x (List.mem_cons_of_mem _ hx))
  generalize hq:acc * 10+(c.toNat - 48)=q at *
  by_cases h1:1844674407370955162≤acc
  ·rw [if_pos h1,if_neg (by omega)]
  ·rw [if_neg h1]
   by_cases h2:M<q
   ·rw [if_pos h2,if_neg (by omega)]
   ·rw [if_neg h2]
    exact ih (by omega)
theorem zfu (l:List UInt8) (h0:l≠[]) (hd:∀ c ∈ l,isD c=true):Lib.parseIntB 64 l=if zdr l<9223372036854775808 then .ok (zdr l:Int) else .range:=by
 cases l with
 |nil=>exact absurd rfl h0
 |cons c r=>
  have hc:=zf5 (hd c (by simp))
  have e1:¬ (c.toNat=43∨c.toNat=45):=by omega
  have e2:¬ c.toNat=45:=by omega
  have hp:=zdU 18446744073709551615 (by omega) (c::r) 0 hd (by omega)
  simp only [Lib.parseIntB,if_neg e1,Lib.parseUintB]
  rw [if_neg (by simp),show (2 ^ 64 - 1:Nat)=18446744073709551615 from rfl,hp]
  have hv0:ziL (c::r) 0=zdr (c::r):=rfl
  rw [hv0]
  generalize zdr (c::r)=v
  by_cases h1:v≤18446744073709551615
  ·rw [if_pos h1]
   by_cases h2:v<9223372036854775808
   ·rw [if_pos h2]
    simp only [e2]
    rw [if_neg (by simp;omega),if_neg (by simp)]
    simp
   ·rw [if_neg h2]
    simp only [e2]
    rw [if_pos (by simp;omega)]
  ·rw [if_neg h1,if_neg (by omega)]
def zcF (c n:Int):Int:=
 if c==61 || c==33 || c==60 || c==62 then (if n==61 then 2 else 1)
 else if c==40 || c==41 || c==123 || c==125 || c==91 || c==93 || c==44 || c==59 || c==43 || c==45 || c==42 || c==47 || c==37 then 1
 else if (c==38 || c==124)&&n==c then 2 else 0
def zdA (s:List UInt8) (a:Nat):Int:=if a+1<s.length then ((s.getD (a+1) 0).toNat:Int) else 0
def zci (s:List UInt8) (a:Nat):Nat:=if s.getD a 0=48 then a+1 else zcr isD s (a+1)
def ztQ (s:List UInt8) (a:Nat):TkD × Int × Int:=
 if zcr isW s (zci s a) > zci s a then (tk0,0,1)
 else if zdr (cut s a (zci s a))<9223372036854775808 then (⟨2,[],zdr (cut s a (zci s a)),a⟩,zci s a,0) else (tk0,0,3)
def zcQ (s:List UInt8) (a:Nat):TkD × Int × Int:=
 if isL (s.getD a 0) then (if zcr isW s a - a > 16 then (tk0,0,5) else (⟨1,cut s a (zcr isW s a),0,a⟩,zcr isW s a,0))
 else if isD (s.getD a 0) then ztQ s a
 else if zcF (s.getD a 0).toNat (zdA s a)=0 then (tk0,0,1)
 else (⟨3,cut s a (a+(zcF (s.getD a 0).toNat (zdA s a)).toNat),0,a⟩,a+zcF (s.getD a 0).toNat (zdA s a),0)
theorem zkk (c n:Int):0≤zcF c n∧zcF c n≤2:=by
 unfold zcF
 repeat' split
 all_goals omega
theorem zlx (s:List UInt8) (a:Nat) (h:a<s.length):a<zci s a∧zci s a≤s.length:=by
 unfold zci
 split
 ·omega
 ·have:=zft isD s (a+1);have:=zgx isD s (a+1) (by omega);omega
theorem ztR {c n:Int} (h:zcF c n=2):n=61∨n=38∨n=124:=by
 unfold zcF at h
 grind
theorem zhg (s:List UInt8) (a:Nat) (h:a<s.length) (h0:(zcQ s a).2.2=0):∃ e:Nat,(zcQ s a).2.1=e∧a<e∧e≤s.length:=by
 unfold zcQ at h0 ⊢
 split
 ·rename_i hl
  rw [if_pos hl] at h0
  have hW:isW (s.getD a 0)=true:=by simp [isW];exact .inl hl
  have h1:=zdk isW s a h
  rw [hW,if_pos rfl] at h1
  have h2:=zft isW s (a+1)
  have h3:=zgx isW s a (by omega)
  split
  ·rename_i h16;rw [if_pos h16] at h0;simp at h0
  ·exact ⟨_,rfl,by omega,h3⟩
 ·rename_i hl
  rw [if_neg hl] at h0
  split
  ·rename_i hd
   rw [if_pos hd] at h0
   unfold ztQ at h0 ⊢
   have h1:=zlx s a h
   split
   ·rename_i hw;rw [if_pos hw] at h0;simp at h0
   ·rename_i hw
    rw [if_neg hw] at h0
    split
    ·exact ⟨_,rfl,h1.1,h1.2⟩
    ·rename_i hv;rw [if_neg hv] at h0;simp at h0
  ·rename_i hd
   rw [if_neg hd] at h0
   split
   ·rename_i hs;rw [if_pos hs] at h0;simp at h0
   ·rename_i hs
    have h1:=zkk (s.getD a 0).toNat (zdA s a)
    refine ⟨a+(zcF (s.getD a 0).toNat (zdA s a)).toNat,by show (a:Int)+zcF _ _=_;omega,by omega,?_⟩
    by_cases h2:zcF (s.getD a 0).toNat (zdA s a)=2
    ·have h3:=ztR h2
     have:a+1<s.length:=by
      by_cases h4:a+1<s.length
      ·exact h4
      ·simp [zdA,h4] at h3
     omega
    ·omega
def zcG (s:List UInt8):Nat→Nat→List TkD→List TkD × Int × Int
 |0,_,acc=>(acc,0,0)
 |f+1,a,acc=>
  if a<s.length then
   if isB (s.getD a 0) then zcG s f (a+1) acc
   else if s.getD a 0=35 then zcG s f (zcr zbQ s a) acc
   else if (zcQ s a).2.2=0 then zcG s f (zcQ s a).2.1.toNat (acc++[(zcQ s a).1])
   else ([],a,(zcQ s a).2.2)
  else (acc,0,0)
def zi3 (s:List UInt8):List TkD × Int × Int:=if s.length > 4096 then ([],0,5) else zcG s (s.length+1) 0 []
inductive PR (α:Type) where
 |ok (a:α) (k:Nat)
 |bad (k:Nat)
 |out
def PR.bind {α β:Type} (r:PR α) (f:α→Nat→PR β):PR β:=
 match r with
 |.ok a k=>f a k
 |.bad k=>.bad k
 |.out=>.out
section
variable (l:List TkD)
def zds (k:Nat):List UInt8:=if k<l.length then (l.getD k tk0).text else []
def isT (k:Nat) (s:List UInt8):Bool:=zds l k==s
def zbe (s:List UInt8) (k:Nat):PR Unit:=if isT l k s then .ok () (k+1) else .bad k
def zff (k:Nat):PR (List UInt8):=if k<l.length∧(l.getD k tk0).kind=1∧zdj (l.getD k tk0).text=true then .ok (l.getD k tk0).text (k+1) else .bad k
def nmF (least:Int) (k:Nat):PR Int:=if k<l.length∧(l.getD k tk0).kind=2∧least≤(l.getD k tk0).value then .ok (l.getD k tk0).value (k+1) else .bad k
def zed (k:Nat):Bool:=decide (k<l.length)&&(l.getD k tk0).kind==2
def opF (lv:Nat) (s:List UInt8):Nat:=
 if lv=0 then (if s==[124,124] then 22 else 0)
 else if lv=1 then (if s==[38,38] then 21 else 0)
 else if lv=2 then (if s==[60] then 15 else if s==[60,61] then 16 else if s==[62] then 17 else if s==[62,61] then 18 else if s==[61,61] then 19 else if s==[33,61] then 20 else 0)
 else if lv=3 then (if s==[43] then 10 else if s==[45] then 11 else 0)
 else if lv=4 then (if s==[42] then 12 else if s==[47] then 13 else if s==[37] then 14 else 0)
 else 0
def exK (op:Int):Ex:=.mk op 0 [] 0 0 []
def exC (v:Int):Ex:=.mk 1 v [] 0 0 []
def exN (nm:List UInt8):Ex:=.mk 2 0 nm 0 0 []
def exI (nm:List UInt8) (e:Ex):Ex:=.mk 3 0 nm 0 0 [e]
def exU (op:Int) (e:Ex):Ex:=.mk op 0 [] 0 0 [e]
def exB (op:Int) (a b:Ex):Ex:=.mk op 0 [] 0 0 [a,b]
def exZ:Ex:=exK 0
inductive Nt where
 |bin (lv:Nat)
 |loop (lv:Nat) (e:Ex)
 |un
 |prim
def exF:Nat→Nt→Nat→PR Ex
 |0,_,_=>.out
 |n+1,.bin lv,k=>if lv=5 then exF n .un k else (exF n (.bin (lv+1)) k).bind fun e k'=>exF n (.loop lv e) k'
 |n+1,.loop lv e,k=>if opF lv (zds l k)=0 then .ok e k else (exF n (.bin (lv+1)) (k+1)).bind fun e2 k2=>exF n (.loop lv (exB (opF lv (zds l k)) e e2)) k2
 |n+1,.un,k=>
  if isT l k [45] then (exF n .un (k+1)).bind fun e k'=>.ok (exU 8 e) k'
  else if isT l k [33] then (exF n .un (k+1)).bind fun e k'=>.ok (exU 9 e) k'
  else exF n .prim k
 |n+1,.prim,k=>
  if zed l k then (nmF l 0 k).bind fun v k'=>.ok (exC v) k'
  else if isT l k [115,101,108,102] then .ok (exK 4) (k+1)
  else if isT l k [112,114,111,99,115] then .ok (exK 5) (k+1)
  else if isT l k [102,114,111,109] then .ok (exK 6) (k+1)
  else if isT l k [118,97,108,117,101] then .ok (exK 7) (k+1)
  else if isT l k [40] then (exF n (.bin 0) (k+1)).bind fun e k'=>(zbe l [41] k').bind fun _ k2=>.ok e k2
  else (zff l k).bind fun nm k1=>if isT l k1 [91] then (exF n (.bin 0) (k1+1)).bind fun e k'=>(zbe l [93] k').bind fun _ k2=>.ok (exI nm e) k2 else .ok (exN nm) k1
def zbZ (k:Nat):PR Ex:=exF l (9 * l.length+20) (.bin 0) k
inductive Ns where
 |block
 |stmts (acc:List Sm)
 |stmt
def smE (kind:Int) (nm:List UInt8) (place value:Ex) (body els:List Sm):Sm:=.mk kind nm 0 0 place value body els
def smF:Nat→Ns→Nat→PR (List Sm)
 |0,_,_=>.out
 |n+1,.block,k=>(zbe l [123] k).bind fun _ k1=>smF n (.stmts []) k1
 |n+1,.stmts acc,k=>if isT l k [125] then .ok acc (k+1) else (smF n .stmt k).bind fun s k1=>smF n (.stmts (acc++s)) k1
 |n+1,.stmt,k=>
  if isT l k [105,102] then (zbZ l (k+1)).bind fun e k1=>(smF n .block k1).bind fun b k2=>if isT l k2 [101,108,115,101] then (smF n .block (k2+1)).bind fun c k3=>.ok [smE 3 [] exZ e b c] k3 else .ok [smE 3 [] exZ e b []] k2
  else if isT l k [119,104,105,108,101] then (zbZ l (k+1)).bind fun e k1=>(smF n .block k1).bind fun b k2=>.ok [smE 4 [] exZ e b []] k2
  else if isT l k [115,101,110,100] then (zbZ l (k+1)).bind fun p k1=>(zbe l [44] k1).bind fun _ k2=>(zbZ l k2).bind fun e k3=>(zbe l [59] k3).bind fun _ k4=>.ok [smE 5 [] p e [] []] k4
  else if isT l k [111,117,116,112,117,116] then (zbZ l (k+1)).bind fun e k1=>(zbe l [59] k1).bind fun _ k2=>.ok [smE 6 [] exZ e [] []] k2
  else (zff l k).bind fun nm k1=>
   if isT l k1 [91] then (zbZ l (k1+1)).bind fun p k2=>(zbe l [93] k2).bind fun _ k3=>(zbe l [61] k3).bind fun _ k4=>(zbZ l k4).bind fun e k5=>(zbe l [59] k5).bind fun _ k6=>.ok [smE 2 nm p e [] []] k6
   else (zbe l [61] k1).bind fun _ k4=>(zbZ l k4).bind fun e k5=>(zbe l [59] k5).bind fun _ k6=>.ok [smE 1 nm exZ e [] []] k6
def zbz (k:Nat):PR (List Sm):=smF l (3 * l.length+20) .block k
def zmy (k:Nat):PR Int:=if isT l k [61] then (if isT l (k+1) [45] then (nmF l 0 (k+2)).bind fun v k'=>.ok (-v) k' else nmF l 0 (k+1)) else .ok 0 k
def zkQ:Nat→List VarD→Nat→PR (List VarD)
 |0,_,_=>.out
 |n+1,acc,k=>
  if isT l k [118,97,114] then (zff l (k+1)).bind fun nm k1=>(zmy l k1).bind fun v k2=>(zbe l [59] k2).bind fun _ k3=>zkQ n (acc++[⟨nm,0,v⟩]) k3
  else if isT l k [97,114,114,97,121] then (zff l (k+1)).bind fun nm k1=>(zbe l [91] k1).bind fun _ k2=>(nmF l 1 k2).bind fun v k3=>(zbe l [93] k3).bind fun _ k4=>(zbe l [59] k4).bind fun _ k5=>zkQ n (acc++[⟨nm,v,0⟩]) k5
  else .ok acc k
structure Seen where
 s:Bool
 m:Bool
 t:Bool
 i:Bool
def zkR:Nat→PgD→Seen→Nat→PR PgD
 |0,_,_,_=>.out
 |n+1,p,z,k=>
  if k<l.length then (zbe l [111,110] k).bind fun _ k1=>
   if !z.s&&isT l k1 [115,116,97,114,116] then (zbz l (k1+1)).bind fun b k2=>zkR n { p with start:=b } { z with s:=true } k2
   else if !z.m&&isT l k1 [109,101,115,115,97,103,101] then (zbz l (k1+1)).bind fun b k2=>zkR n { p with message:=b } { z with m:=true } k2
   else if !z.t&&isT l k1 [116,105,99,107] then (zbz l (k1+1)).bind fun b k2=>zkR n { p with tick:=b } { z with t:=true } k2
   else if !z.i&&isT l k1 [105,110,112,117,116] then (zbz l (k1+1)).bind fun b k2=>zkR n { p with input:=b } { z with i:=true } k2
   else .bad k1
  else .ok p k
def zly:PR PgD:=(zkQ l (l.length+1) [] 0).bind fun vs k=>zkR l (l.length+1) ⟨vs,[],[],[],[]⟩ ⟨false,false,false,false⟩ k
def zgO (n:Nat) (k:Nat):Int:=if k<l.length then (l.getD k tk0).pos else n
end
end Go.Abs
namespace Go.Abs
open Go
def PR.on {α:Type} (r:PR α) (k n:Nat):Prop:=match r with|.ok _ k'=>k≤k'∧k'≤n|.bad k'=>k≤k'∧k'≤n|.out=>True
def PR.past {α:Type} (r:PR α) (k n:Nat):Prop:=match r with|.ok _ k'=>k<k'∧k'≤n|.bad k'=>k≤k'∧k'≤n|.out=>True
theorem PR.past.on {α:Type} {r:PR α} {k n:Nat} (h:r.past k n):r.on k n:=by
 cases r<;>simp only [PR.past,PR.on] at *<;>omega
theorem PR.on.le {α:Type} {r:PR α} {k k0 n:Nat} (h:r.on k n) (hk:k0≤k):r.on k0 n:=by
 cases r<;>simp only [PR.on] at *<;>omega
theorem PR.on.lt {α:Type} {r:PR α} {k k0 n:Nat} (h:r.on k n) (hk:k0<k):r.past k0 n:=by
 cases r<;>simp only [PR.past,PR.on] at *<;>omega
theorem PR.on.bind {α β:Type} {r:PR α} {f:α→Nat→PR β} {k n:Nat} (h:r.on k n) (hf:∀ a k',k≤k'→k'≤n→(f a k').on k' n):(r.bind f).on k n:=by
 cases r with
 |ok a k'=>simp only [PR.on,PR.bind] at *;exact PR.on.le (hf a k' h.1 h.2) h.1
 |bad k'=>exact h
 |out=>trivial
theorem PR.past.bind {α β:Type} {r:PR α} {f:α→Nat→PR β} {k n:Nat} (h:r.past k n) (hf:∀ a k',k<k'→k'≤n→(f a k').on k' n):(r.bind f).past k n:=by
 cases r with
 |ok a k'=>simp only [PR.past,PR.bind] at *;exact PR.on.lt (hf a k' h.1 h.2) h.1
 |bad k'=>exact h
 |out=>trivial
theorem PR.ok_on {α:Type} (a:α) {k n:Nat} (h:k≤n):(PR.ok a k).on k n:=⟨Nat.le_refl _,h⟩
section
variable {l:List TkD}
theorem zaC {k:Nat} {s:List UInt8} (h:isT l k s=true) (hs:s≠[]):k<l.length:=by
 unfold isT zds at h
 by_cases hk:k<l.length
 ·exact hk
 ·rw [if_neg hk] at h
  exact absurd (by simpa using h:([]:List UInt8)=s).symm hs
theorem zaF {s:List UInt8} {k:Nat} (hk:k≤l.length) (hs:s≠[]):(zbe l s k).past k l.length:=by
 unfold zbe
 split
 ·rename_i h;have:=zaC h hs;exact ⟨by omega,by omega⟩
 ·exact ⟨Nat.le_refl _,hk⟩
theorem zbv {k:Nat} (hk:k≤l.length):(zff l k).past k l.length:=by
 unfold zff
 split
 ·rename_i h;exact ⟨by omega,by omega⟩
 ·exact ⟨Nat.le_refl _,hk⟩
theorem zdV {z:Int} {k:Nat} (hk:k≤l.length):(nmF l z k).past k l.length:=by
 unfold nmF
 split
 ·rename_i h;exact ⟨by omega,by omega⟩
 ·exact ⟨Nat.le_refl _,hk⟩
theorem zq6 {lv k:Nat} (h:¬ opF lv (zds l k)=0):k<l.length:=by
 by_cases hk:k<l.length
 ·exact hk
 ·exfalso
  apply h
  unfold zds
  rw [if_neg hk]
  unfold opF
  repeat' split
  all_goals first|rfl|simp_all
def Nt.strict:Nt→Bool
 |.loop _ _=>false
 |_=>true
theorem zcR:∀ (n:Nat) (nt:Nt) (k:Nat),k≤l.length→(exF l n nt k).on k l.length∧(nt.strict=true→(exF l n nt k).past k l.length)
 |0,nt,k,hk=>by constructor<;>intros<;>(unfold exF;trivial)
 |n+1,.bin lv,k,hk=>by
  have h:(exF l (n+1) (.bin lv) k).past k l.length:=by
   unfold exF
   split
   ·exact (zcR n .un k hk).2 rfl
   ·exact PR.past.bind ((zcR n (.bin (lv+1)) k hk).2 rfl) (fun e k' _ h2=>(zcR n (.loop lv e) k' h2).1)
  exact ⟨h.on,fun _=>h⟩
 |n+1,.loop lv e,k,hk=>by
  refine ⟨?_,fun h=>by cases h⟩
  unfold exF
  split
  ·exact PR.ok_on _ hk
  ·rename_i h
   have:=zq6 h
   exact PR.on.le (PR.on.bind (zcR n (.bin (lv+1)) (k+1) (by omega)).1 (fun e2 k2 _ h2=>(zcR n _ k2 h2).1)) (by omega)
 |n+1,.un,k,hk=>by
  have h:(exF l (n+1) .un k).past k l.length:=by
   unfold exF
   split
   ·rename_i h
    have:=zaC h (by simp)
    exact PR.on.lt (PR.on.bind (zcR n .un (k+1) (by omega)).1 (fun e k' _ h2=>PR.ok_on _ h2)) (by omega)
   ·split
    ·rename_i h
     have:=zaC h (by simp)
     exact PR.on.lt (PR.on.bind (zcR n .un (k+1) (by omega)).1 (fun e k' _ h2=>PR.ok_on _ h2)) (by omega)
    ·exact (zcR n .prim k hk).2 rfl
  exact ⟨h.on,fun _=>h⟩
 |n+1,.prim,k,hk=>by
  have one:∀ {s:List UInt8} {e:Ex},isT l k s=true→s≠[]→(PR.ok e (k+1)).past k l.length:=fun h hs=>⟨by omega,by have:=zaC h hs;omega⟩
  have h:(exF l (n+1) .prim k).past k l.length:=by
   unfold exF
   split
   ·exact PR.past.bind (zdV hk) (fun v k' _ h2=>PR.ok_on _ h2)
   split
   ·exact one ‹_› (by simp)
   split
   ·exact one ‹_› (by simp)
   split
   ·exact one ‹_› (by simp)
   split
   ·exact one ‹_› (by simp)
   split
   ·rename_i h
    have:=zaC h (by simp)
    exact PR.on.lt (PR.on.bind (zcR n (.bin 0) (k+1) (by omega)).1 (fun e k' _ h2=>PR.on.bind (zaF h2 (by simp)).on (fun _ k2 _ h3=>PR.ok_on _ h3))) (by omega)
   ·refine PR.past.bind (zbv hk) (fun nm k1 _ h1=>?_)
    split
    ·rename_i h
     have:=zaC h (by simp)
     exact PR.on.le (PR.on.bind (zcR n (.bin 0) (k1+1) (by omega)).1 (fun e k' _ h2=>PR.on.bind (zaF h2 (by simp)).on (fun _ k2 _ h3=>PR.ok_on _ h3))) (by omega)
    ·exact PR.ok_on _ h1
  exact ⟨h.on,fun _=>h⟩
def Nt.need (m:Nat):Nt→Nat
 |.bin lv=>9 * m+(5 - lv)+3
 |.loop _ _=>9 * m+9
 |.un=>9 * m+2
 |.prim=>9 * m+1
def Nt.fit:Nt→Bool
 |.bin lv=>decide (lv≤5)
 |.loop lv _=>decide (lv<5)
 |_=>true
def PR.isOut {α:Type}:PR α→Bool
 |.out=>true
 |_=>false
theorem PR.bind_out {α β:Type} {r:PR α} {f:α→Nat→PR β} (h:r.isOut=false) (hf:∀ a k',r=.ok a k'→(f a k').isOut=false):(r.bind f).isOut=false:=by
 cases r with
 |ok a k'=>exact hf a k' rfl
 |bad k'=>rfl
 |out=>cases h
theorem zbi {s:List UInt8} {k:Nat}:(zbe l s k).isOut=false:=by unfold zbe;split<;>rfl
theorem zdW {k:Nat}:(zff l k).isOut=false:=by unfold zff;split<;>rfl
theorem zgy {z:Int} {k:Nat}:(nmF l z k).isOut=false:=by unfold nmF;split<;>rfl
theorem zdl:∀ (n:Nat) (nt:Nt) (k:Nat),k≤l.length→nt.fit=true→nt.need (l.length - k)≤n→(exF l n nt k).isOut=false
 |0,nt,k,hk,_,h=>by cases nt<;>simp only [Nt.need] at h<;>omega
 |n+1,.bin lv,k,hk,hf,h=>by
  simp only [Nt.need] at h
  simp only [Nt.fit,decide_eq_true_eq] at hf
  unfold exF
  split
  ·exact zdl n .un k hk rfl (by simp only [Nt.need];omega)
  ·refine PR.bind_out (zdl n (.bin (lv+1)) k hk (by simp only [Nt.fit,decide_eq_true_eq];omega) (by simp only [Nt.need];omega)) (fun e k' he=>?_)
   have h1:=(zcR (l:=l) n (.bin (lv+1)) k hk).2 rfl
   rw [he] at h1
   exact zdl n (.loop lv e) k' h1.2 (by simp only [Nt.fit,decide_eq_true_eq];omega) (by have:=h1.1;have:=h1.2;simp only [Nt.need];omega)
 |n+1,.loop lv e,k,hk,hf,h=>by
  simp only [Nt.need] at h
  simp only [Nt.fit,decide_eq_true_eq] at hf
  unfold exF
  split
  ·rfl
  ·rename_i h0
   have:=zq6 h0
   refine PR.bind_out (zdl n (.bin (lv+1)) (k+1) (by omega) (by simp only [Nt.fit,decide_eq_true_eq];omega) (by simp only [Nt.need];omega)) (fun e2 k2 he=>?_)
   have h1:=(zcR (l:=l) n (.bin (lv+1)) (k+1) (by omega)).2 rfl
   rw [he] at h1
   exact zdl n _ k2 h1.2 (by simp only [Nt.fit,decide_eq_true_eq];omega) (by have:=h1.1;have:=h1.2;simp only [Nt.need];omega)
 |n+1,.un,k,hk,hf,h=>by
  simp only [Nt.need] at h
  unfold exF
  split
  ·rename_i h0
   have:=zaC h0 (by simp)
   exact PR.bind_out (zdl n .un (k+1) (by omega) rfl (by simp only [Nt.need];omega)) (fun _ _ _=>rfl)
  ·split
   ·rename_i h0
    have:=zaC h0 (by simp)
    exact PR.bind_out (zdl n .un (k+1) (by omega) rfl (by simp only [Nt.need];omega)) (fun _ _ _=>rfl)
   ·exact zdl n .prim k hk rfl (by simp only [Nt.need];omega)
 |n+1,.prim,k,hk,hf,h=>by
  simp only [Nt.need] at h
  unfold exF
  split
  ·exact PR.bind_out zgy (fun _ _ _=>rfl)
  split
  ·rfl
  split
  ·rfl
  split
  ·rfl
  split
  ·rfl
  split
  ·rename_i h0
   have:=zaC h0 (by simp)
   exact PR.bind_out (zdl n (.bin 0) (k+1) (by omega) rfl (by simp only [Nt.need];omega)) (fun _ _ _=>PR.bind_out zbi (fun _ _ _=>rfl))
  ·refine PR.bind_out zdW (fun nm k1 he=>?_)
   have h1:=zbv (l:=l) hk
   rw [he] at h1
   split
   ·rename_i h0
    have:=zaC h0 (by simp)
    exact PR.bind_out (zdl n (.bin 0) (k1+1) (by omega) rfl (by have:=h1.1;simp only [Nt.need];omega)) (fun _ _ _=>PR.bind_out zbi (fun _ _ _=>rfl))
   ·rfl
theorem zdX {k:Nat} (hk:k≤l.length):(zbZ l k).isOut=false:=zdl _ _ k hk rfl (by simp only [Nt.need];omega)
theorem zh6 {k:Nat} (hk:k≤l.length):(zbZ l k).past k l.length:=(zcR _ _ k hk).2 rfl
end
end Go.Abs
namespace Go.Abs
open Go
def lvF (op:Nat):Nat:=if op=22 then 0 else if op=21 then 1 else if op=10∨op=11 then 3 else if op=12∨op=13∨op=14 then 4 else 2
def sgF (op:Nat):List UInt8:=
 if op=8∨op=11 then [45] else if op=9 then [33] else if op=10 then [43] else if op=12 then [42] else if op=13 then [47] else if op=14 then [37]
 else if op=15 then [60] else if op=16 then [60,61] else if op=17 then [62] else if op=18 then [62,61] else if op=19 then [61,61] else if op=20 then [33,61] else if op=21 then [38,38] else [124,124]
theorem zzL (k:Nat) (h1:10≤k) (h2:k≤22):opF (lvF k) (sgF k)=k:=by
 have:k=10∨k=11∨k=12∨k=13∨k=14∨k=15∨k=16∨k=17∨k=18∨k=19∨k=20∨k=21∨k=22:=by omega
 rcases this with rfl|rfl|rfl|rfl|rfl|rfl|rfl|rfl|rfl|rfl|rfl|rfl|rfl<;>rfl
theorem zzM {lv:Nat} {s:List UInt8} (h:opF lv s≠0):10≤opF lv s∧opF lv s≤22∧lvF (opF lv s)=lv∧sgF (opF lv s)=s:=by
 unfold opF at h ⊢
 repeat' split
 all_goals first
  |(exfalso;simp_all;done)
  |(rename_i hs;simp only [beq_iff_eq] at hs;subst hs;subst_vars;decide)
def zmz:List Ex→AVal
 |[]=>.snil
 |e::r=>.pv (.slice ((e::r).map zbg))
def exA (e:Ex):AVal:=.agg [.pv (.int .i64 e.op),.pv (.int .i64 e.value),.pv (.str e.name),.pv (.int .i64 e.slot),.pv (.int .i64 e.size),zmz e.args]
theorem zbJ:zmz []=.snil:=rfl
theorem zaY (e:Ex) (r:List Ex):zmz (e::r)=.pv (.slice ((e::r).map zbg)):=rfl
theorem zwD (a:List Ex):AVal.isCell (zmz a)=true:=by cases a<;>rfl
theorem zq7 (a:List Ex):AVal.cells (zmz a)=[zmz a]:=by cases a<;>rfl
theorem zfv (ι:Nat→Nat) (a:List Ex):ren ι (zmz a)=zmz a:=by cases a<;>simp [zmz,ren]
theorem zjs (n:Nat→Bool) (a:List Ex):zap n (zmz a)=true:=by cases a<;>simp [zmz,zap]
theorem ztS (a:List Ex) (r:List AVal):zef (zmz a::r)=match zef r with|some ps=>some (.slice (a.map zbg)::ps)|none=>none:=by
 cases a<;>(simp only [zmz,zef,AVal.toP];cases zef r<;>rfl)
def kA:=And.intro @zwD<|And.intro @zq7<|And.intro @zfv<|And.intro @ztS<|@zbJ
theorem ztT (op:Int):exA (exK op)=.agg [.pv (.int .i64 op),.pv (.int .i64 0),.pv (.str []),.pv (.int .i64 0),.pv (.int .i64 0),.snil]:=rfl
theorem zC6 (v:Int):exA (exC v)=.agg [.pv (.int .i64 1),.pv (.int .i64 v),.pv (.str []),.pv (.int .i64 0),.pv (.int .i64 0),.snil]:=rfl
theorem zC7 (nm:List UInt8):exA (exN nm)=.agg [.pv (.int .i64 2),.pv (.int .i64 0),.pv (.str nm),.pv (.int .i64 0),.pv (.int .i64 0),.snil]:=rfl
theorem zf6:∀ l:List UInt8,Lib.indexByte l 10=if (l.takeWhile zbQ).length=l.length then -1 else ((l.takeWhile zbQ).length:Int)
 |[]=>by simp [Lib.indexByte]
 |b::l=>by
  rw [Lib.indexByte,zf6 l,List.takeWhile_cons]
  have hle:(l.takeWhile zbQ).length≤l.length:=(List.takeWhile_sublist zbQ).length_le
  by_cases h:b=10
  ·subst h
   simp [zbQ]
  ·have hb:(b==10)=false:=by simpa using h
   have hn:zbQ b=true:=by simp [zbQ,h]
   rw [hb,hn,if_neg (by simp),if_pos rfl]
   simp only [List.length_cons]
   by_cases h2:(l.takeWhile zbQ).length=l.length
   ·simp [h2]
   ·have h3:¬ ((l.takeWhile zbQ).length+1=l.length+1):=by omega
    have h4:¬ (((l.takeWhile zbQ).length:Int)=-1):=by omega
    simp [h2,h4]
theorem zjt (s:List UInt8) (a:Nat) (h:a≤s.length):(if Lib.indexByte (s.drop a) 10<0 then (s.length:Int) else a+Lib.indexByte (s.drop a) 10)=zcr zbQ s a:=by
 rw [zf6]
 unfold zcr
 have hl:(s.drop a).length=s.length - a:=by simp
 by_cases h2:((s.drop a).takeWhile zbQ).length=(s.drop a).length
 ·rw [if_pos h2,if_pos (by omega),h2,hl];omega
 ·rw [if_neg h2,if_neg (by omega)];omega
theorem zhh (s:List UInt8) (a k:Nat) (h:k<s.length) (ha:a≤k):cut s a (k+1)=cut s a k++[s.getD k 0]:=by
 unfold cut
 rw [List.take_succ_eq_append_getElem h,List.drop_append_of_le_length (by simp;omega)]
 simp [List.getD,h]
theorem zdY (s:List UInt8) (a k:Nat) (hr1:s.getD a 0≠48→zcr isD s k=zcr isD s (a+1)) (hr2:s.getD a 0=48→k=a+1)
  (hc:((((s.getD a 0).toNat:Nat):Int) != 48&&decide ((k:Int)<s.length)&&zd9 ((s.getD k 0).toNat:Int))=false) (h48:((((s.getD a 0).toNat:Nat):Int) != 48)=true ↔ s.getD a 0≠48):zci s a=k:=by
 unfold zci
 by_cases h:s.getD a 0=48
 ·rw [if_pos h,hr2 h]
 ·rw [if_neg h,←hr1 h]
  rw [h48.2 h,Bool.true_and] at hc
  by_cases hlt:k<s.length
  ·rw [zdk isD s k hlt]
   have h1:decide ((k:Int)<s.length)=true:=by simpa using (show (k:Int)<s.length by omega)
   rw [h1,Bool.true_and] at hc
   rw [show isD (s.getD k 0)=false from hc]
   simp
  ·exact zkj isD s k (by omega)
theorem znP (s:List UInt8) (a:Nat):cut s a a=[]:=by simp [cut]
theorem zq8 (s:List UInt8) (a k:Nat) (h:a<k) (hk:k≤s.length):cut s a k≠[]:=by
 intro e
 have:=congrArg List.length e
 simp [cut] at this
 omega
theorem zkl (s:List UInt8) (a k:Nat) (hk:k≤s.length):(cut s a k).length=k - a:=by simp [cut];omega
theorem zC8 (c:UInt8) (n:Nat) (h:n<256):(((c.toNat:Int) != (n:Int))=true) ↔ c≠UInt8.ofNat n:=by
 rw [bne_iff_ne]
 constructor
 ·intro h1 h2
  apply h1
  rw [h2]
  simp
  omega
 ·intro h1 h2
  apply h1
  apply UInt8.toNat.inj
  simp
  omega
structure SI (s:List UInt8) where
 k:Nat
 acc:List TkD
 f:Nat
 hk:k≤s.length
 hf:s.length<k+f
 ha:acc.length≤k
 eq:zcG s f k acc=zcG s (s.length+1) 0 []
variable {s:List UInt8} (i:SI s)
theorem SI.fpos (h:i.k<s.length):∃ f,i.f=f+1:=⟨i.f - 1,by have:=i.hf;omega⟩
theorem SI.unf (h:i.k<s.length):zcG s i.f i.k i.acc=(if isB (s.getD i.k 0) then zcG s (i.f - 1) (i.k+1) i.acc else if s.getD i.k 0=35 then zcG s (i.f - 1) (zcr zbQ s i.k) i.acc else if (zcQ s i.k).2.2=0 then zcG s (i.f - 1) (zcQ s i.k).2.1.toNat (i.acc++[(zcQ s i.k).1]) else ([],i.k,(zcQ s i.k).2.2)):=by
 obtain ⟨f,hf⟩:=i.fpos h
 rw [hf,zcG,if_pos h]
 rfl
def SI.blank (h:i.k<s.length) (hb:isB (s.getD i.k 0)=true):SI s:=⟨i.k+1,i.acc,i.f - 1,h,by have:=i.hf;omega,by have:=i.ha;omega,by
 have:=i.unf h;rw [if_pos hb] at this;rw [←this];exact i.eq⟩
theorem zkm (h:i.k<s.length) (hh:s.getD i.k 0=35):i.k<zcr zbQ s i.k∧zcr zbQ s i.k≤s.length:=by
 have h1:=zdk zbQ s i.k h
 have h2:zbQ (s.getD i.k 0)=true:=by rw [hh];rfl
 rw [h2,if_pos rfl] at h1
 have h3:=zft zbQ s (i.k+1)
 exact ⟨by omega,zgx zbQ s i.k (by omega)⟩
def SI.hsh (h:i.k<s.length) (hh:s.getD i.k 0=35):SI s:=⟨zcr zbQ s i.k,i.acc,i.f - 1,(zkm i h hh).2,by have:=i.hf;have:=zkm i h hh;omega,by have:=i.ha;have:=zkm i h hh;omega,by
 have:=i.unf h
 have hb:¬ (isB (s.getD i.k 0)=true):=by rw [hh];decide
 rw [if_neg hb,if_pos hh] at this;rw [←this];exact i.eq⟩
theorem znQ (h:i.k<s.length) (h0:(zcQ s i.k).2.2=0):i.k<(zcQ s i.k).2.1.toNat∧(zcQ s i.k).2.1.toNat≤s.length∧(zcQ s i.k).2.1=(((zcQ s i.k).2.1.toNat:Nat):Int):=by
 obtain ⟨e,h1,h2,h3⟩:=zhg s i.k h h0
 rw [h1]
 exact ⟨by simpa using h2,by simpa using h3,by simp⟩
def SI.tok (h:i.k<s.length) (hb:¬ (isB (s.getD i.k 0)=true)) (hh:¬ s.getD i.k 0=35) (h0:(zcQ s i.k).2.2=0):SI s:=
 ⟨(zcQ s i.k).2.1.toNat,i.acc++[(zcQ s i.k).1],i.f - 1,(znQ i h h0).2.1,by have:=i.hf;have:=znQ i h h0;omega,by have:=i.ha;have:=znQ i h h0;simp;omega,by
 have:=i.unf h
 rw [if_neg hb,if_neg hh,if_pos h0] at this;rw [←this];exact i.eq⟩
theorem SI.bad (h:i.k<s.length) (hb:¬ (isB (s.getD i.k 0)=true)) (hh:¬ s.getD i.k 0=35) (h0:¬ (zcQ s i.k).2.2=0):zcG s (s.length+1) 0 []=([],(i.k:Int),(zcQ s i.k).2.2):=by
 have:=i.unf h
 rw [if_neg hb,if_neg hh,if_neg h0] at this;rw [←i.eq,this]
theorem SI.fin (h:¬ i.k<s.length):zcG s (s.length+1) 0 []=(i.acc,0,0):=by
 rw [←i.eq]
 cases hf:i.f with
 |zero=>rfl
 |succ f=>rw [zcG,if_neg h]
def SI.start (s:List UInt8):SI s:=⟨0,[],s.length+1,by omega,by omega,by simp,rfl⟩
theorem SI.blank_k (h:i.k<s.length) (hb:isB (s.getD i.k 0)=true):(i.blank h hb).k=i.k+1:=rfl
theorem SI.blank_acc (h:i.k<s.length) (hb:isB (s.getD i.k 0)=true):(i.blank h hb).acc=i.acc:=rfl
theorem SI.hsh_k (h:i.k<s.length) (hb:s.getD i.k 0=35):(i.hsh h hb).k=zcr zbQ s i.k:=rfl
theorem SI.hsh_acc (h:i.k<s.length) (hb:s.getD i.k 0=35):(i.hsh h hb).acc=i.acc:=rfl
theorem SI.tok_k (h:i.k<s.length) (hb:¬ (isB (s.getD i.k 0)=true)) (hh:¬ s.getD i.k 0=35) (h0:(zcQ s i.k).2.2=0):(i.tok h hb hh h0).k=(zcQ s i.k).2.1.toNat:=rfl
theorem SI.tok_acc (h:i.k<s.length) (hb:¬ (isB (s.getD i.k 0)=true)) (hh:¬ s.getD i.k 0=35) (h0:(zcQ s i.k).2.2=0):(i.tok h hb hh h0).acc=i.acc++[(zcQ s i.k).1]:=rfl
theorem SI.start_k (s:List UInt8):(SI.start s).k=0:=rfl
theorem SI.start_acc (s:List UInt8):(SI.start s).acc=[]:=rfl
theorem u8f {c d:UInt8} (h:c≠d):(((c.toNat:Nat):Int)==((d.toNat:Nat):Int))=false:=by
 have:¬ ((c.toNat:Int)=d.toNat):=fun e=>h (UInt8.toNat.inj (by omega))
 simpa using this
theorem zwE {c:UInt8} (h:¬ (isB c=true)):c≠9∧c≠10∧c≠13∧c≠32:=by
 simp [isB] at h;exact ⟨h.1.1.1,h.1.1.2,h.1.2,h.2⟩
theorem zzN {c:UInt8} (h:isB c=true):c=9∨c=10∨c=13∨c=32:=by
 simp [isB] at h
 rcases h with ((h|h)|h)|h<;>simp [h]
end Go.Abs
namespace Go.Abs
open Go
def dg:Nat→Nat→List UInt8
 |0,_=>[]
 |f+1,n=>if n=0 then [] else dg f (n / 10)++[UInt8.ofNat (48+n % 10)]
def zdm (n:Int):List UInt8:=if n≤0 then [48] else dg 20 n.toNat
theorem zcY (f:Nat):dg f 0=[]:=by cases f<;>simp [dg]
theorem zdB (f n:Nat) (h:n≠0):dg (f+1) n=dg f (n / 10)++[UInt8.ofNat (48+n % 10)]:=by rw [dg,if_neg h]
theorem zq9:∀ (f n:Nat),n<10 ^ f→dg (f+1) n=dg f n
 |0,n,h=>by
  have:n=0:=by simpa using h
  subst this;rw [zcY,zcY]
 |f+1,n,h=>by
  by_cases h0:n=0
  ·subst h0;rw [zcY,zcY]
  ·rw [zdB _ _ h0,zdB _ _ h0,zq9 f (n / 10) (by rw [Nat.pow_succ] at h;omega)]
theorem dgD (n:Nat):isD (UInt8.ofNat (48+n % 10))=true:=by
 have h:n % 10<10:=Nat.mod_lt _ (by omega)
 unfold isD zd9
 simp
 omega
theorem zuT:∀ (f n:Nat) (c:UInt8),c ∈ dg f n→isD c=true
 |0,_,c,h=>by simp [dg] at h
 |f+1,n,c,h=>by
  by_cases h0:n=0
  ·subst h0;rw [zcY] at h;simp at h
  ·rw [zdB _ _ h0,List.mem_append,List.mem_singleton] at h
   rcases h with h|rfl
   ·exact zuT f _ c h
   ·exact dgD n
theorem zfw:∀ (l r:List UInt8) (a:Nat),ziL (l++r) a=ziL r (ziL l a)
 |[],r,a=>by simp [ziL]
 |c::l,r,a=>by simp only [List.cons_append,ziL];exact zfw l r _
theorem zuU:∀ (f n:Nat),n<10 ^ f→zdr (dg f n)=n
 |0,n,h=>by have:n=0:=(by simpa using h);subst this;rfl
 |f+1,n,h=>by
  by_cases h0:n=0
  ·subst h0;rw [zcY];rfl
  ·have hv:=zuU f (n / 10) (by rw [Nat.pow_succ] at h;omega)
   unfold zdr at *
   rw [zdB _ _ h0,zfw,hv]
   have hr:n % 10<10:=Nat.mod_lt _ (by omega)
   have:(UInt8.ofNat (48+n % 10)).toNat=48+n % 10:=by simp;omega
   simp only [ziL,this]
   omega
theorem zra:∀ (f n:Nat),(dg f n).length≤f
 |0,_=>by simp [dg]
 |f+1,n=>by
  rw [dg]
  split
  ·simp
  ·have:=zra f (n / 10);simp;omega
theorem zrb:∀ (f n:Nat),n<10 ^ f→n≠0→∃ c r,dg f n=c::r∧c≠48∧isD c=true
 |0,n,h,h0=>by simp at h;omega
 |f+1,n,h,h0=>by
  rw [zdB _ _ h0]
  by_cases h1:n / 10=0
  ·rw [h1,zcY]
   refine ⟨_,[],rfl,?_,dgD n⟩
   intro e
   have:=congrArg UInt8.toNat e
   simp at this
   omega
  ·obtain ⟨c,r,e,h2,h3⟩:=zrb f (n / 10) (by rw [Nat.pow_succ] at h;omega) h1
   exact ⟨c,r++[_],by rw [e];rfl,h2,h3⟩
structure Num (d:List UInt8):Prop where
 all:∀ c ∈ d,isD c=true
 ne:d≠[]
 lead:d.getD 0 0=48→d.length=1
inductive Sc (s:List UInt8):Nat→List TkD→Prop
 |fin {k:Nat}:s.length≤k→Sc s k []
 |blank {k:Nat} {l:List TkD}:k<s.length→isB (s.getD k 0)=true→Sc s (k+1) l→Sc s k l
 |hsh {k:Nat} {l:List TkD}:k<s.length→s.getD k 0=35→Sc s (zcr zbQ s k) l→Sc s k l
 |tok {k e:Nat} {t:TkD} {l:List TkD}:k<s.length→¬ (isB (s.getD k 0)=true)→¬ s.getD k 0=35→zcQ s k=(t,(e:Int),0)→Sc s e l→Sc s k (t::l)
theorem zkn (s:List UInt8) (k:Nat) (h:k<s.length) (hh:s.getD k 0=35):k<zcr zbQ s k∧zcr zbQ s k≤s.length:=by
 have h1:=zdk zbQ s k h
 have h2:zbQ (s.getD k 0)=true:=by rw [hh];rfl
 rw [h2,if_pos rfl] at h1
 have h3:=zft zbQ s (k+1)
 exact ⟨by omega,zgx zbQ s k (by omega)⟩
theorem zhi (s:List UInt8):∀ (f k:Nat) (acc:List TkD),s.length<k+f→(zcG s f k acc).2.2=0→∃ l,Sc s k l∧zcG s f k acc=(acc++l,0,0)
 |0,k,acc,hf,_=>⟨[],.fin (by omega),by simp [zcG]⟩
 |f+1,k,acc,hf,h=>by
  rw [zcG] at h ⊢
  by_cases hk:k<s.length
  ·rw [if_pos hk] at h ⊢
   by_cases hb:isB (s.getD k 0)=true
   ·rw [if_pos hb] at h ⊢
    obtain ⟨l,h1,h2⟩:=zhi s f (k+1) acc (by omega) h
    exact ⟨l,.blank hk hb h1,h2⟩
   ·rw [if_neg hb] at h ⊢
    by_cases hh:s.getD k 0=35
    ·rw [if_pos hh] at h ⊢
     have hg:=zkn s k hk hh
     obtain ⟨l,h1,h2⟩:=zhi s f (zcr zbQ s k) acc (by omega) h
     exact ⟨l,.hsh hk hh h1,h2⟩
    ·rw [if_neg hh] at h ⊢
     by_cases h0:(zcQ s k).2.2=0
     ·rw [if_pos h0] at h ⊢
      obtain ⟨e,he,h1,h2⟩:=zhg s k hk h0
      have het:(zcQ s k).2.1.toNat=e:=by rw [he];simp
      rw [het] at h ⊢
      obtain ⟨l,g1,g2⟩:=zhi s f e (acc++[(zcQ s k).1]) (by omega) h
      refine ⟨(zcQ s k).1::l,.tok hk hb hh ?_ g1,by rw [g2];simp⟩
      rw [←he,←h0]
     ·rw [if_neg h0] at h
      exact absurd h h0
  ·rw [if_neg hk]
   exact ⟨[],.fin (by omega),by simp⟩
theorem zf7 (s:List UInt8):∀ (f k:Nat) (acc:List TkD),(zcG s f k acc).2.2≠0→(zcG s f k acc).1=[]∧0≤(zcG s f k acc).2.1∧(zcG s f k acc).2.1≤s.length
 |0,k,acc,h=>by simp [zcG] at h
 |f+1,k,acc,h=>by
  rw [zcG] at h ⊢
  by_cases hk:k<s.length
  ·rw [if_pos hk] at h ⊢
   by_cases hb:isB (s.getD k 0)=true
   ·rw [if_pos hb] at h ⊢
    exact zf7 s f _ _ h
   ·rw [if_neg hb] at h ⊢
    by_cases hh:s.getD k 0=35
    ·rw [if_pos hh] at h ⊢
     exact zf7 s f _ _ h
    ·rw [if_neg hh] at h ⊢
     by_cases h0:(zcQ s k).2.2=0
     ·rw [if_pos h0] at h ⊢
      exact zf7 s f _ _ h
     ·rw [if_neg h0]
      exact ⟨rfl,by simp,by simp;omega⟩
  ·rw [if_neg hk] at h
   simp at h
theorem zrc (s:List UInt8) (h:(zi3 s).2.2=0):s.length≤4096∧∃ l,Sc s 0 l∧zi3 s=(l,0,0):=by
 unfold zi3 at h ⊢
 by_cases hl:s.length > 4096
 ·rw [if_pos hl] at h;simp at h
 ·rw [if_neg hl] at h ⊢
  obtain ⟨l,h1,h2⟩:=zhi s (s.length+1) 0 [] (by omega) h
  exact ⟨by omega,l,h1,by rw [h2];simp⟩
theorem ztU (s:List UInt8) (h:(zi3 s).2.2≠0):(zi3 s).1=[]∧0≤(zi3 s).2.1∧(zi3 s).2.1≤s.length:=by
 unfold zi3 at h ⊢
 by_cases hl:s.length > 4096
 ·rw [if_pos hl];exact ⟨rfl,by simp,by simp⟩
 ·rw [if_neg hl] at h ⊢
  exact zf7 s _ _ _ h
structure Good (t:TkD) (w:List UInt8):Prop where
 ne:w≠[]
 kinds:(t.kind=1∧t.text=w∧t.value=0∧isL (w.getD 0 0)=true∧(∀ c ∈ w,isW c=true)∧w.length≤16) ∨
  (t.kind=2∧t.text=[]∧t.value=zdr w∧Num w∧zdr w<9223372036854775808) ∨
  (t.kind=3∧t.text=w∧t.value=0∧isL (w.getD 0 0)=false∧isD (w.getD 0 0)=false ∧
   ((w.length=1∧zcF (w.getD 0 0).toNat 0=1)∨(w.length=2∧zcF (w.getD 0 0).toNat (w.getD 1 0).toNat=2)))
def nx (r:List UInt8):Int:=match r with
 |[]=>0
 |c::_=>(c.toNat:Int)
def zzO (t:TkD) (w r:List UInt8):Prop:=
 (t.kind≠3→∀ c,r.head?=some c→isW c=false)∧(t.kind=3→w.length=1→zcF (w.getD 0 0).toNat (nx r)=1)
theorem ztV (s:List UInt8) (a:Nat):zdA s a=nx (s.drop (a+1)):=by
 unfold zdA
 by_cases h:a+1<s.length
 ·rw [if_pos h,List.drop_eq_getElem_cons h]
  simp [nx,List.getD,h]
 ·rw [if_neg h,List.drop_eq_nil_of_le (by omega)]
  rfl
theorem ztW {c n:Int} (h:zcF c n=1) (m:Int) (hm:m≠61):zcF c m=1:=by
 unfold zcF at h ⊢
 have hm':(m==61)=false:=by simpa using hm
 rw [hm']
 split
 ·rfl
 ·rename_i h1
  rw [if_neg h1] at h
  split
  ·rfl
  ·rename_i h2
   rw [if_neg h2] at h
   split at h<;>omega
theorem znR (p:UInt8→Bool) (s:List UInt8) (a:Nat):∀ c,(s.drop (zcr p s a)).head?=some c→p c=false:=by
 intro c hc
 unfold zcr at hc
 rw [←List.drop_drop] at hc
 generalize s.drop a=u at hc
 induction u with
 |nil=>simp at hc
 |cons x u ih=>
  rw [List.takeWhile_cons] at hc
  by_cases hx:p x=true
  ·rw [if_pos hx] at hc
   simp at hc
   exact ih (by simpa using hc)
  ·rw [if_neg hx] at hc
   simp at hc
   subst hc
   simpa using hx
theorem zrd (p:UInt8→Bool) (s:List UInt8) (a:Nat):∀ c ∈ cut s a (zcr p s a),p c=true:=by
 intro c hc
 unfold cut zcr at hc
 rw [List.drop_take,show a+((s.drop a).takeWhile p).length - a=((s.drop a).takeWhile p).length by omega] at hc
 generalize s.drop a=u at hc
 have h1:u.take (u.takeWhile p).length=u.takeWhile p:=by
  induction u with
  |nil=>simp
  |cons x u ih=>
   rw [List.takeWhile_cons]
   by_cases hx:p x=true
   ·rw [if_pos hx] at *
    simp only [List.length_cons,List.take_succ_cons]
    rw [List.takeWhile_cons,if_pos hx] at hc
    simp only [List.length_cons,List.take_succ_cons] at hc
    congr 1
    clear hc
    clear ih
    induction u with
    |nil=>simp
    |cons y u ih2=>
     rw [List.takeWhile_cons]
     by_cases hy:p y=true
     ·rw [if_pos hy];simp only [List.length_cons,List.take_succ_cons];rw [ih2]
     ·rw [if_neg hy];simp
   ·rw [if_neg hx];simp
 rw [h1] at hc
 clear h1
 induction u with
 |nil=>simp at hc
 |cons x u ih=>
  rw [List.takeWhile_cons] at hc
  by_cases hx:p x=true
  ·rw [if_pos hx] at hc
   rcases List.mem_cons.1 hc with rfl|hc
   ·exact hx
   ·exact ih hc
  ·rw [if_neg hx] at hc;simp at hc
theorem ztX (s:List UInt8) (a e:Nat) (h:a<e) (he:e≤s.length):(cut s a e).getD 0 0=s.getD a 0:=by
 unfold cut
 simp [List.getD,List.getElem?_drop,List.getElem?_take,h]
theorem ztY (s:List UInt8) (a e:Nat) (h:a+1<e) (he:e≤s.length):(cut s a e).getD 1 0=s.getD (a+1) 0:=by
 unfold cut
 simp [List.getD,List.getElem?_drop,List.getElem?_take,h]
theorem znS (s:List UInt8) (k e:Nat) (t:TkD) (hk:k<s.length) (h:zcQ s k=(t,(e:Int),0)):Good t (cut s k e)∧t.pos=k∧k<e∧e≤s.length∧zzO t (cut s k e) (s.drop e):=by
 obtain ⟨e',he',hlt,hle⟩:=zhg s k hk (by rw [h])
 rw [h] at he'
 simp only [Int.ofNat_inj] at he'
 have hee:e=e':=by omega
 subst hee
 have hne:=zq8 s k e hlt hle
 have hg0:=ztX s k e hlt hle
 have hcl:=zkl s k e hle
 unfold zcQ at h
 by_cases hl:isL (s.getD k 0)=true
 ·rw [if_pos hl] at h
  by_cases h16:zcr isW s k - k > 16
  ·rw [if_pos h16] at h;simp at h
  ·rw [if_neg h16] at h
   simp only [Prod.mk.injEq,Int.ofNat_inj,and_true] at h
   obtain ⟨rfl,h2⟩:=h
   have h2':zcr isW s k=e:=by omega
   subst h2'
   refine ⟨⟨hne,.inl ⟨rfl,rfl,rfl,by rw [hg0];exact hl,zrd isW s k,by omega⟩⟩,rfl,hlt,hle,?_,?_⟩
   ·intro _;exact znR isW s k
   ·intro hc;simp at hc
 ·rw [if_neg hl] at h
  by_cases hd:isD (s.getD k 0)=true
  ·rw [if_pos hd] at h
   unfold ztQ at h
   have hnl:=zlx s k hk
   by_cases hw:zcr isW s (zci s k) > zci s k
   ·rw [if_pos hw] at h;simp at h
   ·rw [if_neg hw] at h
    by_cases hv:zdr (cut s k (zci s k))<9223372036854775808
    ·rw [if_pos hv] at h
     simp only [Prod.mk.injEq,Int.ofNat_inj,and_true] at h
     obtain ⟨rfl,h2⟩:=h
     have h2':zci s k=e:=by omega
     have hstop:=znR isW s (zci s k)
     have hge:=zft isW s (zci s k)
     rw [show zcr isW s (zci s k)=zci s k by omega,h2'] at hstop
     rw [h2'] at hv hge hw ⊢
     refine ⟨⟨hne,.inr (.inl ⟨rfl,rfl,rfl,⟨?_,hne,?_⟩,hv⟩)⟩,rfl,hlt,hle,?_,?_⟩
     ·unfold zci at h2'
      split at h2'
      ·rw [←h2',zhh s k k hk (Nat.le_refl _),znP];simpa using hd
      ·have h3:=zrd isD s k
       rw [zdk isD s k hk,if_pos hd,h2'] at h3
       exact h3
     ·intro h48
      rw [hg0] at h48
      unfold zci at h2'
      rw [if_pos h48] at h2'
      omega
     ·intro _;exact hstop
     ·intro hc;simp at hc
    ·rw [if_neg hv] at h;simp at h
  ·rw [if_neg hd] at h
   by_cases h0:zcF (s.getD k 0).toNat (zdA s k)=0
   ·rw [if_pos h0] at h;simp at h
   ·rw [if_neg h0] at h
    have hs:=zkk (s.getD k 0).toNat (zdA s k)
    simp only [Prod.mk.injEq,and_true] at h
    obtain ⟨rfl,h2⟩:=h
    have h2':k+(zcF (s.getD k 0).toNat (zdA s k)).toNat=e:=by omega
    rw [h2']
    have hl':isL (s.getD k 0)=false:=by simpa using hl
    have hd':isD (s.getD k 0)=false:=by simpa using hd
    by_cases h1:zcF (s.getD k 0).toNat (zdA s k)=1
    ·have he1:e=k+1:=by omega
     refine ⟨⟨hne,.inr (.inr ⟨rfl,rfl,rfl,by rw [hg0];exact hl',by rw [hg0];exact hd',.inl ⟨by omega,?_⟩⟩)⟩,rfl,hlt,hle,?_,?_⟩
     ·rw [hg0];exact ztW h1 0 (by omega)
     ·intro hc;simp at hc
     ·intro _ _
      rw [hg0,he1,←ztV]
      exact h1
    ·have h22:zcF (s.getD k 0).toNat (zdA s k)=2:=by omega
     have he1:e=k+2:=by omega
     have hg1:=ztY s k e (by omega) hle
     refine ⟨⟨hne,.inr (.inr ⟨rfl,rfl,rfl,by rw [hg0];exact hl',by rw [hg0];exact hd',.inr ⟨by omega,?_⟩⟩)⟩,rfl,hlt,hle,?_,?_⟩
     ·rw [hg0,hg1]
      rw [←h22]
      unfold zdA
      rw [if_pos (by omega)]
     ·intro hc;simp at hc
     ·intro _ hc;omega
theorem Sc.good {s:List UInt8} {k:Nat} {l:List TkD} (h:Sc s k l):∀ t ∈ l,∃ e:Nat,∃ a:Nat,t.pos=a∧k≤a∧a<e∧e≤s.length∧Good t (cut s a e):=by
 induction h with
 |fin _=>intro t ht;simp at ht
 |blank hk hb _ ih=>
  intro t ht
  obtain ⟨e,a,h1,h2,h3⟩:=ih t ht
  exact ⟨e,a,h1,by omega,h3⟩
 |@hsh k l hk hh _ ih=>
  intro t ht
  obtain ⟨e,a,h1,h2,h3⟩:=ih t ht
  have:=zkn s k hk hh
  exact ⟨e,a,h1,by omega,h3⟩
 |@tok k e t l hk hb hh ho _ ih=>
  intro x hx
  obtain ⟨g1,g2,g3,g4,_⟩:=znS s k e t hk ho
  rcases List.mem_cons.1 hx with rfl|hx
  ·exact ⟨e,k,g2,by omega,g3,g4,g1⟩
  ·obtain ⟨e',a,h1,h2,h3⟩:=ih x hx
   exact ⟨e',a,h1,by omega,h3⟩
theorem zmA:∀ (f:Nat) (d:List UInt8),(∀ c ∈ d,isD c=true)→(d.getD 0 0≠48)→d.length≤f→dg f (zdr d)=d∧(d≠[]→0<zdr d)
 |0,d,hd,h0,hl=>by
  have:d=[]:=List.length_eq_zero_iff.1 (by omega)
  subst this
  exact ⟨rfl,fun h=>absurd rfl h⟩
 |f+1,d,hd,h0,hl=>by
  by_cases hne:d=[]
  ·subst hne;exact ⟨zcY _,fun h=>absurd rfl h⟩
  ·obtain ⟨r,c,rfl⟩:∃ r c,d=r++[c]:=⟨d.dropLast,d.getLast hne,(List.dropLast_concat_getLast hne).symm⟩
   have hc:=zf5 (hd c (by simp))
   have hv:zdr (r++[c])=zdr r * 10+(c.toNat - 48):=by
    unfold zdr;rw [zfw];rfl
   by_cases hr:r=[]
   ·subst hr
    have hc48:c≠48:=by simpa using h0
    have hcn:c.toNat≠48:=fun e=>hc48 (UInt8.toNat.inj (by simpa using e))
    have hv1:zdr [c]=c.toNat - 48:=by simp [zdr,ziL]
    rw [List.nil_append,hv1,zdB _ _ (by omega),show (c.toNat - 48) / 10=0 by omega,zcY,show 48+(c.toNat - 48) % 10=c.toNat by omega]
    exact ⟨by simp,fun _=>by omega⟩
   ·have h0':r.getD 0 0≠48:=by
     cases r with
     |nil=>exact absurd rfl hr
     |cons x r=>simpa using h0
    obtain ⟨ih1,ih2⟩:=zmA f r (fun x hx=>hd x (by simp [hx])) h0' (by simp at hl;omega)
    have hp:=ih2 hr
    rw [hv,zdB _ _ (by omega),show (zdr r * 10+(c.toNat - 48)) / 10=zdr r by omega,ih1,show 48+(zdr r * 10+(c.toNat - 48)) % 10=c.toNat by omega]
    exact ⟨by simp,fun _=>by omega⟩
theorem znT:∀ (l:List UInt8) (acc:Nat),acc * 10 ^ l.length≤ziL l acc
 |[],acc=>by simp [ziL]
 |c::r,acc=>by
  rw [zh5]
  refine Nat.le_trans ?_ (znT r _)
  rw [List.length_cons,Nat.pow_succ,Nat.mul_comm (10 ^ r.length) 10,←Nat.mul_assoc]
  exact Nat.mul_le_mul_right _ (by omega)
theorem zwF {d:List UInt8} (hd:Num d) (hv:zdr d<9223372036854775808):d.length≤20:=by
 cases d with
 |nil=>simp
 |cons c r=>
  by_cases h48:c=48
  ·subst h48;have:=hd.lead rfl;omega
  ·have hc:=zf5 (hd.all c (by simp))
   have hcn:c.toNat≠48:=fun e=>h48 (UInt8.toNat.inj (by simpa using e))
   have hlow:=znT r (c.toNat - 48)
   have hvv:zdr (c::r)=ziL r (c.toNat - 48):=by unfold zdr;rw [zh5];simp
   rw [hvv] at hv
   by_cases hl:r.length≤18
   ·simp;omega
   ·exfalso
    have h1:10 ^ 19≤10 ^ r.length:=Nat.pow_le_pow_right (by omega) (by omega)
    have h2:1 * 10 ^ r.length≤(c.toNat - 48) * 10 ^ r.length:=Nat.mul_le_mul_right _ (by omega)
    have h3:(10:Nat) ^ 19=10000000000000000000:=by decide
    omega
theorem zwG {d:List UInt8} (hd:Num d) (hv:zdr d<9223372036854775808):zdm (zdr d)=d:=by
 by_cases h48:d.getD 0 0=48
 ·have hl:=hd.lead h48
  match d,hl with
  |[c],_=>simp at h48;subst h48;rfl
 ·obtain ⟨h1,h2⟩:=zmA 20 d hd.all h48 (zwF hd hv)
  have:=h2 hd.ne
  unfold zdm
  rw [if_neg (by omega),Int.toNat_natCast,h1]
def zmB (t:TkD):List UInt8:=if t.kind=1∨t.kind=3 then t.text else if t.kind=2 then zdm t.value else []
theorem Good.word {t:TkD} {w:List UInt8} (hg:Good t w):zmB t=w:=by
 unfold zmB
 rcases hg.kinds with ⟨h1,h2,_⟩|⟨h1,_,h3,h4,h5⟩|⟨h1,h2,_⟩
 ·rw [if_pos (.inl h1),h2]
 ·rw [if_neg (by omega),if_pos h1,h3,zwG h4 h5]
 ·rw [if_pos (.inr h1),h2]
theorem zre:∀ (f m:Nat),0<m→m<10 ^ f→Lib.decDigits m=dg f m
 |0,m,h0,h=>by simp at h;omega
 |f+1,m,h0,h=>by
  rw [zdB _ _ (by omega),Lib.decDigits]
  by_cases h9:m<10
  ·rw [dif_pos h9,Nat.div_eq_of_lt h9,zcY,Nat.mod_eq_of_lt h9];rfl
  ·rw [dif_neg h9,zre f (m / 10) (by omega) (by rw [Nat.pow_succ] at h;omega)]
theorem ztZ (v:Int) (h:v≤9223372036854775807):Lib.itoa (zi8 v 0)=zdm v:=by
 unfold zdm Lib.itoa zi8
 by_cases h0:v≤0
 ·rw [if_pos h0]
  by_cases h1:v<0
  ·simp [h1,Lib.decDigits]
  ·have:v=0:=by omega
   subst this
   simp [Lib.decDigits]
 ·rw [if_neg h0,if_neg (by omega:¬ v<0)]
  rw [if_neg (by omega)]
  exact zre 20 v.toNat (by omega) (by omega)
section
variable (op value:Int) (name:List UInt8) (slot size:Int) (args:List Ex) (place val:Ex) (body els:List Sm)
theorem Ex.op_mk:(Ex.mk op value name slot size args).op=op:=rfl
theorem Ex.value_mk:(Ex.mk op value name slot size args).value=value:=rfl
theorem Ex.name_mk:(Ex.mk op value name slot size args).name=name:=rfl
theorem Ex.slot_mk:(Ex.mk op value name slot size args).slot=slot:=rfl
theorem Ex.size_mk:(Ex.mk op value name slot size args).size=size:=rfl
theorem Ex.args_mk:(Ex.mk op value name slot size args).args=args:=rfl
theorem Sm.kind_mk:(Sm.mk op name slot size place val body els).kind=op:=rfl
theorem Sm.name_mk:(Sm.mk op name slot size place val body els).name=name:=rfl
theorem Sm.slot_mk:(Sm.mk op name slot size place val body els).slot=slot:=rfl
theorem Sm.size_mk:(Sm.mk op name slot size place val body els).size=size:=rfl
theorem Sm.place_mk:(Sm.mk op name slot size place val body els).place=place:=rfl
theorem Sm.value_mk:(Sm.mk op name slot size place val body els).value=val:=rfl
theorem Sm.body_mk:(Sm.mk op name slot size place val body els).body=body:=rfl
theorem Sm.els_mk:(Sm.mk op name slot size place val body els).els=els:=rfl
end
structure Pl where
 name:List UInt8
 slot:Int
 size:Int
def zgz (p:Pl):PVal × Bool × List PVal:=(.str p.name,true,[.int .i64 p.slot,.int .i64 p.size])
def zh7 (n:List UInt8):List Pl→Option (Int × Int)
 |[]=>none
 |p::r=>if n=p.name then some (p.slot,p.size) else zh7 n r
def zo7 (n:List UInt8) (a b:Int):List Pl→List Pl
 |[]=>[⟨n,a,b⟩]
 |p::r=>if n=p.name then ⟨n,a,b⟩::r else p::zo7 n a b r
theorem zh8 (n:List UInt8):∀ l:List Pl,ze6 (.str n) (l.map zgz)=(zh7 n l).map fun q=>(true,[.int .i64 q.1,.int .i64 q.2])
 |[]=>rfl
 |p::r=>by
  simp only [List.map_cons,ze6,zh7]
  by_cases h:n=p.name
  ·subst h;simp [ze5,zgz]
  ·have:ze5 (.str n) (zgz p).1=false:=by simp [ze5,zgz,h]
   rw [this,if_neg h,if_neg (by simp)]
   exact zh8 n r
theorem zko (n:List UInt8) (a b:Int):∀ l:List Pl,zox (.str n) (true,[.int .i64 a,.int .i64 b]) (l.map zgz)=(zo7 n a b l).map zgz
 |[]=>rfl
 |p::r=>by
  simp only [List.map_cons,zox,zo7]
  by_cases h:n=p.name
  ·subst h;simp [ze5,zgz]
  ·have:ze5 (.str n) (zgz p).1=false:=by simp [ze5,zgz,h]
   rw [this,if_neg h,if_neg (by simp)]
   simp [zko n a b r]
abbrev Fl:=Bool × Bool
def zfx (pl:List Pl) (n:List UInt8) (arr:Bool) (f:Fl):(Int × Int) × Fl:=
 match zh7 n pl with
 |none=>((0,0),(true,f.2))
 |some q=>(q,(f.1,f.2 || (arr != decide (q.2 > 0))))
def zdK (pl:List Pl) (op:Int) (n:List UInt8) (a b:Int) (f:Fl) (k1 k2:Int):(Int × Int) × Fl:=
 if op=k1 then zfx pl n false f else if op=k2 then zfx pl n true f else ((a,b),f)
mutual
def rsE (pl:List Pl):Ex→Fl→Ex × Fl
 |.mk op v n a b args,f=>
  (.mk op v n (zdK pl op n a b f 2 3).1.1 (zdK pl op n a b f 2 3).1.2 (zdR pl args (zdK pl op n a b f 2 3).2).1,(zdR pl args (zdK pl op n a b f 2 3).2).2)
def zdR (pl:List Pl):List Ex→Fl→List Ex × Fl
 |[],f=>([],f)
 |e::r,f=>((rsE pl e f).1::(zdR pl r (rsE pl e f).2).1,(zdR pl r (rsE pl e f).2).2)
end
theorem zzP (pl:List Pl) (e:Ex) (f:Fl):rsE pl e f=(.mk e.op e.value e.name (zdK pl e.op e.name e.slot e.size f 2 3).1.1 (zdK pl e.op e.name e.slot e.size f 2 3).1.2 (zdR pl e.args (zdK pl e.op e.name e.slot e.size f 2 3).2).1,(zdR pl e.args (zdK pl e.op e.name e.slot e.size f 2 3).2).2):=by
 cases e;simp [rsE,Ex.op,Ex.value,Ex.name,Ex.slot,Ex.size,Ex.args]
theorem zdZ (pl:List Pl):∀ (l:List Ex) (f:Fl),(zdR pl l f).1.length=l.length
 |[],f=>by simp [zdR]
 |e::r,f=>by simp [zdR,zdZ pl r]
theorem zlz (pl:List Pl):∀ (l:List Ex) (x:Ex) (f:Fl),zdR pl (l++[x]) f=((zdR pl l f).1++[(rsE pl x (zdR pl l f).2).1],(rsE pl x (zdR pl l f).2).2)
 |[],x,f=>by simp [zdR]
 |e::r,x,f=>by simp [zdR,zlz pl r]
mutual
def rsS (pl:List Pl):Sm→Fl→Sm × Fl
 |.mk k n a b p v body els,f=>
  let q:=zdK pl k n a b f 1 2
  let p':=rsE pl p q.2
  let v':=rsE pl v p'.2
  let b':=zcZ pl body v'.2
  let e':=zcZ pl els b'.2
  (.mk k n q.1.1 q.1.2 p'.1 v'.1 b'.1 e'.1,e'.2)
def zcZ (pl:List Pl):List Sm→Fl→List Sm × Fl
 |[],f=>([],f)
 |e::r,f=>((rsS pl e f).1::(zcZ pl r (rsS pl e f).2).1,(zcZ pl r (rsS pl e f).2).2)
end
def rsQ (pl:List Pl) (s:Sm) (f:Fl):=zdK pl s.kind s.name s.slot s.size f 1 2
def rsP (pl:List Pl) (s:Sm) (f:Fl):=rsE pl s.place (rsQ pl s f).2
def rsV (pl:List Pl) (s:Sm) (f:Fl):=rsE pl s.value (rsP pl s f).2
def rsB (pl:List Pl) (s:Sm) (f:Fl):=zcZ pl s.body (rsV pl s f).2
def rsL (pl:List Pl) (s:Sm) (f:Fl):=zcZ pl s.els (rsB pl s f).2
theorem zzQ (pl:List Pl) (s:Sm) (f:Fl):rsS pl s f=(.mk s.kind s.name (rsQ pl s f).1.1 (rsQ pl s f).1.2 (rsP pl s f).1 (rsV pl s f).1 (rsB pl s f).1 (rsL pl s f).1,(rsL pl s f).2):=by
 cases s;simp [rsS,rsL,rsB,rsV,rsP,rsQ,Sm.kind,Sm.name,Sm.slot,Sm.size,Sm.place,Sm.value,Sm.body,Sm.els]
theorem zkp (pl:List Pl):∀ (l:List Sm) (f:Fl),(zcZ pl l f).1.length=l.length
 |[],f=>by simp [zcZ]
 |e::r,f=>by simp [zcZ,zkp pl r]
theorem zlA (pl:List Pl):∀ (l:List Sm) (x:Sm) (f:Fl),zcZ pl (l++[x]) f=((zcZ pl l f).1++[(rsS pl x (zcZ pl l f).2).1],(rsS pl x (zcZ pl l f).2).2)
 |[],x,f=>by simp [zcZ]
 |e::r,x,f=>by simp [zcZ,zlA pl r]
theorem zh9 (pl:List Pl) (l:List Ex) (f:Fl) (k:Nat) (h:k<l.length):zdR pl (l.take (k+1)) f=((zdR pl (l.take k) f).1++[(rsE pl l[k] (zdR pl (l.take k) f).2).1],(rsE pl l[k] (zdR pl (l.take k) f).2).2):=by rw [List.take_succ_eq_append_getElem h,zlz]
theorem zrf (pl:List Pl) (l:List Sm) (f:Fl) (k:Nat) (h:k<l.length):zcZ pl (l.take (k+1)) f=((zcZ pl (l.take k) f).1++[(rsS pl l[k] (zcZ pl (l.take k) f).2).1],(rsS pl l[k] (zcZ pl (l.take k) f).2).2):=by rw [List.take_succ_eq_append_getElem h,zlA]
def zwH:List Pl→List VarD→Option (List Pl)
 |es,[]=>some es
 |es,v::r=>if (zh7 v.name es).isSome then none else zwH (zo7 v.name 0 0 es) r
def zmC:List Pl→List Int→List VarD→Option (List Pl × List Int)
 |es,xs,[]=>some (es,xs)
 |es,xs,v::r=>if mx v.size 1 > 32 - xs.length then none else zmC (zo7 v.name xs.length v.size es) (xs++[v.init]++List.replicate ((mx v.size 1).toNat - 1) 0) r
structure CdD where
 init:List Int
 start:List Sm
 message:List Sm
 tick:List Sm
 input:List Sm
def zt0 (n:Int):List PVal:=[.int .i64 n]
def cdA (c:CdD):AVal:=.agg [.pv (.slice (c.init.map zt0)),.pv (.slice (c.start.map zah)),.pv (.slice (c.message.map zah)),.pv (.slice (c.tick.map zah)),.pv (.slice (c.input.map zah))]
def cd0:CdD:=⟨[],[],[],[],[]⟩
def rs4 (pl:List Pl) (p:PgD):(List Sm × List Sm × List Sm × List Sm) × Fl:=
 let a:=zcZ pl p.start (false,false)
 let b:=zcZ pl p.message a.2
 let c:=zcZ pl p.tick b.2
 let d:=zcZ pl p.input c.2
 ((a.1,b.1,c.1,d.1),d.2)
def zC9 (xs:List Int) (r:(List Sm × List Sm × List Sm × List Sm) × Fl):CdD × Int:=
 if r.2.1 then (cd0,2) else if r.2.2 then (cd0,7) else (⟨xs,r.1.1,r.1.2.1,r.1.2.2.1,r.1.2.2.2⟩,0)
def zcs (p:PgD):CdD × Int:=
 if zcP zao p≠0 then (cd0,zcP zao p)
 else if p.vars.length > 16 then (cd0,4)
 else match zwH [] p.vars with
  |none=>(cd0,2)
  |some es=>match zmC es [] p.vars with
   |none=>(cd0,4)
   |some q=>zC9 q.2 (rs4 q.1 p)
end Go.Abs
namespace Go.Abs
open Go
def zb2:List UInt8:=[32,118,97,114,32,97,114,114,97,121,32,111,110,32,115,116,97,114,116,32,109,101,115,115,97,103,101,32,116,105,99,107,32,105,110,112,117,116,32,105,102,32,101,108,115,101,32,119,104,105,108,101,32,115,101,110,100,32,111,117,116,112,117,116,32,115,101,108,102,32,112,114,111,99,115,32,102,114,111,109,32,118,97,108,117,101,32]
theorem zeX:zb2.length=87:=rfl
def zDa:List (List UInt8):=[[118,97,114],[97,114,114,97,121],[111,110],[115,116,97,114,116],[109,101,115,115,97,103,101],[116,105,99,107],[105,110,112,117,116],[105,102],[101,108,115,101],[119,104,105,108,101],[115,101,110,100],[111,117,116,112,117,116],[115,101,108,102],[112,114,111,99,115],[102,114,111,109],[118,97,108,117,101]]
theorem zt1 {s:List UInt8} (h:zq3 s=true):s ∈ zDa:=by
 simp only [zq3,Bool.or_eq_true,beq_iff_eq] at h
 simp only [zDa,List.mem_cons,List.not_mem_nil,or_false]
 grind
def zwI (s:List UInt8) (i:Nat):Bool:=(zb2.take (i+(s.length+2))).drop i==32::(s++[32])
theorem zrg:∀ w ∈ zDa,(List.range 87).any (fun i=>decide (i+(w.length+2)≤87)&&zwI w i)=true:=by decide +kernel
theorem zrh {s:List UInt8} (h:∀ i,i+(s.length+2)≤87→zwI s i=false):zq3 s=false:=by
 cases hr:zq3 s with
 |false=>rfl
 |true=>
  have:=zrg s (zt1 hr)
  rw [List.any_eq_true] at this
  obtain ⟨i,_,hi⟩:=this
  simp only [Bool.and_eq_true,decide_eq_true_eq] at hi
  rw [h i hi.1] at hi
  exact absurd hi.2 (by simp)
theorem zt2:∀ i<87,(zb2.drop (i+1)).takeWhile (· != 32)=[]∨zq3 ((zb2.drop (i+1)).takeWhile (· != 32))=true∨zb2.getD i 0≠32:=by decide +kernel
theorem zdn:∀ (s r:List UInt8),(∀ c ∈ s,c≠32)→(s++32::r).takeWhile (· != 32)=s
 |[],r,_=>by simp
 |c::s,r,h=>by
  have h1:c≠32:=h c (by simp)
  simp [List.takeWhile_cons,h1,zdn s r (fun x hx=>h x (by simp [hx]))]
theorem zt3 {s:List UInt8} (h0:s≠[]) (hb:∀ c ∈ s,c≠32) {i:Nat} (hi:i+(s.length+2)≤87) (hh:zwI s i=true):zq3 s=true:=by
 simp only [zwI,beq_iff_eq] at hh
 have hd:zb2.drop i=32::(s++32::zb2.drop (i+(s.length+2))):=by
  have h1:zb2=zb2.take (i+(s.length+2))++zb2.drop (i+(s.length+2)):=(List.take_append_drop _ _).symm
  have h2:zb2.drop i=(zb2.take (i+(s.length+2))).drop i++zb2.drop (i+(s.length+2)):=by
   conv=>lhs;rw [h1]
   rw [List.drop_append_of_le_length (by rw [List.length_take,zeX];omega)]
  rw [h2,hh];simp
 have hd1:zb2.drop (i+1)=s++32::zb2.drop (i+(s.length+2)):=by
  have:zb2.drop (i+1)=(zb2.drop i).drop 1:=by rw [List.drop_drop]
  rw [this,hd];rfl
 have hlt:i<87:=by omega
 rcases zt2 i hlt with h|h|h
 ·rw [hd1,zdn s _ hb] at h;exact absurd h h0
 ·rw [hd1,zdn s _ hb] at h;exact h
 ·exfalso;apply h
  have hw:i<zb2.length:=by rw [zeX];exact hlt
  have:(zb2.drop i)[0]?=some 32:=by rw [hd];rfl
  rw [List.getElem?_drop,Nat.add_zero] at this
  simp [List.getD,this]
theorem zri (s:List UInt8):(((ztP s 0:Nat):Int)==(s.length:Int))=s.all isW:=by
 rw [zmx]
 unfold ztP
 simp only [List.drop_zero,Nat.zero_add]
 induction s with
 |nil=>rfl
 |cons c r ih=>
  rw [List.takeWhile_cons]
  cases h:isW c
  ·simp [h]
  ·simp only [if_true,List.length_cons,List.all_cons,h,Bool.true_and]
   rw [←ih]
   simp
def zl5 (x:UInt8):List PVal:=[.int .u8 (x.toNat:Int)]
def nxt (xs:List UInt8) (a:Nat) (n:Int):Int × Nat:=if a<xs.length then (((xs.getD a 0).toNat:Int).tmod n,a+1) else (0,a)
theorem zaM (xs:List UInt8) (a:Nat) (n:Int) (h:0<n):0≤(nxt xs a n).1∧(nxt xs a n).1<n:=by
 unfold nxt
 split
 ·exact ⟨Int.tmod_nonneg _ (by omega),Int.tmod_lt_of_pos _ h⟩
 ·exact ⟨Int.le_refl _,h⟩
theorem zaG (xs:List UInt8) (a:Nat) (n:Int) (h:a≤xs.length):(nxt xs a n).2≤xs.length:=by unfold nxt;split<;>simp<;>omega
def exL (op value:Int) (name:List UInt8) (args:List Ex):Ex:=.mk op value name 0 0 args
def zrj (i:Int):List UInt8:=if i=0 then [120] else if i=1 then [121] else [122]
def zuV (i:Int):List UInt8:=if i=0 then [97] else [98]
def opN (i:Int):Int:=if i=0 then 4 else if i=1 then 5 else 6
def kF (small:Bool) (k m:Int):Int:=if (small&&decide (k≥m))=true then k - m else k
def zct (xs:List UInt8) (rec:Nat→Ex × Nat) (small:Bool) (a:Nat):Ex × Nat:=
 if kF small (nxt xs a 12).1 8<2 then (exL 1 (nxt xs (nxt xs a 12).2 5).1 [] [],(nxt xs (nxt xs a 12).2 5).2)
 else if kF small (nxt xs a 12).1 8<4 then (exL 2 0 (zrj (nxt xs (nxt xs a 12).2 3).1) [],(nxt xs (nxt xs a 12).2 3).2)
 else if kF small (nxt xs a 12).1 8=4 then (exL 7 0 [] [],(nxt xs a 12).2)
 else if kF small (nxt xs a 12).1 8=5 then (exL (opN (nxt xs (nxt xs a 12).2 3).1) 0 [] [],(nxt xs (nxt xs a 12).2 3).2)
 else if kF small (nxt xs a 12).1 8=6∨small=true then (exL 1 (1+(nxt xs (nxt xs a 12).2 200).1) [] [],(nxt xs (nxt xs a 12).2 200).2)
 else if kF small (nxt xs a 12).1 8=7 then (exL 3 0 (zuV (nxt xs (nxt xs a 12).2 2).1) [(rec (nxt xs (nxt xs a 12).2 2).2).1],(rec (nxt xs (nxt xs a 12).2 2).2).2)
 else if kF small (nxt xs a 12).1 8=8 then (exL (8+(nxt xs (nxt xs a 12).2 2).1) 0 [] [(rec (nxt xs (nxt xs a 12).2 2).2).1],(rec (nxt xs (nxt xs a 12).2 2).2).2)
 else (exL (10+(nxt xs (rec (nxt xs a 12).2).2 13).1) 0 [] [(rec (nxt xs a 12).2).1,(rec (nxt xs (rec (nxt xs a 12).2).2 13).2).1],(rec (nxt xs (rec (nxt xs a 12).2).2 13).2).2)
def za2 (xs:List UInt8):Nat→Nat→Ex × Nat
 |0,a=>zct xs (fun a=>(exL 0 0 [] [],a)) true a
 |d+1,a=>zct xs (za2 xs d) (decide (d+1≤1)) a
theorem zia (xs:List UInt8) (rec:Nat→Ex × Nat) (small:Bool) (a:Nat) (ha:a≤xs.length) (hr:∀ a≤xs.length,(rec a).2≤xs.length):(zct xs rec small a).2≤xs.length:=by
 have h0:=zaG xs a 12 ha
 unfold zct
 repeat' split
 all_goals first|exact zaG _ _ _ h0|exact h0|exact hr _ (zaG _ _ _ h0)|exact hr _ (zaG _ _ _ (hr _ h0))
theorem zbj (xs:List UInt8):∀ (d a:Nat),a≤xs.length→(za2 xs d a).2≤xs.length
 |0,a,h=>zia xs _ _ a h (fun a h=>h)
 |d+1,a,h=>zia xs _ _ a h (fun a h=>zbj xs d a h)
def smL (kind:Int) (name:List UInt8) (place value:Ex) (body els:List Sm):Sm:=.mk kind name 0 0 place value body els
def ex0:Ex:=.mk 0 0 [] 0 0 []
def zbu (xs:List UInt8) (rec:Int→Nat→List Sm × Nat) (small:Bool) (a:Nat):Sm × Nat:=
 let q:=nxt xs a 10
 if kF small q.1 7<3 then (smL 1 (zrj (nxt xs q.2 3).1) ex0 (za2 xs 3 (nxt xs q.2 3).2).1 [] [],(za2 xs 3 (nxt xs q.2 3).2).2)
 else if kF small q.1 7=3 then (smL 2 (zuV (nxt xs q.2 2).1) (za2 xs 2 (nxt xs q.2 2).2).1 (za2 xs 2 (za2 xs 2 (nxt xs q.2 2).2).2).1 [] [],(za2 xs 2 (za2 xs 2 (nxt xs q.2 2).2).2).2)
 else if kF small q.1 7<6 then (smL 5 [] (za2 xs 2 q.2).1 (za2 xs 2 (za2 xs 2 q.2).2).1 [] [],(za2 xs 2 (za2 xs 2 q.2).2).2)
 else if kF small q.1 7=6 then (smL 6 [] ex0 (za2 xs 2 q.2).1 [] [],(za2 xs 2 q.2).2)
 else if kF small q.1 7<9 then (smL 3 [] ex0 (za2 xs 2 q.2).1 (rec 2 (za2 xs 2 q.2).2).1 (rec 1 (rec 2 (za2 xs 2 q.2).2).2).1,(rec 1 (rec 2 (za2 xs 2 q.2).2).2).2)
 else (smL 4 [] ex0 (za2 xs 2 q.2).1 (rec 2 (za2 xs 2 q.2).2).1 [],(rec 2 (za2 xs 2 q.2).2).2)
def za4 (xs:List UInt8) (rec:Int→Nat→List Sm × Nat) (small:Bool):Nat→Nat→List Sm × Nat
 |0,a=>([],a)
 |n+1,a=>((zbu xs rec small a).1::(za4 xs rec small n (zbu xs rec small a).2).1,(za4 xs rec small n (zbu xs rec small a).2).2)
def zca (xs:List UInt8) (rec:Int→Nat→List Sm × Nat) (small:Bool) (most:Int) (a:Nat):List Sm × Nat:=
 za4 xs rec small (nxt xs a (most+1)).1.toNat (nxt xs a (most+1)).2
def zb3 (xs:List UInt8):Nat→Int→Nat→List Sm × Nat
 |0,most,a=>zca xs (fun _ a=>([],a)) true most a
 |d+1,most,a=>zca xs (zb3 xs d) (decide (d+1≤1)) most a
theorem zfy (xs:List UInt8) (rec:Int→Nat→List Sm × Nat) (small:Bool) (a:Nat) (ha:a≤xs.length) (hr:∀ m a,a≤xs.length→(rec m a).2≤xs.length):(zbu xs rec small a).2≤xs.length:=by
 have h0:=zaG xs a 10 ha
 unfold zbu
 dsimp only
 repeat' split
 all_goals dsimp only
 all_goals first|exact zbj _ _ _ (zaG _ _ _ h0)|exact zbj _ _ _ (zbj _ _ _ (zaG _ _ _ h0))|exact zbj _ _ _ (zbj _ _ _ h0)|exact zbj _ _ _ h0|exact hr _ _ (hr _ _ (zbj _ _ _ h0))|exact hr _ _ (zbj _ _ _ h0)
theorem zeB (xs:List UInt8) (rec:Int→Nat→List Sm × Nat) (small:Bool) (hr:∀ m a,a≤xs.length→(rec m a).2≤xs.length):∀ (n a:Nat),a≤xs.length→(za4 xs rec small n a).2≤xs.length
 |0,a,h=>h
 |n+1,a,h=>zeB xs rec small hr n _ (zfy xs rec small a h hr)
theorem zcu (xs:List UInt8):∀ (d:Nat) (m:Int) (a:Nat),a≤xs.length→(zb3 xs d m a).2≤xs.length
 |0,m,a,h=>zeB xs _ _ (fun _ _ h=>h) _ _ (zaG _ _ _ h)
 |d+1,m,a,h=>zeB xs _ _ (fun m a h=>zcu xs d m a h) _ _ (zaG _ _ _ h)
def eB:Nat→Nat
 |0=>1
 |d+1=>1+2 * eB d
theorem zib (xs:List UInt8) (rec:Nat→Ex × Nat) (small:Bool) (a B:Nat) (hr:∀ a,szE (rec a).1≤B):szE (zct xs rec small a).1≤1+2 * B:=by
 have h:=fun a=>hr a
 unfold zct
 repeat' split
 all_goals simp only [exL,szE,zgu]
 all_goals try omega
 ·have:=h (nxt xs (nxt xs a 12).2 2).2;omega
 ·have:=h (nxt xs (nxt xs a 12).2 2).2;omega
 ·have:=h (nxt xs a 12).2;have:=h (nxt xs (rec (nxt xs a 12).2).2 13).2;omega
theorem zkq (xs:List UInt8):∀ (d a:Nat),szE (za2 xs d a).1≤1+2 * eB d
 |0,a=>zib xs _ _ a 1 (fun a=>by simp [exL,szE,zgu])
 |d+1,a=>zib xs _ _ a _ (fun a=>by have:=zkq xs d a;simp only [eB] at *;omega)
def sB:Nat→Nat
 |0=>100
 |d+1=>100+3 * sB d
theorem zic (xs:List UInt8) (rec:Int→Nat→List Sm × Nat) (small:Bool) (a B:Nat) (h2:∀ a,zbx (rec 2 a).1≤2 * B) (h1:∀ a,zbx (rec 1 a).1≤B):szS (zbu xs rec small a).1≤100+3 * B:=by
 have e2:=fun a=>zkq xs 2 a
 have e3:=fun a=>zkq xs 3 a
 simp only [eB] at e2 e3
 unfold zbu
 dsimp only
 repeat' split
 all_goals simp only [smL,szS,zbx,ex0,szE,zgu]
 ·have:=e3 (nxt xs (nxt xs a 10).2 3).2;omega
 ·have:=e2 (nxt xs (nxt xs a 10).2 2).2;have:=e2 (za2 xs 2 (nxt xs (nxt xs a 10).2 2).2).2;omega
 ·have:=e2 (nxt xs a 10).2;have:=e2 (za2 xs 2 (nxt xs a 10).2).2;omega
 ·have:=e2 (nxt xs a 10).2;omega
 ·have:=e2 (nxt xs a 10).2;have:=h2 (za2 xs 2 (nxt xs a 10).2).2;have:=h1 (rec 2 (za2 xs 2 (nxt xs a 10).2).2).2;omega
 ·have:=e2 (nxt xs a 10).2;have:=h2 (za2 xs 2 (nxt xs a 10).2).2;omega
theorem zgP (xs:List UInt8) (rec:Int→Nat→List Sm × Nat) (small:Bool) (B:Nat) (h:∀ a,szS (zbu xs rec small a).1≤B):∀ (n a:Nat),zbx (za4 xs rec small n a).1≤n * B
 |0,a=>by simp [za4,zbx]
 |n+1,a=>by
  have h1:=h a
  have h2:=zgP xs rec small B h n (zbu xs rec small a).2
  simp only [za4,zbx]
  rw [Nat.succ_mul];omega
theorem zid (xs:List UInt8) (rec:Int→Nat→List Sm × Nat) (small:Bool) (B:Nat) (h:∀ a,szS (zbu xs rec small a).1≤B) (most:Nat) (a:Nat):zbx (zca xs rec small most a).1≤most * B:=by
 unfold zca
 have h1:=zaM xs a ((most:Int)+1) (by omega)
 refine Nat.le_trans (zgP xs rec small B h _ _) (Nat.mul_le_mul_right _ (by omega))
theorem zdL (xs:List UInt8):∀ (d:Nat) (most:Nat) (a:Nat),zbx (zb3 xs d most a).1≤most * sB (d+1)
 |0,most,a=>zid xs _ _ _ (fun a=>Nat.le_trans (zic xs _ _ a 0 (fun _=>by simp [zbx]) (fun _=>by simp [zbx])) (by simp [sB])) most a
 |d+1,most,a=>zid xs _ _ _ (fun a=>Nat.le_trans (zic xs _ _ a (sB (d+1)) (fun a=>zdL xs d 2 a) (fun a=>by have:=zdL xs d 1 a;simpa using this)) (by simp [sB])) most a
def zt4 (u v w:Int):List VarD:=[⟨[120],0,u - 2⟩,⟨[97],1+v,0⟩,⟨[121],0,0⟩,⟨[122],0,w⟩,⟨[98],2,0⟩]
def zbX (xs:List UInt8) (a:Nat):PgD × Nat:=
 let m1:=nxt xs a 7
 let m2:=nxt xs m1.2 5
 let m3:=nxt xs m2.2 3
 let s1:=zb3 xs 2 3 m3.2
 let s2:=zb3 xs 3 4 s1.2
 let s3:=zb3 xs 2 3 s2.2
 let s4:=zb3 xs 2 2 s3.2
 (⟨zt4 m1.1 m2.1 m3.1,s1.1,s2.1,s3.1,s4.1⟩,s4.2)
theorem zie (xs:List UInt8) (a:Nat) (h:a≤xs.length):(zbX xs a).2≤xs.length:=
 zcu _ _ _ _ (zcu _ _ _ _ (zcu _ _ _ _ (zcu _ _ _ _ (zaG _ _ _ (zaG _ _ _ (zaG _ _ _ h))))))
theorem zmD (xs:List UInt8) (a:Nat):szP (zbX xs a).1≤100000:=by
 unfold zbX szP
 dsimp only
 have h1:=zdL xs 2 3 (nxt xs (nxt xs (nxt xs a 7).2 5).2 3).2
 have h2:=zdL xs 3 4 (zb3 xs 2 3 (nxt xs (nxt xs (nxt xs a 7).2 5).2 3).2).2
 have h3:=zdL xs 2 3 (zb3 xs 3 4 (zb3 xs 2 3 (nxt xs (nxt xs (nxt xs a 7).2 5).2 3).2).2).2
 have h4:=zdL xs 2 2 (zb3 xs 2 3 (zb3 xs 3 4 (zb3 xs 2 3 (nxt xs (nxt xs (nxt xs a 7).2 5).2 3).2).2).2).2
 simp only [sB,Int.cast_ofNat_Int] at h1 h2 h3 h4
 simp only [zt4,List.length_cons,List.length_nil]
 omega
def nmL:List (List UInt8):=[[120],[121],[122],[99,111,117,110,116],[97,49],[95,98],[118,97,114],[49,97],[],[102,114,111,109],[97,98,99,100,101,102,103,104,105,106,107,108,109,110,111,112],[97,98,99,100,101,102,103,104,105,106,107,108,109,110,111,112,113],[120,32,121],[88]]
def zlB (xs:List UInt8) (a:Nat):List UInt8 × Nat:=
 if (nxt xs a 8).1=7 then (nmL.getD (nxt xs (nxt xs a 8).2 14).1.toNat [],(nxt xs (nxt xs a 8).2 14).2) else (nmL.getD (nxt xs (nxt xs a 8).2 6).1.toNat [],(nxt xs (nxt xs a 8).2 6).2)
theorem zkr (xs:List UInt8) (a:Nat) (h:a≤xs.length):(zlB xs a).2≤xs.length:=by
 unfold zlB
 split<;>exact zaG _ _ _ (zaG _ _ _ h)
def zwJ:List Int:=[9223372036854775807,-9223372036854775808,2147483648,-1,63,64,-65,127,128,1099511627776]
def zfE (xs:List UInt8) (a:Nat):Int × Nat:=
 if (nxt xs a 6).1=5 then (zwJ.getD (nxt xs (nxt xs a 6).2 10).1.toNat 0,(nxt xs (nxt xs a 6).2 10).2) else ((nxt xs (nxt xs a 6).2 12).1 - 2,(nxt xs (nxt xs a 6).2 12).2)
theorem zfz (xs:List UInt8) (a:Nat) (h:a≤xs.length):(zfE xs a).2≤xs.length:=by
 unfold zfE
 split<;>exact zaG _ _ _ (zaG _ _ _ h)
theorem zks (xs:List UInt8) (a:Nat):-9223372036854775808≤(zfE xs a).1∧(zfE xs a).1≤9223372036854775807:=by
 unfold zfE
 split
 ·have h:=zaM xs (nxt xs a 6).2 10 (by omega)
  have key:∀ i,i<10→-9223372036854775808≤zwJ.getD i 0∧zwJ.getD i 0≤9223372036854775807:=by
   have:((List.range 10).all fun i=>decide (-9223372036854775808≤zwJ.getD i 0∧zwJ.getD i 0≤9223372036854775807))=true:=by decide
   intro i hi
   simpa using List.all_eq_true.1 this i (by simpa using hi)
  exact key _ (by omega)
 ·have h:=zaM xs (nxt xs a 6).2 12 (by omega)
  constructor<;>simp only<;>omega
def zgA (q:Bool × List UInt8):List UInt8:=if q.1 then 40::(q.2++[41]) else q.2
def fmN (op value:Int) (nm:List UInt8) (ts:List (Bool × List UInt8)):List UInt8:=
 if op=1 then zdm value else if op=2 then nm
 else if op=3 then nm++91::((ts.getD 0 (false,[])).2++[93])
 else if op=4 then [115,101,108,102] else if op=5 then [112,114,111,99,115] else if op=6 then [102,114,111,109] else if op=7 then [118,97,108,117,101]
 else if op=8∨op=9 then sgF op.toNat++zgA (ts.getD 0 (false,[]))
 else zgA (ts.getD 0 (false,[]))++32::(sgF op.toNat++32::zgA (ts.getD 1 (false,[])))
mutual
def fmE:Ex→List UInt8
 |.mk op value nm _ _ args=>fmN op value nm (zg1 args)
def zg1:List Ex→List (Bool × List UInt8)
 |[]=>[]
 |e::r=>(decide (e.op≥8),fmE e)::zg1 r
end
theorem zuW (e:Ex):fmE e=fmN e.op e.value e.name (zg1 e.args):=by cases e;rfl
def zbC (n:Nat):List UInt8:=List.replicate (2 * n) 32
def fmS (kind:Int) (nm place value body els:List UInt8) (he:Bool) (n:Nat):List UInt8:=
 if kind=1 then nm++[32,61,32]++value++[59,10]
 else if kind=2 then nm++[91]++place++[93,32,61,32]++value++[59,10]
 else if kind=5 then [115,101,110,100,32]++place++[44,32]++value++[59,10]
 else if kind=6 then [111,117,116,112,117,116,32]++value++[59,10]
 else (if kind=3 then [105,102,32] else [119,104,105,108,101,32])++value++[32,123,10]++body++zbC n++(if he then [125,32,101,108,115,101,32,123,10]++els++zbC n else [])++[125,10]
mutual
def stT (n:Nat):Sm→List UInt8
 |.mk kind nm _ _ place value body els=>fmS kind nm (fmE place) (fmE value) (lsT (n+1) body) (lsT (n+1) els) (decide (els.length > 0)) n
def lsT (n:Nat):List Sm→List UInt8
 |[]=>[]
 |s::r=>zbC n++stT n s++lsT n r
end
theorem zju (n:Nat) (s:Sm):stT n s=fmS s.kind s.name (fmE s.place) (fmE s.value) (lsT (n+1) s.body) (lsT (n+1) s.els) (decide (s.els.length > 0)) n:=by cases s;rfl
def hdT (nm:List UInt8) (l:List Sm):List UInt8:=if l.length=0 then [] else [111,110,32]++nm++[32,123,10]++lsT 1 l++[125,10]
def itT (n:Int):List UInt8:=if n<0 then 45::zdm (-n) else zdm n
def vaT (v:VarD):List UInt8:=if v.size≠0 then [97,114,114,97,121,32]++v.name++[91]++itT v.size++[93,59,10] else if v.init≠0 then [118,97,114,32]++v.name++[32,61,32]++itT v.init++[59,10] else [118,97,114,32]++v.name++[59,10]
def vsT (l:List VarD):List UInt8:=(l.map vaT).flatten
def pgT (p:PgD):List UInt8:=vsT p.vars++hdT [115,116,97,114,116] p.start++hdT [109,101,115,115,97,103,101] p.message++hdT [116,105,99,107] p.tick++hdT [105,110,112,117,116] p.input
def ziM (p:PgD):List UInt8 × Int:=
 if zcP zao p≠0 then ([],zcP zao p) else if ((pgT p).length:Int) > 4096 then ([],5) else (pgT p,0)
theorem zkt (n:Int):(zdm n).length≤20:=by
 unfold zdm
 split
 ·simp
 ·exact zra _ _
theorem zcv (n:Int):(itT n).length≤21:=by
 unfold itT
 split
 ·have:=zkt (-n);simp only [List.length_cons];omega
 ·have:=zkt n;omega
theorem zif {s:List UInt8} (h:zdj s=true):s.length≤16:=by
 rcases Nat.lt_or_ge 16 s.length with h1|h1
 ·rw [zfs s h1] at h;cases h
 ·exact h1
theorem zwK (op:Nat):(sgF op).length≤2:=by
 have key:∀ (c:Prop) [Decidable c] (a b:List UInt8),a.length≤2→b.length≤2→(if c then a else b).length≤2:=fun c _ a b ha hb=>by split<;>assumption
 unfold sgF
 repeat (refine key _ _ _ (by decide) ?_)
 decide
theorem znU (q:Bool × List UInt8):(zgA q).length≤q.2.length+2:=by
 unfold zgA
 split<;>simp
def lnE:List (Bool × List UInt8)→Nat
 |[]=>0
 |q::r=>q.2.length+lnE r
theorem zwL (op value:Int) (nm:List UInt8) (ts:List (Bool × List UInt8)) (hn:nm.length≤16):(fmN op value nm ts).length≤lnE ts+30:=by
 have hd:=zkt value
 have hs:=zwK op.toNat
 have g0:(ts.getD 0 (false,[])).2.length≤lnE ts:=by
  cases ts with
  |nil=>simp
  |cons a r=>simp [lnE]
 have g1:(ts.getD 0 (false,[])).2.length+(ts.getD 1 (false,[])).2.length≤lnE ts:=by
  match ts with
  |[]=>simp [lnE]
  |[a]=>simp [lnE]
  |a::b::r=>simp [lnE]<;>omega
 have o0:=znU (ts.getD 0 (false,[]))
 have o1:=znU (ts.getD 1 (false,[]))
 unfold fmN
 repeat' split
 all_goals (try simp only [List.length_append,List.length_cons,List.length_nil])
 all_goals omega
mutual
theorem zeC:∀ e:Ex,zbq e=true→(fmE e).length≤30 * szE e
 |.mk op value nm slot size args,h=>by
  rw [zf3] at h
  simp only [Bool.and_eq_true,zfe,Ex.op_mk,Ex.value_mk,Ex.name_mk,Ex.slot_mk,Ex.size_mk,Ex.args_mk] at h
  have hn:nm.length≤16:=by
   have:=h.1.2
   unfold zb1 at this
   split at this
   ·exact zif this
   ·have:nm=[]:=by simpa using this
    subst this;simp
  have:=zwL op value nm (zg1 args) hn
  have:=znV args h.2
  simp only [fmE,szE]
  omega
theorem znV:∀ l:List Ex,zbP l=true→lnE (zg1 l)≤30 * zgu l
 |[],_=>by simp [zg1,lnE]
 |e::r,h=>by
  simp only [zbP,Bool.and_eq_true] at h
  have:=zeC e h.1
  have:=znV r h.2
  simp only [zg1,lnE,zgu]
  omega
end
theorem zrk {e:Ex} (h:zgN e=true):e=exZ:=by
 obtain ⟨op,value,nm,slot,size,args⟩:=e
 simp only [zgN,Bool.and_eq_true,beq_iff_eq,Ex.op_mk,Ex.value_mk,Ex.name_mk,Ex.slot_mk,Ex.size_mk,Ex.args_mk,Int.natCast_eq_zero,List.length_eq_zero_iff] at h
 obtain ⟨⟨⟨⟨⟨rfl,rfl⟩,rfl⟩,rfl⟩,rfl⟩,rfl⟩:=h
 rfl
theorem zwM:(fmE exZ).length≤30:=by decide
theorem zwN (kind:Int) (nm place value body els:List UInt8) (he:Bool) (n:Nat):(fmS kind nm place value body els he n).length≤nm.length+place.length+value.length+body.length+els.length+4 * n+40:=by
 unfold fmS zbC
 repeat' split
 all_goals simp only [List.length_append,List.length_cons,List.length_nil,List.length_replicate]
 all_goals omega
mutual
theorem zwO (n:Nat):∀ s:Sm,zdJ s=true→szS s+n≤2000000→(stT n s).length+4000000≤20000000 * szS s
 |.mk kind nm slot size place value body els,h,hn=>by
  rw [zf4] at h
  simp only [Bool.and_eq_true,zh4,Sm.kind_mk,Sm.name_mk,Sm.slot_mk,Sm.size_mk,Sm.place_mk,Sm.value_mk,Sm.body_mk,Sm.els_mk] at h
  have hnm:=h.1.1.1.1.2
  have hp:=h.1.1.1.2
  have hv:=h.2.1.1
  have hb:=h.2.1.2
  have he:=h.2.2
  have h1:nm.length≤16:=by
   unfold zb1 at hnm
   split at hnm
   ·exact zif hnm
   ·have:nm=[]:=by simpa using hnm
    subst this;simp
  have h2:(fmE place).length≤30 * szE place+30:=by
   by_cases hc:(kind==2 || kind==5)=true
   ·have hp':zbq place=true:=by simpa only [hc,if_true] using hp
    have:=zeC place hp';omega
   ·have hp':zgN place=true:=by simpa only [hc,if_false,Bool.false_eq_true] using hp
    rw [zrk hp'];have:=zwM;omega
  have h3:=zeC value hv
  simp only [szS] at hn
  have h4:=zgB (n+1) body hb (by omega)
  have h5:=zgB (n+1) els he (by omega)
  have h6:=zwN kind nm (fmE place) (fmE value) (lsT (n+1) body) (lsT (n+1) els) (decide (els.length > 0)) n
  simp only [stT,szS]
  omega
theorem zgB (n:Nat):∀ l:List Sm,zao l=true→zbx l+n≤2000000→(lsT n l).length≤20000000 * zbx l
 |[],_,_=>by simp [lsT]
 |s::r,h,hn=>by
  simp only [zao,Bool.and_eq_true] at h
  simp only [zbx] at hn
  have h1:=zwO n s h.1 (by omega)
  have h2:=zgB n r h.2 (by omega)
  simp only [lsT,zbx,List.length_append,zbC,List.length_replicate]
  omega
end
theorem zku (nm:List UInt8) (l:List Sm) (h:zao l=true) (hn:nm.length≤10) (hs:zbx l≤1000000):(hdT nm l).length≤20000000 * zbx l+100:=by
 have:=zgB 1 l h (by omega)
 unfold hdT
 split
 ·simp
 ·simp only [List.length_append,List.length_cons,List.length_nil];omega
theorem zwP (v:VarD) (h:zbt v=true):(vaT v).length≤60:=by
 have hn:v.name.length≤16:=by
  refine zif ?_
  unfold zbt at h
  cases hv:zdj v.name with
  |true=>rfl
  |false=>rw [hv] at h;simp at h
 have h1:=zcv v.size
 have h2:=zcv v.init
 unfold vaT
 repeat' split
 all_goals simp only [List.length_append,List.length_cons,List.length_nil]
 all_goals omega
theorem zrl:∀ l:List VarD,l.any (fun v=>!zbt v)=false→(vsT l).length≤60 * l.length
 |[],_=>by simp [vsT]
 |v::r,h=>by
  simp only [List.any_cons,Bool.or_eq_false_iff] at h
  have h1:=zwP v (by simpa using h.1)
  have h2:=zrl r h.2
  simp only [vsT] at h2
  simp only [vsT,List.map_cons,List.flatten_cons,List.length_append,List.length_cons]
  omega
theorem zkv {p:PgD} (h:zcP zao p=0):p.vars.any (fun v=>!zbt v)=false∧zao p.start=true∧zao p.message=true∧zao p.tick=true∧zao p.input=true∧zsc p≤16:=by
 unfold zcP at h
 split at h
 ·cases h
 split at h
 ·cases h
 split at h
 ·cases h
 ·rename_i h1 h2 h3
  simp only [Bool.or_eq_true,not_or,Bool.not_eq_true',Bool.not_eq_false] at h3
  exact ⟨by simpa using h2,h3.1.1.1,h3.1.1.2,h3.1.2,h3.2,by omega⟩
theorem zmE (p:PgD) (h:zcP zao p=0) (hs:szP p≤1000000):(pgT p).length≤50000000000000:=by
 obtain ⟨h0,h1,h2,h3,h4,_⟩:=zkv h
 unfold szP at hs
 have a0:=zrl p.vars h0
 have a1:=zku [115,116,97,114,116] p.start h1 (by decide) (by omega)
 have a2:=zku [109,101,115,115,97,103,101] p.message h2 (by decide) (by omega)
 have a3:=zku [116,105,99,107] p.tick h3 (by decide) (by omega)
 have a4:=zku [105,110,112,117,116] p.input h4 (by decide) (by omega)
 unfold pgT
 simp only [List.length_append]
 omega
theorem zig (n:Int) (h0:-9223372036854775808≤n) (h1:n≤9223372036854775807):Lib.itoa n=itT n:=by
 unfold itT
 by_cases h:n<0
 ·rw [if_pos h]
  have e:=zre 20 n.natAbs (by omega) (by omega)
  unfold Lib.itoa zdm
  rw [if_pos h,if_neg (by omega),e]
  congr 2
  omega
 ·rw [if_neg h]
  have:=ztZ n h1
  rw [show zi8 n 0=n by unfold zi8;split<;>omega] at this
  exact this
def ze7 (n:Int):Bool:=decide (-9223372036854775808≤n)&&decide (n≤9223372036854775807)
theorem zeD {n:Int} (h:ze7 n=true):-9223372036854775808≤n∧n≤9223372036854775807:=by simpa [ze7] using h
mutual
def rgE:Ex→Bool
 |.mk _ v _ _ _ args=>ze7 v&&zmF args
def zmF:List Ex→Bool
 |[]=>true
 |e::r=>rgE e&&zmF r
end
theorem zuX (e:Ex):rgE e=(ze7 e.value&&zmF e.args):=by cases e;rfl
mutual
def rgS:Sm→Bool
 |.mk _ _ _ _ p v b e=>rgE p&&rgE v&&zg2 b&&zg2 e
def zg2:List Sm→Bool
 |[]=>true
 |s::r=>rgS s&&zg2 r
end
theorem znW (s:Sm):rgS s=(rgE s.place&&rgE s.value&&zg2 s.body&&zg2 s.els):=by cases s;rfl
theorem zkw:∀ {l:List Sm} {s:Sm},zg2 l=true→s ∈ l→rgS s=true
 |x::r,s,h,hm=>by
  simp only [zg2,Bool.and_eq_true] at h
  rcases List.mem_cons.1 hm with rfl|hm
  ·exact h.1
  ·exact zkw h.2 hm
theorem zd0:∀ {l:List Sm} {s:Sm},zao l=true→s ∈ l→zdJ s=true
 |x::r,s,h,hm=>by
  simp only [zao,Bool.and_eq_true] at h
  rcases List.mem_cons.1 hm with rfl|hm
  ·exact h.1
  ·exact zd0 h.2 hm
def rgV (v:VarD):Bool:=ze7 v.size&&ze7 v.init
def rgP (p:PgD):Bool:=p.vars.all rgV&&zg2 p.start&&zg2 p.message&&zg2 p.tick&&zg2 p.input
theorem zjv {e:Ex} (h:zbq e=true):(e.op=1∧0≤e.value∧e.args=[])∨(e.op=2∧e.args=[])∨(e.op=3∧∃ a,e.args=[a]∧zbq a=true)∨((e.op=4∨e.op=5∨e.op=6∨e.op=7)∧e.args=[])∨((e.op=8∨e.op=9)∧∃ a,e.args=[a]∧zbq a=true)∨((10≤e.op∧e.op≤22)∧∃ a b,e.args=[a,b]∧zbq a=true∧zbq b=true):=by
 rw [zf3] at h
 simp only [Bool.and_eq_true,zfe,beq_iff_eq] at h
 have ha:=h.1.1.1.1.1
 have hv:=h.1.1.2
 have hg:=h.2
 have l0:e.args.length=0→e.args=[]:=List.length_eq_zero_iff.1
 have l1:e.args.length=1→∃ a,e.args=[a]∧zbq a=true:=fun hl=>by
  obtain ⟨a,e1⟩:=List.length_eq_one_iff.1 hl
  rw [e1] at hg
  simp only [zbP,Bool.and_true] at hg
  exact ⟨a,e1,hg⟩
 have l2:e.args.length=2→∃ a b,e.args=[a,b]∧zbq a=true∧zbq b=true:=fun hl=>by
  match he:e.args,hl with
  |[a,b],_=>
   rw [he] at hg
   simp only [zbP,Bool.and_true,Bool.and_eq_true] at hg
   exact ⟨a,b,rfl,hg⟩
 unfold zjr at ha
 have hv':¬ e.value<0:=by
  intro hx
  simp [hx] at hv
 split at ha
 ·omega
 split at ha
 ·exact .inr (.inr (.inr (.inr (.inr ⟨by omega,l2 (by omega)⟩))))
 split at ha
 ·rename_i h3
  rcases h3 with h3|h3|h3
  ·exact .inr (.inr (.inl ⟨h3,l1 (by omega)⟩))
  ·exact .inr (.inr (.inr (.inr (.inl ⟨.inl h3,l1 (by omega)⟩))))
  ·exact .inr (.inr (.inr (.inr (.inl ⟨.inr h3,l1 (by omega)⟩))))
 ·have:e.op=1∨e.op=2∨e.op=4∨e.op=5∨e.op=6∨e.op=7:=by omega
  rcases this with h1|h1|h1
  ·exact .inl ⟨h1,by omega,l0 (by omega)⟩
  ·exact .inr (.inl ⟨h1,l0 (by omega)⟩)
  ·exact .inr (.inr (.inr (.inl ⟨h1,l0 (by omega)⟩)))
open Go
theorem zdM (n:Int) (h0:0≤n) (h:n≤9223372036854775808):zdm n≠[]∧(∀ c ∈ zdm n,isD c=true)∧(zdr (zdm n):Int)=n∧((zdm n).head?=some 48→n=0)∧(zdm n).length≤19:=by
 by_cases hn:n≤0
 ·have:n=0:=by omega
  subst this
  exact ⟨by decide,by decide,by decide,fun _=>rfl,by decide⟩
 ·have e:zdm n=dg 20 n.toNat:=by unfold zdm;rw [if_neg hn]
  have e2:dg 20 n.toNat=dg 19 n.toNat:=zq9 19 n.toNat (by omega)
  obtain ⟨c,r,h1,h2,h3⟩:=zrb 20 n.toNat (by omega) (by omega)
  refine ⟨by rw [e,h1];simp,fun c hc=>zuT 20 n.toNat c (by rw [←e];exact hc),by rw [e,zuU 20 n.toNat (by omega)];omega,fun hh=>?_,by rw [e,e2];exact zra _ _⟩
  rw [e,h1] at hh
  simp at hh
  exact absurd hh h2
def dgs (w:List UInt8):List UInt8:=if w.head?=some 45 then w.tail else w
def zdN (w:List UInt8):Int × Bool:=
 if dgs w=[]∨19<(dgs w).length∨((dgs w).head?=some 48∧(1<(dgs w).length∨1<w.length)) then (0,false)
 else if (dgs w).all isD=false then (0,false)
 else if (dgs w).length<w.length then (IntKind.i64.wrap (-(zdr (dgs w):Int)),decide (zdr (dgs w)≤9223372036854775808))
 else (IntKind.i64.wrap (zdr (dgs w)),decide (zdr (dgs w)<9223372036854775808))
theorem zo8 (n:Int) (h0:0≤n) (h:n≤9223372036854775808):(zdm n).head?≠some 45:=by
 intro hh
 obtain ⟨_,h2,_⟩:=zdM n h0 h
 have:=zf5 (h2 45 (List.mem_of_mem_head? hh))
 have h3:(45:UInt8).toNat=45:=rfl
 omega
theorem zrm (v:Int) (h:v<0):itT v=45::zdm (-v)∧dgs (itT v)=zdm (-v):=by
 have e:itT v=45::zdm (-v):=by unfold itT;rw [if_pos h]
 exact ⟨e,by rw [e];simp [dgs]⟩
theorem zrn (v:Int) (h:0≤v) (h1:v≤9223372036854775807):itT v=zdm v∧dgs (itT v)=zdm v:=by
 have e:itT v=zdm v:=by unfold itT;rw [if_neg (by omega)]
 refine ⟨e,?_⟩
 rw [e]
 unfold dgs
 rw [if_neg (zo8 v h (by omega))]
theorem zwQ (v:Int) (h0:-9223372036854775808≤v) (h1:v≤9223372036854775807):zdN (itT v)=(v,true):=by
 by_cases h:v<0
 ·obtain ⟨e1,e2⟩:=zrm v h
  obtain ⟨f1,f2,f3,f4,f5⟩:=zdM (-v) (by omega) (by omega)
  unfold zdN
  rw [e2,e1,if_neg (by rintro (h'|h'|⟨h',_⟩);exact f1 h';omega;have:=f4 h';omega),if_neg (by simpa using f2),if_pos (by simp)]
  rw [f3,zat _ (by omega) (by omega)]
  simp
  omega
 ·obtain ⟨e1,e2⟩:=zrn v (by omega) h1
  obtain ⟨f1,f2,f3,f4,f5⟩:=zdM v (by omega) (by omega)
  unfold zdN
  rw [e2,e1,if_neg (by rintro (h'|h'|⟨h',h''⟩);exact f1 h';omega;have:=f4 h';subst this;exact absurd h'' (by decide)),if_neg (by simpa using f2),if_neg (by simp)]
  rw [f3,zat _ (by omega) (by omega)]
  simp
  omega
theorem zt5 (d:List UInt8) (hne:d≠[]) (hall:∀ c ∈ d,isD c=true) (hh:d.head?=some 48→d.length=1) (hl:d.length≤19):zdm (zdr d)=d∧(d.head?≠some 48→0<zdr d):=by
 have hg:d.getD 0 0=48 ↔ d.head?=some 48:=by
  cases d with
  |nil=>exact absurd rfl hne
  |cons c r=>simp
 by_cases h48:d.head?=some 48
 ·refine ⟨?_,fun h=>absurd h48 h⟩
  match d,hh h48 with
  |[c],_=>simp at h48;subst h48;rfl
 ·obtain ⟨h1,h2⟩:=zmA 20 d hall (fun e=>h48 (hg.1 e)) (by omega)
  have h3:=h2 hne
  refine ⟨?_,fun _=>h3⟩
  unfold zdm
  rw [if_neg (by omega),Int.toNat_natCast,h1]
theorem zro (w:List UInt8) (h:(zdN w).2=true):itT (zdN w).1=w∧-9223372036854775808≤(zdN w).1∧(zdN w).1≤9223372036854775807:=by
 unfold zdN at h ⊢
 split at h
 ·cases h
 ·rename_i hc
  rw [if_neg hc]
  split at h
  ·cases h
  ·rename_i ha
   rw [if_neg ha]
   have hall:∀ c ∈ dgs w,isD c=true:=by simpa using ha
   have hne:dgs w≠[]:=fun e=>hc (.inl e)
   have hl:(dgs w).length≤19:=by
    rcases Nat.lt_or_ge 19 (dgs w).length with h'|h'
    ·exact absurd (.inr (.inl h')) hc
    ·exact h'
   have hlead:(dgs w).head?=some 48→(dgs w).length≤1∧w.length≤1:=by
    intro h48
    refine ⟨?_,?_⟩
    ·rcases Nat.lt_or_ge 1 (dgs w).length with h'|h'
     ·exact absurd (.inr (.inr ⟨h48,.inl h'⟩)) hc
     ·exact h'
    ·rcases Nat.lt_or_ge 1 w.length with h'|h'
     ·exact absurd (.inr (.inr ⟨h48,.inr h'⟩)) hc
     ·exact h'
   have hpos:0<(dgs w).length:=List.length_pos_iff.2 hne
   have hb:=zt5 (dgs w) hne hall (fun h48=>by have:=(hlead h48).1;omega) hl
   split at h
   ·rename_i hlt
    rw [if_pos hlt]
    have hv:zdr (dgs w)≤9223372036854775808:=by simpa using h
    have h45:w.head?=some 45:=by
     rcases Decidable.em (w.head?=some 45) with h'|h'
     ·exact h'
     ·exfalso
      unfold dgs at hlt
      rw [if_neg h'] at hlt
      omega
    have hw:w=45::dgs w:=by
     cases w with
     |nil=>simp at h45
     |cons c r=>simp at h45;subst h45;simp [dgs]
    have h48:(dgs w).head?≠some 48:=fun e=>by have:=(hlead e).2;omega
    have hp:=hb.2 h48
    have e1:IntKind.i64.wrap (-(zdr (dgs w):Int))=-(zdr (dgs w):Int):=zat _ (by omega) (by omega)
    simp only [e1]
    refine ⟨?_,by omega,by omega⟩
    unfold itT
    rw [if_pos (by omega),Int.neg_neg,hb.1]
    exact hw.symm
   ·rename_i hlt
    rw [if_neg hlt]
    have hv:zdr (dgs w)<9223372036854775808:=by simpa using h
    have hw:dgs w=w:=by
     unfold dgs
     split
     ·rename_i h45
      exfalso
      unfold dgs at hlt
      rw [if_pos h45] at hlt
      cases w with
      |nil=>simp at h45
      |cons c r=>simp at hlt
     ·rfl
    have e1:IntKind.i64.wrap (zdr (dgs w):Int)=(zdr (dgs w):Int):=zat _ (by omega) (by omega)
    simp only [e1]
    refine ⟨?_,by omega,by omega⟩
    unfold itT
    rw [if_neg (by omega),hb.1,hw]
theorem zt6 (v:Int) (h0:-9223372036854775808≤v) (h1:v≤9223372036854775807):Lib.parseIntB 64 (itT v)=.ok v:=by
 by_cases h:v<0
 ·obtain ⟨e1,_⟩:=zrm v h
  obtain ⟨f1,f2,f3,f4,f5⟩:=zdM (-v) (by omega) (by omega)
  have hu:Lib.parseUintB 64 (zdm (-v))=.ok (zdr (zdm (-v))):=by
   unfold Lib.parseUintB
   rw [if_neg f1,zdU _ (by decide) _ _ f2 (by omega)]
   rw [if_pos]
   ·rfl
   ·show zdr (zdm (-v))≤2 ^ 64 - 1
    omega
  rw [e1]
  unfold Lib.parseIntB
  have h45:(45:UInt8).toNat=45:=rfl
  simp only [h45,or_true,if_true,hu]
  rw [if_neg (by simp),if_neg (by simp;omega)]
  congr 1
  omega
 ·obtain ⟨e1,_⟩:=zrn v (by omega) h1
  obtain ⟨f1,f2,f3,f4,f5⟩:=zdM v (by omega) (by omega)
  rw [e1,zfu _ f1 f2,if_pos (by omega),f3]
theorem znX (w:List UInt8) (v:Int) (h:Lib.parseIntB 64 w=.ok v):-9223372036854775808≤v∧v≤9223372036854775807:=by
 unfold Lib.parseIntB at h
 cases w with
 |nil=>cases h
 |cons c r=>
  simp only at h
  split at h
  ·cases h
  ·cases h
  ·split at h
   ·cases h
   ·split at h
    ·cases h
    ·rename_i u _ h1 h2
     cases h
     simp at h1 h2
     split
     ·rename_i hn;have:=h2 hn;omega
     ·rename_i hn;have:=h1 hn;omega
def zpF (w:List UInt8):Int × Bool:=match Lib.parseIntB 64 w with
 |.ok v=>if Lib.itoa v=w then (v,true) else (0,false)
 |_=>(0,false)
theorem zmG (w:List UInt8):zpF w=if (zdN w).2=true then ((zdN w).1,true) else (0,false):=by
 by_cases h:(zdN w).2=true
 ·obtain ⟨h1,h2,h3⟩:=zro w h
  rw [if_pos h]
  unfold zpF
  rw [show Lib.parseIntB 64 w=.ok (zdN w).1 by rw [←zt6 _ h2 h3,h1]]
  simp only
  rw [zig _ h2 h3,if_pos h1]
 ·rw [if_neg h]
  unfold zpF
  split
  ·rename_i v hv
   obtain ⟨h2,h3⟩:=znX w v hv
   rw [if_neg]
   intro hw
   rw [zig _ h2 h3] at hw
   exact h (by rw [←hw,zwQ v h2 h3])
  ·rfl
structure StD where
 kind:Int
 proc:Int
 place:Int
 value:Int
 deriving DecidableEq
def za7 (x:StD):List PVal:=[.int .i64 x.kind,.int .i64 x.proc,.int .i64 x.place,.int .i64 x.value]
def stA (x:StD):AVal:=.agg [.pv (.int .i64 x.kind),.pv (.int .i64 x.proc),.pv (.int .i64 x.place),.pv (.int .i64 x.value)]
def st0:StD:=⟨0,0,0,0⟩
def zsd:List (List UInt8):=[[],[100,101,108,105,118,101,114],[116,105,99,107],[105,110,112,117,116],[100,114,111,112],[100,117,112,108,105,99,97,116,101],[114,101,115,101,110,100],[99,104,101,99,107,112,111,105,110,116],[102,108,117,115,104],[97,99,107],[99,114,97,115,104],[114,101,99,111,118,101,114],[114,101,115,116,111,114,101],[99,111,109,109,105,116],[99,111,108,108,101,99,116]]
def zlF:List (List UInt8):=[[],[105,110,100,101,112,101,110,100,101,110,116],[99,111,111,114,100,105,110,97,116,101,100],[105,110,100,101,120,101,100],[109,111,100,101,108,98,97,115,101,100],[112,101,115,115,105,109,105,115,116,105,99],[115,101,110,100,101,114,98,97,115,101,100],[111,112,116,105,109,105,115,116,105,99],[99,97,117,115,97,108]]
def wdF (k:Int):List UInt8:=if k<1∨14<k then [] else zsd.getD k.toNat []
def prF (k:Int):List UInt8:=if k<1∨8<k then [] else zlF.getD k.toNat []
def shF (k:Int):Nat:=if k=1∨k=4∨k=5 then 1 else if k=2∨k=3∨k=10 then 2 else if k=6∨k=7∨k=8∨k=9∨k=12 then 3 else 0
def zwV (x:StD):List Int:=match shF x.kind with
 |1=>[x.place]
 |2=>[x.proc,x.value]
 |3=>[x.proc]
 |_=>[]
def zdp (x:StD):Bool:=match shF x.kind with
 |1=>x.proc==0&&x.value==0
 |2=>x.place==0
 |3=>x.place==0&&x.value==0
 |_=>x.proc==0&&x.place==0&&x.value==0
def zbk (x:StD):List UInt8:=wdF x.kind++(zwV x).flatMap fun n=>32::itT n
def zhj (k:Int) (ns:List Int):StD:=match shF k with
 |1=>⟨k,0,ns.getD 0 0,0⟩
 |2=>⟨k,ns.getD 0 0,0,ns.getD 1 0⟩
 |3=>⟨k,ns.getD 0 0,0,0⟩
 |_=>⟨k,0,0,0⟩
def nfF (k:Int):Nat:=match shF k with|1=>1|2=>2|3=>1|_=>0
def kdF (w:List UInt8):Int:=if w=[] then 0 else (zsd.idxOf w:Int)
def zpa (a:List UInt8) (l:List (List UInt8)):Option StD:=
 if kdF a<1∨14<kdF a then none
 else if l.length≠nfF (kdF a) then none
 else if (l.all fun w=>(zdN w).2)=false then none
 else some (zhj (kdF a) (l.map fun w=>(zdN w).1))
def zmK (line:List UInt8):Option StD:=match zan 32 line with
 |[]=>none
 |a::l=>zpa a l
/-! ### Cutting and joining -/
def zkz (c:UInt8):List (List UInt8)→List UInt8
 |[]=>[]
 |[a]=>a
 |a::b::r=>a++c::zkz c (b::r)
theorem zjw (c:UInt8):∀ s,zkz c (zan c s)=s
 |[]=>rfl
 |x::r=>by
  have ih:=zjw c r
  have hne:=zbO c r
  rw [zan]
  split
  ·rename_i h
   subst h
   match zan x r,hne,ih with
   |a::t,_,ih=>simp [zkz,ih]
  ·match zan c r,hne,ih with
   |[a],_,ih=>simpa [zkz] using ih
   |a::b::t,_,ih=>simp [zkz] at ih ⊢;exact ih
theorem zf8 (P:Int→Prop) (h:P 1∧P 2∧P 3∧P 4∧P 5∧P 6∧P 7∧P 8∧P 9∧P 10∧P 11∧P 12∧P 13∧P 14) (k:Int) (h1:1≤k) (h2:k≤14):P k:=by
 obtain ⟨a1,a2,a3,a4,a5,a6,a7,a8,a9,a10,a11,a12,a13,a14⟩:=h
 have:k=1∨k=2∨k=3∨k=4∨k=5∨k=6∨k=7∨k=8∨k=9∨k=10∨k=11∨k=12∨k=13∨k=14:=by omega
 rcases this with rfl|rfl|rfl|rfl|rfl|rfl|rfl|rfl|rfl|rfl|rfl|rfl|rfl|rfl<;>assumption
theorem zDc (k:Int) (h1:1≤k) (h2:k≤14):kdF (wdF k)=k:=by
 refine zf8 (fun k=>kdF (wdF k)=k) ?_ k h1 h2
 decide
theorem zDd (w:List UInt8) (h1:1≤kdF w) (h2:kdF w≤14):wdF (kdF w)=w:=by
 have hw:w≠[]:=by
  rintro rfl
  simp [kdF] at h1
 have hk:kdF w=(zsd.idxOf w:Int):=by unfold kdF;rw [if_neg hw]
 have hlt:zsd.idxOf w<zsd.length:=by
  have:zsd.length=15:=rfl
  omega
 unfold wdF
 rw [if_neg (by omega),hk,Int.toNat_natCast]
 have:=List.getElem_idxOf hlt
 simp only [List.getD,List.getElem?_eq_getElem hlt,Option.getD_some]
 exact this
def zkS (x:StD):Bool:=ze7 x.kind&&ze7 x.proc&&ze7 x.place&&ze7 x.value
theorem zwW (k:Int) (ns:List Int):zdp (zhj k ns)=true∧(zhj k ns).kind=k:=by
 have hk:(zhj k ns).kind=k:=by unfold zhj;split<;>rfl
 refine ⟨?_,hk⟩
 unfold zdp
 rw [hk]
 unfold zhj
 split<;>simp_all
theorem zrs (ns:List Int) (h:∀ n ∈ ns,ze7 n=true) (i:Nat):ze7 (ns.getD i 0)=true:=by
 by_cases hi:i<ns.length
 ·rw [List.getD_eq_getElem?_getD,List.getElem?_eq_getElem hi]
  exact h _ (List.getElem_mem hi)
 ·rw [List.getD_eq_getElem?_getD,List.getElem?_eq_none (by omega)]
  decide
theorem zDe (k:Int) (ns:List Int) (hk:ze7 k=true) (h:∀ n ∈ ns,ze7 n=true):zkS (zhj k ns)=true:=by
 have h0:=zrs ns h 0
 have h1:=zrs ns h 1
 have hz:ze7 0=true:=by decide
 unfold zkS zhj
 split<;>simp only [hk,h0,h1,hz,Bool.and_true]
variable (l:List TkD)
theorem zrt (n:Nat) (lv:Nat) (k:Nat):exF l (n+1) (.bin lv) k=(if lv=5 then exF l n .un k else (exF l n (.bin (lv+1)) k).bind fun e k'=>exF l n (.loop lv e) k'):=rfl
theorem znY (n:Nat) (lv:Nat) (e:Ex) (k:Nat):exF l (n+1) (.loop lv e) k=(if opF lv (zds l k)=0 then .ok e k else (exF l n (.bin (lv+1)) (k+1)).bind fun e2 k2=>exF l n (.loop lv (exB (opF lv (zds l k)) e e2)) k2):=rfl
theorem zuZ (n:Nat) (k:Nat):exF l (n+1) .un k=(if isT l k [45] then (exF l n .un (k+1)).bind fun e k'=>.ok (exU 8 e) k' else if isT l k [33] then (exF l n .un (k+1)).bind fun e k'=>.ok (exU 9 e) k' else exF l n .prim k):=rfl
theorem znZ (n:Nat) (k:Nat):exF l (n+1) .prim k=(if zed l k then (nmF l 0 k).bind fun v k'=>.ok (exC v) k' else if isT l k [115,101,108,102] then .ok (exK 4) (k+1) else if isT l k [112,114,111,99,115] then .ok (exK 5) (k+1) else if isT l k [102,114,111,109] then .ok (exK 6) (k+1) else if isT l k [118,97,108,117,101] then .ok (exK 7) (k+1) else if isT l k [40] then (exF l n (.bin 0) (k+1)).bind fun e k'=>(zbe l [41] k').bind fun _ k2=>.ok e k2 else (zff l k).bind fun nm k1=>if isT l k1 [91] then (exF l n (.bin 0) (k1+1)).bind fun e k'=>(zbe l [93] k').bind fun _ k2=>.ok (exI nm e) k2 else .ok (exN nm) k1):=rfl
theorem zf9 (n:Nat) (k:Nat):smF l (n+1) .block k=((zbe l [123] k).bind fun _ k1=>smF l n (.stmts []) k1):=rfl
theorem zga (n:Nat) (acc:List Sm) (k:Nat):smF l (n+1) (.stmts acc) k=(if isT l k [125] then .ok acc (k+1) else (smF l n .stmt k).bind fun s k1=>smF l n (.stmts (acc++s)) k1):=rfl
theorem zgb (n:Nat) (k:Nat):smF l (n+1) .stmt k=(if isT l k [105,102] then (zbZ l (k+1)).bind fun e k1=>(smF l n .block k1).bind fun b k2=>if isT l k2 [101,108,115,101] then (smF l n .block (k2+1)).bind fun c k3=>.ok [smE 3 [] exZ e b c] k3 else .ok [smE 3 [] exZ e b []] k2 else if isT l k [119,104,105,108,101] then (zbZ l (k+1)).bind fun e k1=>(smF l n .block k1).bind fun b k2=>.ok [smE 4 [] exZ e b []] k2 else if isT l k [115,101,110,100] then (zbZ l (k+1)).bind fun p k1=>(zbe l [44] k1).bind fun _ k2=>(zbZ l k2).bind fun e k3=>(zbe l [59] k3).bind fun _ k4=>.ok [smE 5 [] p e [] []] k4 else if isT l k [111,117,116,112,117,116] then (zbZ l (k+1)).bind fun e k1=>(zbe l [59] k1).bind fun _ k2=>.ok [smE 6 [] exZ e [] []] k2 else (zff l k).bind fun nm k1=>if isT l k1 [91] then (zbZ l (k1+1)).bind fun p k2=>(zbe l [93] k2).bind fun _ k3=>(zbe l [61] k3).bind fun _ k4=>(zbZ l k4).bind fun e k5=>(zbe l [59] k5).bind fun _ k6=>.ok [smE 2 nm p e [] []] k6 else (zbe l [61] k1).bind fun _ k4=>(zbZ l k4).bind fun e k5=>(zbe l [59] k5).bind fun _ k6=>.ok [smE 1 nm exZ e [] []] k6):=rfl
end Go.Abs
namespace Go.Abs
open Go
section
variable {l:List TkD}
theorem PR.bind_ok {α β:Type} {r:PR α} {f:α→Nat→PR β} {b:β} {k:Nat} (h:r.bind f=.ok b k):∃ a k',r=.ok a k'∧f a k'=.ok b k:=by
 cases r with
 |ok a k'=>exact ⟨a,k',rfl,h⟩
 |bad k'=>cases h
 |out=>cases h
def Ns.need (m:Nat):Ns→Nat
 |.block=>3 * m+1
 |.stmts _=>3 * m+3
 |.stmt=>3 * m+2
theorem zii {k:Nat} (hk:k≤l.length):(zbZ l k).on k l.length:=(zh6 hk).on
theorem zcw:∀ (n:Nat) (nt:Ns) (k:Nat),k≤l.length→(smF l n nt k).past k l.length
 |0,nt,k,hk=>by cases nt<;>trivial
 |n+1,.block,k,hk=>by
  rw [zf9]
  exact PR.past.bind (zaF hk (by simp)) (fun _ k1 _ h1=>(zcw n (.stmts []) k1 h1).on)
 |n+1,.stmts acc,k,hk=>by
  rw [zga]
  split
  ·rename_i h
   have:=zaC h (by simp)
   exact ⟨by omega,by omega⟩
  ·exact PR.past.bind (zcw n .stmt k hk) (fun s k1 _ h1=>(zcw n _ k1 h1).on)
 |n+1,.stmt,k,hk=>by
  rw [zgb]
  have semi:∀ (s:List Sm) (k5:Nat),k5≤l.length→((zbe l [59] k5).bind fun _ k6=>PR.ok s k6).on k5 l.length:=fun s k5 h5=>PR.on.bind (zaF h5 (by simp)).on (fun _ k6 _ h6=>PR.ok_on _ h6)
  have valu:∀ (g:Ex→List Sm) (k4:Nat),k4≤l.length→((zbZ l k4).bind fun e k5=>(zbe l [59] k5).bind fun _ k6=>PR.ok (g e) k6).on k4 l.length:=fun g k4 h4=>PR.on.bind (zii h4) (fun e k5 _ h5=>semi _ _ h5)
  split
  ·rename_i h
   have:=zaC h (by simp)
   refine PR.on.lt (PR.on.bind (zii (k:=k+1) (by omega)) (fun e k1 _ h1=>PR.on.bind (zcw n .block k1 h1).on (fun b k2 _ h2=>?_))) (by omega)
   split
   ·rename_i h3
    have:=zaC h3 (by simp)
    exact PR.on.le (PR.on.bind (zcw n .block (k2+1) (by omega)).on (fun c k3 _ h3=>PR.ok_on _ h3)) (by omega)
   ·exact PR.ok_on _ h2
  split
  ·rename_i h
   have:=zaC h (by simp)
   exact PR.on.lt (PR.on.bind (zii (k:=k+1) (by omega)) (fun e k1 _ h1=>PR.on.bind (zcw n .block k1 h1).on (fun b k2 _ h2=>PR.ok_on _ h2))) (by omega)
  split
  ·rename_i h
   have:=zaC h (by simp)
   exact PR.on.lt (PR.on.bind (zii (k:=k+1) (by omega)) (fun p k1 _ h1=>PR.on.bind (zaF h1 (by simp)).on (fun _ k2 _ h2=>valu _ k2 h2))) (by omega)
  split
  ·rename_i h
   have:=zaC h (by simp)
   exact PR.on.lt (valu _ (k+1) (by omega)) (by omega)
  ·refine PR.past.bind (zbv hk) (fun nm k1 _ h1=>?_)
   split
   ·rename_i h
    have:=zaC h (by simp)
    exact PR.on.le (PR.on.bind (zii (k:=k1+1) (by omega)) (fun p k2 _ h2=>PR.on.bind (zaF h2 (by simp)).on (fun _ k3 _ h3=>PR.on.bind (zaF h3 (by simp)).on (fun _ k4 _ h4=>valu _ k4 h4)))) (by omega)
   ·exact PR.on.bind (zaF h1 (by simp)).on (fun _ k4 _ h4=>valu _ k4 h4)
theorem zfA:∀ (n:Nat) (nt:Ns) (k:Nat),k≤l.length→nt.need (l.length - k)≤n→(smF l n nt k).isOut=false
 |0,nt,k,hk,h=>by cases nt<;>simp only [Ns.need] at h<;>omega
 |n+1,.block,k,hk,h=>by
  simp only [Ns.need] at h
  rw [zf9]
  refine PR.bind_out zbi (fun _ k1 he=>?_)
  have h1:=zaF (l:=l) (s:=[123]) hk (by simp)
  rw [he] at h1
  exact zfA n (.stmts []) k1 h1.2 (by have:=h1.1;have:=h1.2;simp only [Ns.need];omega)
 |n+1,.stmts acc,k,hk,h=>by
  simp only [Ns.need] at h
  rw [zga]
  split
  ·rfl
  ·refine PR.bind_out (zfA n .stmt k hk (by simp only [Ns.need];omega)) (fun s k1 he=>?_)
   have h1:=zcw (l:=l) n .stmt k hk
   rw [he] at h1
   exact zfA n _ k1 h1.2 (by have:=h1.1;have:=h1.2;simp only [Ns.need];omega)
 |n+1,.stmt,k,hk,h=>by
  simp only [Ns.need] at h
  rw [zgb]
  have semi:∀ (s:List Sm) (k5:Nat),((zbe l [59] k5).bind fun _ k6=>PR.ok s k6).isOut=false:=fun s k5=>PR.bind_out zbi (fun _ _ _=>rfl)
  have valu:∀ (g:Ex→List Sm) (k4:Nat),k4≤l.length→((zbZ l k4).bind fun e k5=>(zbe l [59] k5).bind fun _ k6=>PR.ok (g e) k6).isOut=false:=fun g k4 h4=>PR.bind_out (zdX h4) (fun e k5 _=>semi _ _)
  have okx:∀ {k k1:Nat} {e:Ex},k≤l.length→zbZ l k=.ok e k1→k<k1∧k1≤l.length:=fun hk he=>by have:=zh6 (l:=l) hk;rw [he] at this;exact this
  have oke:∀ {s:List UInt8} {k k1:Nat} {u:Unit},k≤l.length→s≠[]→zbe l s k=.ok u k1→k<k1∧k1≤l.length:=fun hk hs he=>by have:=zaF (l:=l) hk hs;rw [he] at this;exact this
  have okb:∀ {k k1:Nat} {b:List Sm},k≤l.length→smF l n .block k=.ok b k1→k<k1∧k1≤l.length:=fun hk he=>by have:=zcw (l:=l) n .block _ hk;rw [he] at this;exact this
  split
  ·rename_i h0
   have:=zaC h0 (by simp)
   refine PR.bind_out (zdX (by omega)) (fun e k1 he=>?_)
   have h1:=okx (by omega) he
   refine PR.bind_out (zfA n .block k1 h1.2 (by simp only [Ns.need];omega)) (fun b k2 hb=>?_)
   have h2:=okb h1.2 hb
   split
   ·rename_i h3
    have:=zaC h3 (by simp)
    exact PR.bind_out (zfA n .block (k2+1) (by omega) (by simp only [Ns.need];omega)) (fun _ _ _=>rfl)
   ·rfl
  split
  ·rename_i h0
   have:=zaC h0 (by simp)
   refine PR.bind_out (zdX (by omega)) (fun e k1 he=>?_)
   have h1:=okx (by omega) he
   exact PR.bind_out (zfA n .block k1 h1.2 (by simp only [Ns.need];omega)) (fun _ _ _=>rfl)
  split
  ·rename_i h0
   have:=zaC h0 (by simp)
   refine PR.bind_out (zdX (by omega)) (fun p k1 he=>?_)
   have h1:=okx (by omega) he
   refine PR.bind_out zbi (fun _ k2 hx=>?_)
   exact valu _ k2 (oke h1.2 (by simp) hx).2
  split
  ·rename_i h0
   have:=zaC h0 (by simp)
   exact valu _ (k+1) (by omega)
  ·refine PR.bind_out zdW (fun nm k1 he=>?_)
   have h1:=zbv (l:=l) hk
   rw [he] at h1
   have h1':k<k1∧k1≤l.length:=h1
   split
   ·rename_i h0
    have:=zaC h0 (by simp)
    refine PR.bind_out (zdX (by omega)) (fun p k2 hp=>?_)
    have h2:=okx (by omega) hp
    refine PR.bind_out zbi (fun _ k3 hx=>?_)
    have h3:=oke h2.2 (by simp) hx
    refine PR.bind_out zbi (fun _ k4 hy=>?_)
    exact valu _ k4 (oke h3.2 (by simp) hy).2
   ·refine PR.bind_out zbi (fun _ k4 hy=>?_)
    exact valu _ k4 (oke h1'.2 (by simp) hy).2
theorem zwX:∀ {n k k':Nat} {b:List Sm},smF l n .stmt k=.ok b k'→∃ s,b=[s]
 |0,_,_,_,h=>by cases h
 |n+1,k,k',b,h=>by
  rw [zgb] at h
  have semi:∀ {s:Sm} {k5:Nat},((zbe l [59] k5).bind fun _ k6=>PR.ok [s] k6)=.ok b k'→∃ s,b=[s]:=fun h=>by
   obtain ⟨_,_,_,h2⟩:=PR.bind_ok h
   cases h2;exact ⟨_,rfl⟩
  have valu:∀ {g:Ex→Sm} {k4:Nat},((zbZ l k4).bind fun e k5=>(zbe l [59] k5).bind fun _ k6=>PR.ok [g e] k6)=.ok b k'→∃ s,b=[s]:=fun h=>by
   obtain ⟨_,_,_,h2⟩:=PR.bind_ok h
   exact semi h2
  split at h
  ·obtain ⟨_,_,_,h2⟩:=PR.bind_ok h
   obtain ⟨_,_,_,h3⟩:=PR.bind_ok h2
   split at h3
   ·obtain ⟨_,_,_,h4⟩:=PR.bind_ok h3
    cases h4;exact ⟨_,rfl⟩
   ·cases h3;exact ⟨_,rfl⟩
  split at h
  ·obtain ⟨_,_,_,h2⟩:=PR.bind_ok h
   obtain ⟨_,_,_,h3⟩:=PR.bind_ok h2
   cases h3;exact ⟨_,rfl⟩
  split at h
  ·obtain ⟨_,_,_,h2⟩:=PR.bind_ok h
   obtain ⟨_,_,_,h3⟩:=PR.bind_ok h2
   exact valu h3
  split at h
  ·exact valu (g:=fun e=>smE 6 [] exZ e [] []) h
  ·obtain ⟨nm,_,_,h2⟩:=PR.bind_ok h
   split at h2
   ·obtain ⟨_,_,_,h3⟩:=PR.bind_ok h2
    obtain ⟨_,_,_,h4⟩:=PR.bind_ok h3
    obtain ⟨_,_,_,h5⟩:=PR.bind_ok h4
    exact valu h5
   ·obtain ⟨_,_,_,h3⟩:=PR.bind_ok h2
    exact valu (g:=fun e=>smE 1 nm exZ e [] []) h3
theorem ze0 {k:Nat} (hk:k≤l.length):(zbz l k).isOut=false:=zfA _ _ k hk (by simp only [Ns.need];omega)
theorem zij {k:Nat} (hk:k≤l.length):(zbz l k).past k l.length:=zcw _ _ k hk
end
end Go.Abs
namespace Go.Abs
open Go
section
variable {l:List TkD}
theorem zkA (n:Nat) (acc:List VarD) (k:Nat):zkQ l (n+1) acc k=(if isT l k [118,97,114] then (zff l (k+1)).bind fun nm k1=>(zmy l k1).bind fun v k2=>(zbe l [59] k2).bind fun _ k3=>zkQ l n (acc++[⟨nm,0,v⟩]) k3
  else if isT l k [97,114,114,97,121] then (zff l (k+1)).bind fun nm k1=>(zbe l [91] k1).bind fun _ k2=>(nmF l 1 k2).bind fun v k3=>(zbe l [93] k3).bind fun _ k4=>(zbe l [59] k4).bind fun _ k5=>zkQ l n (acc++[⟨nm,v,0⟩]) k5
  else .ok acc k):=rfl
theorem zru (n:Nat) (p:PgD) (z:Seen) (k:Nat):zkR l (n+1) p z k=(if k<l.length then (zbe l [111,110] k).bind fun _ k1=>
   if !z.s&&isT l k1 [115,116,97,114,116] then (zbz l (k1+1)).bind fun b k2=>zkR l n { p with start:=b } { z with s:=true } k2
   else if !z.m&&isT l k1 [109,101,115,115,97,103,101] then (zbz l (k1+1)).bind fun b k2=>zkR l n { p with message:=b } { z with m:=true } k2
   else if !z.t&&isT l k1 [116,105,99,107] then (zbz l (k1+1)).bind fun b k2=>zkR l n { p with tick:=b } { z with t:=true } k2
   else if !z.i&&isT l k1 [105,110,112,117,116] then (zbz l (k1+1)).bind fun b k2=>zkR l n { p with input:=b } { z with i:=true } k2
   else .bad k1
  else .ok p k):=rfl
theorem zkB {k:Nat} (hk:k≤l.length):(zmy l k).on k l.length:=by
 unfold zmy
 split
 ·rename_i h
  have:=zaC h (by simp)
  split
  ·rename_i h2
   have:=zaC h2 (by simp)
   exact PR.on.le (PR.on.bind (zdV (z:=0) (k:=k+2) (by omega)).on (fun v k' _ h2=>PR.ok_on _ h2)) (by omega)
  ·exact PR.on.le (zdV (by omega)).on (by omega)
 ·exact PR.ok_on _ hk
theorem zrv {k:Nat}:(zmy l k).isOut=false:=by
 unfold zmy
 split
 ·split
  ·exact PR.bind_out zgy (fun _ _ _=>rfl)
  ·exact zgy
 ·rfl
theorem zik:∀ (n:Nat) (acc:List VarD) (k:Nat),k≤l.length→(zkQ l n acc k).on k l.length
 |0,_,_,_=>trivial
 |n+1,acc,k,hk=>by
  rw [zkA]
  split
  ·rename_i h
   have:=zaC h (by simp)
   exact PR.on.le (PR.on.bind (zbv (k:=k+1) (by omega)).on (fun nm k1 _ h1=>PR.on.bind (zkB h1) (fun v k2 _ h2=>PR.on.bind (zaF h2 (by simp)).on (fun _ k3 _ h3=>zik n _ k3 h3)))) (by omega)
  split
  ·rename_i h
   have:=zaC h (by simp)
   exact PR.on.le (PR.on.bind (zbv (k:=k+1) (by omega)).on (fun nm k1 _ h1=>PR.on.bind (zaF h1 (by simp)).on (fun _ k2 _ h2=>PR.on.bind (zdV h2).on (fun v k3 _ h3=>PR.on.bind (zaF h3 (by simp)).on (fun _ k4 _ h4=>PR.on.bind (zaF h4 (by simp)).on (fun _ k5 _ h5=>zik n _ k5 h5)))))) (by omega)
  ·exact PR.ok_on _ hk
theorem zhk:∀ (n:Nat) (acc:List VarD) (k:Nat),k≤l.length→l.length - k+1≤n→(zkQ l n acc k).isOut=false
 |0,_,k,hk,h=>by omega
 |n+1,acc,k,hk,h=>by
  rw [zkA]
  have on':∀ {α:Type} {r:PR α} {a:α} {k k1:Nat},r.on k l.length→r=.ok a k1→k≤k1∧k1≤l.length:=fun h e=>by rw [e] at h;exact h
  split
  ·rename_i h0
   have:=zaC h0 (by simp)
   refine PR.bind_out zdW (fun nm k1 e1=>?_)
   have h1:=on' (zbv (k:=k+1) (by omega)).on e1
   refine PR.bind_out zrv (fun v k2 e2=>?_)
   have h2:=on' (zkB h1.2) e2
   refine PR.bind_out zbi (fun _ k3 e3=>?_)
   have h3:=on' (zaF h2.2 (by simp)).on e3
   exact zhk n _ k3 h3.2 (by omega)
  split
  ·rename_i h0
   have:=zaC h0 (by simp)
   refine PR.bind_out zdW (fun nm k1 e1=>?_)
   have h1:=on' (zbv (k:=k+1) (by omega)).on e1
   refine PR.bind_out zbi (fun _ k2 e2=>?_)
   have h2:=on' (zaF h1.2 (by simp)).on e2
   refine PR.bind_out zgy (fun v k3 e3=>?_)
   have h3:=on' (zdV h2.2).on e3
   refine PR.bind_out zbi (fun _ k4 e4=>?_)
   have h4:=on' (zaF h3.2 (by simp)).on e4
   refine PR.bind_out zbi (fun _ k5 e5=>?_)
   have h5:=on' (zaF h4.2 (by simp)).on e5
   exact zhk n _ k5 h5.2 (by omega)
  ·rfl
theorem zn0:∀ (n:Nat) (p:PgD) (z:Seen) (k:Nat),k≤l.length→l.length - k+1≤n→(zkR l n p z k).isOut=false
 |0,_,_,k,hk,h=>by omega
 |n+1,p,z,k,hk,h=>by
  rw [zru]
  split
  ·refine PR.bind_out zbi (fun _ k1 e1=>?_)
   have h1:k<k1∧k1≤l.length:=by have:=zaF (l:=l) (s:=[111,110]) hk (by simp);rw [e1] at this;exact this
   have one:∀ {s:List UInt8} (f:List Sm→PgD) (z':Seen),isT l k1 s=true→s≠[]→((zbz l (k1+1)).bind fun b k2=>zkR l n (f b) z' k2).isOut=false:=fun f z' hs hne=>by
    have hlt:=zaC hs hne
    refine PR.bind_out (ze0 (by omega)) (fun b k2 e2=>?_)
    have h2:k1+1<k2∧k2≤l.length:=by have:=zij (l:=l) (k:=k1+1) (by omega);rw [e2] at this;exact this
    exact zn0 n _ _ k2 h2.2 (by omega)
   split
   ·rename_i h2;exact one (fun b=>{ p with start:=b }) _ (by simp at h2;exact h2.2) (by simp)
   split
   ·rename_i h2;exact one (fun b=>{ p with message:=b }) _ (by simp at h2;exact h2.2) (by simp)
   split
   ·rename_i h2;exact one (fun b=>{ p with tick:=b }) _ (by simp at h2;exact h2.2) (by simp)
   split
   ·rename_i h2;exact one (fun b=>{ p with input:=b }) _ (by simp at h2;exact h2.2) (by simp)
   ·rfl
  ·rfl
theorem zlG:(zly l).isOut=false:=by
 unfold zly
 refine PR.bind_out (zhk _ _ 0 (by omega) (by omega)) (fun vs k e=>?_)
 have h1:0≤k∧k≤l.length:=by have:=zik (l:=l) (l.length+1) [] 0 (by omega);rw [e] at this;exact this
 exact zn0 _ _ _ k h1.2 (by omega)
end
end Go.Abs
namespace Go.Abs
open Go
section
variable (l:List TkD)
def zn1 (p:PgD) (z:Seen) (k1:Nat):PR (PgD × Seen):=
 if !z.s&&isT l k1 [115,116,97,114,116] then (zbz l (k1+1)).bind fun b k2=>.ok ({ p with start:=b },{ z with s:=true }) k2
 else if !z.m&&isT l k1 [109,101,115,115,97,103,101] then (zbz l (k1+1)).bind fun b k2=>.ok ({ p with message:=b },{ z with m:=true }) k2
 else if !z.t&&isT l k1 [116,105,99,107] then (zbz l (k1+1)).bind fun b k2=>.ok ({ p with tick:=b },{ z with t:=true }) k2
 else if !z.i&&isT l k1 [105,110,112,117,116] then (zbz l (k1+1)).bind fun b k2=>.ok ({ p with input:=b },{ z with i:=true }) k2
 else .bad k1
def zse (p:PgD) (z:Seen) (k:Nat):PR (PgD × Seen):=(zbe l [111,110] k).bind fun _ k1=>zn1 l p z k1
theorem PR.bind_assoc {α β γ:Type} (r:PR α) (f:α→Nat→PR β) (g:β→Nat→PR γ):(r.bind f).bind g=r.bind fun a k=>(f a k).bind g:=by cases r<;>rfl
theorem zlH (n:Nat) (p:PgD) (z:Seen) (k:Nat):zkR l (n+1) p z k=if k<l.length then (zse l p z k).bind fun q k2=>zkR l n q.1 q.2 k2 else .ok p k:=by
 rw [zru]
 split
 ·unfold zse
  rw [PR.bind_assoc]
  congr 1
  funext _ k1
  unfold zn1
  repeat' split
  all_goals first|rfl|(rw [PR.bind_assoc];rfl)
 ·rfl
theorem zwY (p:PgD) (z:Seen) (k1:Nat) (h:k1≤l.length):(zn1 l p z k1).on k1 l.length:=by
 have one:∀ {s:List UInt8} (f:List Sm→PgD × Seen),isT l k1 s=true→s≠[]→((zbz l (k1+1)).bind fun b k2=>PR.ok (f b) k2).on k1 l.length:=fun f hs hne=>by
  have hlt:=zaC hs hne
  exact PR.on.le (PR.on.bind (zij (by omega)).on (fun b k2 _ h2=>PR.ok_on _ h2)) (by omega)
 unfold zn1
 split
 ·rename_i h2;exact one (fun b=>({ p with start:=b },_)) (by simp at h2;exact h2.2) (by simp)
 split
 ·rename_i h2;exact one (fun b=>({ p with message:=b },_)) (by simp at h2;exact h2.2) (by simp)
 split
 ·rename_i h2;exact one (fun b=>({ p with tick:=b },_)) (by simp at h2;exact h2.2) (by simp)
 split
 ·rename_i h2;exact one (fun b=>({ p with input:=b },_)) (by simp at h2;exact h2.2) (by simp)
 ·exact ⟨Nat.le_refl _,h⟩
theorem zlI (p:PgD) (z:Seen) (k:Nat) (h:k≤l.length):(zse l p z k).past k l.length:=by
 unfold zse
 exact PR.past.bind (zaF h (by simp)) (fun _ k1 _ h1=>zwY l p z k1 h1)
theorem zn2 (p:PgD) (z:Seen) (k:Nat) (h:k≤l.length):(zse l p z k).isOut=false:=by
 unfold zse
 refine PR.bind_out zbi (fun _ k1 e1=>?_)
 have h1:k<k1∧k1≤l.length:=by have:=zaF (l:=l) (s:=[111,110]) h (by simp);rw [e1] at this;exact this
 have one:∀ {s:List UInt8} (f:List Sm→PgD × Seen),isT l k1 s=true→s≠[]→((zbz l (k1+1)).bind fun b k2=>PR.ok (f b) k2).isOut=false:=fun f hs hne=>by
  have hlt:=zaC hs hne
  exact PR.bind_out (ze0 (by omega)) (fun b k2 e2=>rfl)
 unfold zn1
 split
 ·rename_i h2;exact one (fun b=>({ p with start:=b },_)) (by simp at h2;exact h2.2) (by simp)
 split
 ·rename_i h2;exact one (fun b=>({ p with message:=b },_)) (by simp at h2;exact h2.2) (by simp)
 split
 ·rename_i h2;exact one (fun b=>({ p with tick:=b },_)) (by simp at h2;exact h2.2) (by simp)
 split
 ·rename_i h2;exact one (fun b=>({ p with input:=b },_)) (by simp at h2;exact h2.2) (by simp)
 ·rfl
end
end Go.Abs
namespace Go.Abs
open Go
theorem zt7 {s:List UInt8} {k e:Nat} {t:TkD} (hk:k<s.length) (h:zcQ s k=(t,(e:Int),0)):t.pos=k∧cut s k e=zmB t∧e=k+(zmB t).length∧k<e∧e≤s.length:=by
 obtain ⟨hg,hp,h1,h2,_⟩:=znS s k e t hk h
 have hw:=hg.word
 have hl:=zkl s k e h2
 exact ⟨hp,hw.symm,by rw [hw,hl];omega,h1,h2⟩
theorem Sc.len {s:List UInt8} {k:Nat} {l:List TkD} (h:Sc s k l):l.length≤s.length - k:=by
 induction h with
 |fin _=>simp
 |blank _ _ _ ih=>omega
 |@hsh k l hk hh _ ih=>have:=(zkn s k hk hh);omega
 |@tok k e t l hk hb hh ho _ ih=>
  obtain ⟨h1,h2,h3,h4,h5⟩:=zt7 hk ho
  simp only [List.length_cons];omega
theorem Sc.vals {s:List UInt8} {k:Nat} {l:List TkD} (h:Sc s k l):∀ t ∈ l,t.value≤9223372036854775807∧0<(zmB t).length∧(zmB t).length≤s.length∧Good t (zmB t):=by
 intro t ht
 obtain ⟨e,a,_,h2,h3,h4,hg⟩:=h.good t ht
 have hw:=hg.word
 have hl:=zkl s a e h4
 refine ⟨?_,by rw [hw,hl];omega,by rw [hw,hl];omega,by rw [hw];exact hg⟩
 rcases hg.kinds with ⟨_,_,h,_⟩|⟨_,_,h,_,h5⟩|⟨_,_,h,_⟩
 all_goals rw [h]
 all_goals omega
section
variable {l:List TkD}
theorem zrw (op:Int):szE (exK op)=1:=by simp [exK,szE,zgu]
theorem zDf (v:Int):szE (exC v)=1:=by simp [exC,szE,zgu]
theorem zDg (nm:List UInt8):szE (exN nm)=1:=by simp [exN,szE,zgu]
theorem zDh (nm:List UInt8) (e:Ex):szE (exI nm e)=1+szE e:=by simp [exI,szE,zgu]
theorem zzX (op:Int) (e:Ex):szE (exU op e)=1+szE e:=by simp [exU,szE,zgu]
theorem zDi (op:Int) (a b:Ex):szE (exB op a b)=1+szE a+szE b:=by simp [exB,szE,zgu];omega
theorem zcH {s:List UInt8} {k k':Nat} {u:Unit} (h:zbe l s k=.ok u k'):k'=k+1:=by
 unfold zbe at h;split at h<;>cases h;rfl
theorem zkC {k k':Nat} {nm:List UInt8} (h:zff l k=.ok nm k'):k'=k+1:=by
 unfold zff at h;split at h<;>cases h;rfl
theorem zu0 {z:Int} {k k':Nat} {v:Int} (h:nmF l z k=.ok v k'):k'=k+1:=by
 unfold nmF at h;split at h<;>cases h;rfl
def Nt.pre:Nt→Nat
 |.loop _ e=>szE e
 |_=>0
theorem zeE:∀ (n:Nat) (nt:Nt) (k:Nat) (e:Ex) (k':Nat),exF l n nt k=.ok e k'→szE e+k≤k'+nt.pre
 |0,nt,k,e,k',h=>by cases h
 |n+1,.bin lv,k,e,k',h=>by
  rw [zrt] at h
  split at h
  ·exact zeE n .un k e k' h
  ·obtain ⟨e1,k1,h1,h2⟩:=PR.bind_ok h
   have:=zeE n _ _ _ _ h1
   have:=zeE n _ _ _ _ h2
   simp only [Nt.pre] at *
   omega
 |n+1,.loop lv e0,k,e,k',h=>by
  rw [znY] at h
  split at h
  ·cases h;simp only [Nt.pre];omega
  ·obtain ⟨e1,k1,h1,h2⟩:=PR.bind_ok h
   have:=zeE n _ _ _ _ h1
   have:=zeE n _ _ _ _ h2
   simp only [Nt.pre,zDi] at *
   omega
 |n+1,.un,k,e,k',h=>by
  rw [zuZ] at h
  split at h
  ·obtain ⟨e1,k1,h1,h2⟩:=PR.bind_ok h
   have:=zeE n _ _ _ _ h1
   cases h2
   simp only [Nt.pre,zzX] at *
   omega
  split at h
  ·obtain ⟨e1,k1,h1,h2⟩:=PR.bind_ok h
   have:=zeE n _ _ _ _ h1
   cases h2
   simp only [Nt.pre,zzX] at *
   omega
  ·exact zeE n .prim k e k' h
 |n+1,.prim,k,e,k',h=>by
  rw [znZ] at h
  split at h
  ·obtain ⟨v,k1,h1,h2⟩:=PR.bind_ok h
   have:=zu0 h1
   cases h2
   simp only [Nt.pre,zDf] at *
   omega
  split at h
  ·cases h;simp only [Nt.pre,zrw] at *;omega
  split at h
  ·cases h;simp only [Nt.pre,zrw] at *;omega
  split at h
  ·cases h;simp only [Nt.pre,zrw] at *;omega
  split at h
  ·cases h;simp only [Nt.pre,zrw] at *;omega
  split at h
  ·obtain ⟨e1,k1,h1,h2⟩:=PR.bind_ok h
   have:=zeE n _ _ _ _ h1
   obtain ⟨u,k2,h3,h4⟩:=PR.bind_ok h2
   have:=zcH h3
   cases h4
   simp only [Nt.pre] at *
   omega
  ·obtain ⟨nm,k1,h1,h2⟩:=PR.bind_ok h
   have:=zkC h1
   split at h2
   ·obtain ⟨e1,k2,h3,h4⟩:=PR.bind_ok h2
    have:=zeE n _ _ _ _ h3
    obtain ⟨u,k3,h5,h6⟩:=PR.bind_ok h4
    have:=zcH h5
    cases h6
    simp only [Nt.pre,zDh] at *
    omega
   ·cases h2
    simp only [Nt.pre,zDg] at *
    omega
theorem zil {k k':Nat} {e:Ex} (h:zbZ l k=.ok e k'):szE e+k≤k':=by
 have:=zeE _ _ _ _ _ h
 simpa [Nt.pre] using this
theorem zn3:∀ a b:List Sm,zbx (a++b)=zbx a+zbx b
 |[],b=>by simp [zbx]
 |s::r,b=>by simp only [List.cons_append,zbx,zn3 r b];omega
theorem zt8 (kind:Int) (nm:List UInt8) (p v:Ex) (b c:List Sm):zbx [smE kind nm p v b c]=1+szE p+szE v+zbx b+zbx c:=by simp [smE,zbx,szS]
theorem zwZ (kind:Int) (nm:List UInt8) (p v:Ex) (b c:List Sm):szS (smE kind nm p v b c)=1+szE p+szE v+zbx b+zbx c:=by simp [smE,szS]
def Ns.pre:Ns→Nat
 |.stmts acc=>zbx acc
 |_=>0
theorem zim:∀ (n:Nat) (nt:Ns) (k:Nat) (b:List Sm) (k':Nat),smF l n nt k=.ok b k'→zbx b+2 * k≤2 * k'+nt.pre
 |0,nt,k,e,k',h=>by cases h
 |n+1,.block,k,b,k',h=>by
  rw [zf9] at h
  obtain ⟨u,k1,h1,h2⟩:=PR.bind_ok h
  have:=zcH h1
  have:=zim n _ _ _ _ h2
  simp only [Ns.pre,zbx] at *
  omega
 |n+1,.stmts acc,k,b,k',h=>by
  rw [zga] at h
  split at h
  ·cases h;simp only [Ns.pre];omega
  ·obtain ⟨s,k1,h1,h2⟩:=PR.bind_ok h
   have:=zim n _ _ _ _ h1
   have:=zim n _ _ _ _ h2
   simp only [Ns.pre,zn3] at *
   omega
 |n+1,.stmt,k,b,k',h=>by
  rw [zgb] at h
  have z0:szE exZ=1:=zrw 0
  have valu:∀ {g:Ex→List Sm} {k4 c:Nat},(∀ e,zbx (g e)=c+szE e)→((zbZ l k4).bind fun e k5=>(zbe l [59] k5).bind fun _ k6=>PR.ok (g e) k6)=.ok b k'→zbx b+k4+1≤k'+c:=fun hg h=>by
   obtain ⟨e,k5,h1,h2⟩:=PR.bind_ok h
   have:=zil h1
   obtain ⟨u,k6,h3,h4⟩:=PR.bind_ok h2
   have:=zcH h3
   cases h4
   rw [hg]
   omega
  split at h
  ·obtain ⟨e,k1,h1,h2⟩:=PR.bind_ok h
   have:=zil h1
   obtain ⟨b1,k2,h3,h4⟩:=PR.bind_ok h2
   have:=zim n _ _ _ _ h3
   have:=zbo e
   split at h4
   ·obtain ⟨c,k3,h5,h6⟩:=PR.bind_ok h4
    have:=zim n _ _ _ _ h5
    cases h6
    simp only [Ns.pre,zbx,zwZ,z0] at *
    omega
   ·cases h4
    simp only [Ns.pre,zbx,zwZ,z0] at *
    omega
  split at h
  ·obtain ⟨e,k1,h1,h2⟩:=PR.bind_ok h
   have:=zil h1
   obtain ⟨b1,k2,h3,h4⟩:=PR.bind_ok h2
   have:=zim n _ _ _ _ h3
   have:=zbo e
   cases h4
   simp only [Ns.pre,zbx,zwZ,z0] at *
   omega
  split at h
  ·obtain ⟨p,k1,h1,h2⟩:=PR.bind_ok h
   have:=zil h1
   obtain ⟨u,k2,h3,h4⟩:=PR.bind_ok h2
   have:=zcH h3
   have:=valu (c:=1+szE p) (fun e=>by rw [zt8];simp only [zbx];omega) h4
   simp only [Ns.pre]
   omega
  split at h
  ·have:=valu (g:=fun e=>[smE 6 [] exZ e [] []]) (c:=2) (fun e=>by rw [zt8,z0];simp [zbx]) h
   simp only [Ns.pre]
   omega
  ·obtain ⟨nm,k1,h1,h2⟩:=PR.bind_ok h
   have:=zkC h1
   split at h2
   ·obtain ⟨p,k2,h3,h4⟩:=PR.bind_ok h2
    have:=zil h3
    obtain ⟨u,k3,h5,h6⟩:=PR.bind_ok h4
    have:=zcH h5
    obtain ⟨u2,k4,h7,h8⟩:=PR.bind_ok h6
    have:=zcH h7
    have:=valu (c:=1+szE p) (fun e=>by rw [zt8];simp only [zbx];omega) h8
    simp only [Ns.pre]
    omega
   ·obtain ⟨u,k3,h5,h6⟩:=PR.bind_ok h2
    have:=zcH h5
    have:=valu (g:=fun e=>[smE 1 nm exZ e [] []]) (c:=2) (fun e=>by rw [zt8,z0];simp [zbx]) h6
    simp only [Ns.pre]
    omega
theorem zgc {k k':Nat} {b:List Sm} (h:zbz l k=.ok b k'):zbx b+2 * k≤2 * k':=by
 have:=zim _ _ _ _ _ h
 simpa [Ns.pre] using this
theorem zmL:∀ (n:Nat) (acc:List VarD) (k:Nat) (vs:List VarD) (k':Nat),zkQ l n acc k=.ok vs k'→k≤l.length→vs.length+k≤k'+acc.length
 |0,_,_,_,_,h,_=>by cases h
 |n+1,acc,k,vs,k',h,hk=>by
  rw [zkA] at h
  split at h
  ·rename_i h0
   have:=zaC h0 (by simp)
   obtain ⟨nm,k1,h1,h2⟩:=PR.bind_ok h
   have:=zkC h1
   obtain ⟨v,k2,h3,h4⟩:=PR.bind_ok h2
   have q:k1≤k2∧k2≤l.length:=by
    have:=zbv (l:=l) (k:=k+1) (by omega)
    rw [h1] at this
    have:=zkB (l:=l) (k:=k1) this.2
    rw [h3] at this
    exact this
   obtain ⟨u,k3,h5,h6⟩:=PR.bind_ok h4
   have:=zcH h5
   have q3:k3≤l.length:=by
    have:=zaF (l:=l) (s:=[59]) q.2 (by simp)
    rw [h5] at this
    exact this.2
   have:=zmL n _ _ _ _ h6 q3
   simp only [List.length_append,List.length_cons,List.length_nil] at this
   omega
  split at h
  ·rename_i h0
   have:=zaC h0 (by simp)
   obtain ⟨nm,k1,h1,h2⟩:=PR.bind_ok h
   have:=zkC h1
   obtain ⟨u,k2,h3,h4⟩:=PR.bind_ok h2
   have:=zcH h3
   obtain ⟨v,k3,h5,h6⟩:=PR.bind_ok h4
   have:=zu0 h5
   obtain ⟨u2,k4,h7,h8⟩:=PR.bind_ok h6
   have:=zcH h7
   obtain ⟨u3,k5,h9,h10⟩:=PR.bind_ok h8
   have:=zcH h9
   have q3:k5≤l.length:=by
    have a1:=zbv (l:=l) (k:=k+1) (by omega)
    rw [h1] at a1
    have a2:=zaF (l:=l) (s:=[91]) a1.2 (by simp)
    rw [h3] at a2
    have a3:=zdV (l:=l) (z:=1) a2.2
    rw [h5] at a3
    have a4:=zaF (l:=l) (s:=[93]) a3.2 (by simp)
    rw [h7] at a4
    have a5:=zaF (l:=l) (s:=[59]) a4.2 (by simp)
    rw [h9] at a5
    exact a5.2
   have:=zmL n _ _ _ _ h10 q3
   simp only [List.length_append,List.length_cons,List.length_nil] at this
   omega
  ·cases h
   omega
def PgD.fits (p:PgD) (z:Seen):Prop:=(z.s=false→p.start=[])∧(z.m=false→p.message=[])∧(z.t=false→p.tick=[])∧(z.i=false→p.input=[])
theorem zrx:∀ (n:Nat) (p:PgD) (z:Seen) (k:Nat) (q:PgD) (k':Nat),zkR l n p z k=.ok q k'→k≤l.length→p.fits z→szP q+2 * k≤2 * k'+szP p∧k'≤l.length
 |0,_,_,_,_,_,h,_,_=>by cases h
 |n+1,p,z,k,q,k',h,hk,hz=>by
  rw [zlH] at h
  split at h
  ·obtain ⟨⟨q1,z1⟩,k2,h1,h2⟩:=PR.bind_ok h
   have hp:=zlI l p z k hk
   rw [h1] at hp
   unfold zse at h1
   obtain ⟨u,k1,h3,h4⟩:=PR.bind_ok h1
   have:=zcH h3
   unfold zn1 at h4
   obtain ⟨f1,f2,f3,f4⟩:=hz
   have key:szP q1+2 * k≤2 * k2+szP p∧q1.fits z1:=by
    split at h4
    ·rename_i hc
     obtain ⟨b,k3,h5,h6⟩:=PR.bind_ok h4
     have:=zgc h5
     cases h6
     have:p.start=[]:=f1 (by simp at hc;exact hc.1)
     exact ⟨by simp only [szP,this,zbx];omega,fun h=>(by cases h),f2,f3,f4⟩
    split at h4
    ·rename_i hc
     obtain ⟨b,k3,h5,h6⟩:=PR.bind_ok h4
     have:=zgc h5
     cases h6
     have:p.message=[]:=f2 (by simp at hc;exact hc.1)
     exact ⟨by simp only [szP,this,zbx];omega,f1,fun h=>(by cases h),f3,f4⟩
    split at h4
    ·rename_i hc
     obtain ⟨b,k3,h5,h6⟩:=PR.bind_ok h4
     have:=zgc h5
     cases h6
     have:p.tick=[]:=f3 (by simp at hc;exact hc.1)
     exact ⟨by simp only [szP,this,zbx];omega,f1,f2,fun h=>(by cases h),f4⟩
    split at h4
    ·rename_i hc
     obtain ⟨b,k3,h5,h6⟩:=PR.bind_ok h4
     have:=zgc h5
     cases h6
     have:p.input=[]:=f4 (by simp at hc;exact hc.1)
     exact ⟨by simp only [szP,this,zbx];omega,f1,f2,f3,fun h=>(by cases h)⟩
    ·cases h4
   have:=zrx n q1 z1 k2 q k' h2 hp.2 key.2
   omega
  ·cases h
   omega
theorem zn4 {p:PgD} {k:Nat} (h:zly l=.ok p k):szP p≤2 * l.length:=by
 unfold zly at h
 obtain ⟨vs,k1,h1,h2⟩:=PR.bind_ok h
 have a1:=zmL _ _ _ _ _ h1 (by omega)
 have a2:=zik (l:=l) (l.length+1) [] 0 (by omega)
 rw [h1] at a2
 have a3:=zrx _ _ _ _ _ _ h2 a2.2 ⟨fun _=>rfl,fun _=>rfl,fun _=>rfl,fun _=>rfl⟩
 simp only [szP,zbx,List.length_nil] at a1 a3 ⊢
 omega
theorem zw0 {s:List UInt8} {k:Nat} (h:Sc s k l):∀ i,(l.getD i tk0).value≤9223372036854775807:=fun i=>by
 by_cases hi:i<l.length
 ·have e:l.getD i tk0=l[i]:=by simp [List.getD,hi]
  rw [e]
  exact (h.vals l[i] (List.getElem_mem hi)).1
 ·have e:l.getD i tk0=tk0:=by simp [List.getD,Nat.le_of_not_lt hi]
  rw [e];decide
end
end Go.Abs
namespace Go.Abs
open Go
def pgZ:PgD:=⟨[],[],[],[],[]⟩
def zpG (s:List UInt8):PgD × Int × Int:=
 if (zi3 s).2.2≠0 then (pgZ,(zi3 s).2.1,(zi3 s).2.2)
 else match zly (zi3 s).1 with
  |.ok p _=>if zsc p > 16 then (pgZ,0,6) else (p,0,0)
  |.bad k=>(pgZ,zgO (zi3 s).1 s.length k,1)
  |.out=>(pgZ,0,0)
theorem zw1 (s:List UInt8):szP (zpG s).1≤1000000000:=by
 have h0:szP pgZ≤1000000000:=by decide
 unfold zpG
 split
 ·exact h0
 ·rename_i h
  obtain ⟨hs,l,hSc,e⟩:=zrc s (by simpa using h)
  rw [e]
  have:=hSc.len
  split
  ·rename_i p k hr
   have:=zn4 hr
   split
   ·exact h0
   ·simp only at *;omega
  ·exact h0
  ·exact h0
def zeF (s:List UInt8):List (List UInt8):=(zan 10 s).dropLast
def zlJ (s:List UInt8):Bool:=decide ((zan 10 s).getLast (zbO 10 s)≠[])
def zee (s:List UInt8):CdD × Int:=if (zpG s).2.2≠0 then (cd0,(zpG s).2.2) else zcs (zpG s).1
def zbR:List (List UInt8)→List UInt8→Option (List UInt8 × List (List UInt8))
 |[],_=>none
 |l::r,b=>if l=[101,110,100] then some (b,r) else zbR r (b++(l++[10]))
inductive HR where
 |ok (cs:List CdD) (rest:List (List UInt8)) (at_:Int)
 |bad (at_:Int) (e:Int)
def zcS:Nat→List (List UInt8)→Int→List CdD→HR
 |0,_,at_,_=>.bad at_ 1
 |_+1,[],at_,_=>.bad at_ 1
 |f+1,l::r,at_,cs=>
  if l=[112,114,111,99,101,115,115] then
   if 5≤cs.length then .bad at_ 4
   else match zbR r [] with
    |none=>.bad (at_+1+r.length) 1
    |some (b,r')=>if (zee b).2≠0 then .bad at_ (zee b).2 else zcS f r' (at_+1+(r.length - r'.length:Nat)) (cs++[(zee b).1])
  else if l=[115,116,101,112,115]∧cs≠[] then .ok cs r (at_+1)
  else .bad at_ 1
def zcj (torn:Bool):List (List UInt8)→Int→List StD→(List StD × Int × Int)
 |[],at_,xs=>if torn then ([],at_,1) else (xs,0,0)
 |l::r,at_,xs=>match zmK l with
  |none=>([],at_,1)
  |some x=>if 400≤xs.length then ([],at_,4) else zcj torn r (at_+1) (xs++[x])
/-! ### Writing -/
def zcx (p:PgD):List UInt8:=[112,114,111,99,101,115,115,10]++(ziM p).1++[101,110,100,10]
def zl6 (p:PgD):Bool:=decide ((ziM p).2≠0)
def zi5 (x:StD):Bool:=decide (wdF x.kind=[]) || !zdp x
def zfg (protocol faults:Int):List UInt8:=[112,114,111,116,111,99,111,108,32]++prF protocol++[32]++itT faults++[10]
def zeG (ps:List PgD) (protocol faults:Int) (l:List StD):List UInt8:=
 zfg protocol faults++ps.flatMap zcx++[115,116,101,112,115,10]++l.flatMap fun x=>zbk x++[10]
def zaI (ps:List PgD) (protocol faults:Int) (l:List StD):List UInt8 × Int:=
 if protocol<1∨8<protocol then ([],17)
 else if ps=[]∨5<ps.length∨400<l.length then ([],4)
 else match ps.find? zl6 with
  |some p=>([],(ziM p).2)
  |none=>match l.find? zi5 with
   |some x=>([],if wdF x.kind=[] then 17 else 7)
   |none=>if 65536<(zeG ps protocol faults l).length then ([],5) else (zeG ps protocol faults l,0)
structure ScD where
 codes:List CdD
 protocol:Int
 faults:Int
 steps:List StD
def zin (line:List UInt8):Int × Int × Bool:=match zan 32 line with
 |[a,b,c]=>if a=[112,114,111,116,111,99,111,108]∧b ∈ zlF.tail then ((zlF.idxOf b:Int),(zdN c).1,(zdN c).2) else (0,0,false)
 |_=>(0,0,false)
def zry (s:List UInt8):ScD × Int × Int:=
 if 65536<s.length then (⟨[],0,0,[]⟩,0,5)
 else match zeF s with
  |[]=>(⟨[],0,0,[]⟩,1,1)
  |l::r=>if (zin l).2.2=false then (⟨[],0,0,[]⟩,1,1)
   else match zcS (r.length+1) r 2 [] with
    |.bad a e=>(⟨[],0,0,[]⟩,a,e)
    |.ok cs r' a=>if (zcj (zlJ s) r' a []).2.2≠0 then (⟨[],0,0,[]⟩,(zcj (zlJ s) r' a []).2.1,(zcj (zlJ s) r' a []).2.2)
     else (⟨cs,(zin l).1,(zin l).2.1,(zcj (zlJ s) r' a []).1⟩,0,0)
structure WI (c:UInt8) (s:List UInt8) where
 i:Nat
 a:Nat
 acc:List (List UInt8)
 ha:a≤i
 hi:i≤s.length
 no:∀ k,a≤k→k<i→s.getD k 0≠c
 hl:acc.length≤i
 eq:zan c s=acc++zan c (s.drop a)
variable {c:UInt8} {s:List UInt8} (w:WI c s)
def zu1 (x:List UInt8):List PVal:=[.str x]
end Go.Abs
namespace Go.Abs
open Go
def zlK (b:List UInt8):Nat→Int
 |0=>0
 |k+1=>if 1≤k∧prF k=b then k else zlK b k
theorem zn7 (b:List UInt8):zlK b 1=0:=by simp [zlK]
theorem zu2 (b:List UInt8) (k:Nat) (h:1≤k) (e:prF k=b):zlK b (k+1)=k:=by rw [zlK,if_pos ⟨h,e⟩]
theorem zu3 (b:List UInt8) (k:Nat) (e:prF k≠b):zlK b (k+1)=zlK b k:=by rw [zlK,if_neg (fun h=>e h.2)]
def zcT (line:List UInt8) (f:Int):Int × Int × Bool:=match zan 32 line with
 |[a,b,c]=>if a=[112,114,111,116,111,99,111,108] then (zlK b 9,(zpF c).1,(zpF c).2&&(zlK b 9 != 0)) else (0,f,false)
 |_=>(0,f,false)
theorem zlL (line:List UInt8) (f:Int) (h:(zan 32 line).length≠3):zcT line f=(0,f,false):=by
 unfold zcT
 match hs:zan 32 line with
 |[]=>rfl
 |[a]=>rfl
 |[a,b]=>rfl
 |[a,b,c]=>rw [hs] at h;exact absurd rfl h
 |a::b::c::d::r=>rfl
theorem zn8 (line:List UInt8) (f:Int) (a b c:List UInt8) (hs:zan 32 line=[a,b,c]):zcT line f=if a=[112,114,111,116,111,99,111,108] then (zlK b 9,(zpF c).1,(zpF c).2&&(zlK b 9 != 0)) else (0,f,false):=by
 unfold zcT
 rw [hs]
theorem zub (P:Nat→Prop) (h:P 1∧P 2∧P 3∧P 4∧P 5∧P 6∧P 7∧P 8) (k:Nat) (h1:1≤k) (h2:k≤8):P k:=by
 obtain ⟨a1,a2,a3,a4,a5,a6,a7,a8⟩:=h
 have:k=1∨k=2∨k=3∨k=4∨k=5∨k=6∨k=7∨k=8:=by omega
 rcases this with rfl|rfl|rfl|rfl|rfl|rfl|rfl|rfl<;>assumption
theorem zw3 (k:Nat) (h1:1≤k) (h2:k≤8):prF k ∈ zlF.tail:=by
 refine zub (fun k=>prF (k:Nat) ∈ zlF.tail) ?_ k h1 h2
 decide
theorem zuc (k:Nat) (h1:1≤k) (h2:k≤8):zlK (prF k) 9=k∧(zlF.idxOf (prF k):Int)=k:=by
 refine zub (fun k=>zlK (prF (k:Nat)) 9=(k:Nat)∧(zlF.idxOf (prF (k:Nat)):Int)=(k:Nat)) ?_ k h1 h2
 decide
theorem zn9 (b:List UInt8) (h:b ∉ zlF.tail):∀ n:Nat,n≤9→zlK b n=0
 |0,_=>rfl
 |n+1,hn=>by
  rw [zlK,if_neg,zn9 b h n (by omega)]
  rintro ⟨h1,rfl⟩
  exact h (zw3 n h1 (by omega))
theorem zrz (b:List UInt8) (h:b ∈ zlF.tail):∃ k:Nat,1≤k∧k≤8∧b=prF k:=by
 simp only [zlF,List.tail_cons,List.mem_cons,List.not_mem_nil,or_false] at h
 rcases h with rfl|rfl|rfl|rfl|rfl|rfl|rfl|rfl
 ·exact ⟨1,by omega,by omega,by decide⟩
 ·exact ⟨2,by omega,by omega,by decide⟩
 ·exact ⟨3,by omega,by omega,by decide⟩
 ·exact ⟨4,by omega,by omega,by decide⟩
 ·exact ⟨5,by omega,by omega,by decide⟩
 ·exact ⟨6,by omega,by omega,by decide⟩
 ·exact ⟨7,by omega,by omega,by decide⟩
 ·exact ⟨8,by omega,by omega,by decide⟩
theorem zpb (line:List UInt8) (f:Int):(zcT line f).2.2=(zin line).2.2∧((zin line).2.2=true→zcT line f=zin line):=by
 by_cases h3:(zan 32 line).length=3
 ·match hs:zan 32 line,h3 with
  |[a,b,c],_=>
   rw [zn8 line f a b c hs]
   have hh:zin line=if a=[112,114,111,116,111,99,111,108]∧b ∈ zlF.tail then ((zlF.idxOf b:Int),(zdN c).1,(zdN c).2) else (0,0,false):=by
    unfold zin;rw [hs]
   rw [hh]
   by_cases ha:a=[112,114,111,116,111,99,111,108]
   ·rw [if_pos ha]
    by_cases hb:b ∈ zlF.tail
    ·rw [if_pos ⟨ha,hb⟩]
     obtain ⟨k,h1,h2,rfl⟩:=zrz b hb
     obtain ⟨e1,e2⟩:=zuc k h1 h2
     rw [e1,e2,zmG]
     have hk:((k:Int) != 0)=true:=by simp;omega
     rw [hk,Bool.and_true]
     by_cases hn:(zdN c).2=true
     ·rw [if_pos hn,hn];exact ⟨rfl,fun _=>rfl⟩
     ·rw [if_neg hn]
      have:(zdN c).2=false:=by simpa using hn
      rw [this]
      exact ⟨rfl,fun h=>by cases h⟩
    ·rw [if_neg (fun h=>hb h.2),zn9 b hb 9 (by omega)]
     simp
   ·rw [if_neg ha,if_neg (fun h=>ha h.1)]
    simp
 ·rw [zlL line f h3]
  have hh:zin line=(0,0,false):=by
   unfold zin
   match hs:zan 32 line with
   |[]=>rfl
   |[a]=>rfl
   |[a,b]=>rfl
   |[a,b,c]=>rw [hs] at h3;exact absurd rfl h3
   |a::b::c::d::r=>rfl
  rw [hh]
  simp
theorem zoa (c:UInt8) (s:List UInt8):∀ w ∈ zan c s,w.length≤s.length:=by
 intro w hw
 have hj:=zjw c s
 have key:∀ (l:List (List UInt8)) (w:List UInt8),w ∈ l→w.length≤(zkz c l).length:=by
  intro l
  induction l with
  |nil=>intro w hw;simp at hw
  |cons a r ih=>
   intro w hw
   cases r with
   |nil=>simp at hw;subst hw;simp [zkz]
   |cons b r=>
    rcases List.mem_cons.1 hw with rfl|hw
    ·simp [zkz]
    ·have:=ih w hw
     simp only [zkz,List.length_append,List.length_cons]
     omega
 have:=key _ w hw
 rw [hj] at this
 exact this
theorem zip (c:UInt8):∀ s:List UInt8,(zan c s).length≤s.length+1
 |[]=>by simp [zan]
 |x::r=>by
  have ih:=zip c r
  rw [zan]
  split
  ·simp;omega
  ·match hs:zan c r,zbO c r with
   |a::t,_=>rw [hs] at ih;simp at ih ⊢;omega
def ze8 (line:List UInt8):StD × Bool:=match zmK line with
 |some x=>(x,true)
 |none=>(st0,false)
theorem ze1 {line a:List UInt8} {l:List (List UInt8)} (hs:zan 32 line=a::l):ze8 line=match zpa a l with
 |some x=>(x,true)
 |none=>(st0,false):=by
 unfold ze8 zmK
 rw [hs]
theorem zpc {line a:List UInt8} {l:List (List UInt8)} (hs:zan 32 line=a::l) (hno:∀ j:Nat,1≤j→j<15→wdF j≠a):ze8 line=(st0,false):=by
 rw [ze1 hs]
 have:zpa a l=none:=by
  unfold zpa
  by_cases h:kdF a<1∨14<kdF a
  ·rw [if_pos h]
  ·exfalso
   have h2:=zDd a (by omega) (by omega)
   have h3:((kdF a).toNat:Int)=kdF a:=by omega
   exact hno (kdF a).toNat (by omega) (by omega) (by rw [h3];exact h2)
 rw [this]
theorem ziq (k:Int) (h1:1≤k) (h2:k≤14) (l:List (List UInt8)):zpa (wdF k) l=if l.length≠nfF k then none else if (l.all fun w=>(zdN w).2)=false then none else some (zhj k (l.map fun w=>(zdN w).1)):=by
 unfold zpa
 rw [zDc k h1 h2,if_neg (by omega)]
theorem zcU {line:List UInt8} {k:Int} {l:List (List UInt8)} (hs:zan 32 line=wdF k::l) (h1:1≤k) (h2:k≤14) (hl:l.length≠nfF k):ze8 line=(st0,false):=by
 rw [ze1 hs,ziq k h1 h2,if_pos hl]
theorem zw4 {line:List UInt8} {k:Int} (hs:zan 32 line=[wdF k]) (h1:1≤k) (h2:k≤14) (h:shF k=0):ze8 line=(⟨k,0,0,0⟩,true):=by
 have hn:nfF k=0:=by simp [nfF,h]
 rw [ze1 hs,ziq k h1 h2,if_neg (by rw [hn];simp)]
 simp [zhj,h]
theorem zw5 {line b:List UInt8} {k:Int} (hs:zan 32 line=[wdF k,b]) (h1:1≤k) (h2:k≤14) (h:shF k=1):ze8 line=if (zdN b).2=true then (⟨k,0,(zdN b).1,0⟩,true) else (st0,false):=by
 have hn:nfF k=1:=by simp [nfF,h]
 rw [ze1 hs,ziq k h1 h2,if_neg (by rw [hn];simp)]
 cases h3:(zdN b).2<;>simp [zhj,h,h3]
theorem zw6 {line b:List UInt8} {k:Int} (hs:zan 32 line=[wdF k,b]) (h1:1≤k) (h2:k≤14) (h:shF k=3):ze8 line=if (zdN b).2=true then (⟨k,(zdN b).1,0,0⟩,true) else (st0,false):=by
 have hn:nfF k=1:=by simp [nfF,h]
 rw [ze1 hs,ziq k h1 h2,if_neg (by rw [hn];simp)]
 cases h3:(zdN b).2<;>simp [zhj,h,h3]
theorem zw7 {line b c:List UInt8} {k:Int} (hs:zan 32 line=[wdF k,b,c]) (h1:1≤k) (h2:k≤14) (h:shF k=2):ze8 line=if (zdN b).2=true then (if (zdN c).2=true then (⟨k,(zdN b).1,0,(zdN c).1⟩,true) else (st0,false)) else (st0,false):=by
 have hn:nfF k=2:=by simp [nfF,h]
 rw [ze1 hs,ziq k h1 h2,if_neg (by rw [hn];simp)]
 cases h3:(zdN b).2<;>cases h4:(zdN c).2<;>simp [zhj,h,h3,h4]
theorem zob {w:List UInt8} (h:(zdN w).2=true):zpF w=((zdN w).1,true):=by rw [zmG,if_pos h]
theorem zoc {w:List UInt8} (h:(zdN w).2=false):zpF w=(0,false):=by rw [zmG,if_neg (by rw [h];simp)]
theorem zw8 (k:Nat) (h:k<15):((zsd.map PVal.str).drop k).take 1=[.str (wdF k)]:=by
 have:k=0∨k=1∨k=2∨k=3∨k=4∨k=5∨k=6∨k=7∨k=8∨k=9∨k=10∨k=11∨k=12∨k=13∨k=14:=by omega
 rcases this with rfl|rfl|rfl|rfl|rfl|rfl|rfl|rfl|rfl|rfl|rfl|rfl|rfl|rfl|rfl<;>rfl
theorem zrA (k:Nat) (h:k<9):((zlF.map PVal.str).drop k).take 1=[.str (prF k)]:=by
 have:k=0∨k=1∨k=2∨k=3∨k=4∨k=5∨k=6∨k=7∨k=8:=by omega
 rcases this with rfl|rfl|rfl|rfl|rfl|rfl|rfl|rfl|rfl<;>rfl
variable {P:Program} {env:Env} {pin:Nat} {σ:St} {Q:Exit→St→Prop}
def RN (P:Program) (env:Env) (pin:Nat) (c:Code) (Q:Exit→St→Prop) (t:Tg (c,Q)):Nat→St→Prop
 |0,_=>False
 |n+1,σ=>VC P env pin c σ (zfN (fun σ'=>RN P env pin c Q t n σ') Q)
@[congr] theorem zAK {c:Code} {t:Tg (c,Q)} {n:Nat} {σ σ':St} (h:σ=σ'):RN P env pin c Q t n σ=RN P env pin c Q t n σ':=by rw [h]
theorem zbw (c:Code) (t:Tg (c,Q)) (n:Nat) (σ:St):RN P env pin c Q t (n+1) σ=VC P env pin c σ (zfN (fun σ'=>RN P env pin c Q t n σ') Q):=rfl
theorem LW.rounds {c:Code} {t:Tg (Code.loop c,Q)} (hE:zaO P env) (hm:P.follows .mixedOrders=true) (n:Nat) (h:RN P env pin c Q .mk n σ):LW P env pin (.loop c) σ Q t:=by
 refine SW.loop (ι:={q:Nat × St // RN P env pin c Q .mk q.1 q.2}) (fun q=>q.1.2) (fun q=>q.1.1) ⟨(n,σ),h⟩ (zbK.refl _) ?_
 rintro ⟨⟨k,s⟩,hk⟩
 cases k with
 |zero=>exact hk.elim
 |succ k=>
  refine (VC.to hE hm c hk).mono fun e σ' hq=>?_
  cases e with
  |normal=>exact ⟨⟨(k,σ'),hq⟩,zbK.refl _,Nat.lt_succ_self _⟩
  |_=>exact hq
end Go.Abs
namespace Go.Abs
open Go
variable {P:Program} {env:Env} {pin:Nat} {σ:St} {Q:Exit→St→Prop}
variable {K:KT} {t:Tg K} {f:FuncId} {vals:List AVal} {d:Option Nat} {rest:List COp} {acc:Option Tr}
theorem VX.sb {b w:Bool} {r:Option Eff} {T:List Nat} (h1:b=true→VX P env K t (b=w) r T d rest acc σ) (h2:b=false→VX P env K t (b=w) r T d rest acc σ):VX P env K t (b=w) r T d rest acc σ:=by
 cases b
 ·exact h2 rfl
 ·exact h1 rfl
theorem CK.sb {b w:Bool} (h1:b=true→CK P env K t (b=w) f vals d rest acc σ) (h2:b=false→CK P env K t (b=w) f vals d rest acc σ):CK P env K t (b=w) f vals d rest acc σ:=by
 cases b
 ·exact h2 rfl
 ·exact h1 rfl
theorem VX.sa {b w:Bool} {q:Prop} {r:Option Eff} {T:List Nat} (h1:b=true→VX P env K t (b=w∧q) r T d rest acc σ) (h2:b=false→VX P env K t (b=w∧q) r T d rest acc σ):VX P env K t (b=w∧q) r T d rest acc σ:=by
 cases b
 ·exact h2 rfl
 ·exact h1 rfl
theorem CK.sa {b w:Bool} {q:Prop} (h1:b=true→CK P env K t (b=w∧q) f vals d rest acc σ) (h2:b=false→CK P env K t (b=w∧q) f vals d rest acc σ):CK P env K t (b=w∧q) f vals d rest acc σ:=by
 cases b
 ·exact h2 rfl
 ·exact h1 rfl
end Go.Abs
namespace Go.Abs
open Go
section
variable {P:Program} {env:Env} {pin:Nat} {σ σ':St} {Q:Exit→St→Prop}
theorem Rel.wkL {E:Ent} {g:Gh} {M:Mem} {a a':Act} {w:World} (hR:Rel E σ g M a w) (τ:Nat→Nat) (hsize:a'.tmps.size=σ'.slots.length) (hdef:a'.defers=E.ds)
  (hs:∀ i,i<σ'.slots.length→σ'.slot i=.junk∨∃ x,V g σ.dom M x (a'.tmps.getD i undef)∧x=ren τ (σ'.slot i)∧zap (zak σ'.objs) (σ'.slot i)=true)
  (ho:zaW τ (zak σ'.objs) σ 0 σ'.objs) (hinj:∀ i j o o',σ'.obj i=some o→o≠.dead→σ'.obj j=some o'→o'≠.dead→τ i=τ j→i=j) :
  Rel E σ' ⟨fun k=>g.ρ (τ k),fun k=>g.κ (τ k),fun k=>g.ν (τ k)⟩ M a' w:=by
 have hdom:∀ k,zak σ'.objs k=true→σ'.dom k:=fun k hk h0=>by
  have h1:σ'.objs.getD k none=none:=h0
  simp only [zak] at hk
  rw [h1] at hk;cases hk
 have hsc:∀ k,zak σ'.objs k=true→σ'.dom k∧(⟨fun k=>g.ρ (τ k),fun k=>g.κ (τ k),fun k=>g.ν (τ k)⟩:Gh).ρ k=g.ρ (τ k)∧(⟨fun k=>g.ρ (τ k),fun k=>g.κ (τ k),fun k=>g.ν (τ k)⟩:Gh).κ k=g.κ (τ k)∧(⟨fun k=>g.ρ (τ k),fun k=>g.κ (τ k),fun k=>g.ν (τ k)⟩:Gh).ν k=g.ν (τ k):=
  fun k hk=>⟨hdom k hk,rfl,rfl,rfl⟩
 have hown:∀ k ob,za0 (⟨fun k=>g.ρ (τ k),fun k=>g.κ (τ k),fun k=>g.ν (τ k)⟩:Gh) k ob=za0 g (τ k) ob:=fun k ob=>by cases ob<;>rfl
 have hget:∀ k ob b,σ'.obj k=some ob→za0 (⟨fun k=>g.ρ (τ k),fun k=>g.κ (τ k),fun k=>g.ν (τ k)⟩:Gh) k ob=some b→σ.obj (τ k)=some (zfD τ ob)∧za0 g (τ k) (zfD τ ob)=some b∧k<σ'.objs.length:=fun k ob b hk hb=>by
  rcases zdF ho k ob hk with rfl|⟨h1,_⟩
  ·simp [za0] at hb
  ·rw [Nat.zero_add] at h1
   exact ⟨h1,by rw [zcm,←hown];exact hb,zcd hk⟩
 refine ⟨hsize,hdef,?_,?_,?_,?_,hR.sat,hR.M0,hR.Mnew,hR.size0,hR.same,?_,hR.os,hR.tape,hR.output⟩
 ·intro i hi
  rcases hs i hi with h1|⟨x,h1,h2,h3⟩
  ·rw [h1];exact .junk _
  ·exact zsm hsc h1 _ h2 h3
 ·intro k ob hk
  rcases zdF ho k ob hk with rfl|⟨h1,h2⟩
  ·trivial
  ·rw [Nat.zero_add] at h1
   have hor:=hR.objs _ _ h1
   cases ob with
   |cells cs=>
    obtain ⟨vals,T,hh,hsz,hv⟩:=hor
    refine ⟨vals,T,hh,by rw [hsz,zaz],fun j hj=>?_⟩
    exact zsm hsc (hv j (by rw [zaz];exact hj)) _ (zb7 τ cs j) (zby _ _ _ h2)
   |row sz xs=>exact hor
   |map kd es=>
    obtain ⟨ents,clock,hh,hsz,hv⟩:=hor
    refine ⟨ents,clock,hh,hsz,fun i e he=>?_⟩
    obtain ⟨en,q1,q2,q3,q4⟩:=hv i e he
    exact ⟨en,q1,q2,q3,zsm hsc q4 _ (zg6 _ _).symm (zeq _ _)⟩
   |bh T e B n=>
    obtain ⟨hd,hn,p,hh,hp⟩:=hor
    obtain ⟨k1,k2,k3,k4⟩:=hsc B h2
    exact ⟨k1,hn,p,hh,hp⟩
   |bb e s=>exact hor
   |dead=>trivial
 ·intro k k' ob ob' b hk hk' hb hb'
  obtain ⟨h1,h2,h3⟩:=hget k ob b hk hb
  obtain ⟨h4,h5,h6⟩:=hget k' ob' b hk' hb'
  exact hinj k k' ob ob' hk (fun e=>by subst e;simp [za0] at hb) hk' (fun e=>by subst e;simp [za0] at hb') (hR.apart _ _ _ _ b h1 h4 h2 h5)
 ·intro k ob b hk hb i
  obtain ⟨h1,h2,_⟩:=hget k ob b hk hb
  exact hR.offM _ _ b h1 h2 i
 ·intro k ob b hk hb
  obtain ⟨h1,h2,_⟩:=hget k ob b hk hb
  exact hR.own0 _ _ b h1 h2
def zfa:List (Option AObj)→List Nat→List Nat
 |[],_=>[]
 |_,[]=>[]
 |none::r,_::t=>zfa r t
 |some .dead::r,_::t=>zfa r t
 |some (.cells _)::r,k::t=>k::zfa r t
 |some (.row _ _)::r,k::t=>k::zfa r t
 |some (.map _ _)::r,k::t=>k::zfa r t
 |some (.bh _ _ _ _)::r,k::t=>k::zfa r t
 |some (.bb _ _)::r,k::t=>k::zfa r t
theorem zit:∀ (os:List (Option AObj)) (τ:List Nat) (i:Nat) (o:AObj),os.length=τ.length→os.getD i none=some o→o≠.dead→τ.getD i 0 ∈ zfa os τ
 |[],_,i,o,_,h,_=>by simp [List.getD] at h
 |_::_,[],_,_,hl,_,_=>by simp at hl
 |x::r,k::t,0,o,hl,h,hd=>by
  simp only [List.getD_cons_zero] at h ⊢
  subst h
  cases o<;>simp [zfa] at hd ⊢
 |x::r,k::t,i+1,o,hl,h,hd=>by
  have hm:=zit r t i o (by simpa using hl) (by simpa [List.getD] using h) hd
  have e:(k::t).getD (i+1) 0=t.getD i 0:=by simp [List.getD]
  rw [e]
  cases x with
  |none=>exact hm
  |some ob=>cases ob<;>first|exact hm|exact List.mem_cons_of_mem _ hm
def ziu:List Nat→Bool
 |[]=>true
 |k::r=>!r.contains k&&ziu r
theorem zod:∀ (os:List (Option AObj)) (τ:List Nat),os.length=τ.length→ziu (zfa os τ)=true→∀ i j o o',os.getD i none=some o→o≠.dead→os.getD j none=some o'→o'≠.dead→τ.getD i 0=τ.getD j 0→i=j
 |[],_,_,_,i,j,o,o',h,_,_,_,_=>by simp [List.getD] at h
 |_::_,[],hl,_,_,_,_,_,_,_,_,_,_=>by simp at hl
 |x::r,k::t,hl,hn,i,j,o,o',hi,hd,hj,hd',e=>by
  have hl':r.length=t.length:=by simpa using hl
  have tail:ziu (zfa r t)=true:=by
   cases x with
   |none=>exact hn
   |some ob=>cases ob<;>simp only [zfa,ziu,Bool.and_eq_true] at hn<;>first|exact hn|exact hn.2
  have head:∀ ob:AObj,x=some ob→ob≠.dead→k ∉ zfa r t:=fun ob hx hob=>by
   subst hx
   cases ob<;>simp [zfa,ziu] at hn hob ⊢<;>exact hn.1
  match i,j with
  |0,0=>rfl
  |0,j+1=>
   exfalso
   have h1:x=some o:=by simpa using hi
   have h2:=zit r t j o' hl' (by simpa [List.getD] using hj) hd'
   have e':k=t.getD j 0:=by simpa [List.getD] using e
   rw [←e'] at h2
   exact head o h1 hd h2
  |i+1,0=>
   exfalso
   have h1:x=some o':=by simpa using hj
   have h2:=zit r t i o hl' (by simpa [List.getD] using hi) hd
   have e':k=t.getD i 0:=by simpa [List.getD] using e.symm
   rw [←e'] at h2
   exact head o' h1 hd' h2
  |i+1,j+1=>
   have:=zod r t hl' tail i j o o' (by simpa [List.getD] using hi) hd (by simpa [List.getD] using hj) hd' (by simpa [List.getD] using e)
   omega
theorem zbK.wkL (τ:List Nat) (hlen:σ'.objs.length=env.nobj) (hτ:τ.length=env.nobj) (hnd:ziu (zfa σ'.objs τ)=true) (hpin:∀ k,k<pin→tau τ k=k∧(σ.dom k→σ'.dom k))
  (hs:zbY (tau τ) (zak σ'.objs) σ.slots σ'.slots) (ho:zaW (tau τ) (zak σ'.objs) σ 0 σ'.objs):zbK env pin σ σ':=fun _=>⟨hlen,fun E g M a w hR=>by
 obtain ⟨hl,hg⟩:=zdf hs
 refine ⟨_,M,hR.wkL (tau τ) (by rw [hR.size,hl]) hR.defers (fun i hi=>?_) ho (fun i j o o' hi hd hj hd' e=>zod σ'.objs τ (by omega) hnd i j o o' hi hd hj hd' e),Mem.le_refl _,fun id hid hd=>?_⟩
 ·rcases hg i with h1|⟨h1,h2⟩
  ·exact .inl h1
  ·exact .inr ⟨σ.slot i,hR.slot i,h1,h2⟩
 ·obtain ⟨h1,h2⟩:=hpin id hid
  refine ⟨?_,h2 hd⟩
  simp [Gh.agree,h1]⟩
theorem WMe (τ:List Nat) (hs:zbY (tau τ) (zak σ'.objs) σ.slots σ'.slots) (ho:zaW (tau τ) (zak σ'.objs) σ 0 σ'.objs) (hlen:σ'.objs.length=env.nobj:=by rfl) (hτ:τ.length=env.nobj:=by rfl) (hnd:ziu (zfa σ'.objs τ)=true:=by rfl) (hp:∀ k,k<pin→tau τ k=k:=by first|decide|(simp only [List.length_cons,List.length_nil];decide)) (h1:(σ'.objs.take pin).all Option.isSome=true:=by simp) (h2:pin≤σ'.objs.length:=by simp):zbK env pin σ σ':=
 zbK.wkL τ hlen hτ hnd (zxG hp h1 h2) hs ho
end
end Go.Abs
namespace Go.Abs
open Go
theorem zcI:∀ (l:List (List UInt8)) (b b':List UInt8) (r:List (List UInt8)),zbR l b=some (b',r)→r.length<l.length
 |[],_,_,_,h=>by simp [zbR] at h
 |x::l,b,b',r,h=>by
  rw [zbR] at h
  split at h
  ·cases h;simp
  ·have:=zcI l _ _ _ h
   simp;omega
def zkT (l:List (List UInt8)):Nat:=(l.map fun x=>x.length+1).sum
theorem zb4 (x:List UInt8) (l:List (List UInt8)):zkT (x::l)=x.length+1+zkT l:=by simp [zkT]
structure PcI (ls:List (List UInt8)) (k0:Nat) where
 k:Nat
 b:List UInt8
 hk:k≤ls.length
 eq:zbR (ls.drop k) b=zbR (ls.drop k0) []
 hb:b.length+zkT (ls.drop k)≤1000000
theorem PcI.line {ls:List (List UInt8)} {k0:Nat} (i:PcI ls k0) (h:i.k<ls.length):ls.drop i.k=ls.getD i.k []::ls.drop (i.k+1):=by
 rw [List.drop_eq_getElem_cons h]
 simp [List.getD,h]
def PcI.next {ls:List (List UInt8)} {k0:Nat} (i:PcI ls k0) (h:i.k<ls.length) (hne:ls.getD i.k []≠[101,110,100]):PcI ls k0:=
 ⟨i.k+1,i.b++(ls.getD i.k []++[10]),h,by
  rw [←i.eq,i.line h,zbR,if_neg hne],by
  have:=i.hb
  rw [i.line h,zb4] at this
  simp only [List.length_append,List.length_cons,List.length_nil]
  omega⟩
theorem PcI.fin {ls:List (List UInt8)} {k0:Nat} (i:PcI ls k0) (h:i.k<ls.length) (he:ls.getD i.k []=[101,110,100]):zbR (ls.drop k0) []=some (i.b,ls.drop (i.k+1)):=by
 rw [←i.eq,i.line h,zbR,if_pos he]
theorem PcI.out {ls:List (List UInt8)} {k0:Nat} (i:PcI ls k0) (h:¬ i.k<ls.length):zbR (ls.drop k0) []=none:=by
 rw [←i.eq,List.drop_eq_nil_of_le (by omega),zbR]
def sc0:ScD:=⟨[],0,0,[]⟩
def zd2 (ls:List (List UInt8)) (torn:Bool):ScD × Int × Int:=
 if (zcT (ls.getD 0 []) 0).2.2=false then (sc0,1,1)
 else match zcS ls.length (ls.drop 1) 2 [] with
  |.bad a e=>(sc0,a,e)
  |.ok cs r a=>if (zcj torn r a []).2.2≠0 then (sc0,(zcj torn r a []).2.1,(zcj torn r a []).2.2)
   else (⟨cs,(zcT (ls.getD 0 []) 0).1,(zcT (ls.getD 0 []) 0).2.1,(zcj torn r a []).1⟩,0,0)
theorem zw9 (s:List UInt8):zry s=if 65536<s.length then (sc0,0,5) else zd2 (zeF s) (zlJ s):=by
 unfold zry
 by_cases hl:65536<s.length
 ·rw [if_pos hl,if_pos hl];rfl
 rw [if_neg hl,if_neg hl]
 cases h:zeF s with
 |nil=>rfl
 |cons l r=>
  obtain ⟨e1,e2⟩:=zpb l 0
  unfold zd2
  simp only [List.getD_cons_zero,List.length_cons,List.drop_succ_cons,List.drop_zero]
  rw [e1]
  by_cases hh:(zin l).2.2=false
  ·rw [if_pos hh,if_pos hh];rfl
  ·rw [if_neg hh,if_neg hh,e2 (by simpa using hh)]
   rfl
theorem ziy:∀ (l:List (List UInt8)) (b b':List UInt8) (r:List (List UInt8)),zbR l b=some (b',r)→r=l.drop (l.length - r.length)
 |[],_,_,_,h=>by simp [zbR] at h
 |x::l,b,b',r,h=>by
  have hl:=zcI _ _ _ _ h
  rw [zbR] at h
  split at h
  ·cases h;simp
  ·have hl2:=zcI _ _ _ _ h
   have:=ziy l _ _ _ h
   simp only [List.length_cons]
   rw [show l.length+1 - r.length=(l.length - r.length)+1 by omega,List.drop_succ_cons]
   exact this
structure RqI (ls:List (List UInt8)) (R:HR) where
 k:Nat
 cs:List CdD
 f:Nat
 hk1:1≤k
 hk:k≤ls.length
 hf:ls.length - k<f
 hcs:cs.length≤5
 eq:zcS f (ls.drop k) ((k:Int)+1) cs=R
section
variable {ls:List (List UInt8)} {R:HR} (i:RqI ls R)
theorem RqI.line (h:i.k<ls.length):ls.drop i.k=ls.getD i.k []::ls.drop (i.k+1):=by
 rw [List.drop_eq_getElem_cons h]
 simp [List.getD,h]
theorem RqI.fuel:∃ g,i.f=g+1:=⟨i.f - 1,by have:=i.hf;omega⟩
theorem RqI.out (h:¬ i.k<ls.length):R=.bad ((i.k+1:Nat):Int) 1:=by
 obtain ⟨g,hg⟩:=i.fuel
 refine i.eq.symm.trans ?_
 rw [hg,List.drop_eq_nil_of_le (by omega),zcS]
 congr 1
theorem RqI.bad (h:i.k<ls.length) (hp:ls.getD i.k []≠[112,114,111,99,101,115,115]) (hs:ls.getD i.k []≠[115,116,101,112,115]∨i.cs=[]):R=.bad ((i.k+1:Nat):Int) 1:=by
 obtain ⟨g,hg⟩:=i.fuel
 refine i.eq.symm.trans ?_
 rw [hg,i.line h,zcS,if_neg hp,if_neg]
 ·congr 1
 ·rintro ⟨a,b⟩
  rcases hs with hs|hs
  ·exact hs a
  ·exact b hs
theorem RqI.steps (h:i.k<ls.length) (hs:ls.getD i.k []=[115,116,101,112,115]) (hc:i.cs≠[]):R=.ok i.cs (ls.drop (i.k+1)) (((i.k+1:Nat):Int)+1):=by
 obtain ⟨g,hg⟩:=i.fuel
 refine i.eq.symm.trans ?_
 rw [hg,i.line h,zcS,hs,if_neg (by decide),if_pos ⟨rfl,hc⟩]
 congr 1
theorem RqI.many (h:i.k<ls.length) (hp:ls.getD i.k []=[112,114,111,99,101,115,115]) (h5:5≤i.cs.length):R=.bad ((i.k+1:Nat):Int) 4:=by
 obtain ⟨g,hg⟩:=i.fuel
 refine i.eq.symm.trans ?_
 rw [hg,i.line h,zcS,if_pos hp,if_pos h5]
 congr 1
theorem RqI.none (h:i.k<ls.length) (hp:ls.getD i.k []=[112,114,111,99,101,115,115]) (h5:¬ 5≤i.cs.length) (hc:zbR (ls.drop (i.k+1)) []=none):R=.bad ((ls.length+1:Nat):Int) 1:=by
 obtain ⟨g,hg⟩:=i.fuel
 refine i.eq.symm.trans ?_
 rw [hg,i.line h,zcS,if_pos hp,if_neg h5,hc]
 simp only [List.length_drop]
 congr 1
 omega
theorem RqI.body (h:i.k<ls.length) (hp:ls.getD i.k []=[112,114,111,99,101,115,115]) (h5:¬ 5≤i.cs.length) {b:List UInt8} {r:List (List UInt8)} (hc:zbR (ls.drop (i.k+1)) []=some (b,r)) (he:(zee b).2≠0):R=.bad ((i.k+1:Nat):Int) (zee b).2:=by
 obtain ⟨g,hg⟩:=i.fuel
 refine i.eq.symm.trans ?_
 rw [hg,i.line h,zcS,if_pos hp,if_neg h5,hc]
 dsimp only
 rw [if_pos he]
 congr 1
def RqI.next (h:i.k<ls.length) (hp:ls.getD i.k []=[112,114,111,99,101,115,115]) (h5:¬ 5≤i.cs.length) {b:List UInt8} {r:List (List UInt8)} (hc:zbR (ls.drop (i.k+1)) []=some (b,r)) (he:(zee b).2=0):RqI ls R:=
 ⟨ls.length - r.length,i.cs++[(zee b).1],i.f - 1,by
  have:=zcI _ _ _ _ hc
  simp only [List.length_drop] at this
  have:=i.hk1
  omega,by omega,by
  have:=zcI _ _ _ _ hc
  simp only [List.length_drop] at this
  have:=i.hf
  omega,by simp;omega,by
  obtain ⟨g,hg⟩:=i.fuel
  have hl:=zcI _ _ _ _ hc
  have hd:=ziy _ _ _ _ hc
  simp only [List.length_drop] at hl
  rw [List.drop_drop,List.length_drop,show i.k+1+(ls.length - (i.k+1) - r.length)=ls.length - r.length by omega] at hd
  refine Eq.trans ?_ i.eq
  rw [hg,i.line h,zcS,if_pos hp,if_neg h5,hc]
  dsimp only
  rw [if_neg (by simpa using he),←hd]
  simp only [List.length_drop,Nat.add_sub_cancel]
  congr 1
  omega⟩
end
structure RsI (ls:List (List UInt8)) (torn:Bool) (S:List StD × Int × Int) where
 k:Nat
 xs:List StD
 hk:k≤ls.length
 hx:xs.length≤400
 eq:zcj torn (ls.drop k) ((k:Int)+1) xs=S
section
variable {ls:List (List UInt8)} {torn:Bool} {S:List StD × Int × Int} (i:RsI ls torn S)
theorem RsI.line (h:i.k<ls.length):ls.drop i.k=ls.getD i.k []::ls.drop (i.k+1):=by
 rw [List.drop_eq_getElem_cons h]
 simp [List.getD,h]
theorem RsI.fin (h:¬ i.k<ls.length) (ht:torn=false):S=(i.xs,0,0):=by
 refine i.eq.symm.trans ?_
 rw [List.drop_eq_nil_of_le (by omega),zcj,if_neg (by rw [ht];simp)]
theorem RsI.cut (h:¬ i.k<ls.length) (ht:torn=true):S=([],((i.k+1:Nat):Int),1):=by
 refine i.eq.symm.trans ?_
 rw [List.drop_eq_nil_of_le (by omega),zcj,if_pos ht]
 rfl
theorem RsI.none (h:i.k<ls.length) (hs:zmK (ls.getD i.k [])=none):S=([],((i.k+1:Nat):Int),1):=by
 refine i.eq.symm.trans ?_
 rw [i.line h,zcj,hs]
 rfl
theorem RsI.many (h:i.k<ls.length) {x:StD} (hs:zmK (ls.getD i.k [])=some x) (h4:400≤i.xs.length):S=([],((i.k+1:Nat):Int),4):=by
 refine i.eq.symm.trans ?_
 rw [i.line h,zcj,hs]
 dsimp only
 rw [if_pos h4]
 rfl
def RsI.next (h:i.k<ls.length) {x:StD} (hs:zmK (ls.getD i.k [])=some x) (h4:¬ 400≤i.xs.length):RsI ls torn S:=
 ⟨i.k+1,i.xs++[x],h,by simp;omega,by
  refine Eq.trans ?_ i.eq
  rw [i.line h,zcj,hs]
  dsimp only
  rw [if_neg h4]
  congr 1⟩
end
end Go.Abs
namespace Go.Abs
open Go
def zd3 (p:PgD):List PVal:=[.slice (p.vars.map zas),.slice (p.start.map zah),.slice (p.message.map zah),.slice (p.tick.map zah),.slice (p.input.map zah)]
theorem zkH {α:Type} (q:α→Bool):∀ (l:List α) (k:Nat) (h:k<l.length),(∀ x ∈ l.take k,q x=false)→q l[k]=true→l.find? q=some l[k]
 |x::r,0,_,_,hq=>by simp at hq;simp [List.find?,hq]
 |x::r,k+1,h,hn,hq=>by
  have hx:q x=false:=hn x (by simp)
  have:=zkH q r k (by simpa using h) (fun y hy=>hn y (by simp [hy])) (by simpa using hq)
  simp [List.find?,hx,this]
theorem zmV {α:Type} (q:α→Bool) (l:List α) (h:∀ x ∈ l,q x=false):l.find? q=none:=by
 rw [List.find?_eq_none]
 intro x hx
 simp [h x hx]
theorem zrJ (k:Int):(wdF k).length≤10:=by
 by_cases h:k<1∨14<k
 ·unfold wdF;rw [if_pos h];simp
 ·refine zf8 (fun k=>(wdF k).length≤10) ?_ k (by omega) (by omega)
  decide
theorem zmW (j:Nat) (h1:1≤j) (h2:j≤8):(prF j).length≤11:=by
 refine zub (fun k=>(prF (k:Nat)).length≤11) ?_ j h1 h2
 decide
theorem zz0 (j:Nat) (h1:1≤j) (h2:j≤8):prF j≠[]:=by
 refine zub (fun k=>prF (k:Nat)≠[]) ?_ j h1 h2
 decide
theorem zho (x:StD):(zbk x).length≤60:=by
 have h0:=zrJ x.kind
 have h1:=zcv x.place
 have h2:=zcv x.proc
 have h3:=zcv x.value
 unfold zbk zwV
 split<;>simp<;>omega
theorem zkI (p:PgD):(ziM p).1.length≤4096:=by
 unfold ziM
 split
 ·simp
 ·split
  ·simp
  ·rename_i h;simp only;omega
theorem ziz (p:PgD):(zcx p).length≤4110:=by
 have:=zkI p
 simp [zcx]
 omega
theorem zjB (j:Nat) (h1:1≤j) (h2:j≤8) (f:Int):(zfg j f).length≤50:=by
 have h3:=zmW j h1 h2
 have h4:=zcv f
 simp [zfg]
 omega
theorem zgg {α:Type} (g:α→List UInt8) (B:Nat) (h:∀ x,(g x).length≤B):∀ l:List α,(l.flatMap g).length≤B * l.length
 |[]=>by simp
 |x::r=>by
  have:=zgg g B h r
  have:=h x
  simp only [List.flatMap_cons,List.length_append,List.length_cons,Nat.mul_add]
  omega
def zcy (x:StD):List UInt8 × Int:=if wdF x.kind=[] then ([],17) else if zdp x=false then ([],7) else (zbk x++[10],0)
theorem zjC (x:StD):zi5 x=decide ((zcy x).2≠0):=by
 unfold zi5 zcy
 by_cases h:wdF x.kind=[]
 ·simp [h]
 ·rw [if_neg h]
  cases hz:zdp x<;>simp [h]
theorem zpi (x:StD) (h:zi5 x=true):(zcy x).2=if wdF x.kind=[] then 17 else 7:=by
 unfold zi5 at h
 unfold zcy
 by_cases h1:wdF x.kind=[]
 ·simp [h1]
 ·rw [if_neg h1,if_neg h1]
  simp [h1] at h
  rw [if_pos h]
theorem zrK (x:StD) (h:zi5 x=false):zcy x=(zbk x++[10],0):=by
 unfold zi5 at h
 simp at h
 unfold zcy
 rw [if_neg h.1,if_neg (by simp [h.2])]
theorem zpj (x:StD):(zcy x).1.length≤61:=by
 have:=zho x
 unfold zcy
 split
 ·simp
 ·split
  ·simp
  ·simp;omega
section
variable {ps:List PgD} {protocol faults:Int} {l:List StD}
theorem zd4 (h:protocol<1∨8<protocol):zaI ps protocol faults l=([],17):=by unfold zaI;rw [if_pos h]
theorem zgT (h:¬ (protocol<1∨8<protocol)) (h2:ps=[]∨5<ps.length∨400<l.length):zaI ps protocol faults l=([],4):=by unfold zaI;rw [if_neg h,if_pos h2]
theorem zgU (h:¬ (protocol<1∨8<protocol)) (h2:¬ (ps=[]∨5<ps.length∨400<l.length)) (k:Nat) (hk:k<ps.length) (hn:∀ p ∈ ps.take k,zl6 p=false) (hb:zl6 ps[k]=true):zaI ps protocol faults l=([],(ziM ps[k]).2):=by
 unfold zaI
 rw [if_neg h,if_neg h2,zkH zl6 ps k hk hn hb]
theorem zeI (h:¬ (protocol<1∨8<protocol)) (h2:¬ (ps=[]∨5<ps.length∨400<l.length)) (hp:∀ p ∈ ps,zl6 p=false) (k:Nat) (hk:k<l.length) (hn:∀ x ∈ l.take k,zi5 x=false) (hb:zi5 l[k]=true):zaI ps protocol faults l=([],(zcy l[k]).2):=by
 unfold zaI
 rw [if_neg h,if_neg h2,zmV zl6 ps hp,zkH zi5 l k hk hn hb,zpi _ hb]
theorem ziA (h:¬ (protocol<1∨8<protocol)) (h2:¬ (ps=[]∨5<ps.length∨400<l.length)) (hp:∀ p ∈ ps,zl6 p=false) (hn:∀ x ∈ l,zi5 x=false):zaI ps protocol faults l=if 65536<(zeG ps protocol faults l).length then ([],5) else (zeG ps protocol faults l,0):=by
 unfold zaI
 rw [if_neg h,if_neg h2,zmV zl6 ps hp,zmV zi5 l hn]
end
structure FpI (ps:List PgD) where
 k:Nat
 hk:k≤ps.length
 no:∀ p ∈ ps.take k,zl6 p=false
def FpI.next {ps:List PgD} (i:FpI ps) (h:i.k<ps.length) (hb:zl6 ps[i.k]=false):FpI ps:=⟨i.k+1,h,by
 rw [List.take_succ_eq_append_getElem h]
 intro p hp
 rcases List.mem_append.1 hp with hp|hp
 ·exact i.no p hp
 ·simp at hp;subst hp;exact hb⟩
structure FsI (l:List StD) where
 k:Nat
 hk:k≤l.length
 no:∀ x ∈ l.take k,zi5 x=false
def FsI.next {l:List StD} (i:FsI l) (h:i.k<l.length) (hb:zi5 l[i.k]=false):FsI l:=⟨i.k+1,h,by
 rw [List.take_succ_eq_append_getElem h]
 intro x hx
 rcases List.mem_append.1 hx with hx|hx
 ·exact i.no x hx
 ·simp at hx;subst hx;exact hb⟩
end Go.Abs
namespace Go.Abs
open Go
theorem zlS:∀ (f:Nat) (r:List (List UInt8)) (a:Int) (cs:List CdD) (x e:Int),zcS f r a cs=.bad x e→e≠0
 |0,_,_,_,x,e,h=>by rw [zcS] at h;cases h;decide
 |f+1,[],_,_,x,e,h=>by rw [zcS] at h;cases h;decide
 |f+1,l::r,a,cs,x,e,h=>by
  rw [zcS] at h
  split at h
  ·split at h
   ·cases h;decide
   ·split at h
    ·cases h;decide
    ·split at h
     ·rename_i he
      cases h;exact he
     ·exact zlS f _ _ _ x e h
  ·split at h
   ·cases h
   ·cases h;decide
theorem zuv (ls:List (List UInt8)) (torn:Bool) (h:(zd2 ls torn).2.2=0):∃ d,zd2 ls torn=(d,0,0):=by
 unfold zd2 at h ⊢
 split at h
 ·cases h
 ·rename_i h1
  rw [if_neg h1]
  split at h
  ·rename_i a e he
   exact absurd h (zlS _ _ _ _ _ _ he)
  ·rename_i cs r a he
   split at h
   ·rename_i h2;exact absurd h h2
   ·rename_i h2
    try rw [he]
    try dsimp only
    rw [if_neg h2]
    exact ⟨_,rfl⟩
theorem zrW (ls:List (List UInt8)) (torn:Bool) (h:(zd2 ls torn).2.2≠0):∃ a e,zd2 ls torn=(sc0,a,e)∧e≠0:=by
 unfold zd2 at h ⊢
 split at h
 ·rename_i h1
  rw [if_pos h1]
  exact ⟨_,_,rfl,by decide⟩
 ·rename_i h1
  rw [if_neg h1]
  split at h
  ·rename_i a e he
   try rw [he]
   exact ⟨_,_,rfl,h⟩
  ·rename_i cs r a he
   split at h
   ·rename_i h2
    try rw [he]
    try dsimp only
    rw [if_pos h2]
    exact ⟨_,_,rfl,h2⟩
   ·exact absurd rfl h
theorem zjH (c:UInt8):∀ s:List UInt8,zkT (zan c s)=s.length+1
 |[]=>by simp [zan,zkT]
 |x::r=>by
  have ih:=zjH c r
  rw [zan]
  split
  ·rw [zb4,ih];simp;omega
  ·match hs:zan c r,zbO c r with
   |a::t,_=>
    rw [hs,zb4] at ih
    rw [zb4];simp;omega
theorem zlT:∀ l:List (List UInt8),zkT l.dropLast≤zkT l
 |[]=>by simp [zkT]
 |[a]=>by simp [zkT]
 |a::b::r=>by
  have:=zlT (b::r)
  rw [List.dropLast_cons_cons,zb4,zb4]
  omega
theorem zop:∀ l:List (List UInt8),l.length≤zkT l
 |[]=>by simp
 |a::r=>by have:=zop r;rw [zb4];simp;omega
theorem zpu (s:List UInt8):zkT (zeF s)≤s.length+1∧(zeF s).length≤s.length+1:=by
 have h1:=zlT (zan 10 s)
 rw [zjH] at h1
 have h2:=zop (zeF s)
 unfold zeF at h2 ⊢
 omega
theorem zm1 (s:List UInt8):((zan 10 s).map fun x=>[PVal.str x]).take ((zan 10 s).length - 1)=(zeF s).map zu1:=by
 unfold zeF
 rw [List.dropLast_eq_take,List.map_take]
 rfl
theorem zpv (s:List UInt8):((zan 10 s).map fun x=>[PVal.str x]).getD ((zan 10 s).length - 1) []=[.str ((zan 10 s).getLast (zbO 10 s))]∧((zan 10 s).getLast (zbO 10 s)==[])=!zlJ s:=by
 have hp:0<(zan 10 s).length:=List.length_pos_iff.2 (zbO 10 s)
 refine ⟨?_,?_⟩
 ·have hk:(zan 10 s).length - 1<(zan 10 s).length:=by omega
  rw [List.getD_eq_getElem?_getD,List.getElem?_map,List.getElem?_eq_getElem hk,List.getLast_eq_getElem]
  rfl
 ·unfold zlJ
  by_cases h:(zan 10 s).getLast (zbO 10 s)=[]
  ·simp [h]
  ·simp [h]
def scA (q:ScD × Int × Int):AVal:=.tup [.agg [.pv (.slice (q.1.codes.map fun c=>[.slice (c.init.map zt0),.slice (c.start.map zah),.slice (c.message.map zah),.slice (c.tick.map zah),.slice (c.input.map zah)])),.pv (.int .i64 q.1.protocol),.pv (.int .i64 q.1.faults)],.pv (.slice (q.1.steps.map za7)),.pv (.int .i64 q.2.1),.pv (.int .i64 q.2.2)]
theorem zlU {l:List VarD} {v:VarD} (h:l.any (fun v=>!zbt v)=false) (hm:v ∈ l):zbt v=true:=by
 have:=List.any_eq_false.1 h v hm
 simpa using this
theorem zkN {v:VarD} (h:zbt v=true):0≤v.size:=by
 unfold zbt at h
 split at h
 ·cases h
 ·rename_i h1
  simp at h1
  omega
theorem zkO {v:VarD} (h:zbt v=true):v.init≠-9223372036854775808:=by
 unfold zbt at h
 split at h
 ·cases h
 split at h
 ·cases h
 simpa using h
theorem zpw (n:Int) (h0:-9223372036854775808<n) (h1:n≤9223372036854775807):IntKind.i64.wrap (0 - n)=-n:=by
 rw [zat _ (by omega) (by omega)];omega
theorem zz7 (xs:List UInt8) (a:Nat) (n c:Int) (h:0<n) (hn:n≤1000) (hc:-1000≤c) (hc':c≤1000):ze7 (c+(nxt xs a n).1)=true:=by
 have:=zaM xs a n h
 simp only [ze7,Bool.and_eq_true,decide_eq_true_eq]
 omega
theorem zDo (xs:List UInt8) (a:Nat) (n:Int) (h:0<n) (hn:n≤1000):ze7 (nxt xs a n).1=true:=by
 have:=zaM xs a n h
 simp only [ze7,Bool.and_eq_true,decide_eq_true_eq]
 omega
theorem zFE:ze7 0=true:=by decide
theorem zDp (op v:Int) (nm:List UInt8) (l:List Ex):rgE (exL op v nm l)=(ze7 v&&zmF l):=rfl
theorem zz8:zmF []=true:=rfl
theorem zz9 (e:Ex):zmF [e]=rgE e:=by simp [zmF]
theorem zAa (a b:Ex):zmF [a,b]=(rgE a&&rgE b):=by simp [zmF]
theorem ziF (xs:List UInt8) (rec:Nat→Ex × Nat) (small:Bool) (a:Nat) (hr:∀ a,rgE (rec a).1=true):rgE (zct xs rec small a).1=true:=by
 unfold zct
 repeat' split
 all_goals simp only [zDp,zz8,zz9,zAa,zFE,hr,Bool.and_true,Bool.true_and]
 all_goals first|exact zDo _ _ _ (by omega) (by omega)|exact zz7 _ _ _ _ (by omega) (by omega) (by omega) (by omega)
theorem zou (xs:List UInt8):∀ (d a:Nat),rgE (za2 xs d a).1=true
 |0,a=>ziF xs _ _ a (fun a=>rfl)
 |d+1,a=>ziF xs _ _ a (fun a=>zou xs d a)
theorem zDq (kind:Int) (nm:List UInt8) (p v:Ex) (b e:List Sm):rgS (smL kind nm p v b e)=(rgE p&&rgE v&&zg2 b&&zg2 e):=rfl
theorem zAb:zg2 []=true:=rfl
theorem zDr:rgE ex0=true:=rfl
theorem zm8 (xs:List UInt8) (rec:Int→Nat→List Sm × Nat) (small:Bool) (a:Nat) (hr:∀ m a,zg2 (rec m a).1=true):rgS (zbu xs rec small a).1=true:=by
 unfold zbu
 dsimp only
 repeat' split
 all_goals simp only [zDq,zAb,zDr,zou,hr,Bool.and_true,Bool.true_and]
theorem zeK (xs:List UInt8) (rec:Int→Nat→List Sm × Nat) (small:Bool) (hr:∀ m a,zg2 (rec m a).1=true):∀ (n a:Nat),zg2 (za4 xs rec small n a).1=true
 |0,a=>rfl
 |n+1,a=>by simp only [za4,zg2,zm8 xs rec small a hr,zeK xs rec small hr n,Bool.and_true]
theorem zlW (xs:List UInt8):∀ (d:Nat) (m:Int) (a:Nat),zg2 (zb3 xs d m a).1=true
 |0,m,a=>zeK xs _ _ (fun _ _=>rfl) _ _
 |d+1,m,a=>zeK xs _ _ (fun m a=>zlW xs d m a) _ _
theorem zm9 (xs:List UInt8) (a:Nat):rgP (zbX xs a).1=true:=by
 unfold zbX rgP
 dsimp only
 have h1:=zaM xs a 7 (by omega)
 have h2:=zaM xs (nxt xs a 7).2 5 (by omega)
 have h3:=zaM xs (nxt xs (nxt xs a 7).2 5).2 3 (by omega)
 simp only [zlW,Bool.and_true,zt4,List.all_cons,List.all_nil,rgV,ze7,Bool.and_eq_true,decide_eq_true_eq]
 omega
theorem zr3 (xs:List UInt8) (a:Nat):ze7 (zfE xs a).1=true:=by
 have:=zks xs a
 simp only [ze7,Bool.and_eq_true,decide_eq_true_eq]
 exact this
def zcA (xs:List UInt8):Nat→Nat→List PgD→List PgD × Nat
 |0,a,ps=>(ps,a)
 |n+1,a,ps=>zcA xs n (zbX xs a).2 (ps++[(zbX xs a).1])
def zna (xs:List UInt8) (a:Nat):StD × Nat:=
 (zhj (1+(nxt xs a 14).1) [(zfE xs (nxt xs a 14).2).1,(zfE xs (zfE xs (nxt xs a 14).2).2).1],(zfE xs (zfE xs (nxt xs a 14).2).2).2)
def zea (xs:List UInt8):Nat→Nat→List StD→List StD × Nat
 |0,a,l=>(l,a)
 |n+1,a,l=>zea xs n (zna xs a).2 (l++[(zna xs a).1])
structure DrD where
 ps:List PgD
 protocol:Int
 faults:Int
 l:List StD
 at_:Nat
def zg3 (xs:List UInt8):DrD:=
 ⟨(zcA xs (1+(nxt xs 0 3).1).toNat (nxt xs 0 3).2 []).1,
 1+(nxt xs (zcA xs (1+(nxt xs 0 3).1).toNat (nxt xs 0 3).2 []).2 8).1,
 (zfE xs (nxt xs (zcA xs (1+(nxt xs 0 3).1).toNat (nxt xs 0 3).2 []).2 8).2).1,
 (zea xs (nxt xs (zfE xs (nxt xs (zcA xs (1+(nxt xs 0 3).1).toNat (nxt xs 0 3).2 []).2 8).2).2 14).1.toNat (nxt xs (zfE xs (nxt xs (zcA xs (1+(nxt xs 0 3).1).toNat (nxt xs 0 3).2 []).2 8).2).2 14).2 []).1,
 (zea xs (nxt xs (zfE xs (nxt xs (zcA xs (1+(nxt xs 0 3).1).toNat (nxt xs 0 3).2 []).2 8).2).2 14).1.toNat (nxt xs (zfE xs (nxt xs (zcA xs (1+(nxt xs 0 3).1).toNat (nxt xs 0 3).2 []).2 8).2).2 14).2 []).2⟩
theorem zuw (xs:List UInt8) (a:Nat) (h:a≤xs.length):(zna xs a).2≤xs.length:=zfz _ _ (zfz _ _ (zaG _ _ _ h))
theorem ziG (xs:List UInt8):∀ (n a:Nat) (ps:List PgD),a≤xs.length→(zcA xs n a ps).2≤xs.length
 |0,_,_,h=>h
 |n+1,a,ps,h=>by rw [zcA];exact ziG xs n _ _ (zie xs a h)
theorem zlX (xs:List UInt8):∀ (n a:Nat) (l:List StD),a≤xs.length→(zea xs n a l).2≤xs.length
 |0,_,_,h=>h
 |n+1,a,l,h=>by rw [zea];exact zlX xs n _ _ (zuw xs a h)
theorem ziH (xs:List UInt8):∀ (n a:Nat) (ps:List PgD),(∀ p ∈ ps,szP p≤100000∧rgP p=true)→(∀ p ∈ (zcA xs n a ps).1,szP p≤100000∧rgP p=true)∧(zcA xs n a ps).1.length=ps.length+n
 |0,_,_,h=>⟨h,rfl⟩
 |n+1,a,ps,h=>by
  rw [zcA]
  have:=ziH xs n (zbX xs a).2 (ps++[(zbX xs a).1]) (by
   intro p hp
   rcases List.mem_append.1 hp with hp|hp
   ·exact h p hp
   ·simp at hp;subst hp;exact ⟨zmD xs a,zm9 xs a⟩)
  refine ⟨this.1,?_⟩
  rw [this.2]
  simp
  omega
def zAN (x:StD):Prop:=zkS x=true∧zdp x=true∧1≤x.kind∧x.kind≤14
theorem zux (xs:List UInt8) (a:Nat):zAN (zna xs a).1:=by
 have h:=zaM xs a 14 (by omega)
 have r1:=zks xs (nxt xs a 14).2
 have r2:=zks xs (zfE xs (nxt xs a 14).2).2
 obtain ⟨z1,z2⟩:=zwW (1+(nxt xs a 14).1) [(zfE xs (nxt xs a 14).2).1,(zfE xs (zfE xs (nxt xs a 14).2).2).1]
 refine ⟨?_,z1,by show 1≤(zhj _ _).kind;rw [z2];omega,by show (zhj _ _).kind≤14;rw [z2];omega⟩
 refine zDe _ _ (by simp [ze7];omega) ?_
 intro n hn
 simp at hn
 rcases hn with rfl|rfl
 ·simp [ze7];omega
 ·simp [ze7];omega
theorem zlY (xs:List UInt8):∀ (n a:Nat) (l:List StD),(∀ x ∈ l,zAN x)→(∀ x ∈ (zea xs n a l).1,zAN x)∧(zea xs n a l).1.length=l.length+n
 |0,_,_,h=>⟨h,rfl⟩
 |n+1,a,l,h=>by
  rw [zea]
  have:=zlY xs n (zna xs a).2 (l++[(zna xs a).1]) (by
   intro p hp
   rcases List.mem_append.1 hp with hp|hp
   ·exact h p hp
   ·simp at hp;subst hp;exact zux xs a)
  refine ⟨this.1,?_⟩
  rw [this.2]
  simp
  omega
structure DrOk (xs:List UInt8) (d:DrD):Prop where
 hp:∀ p ∈ d.ps,szP p≤1000000∧rgP p=true
 h1:1≤d.ps.length
 h3:d.ps.length≤3
 q1:1≤d.protocol
 q8:d.protocol≤8
 f:-9223372036854775808≤d.faults∧d.faults≤9223372036854775807
 hl:∀ x ∈ d.l,zAN x
 h14:d.l.length≤13
 ha:d.at_≤xs.length
theorem zuy (xs:List UInt8):DrOk xs (zg3 xs):=by
 have n3:=zaM xs 0 3 (by omega)
 have l3:=zaG xs 0 3 (Nat.zero_le _)
 obtain ⟨p1,p2⟩:=ziH xs (1+(nxt xs 0 3).1).toNat (nxt xs 0 3).2 [] (by simp)
 have lp:=ziG xs (1+(nxt xs 0 3).1).toNat (nxt xs 0 3).2 [] l3
 unfold zg3
 generalize zcA xs (1+(nxt xs 0 3).1).toNat (nxt xs 0 3).2 []=P at *
 have n8:=zaM xs P.2 8 (by omega)
 have l8:=zaG xs P.2 8 lp
 generalize nxt xs P.2 8=Q at *
 have hf:=zks xs Q.2
 have lf:=zfz xs Q.2 l8
 generalize zfE xs Q.2=F at *
 have n14:=zaM xs F.2 14 (by omega)
 have l14:=zaG xs F.2 14 lf
 generalize nxt xs F.2 14=N at *
 obtain ⟨s1,s2⟩:=zlY xs N.1.toNat N.2 [] (by simp)
 have ls:=zlX xs N.1.toNat N.2 [] l14
 exact ⟨fun p hp=>by have:=p1 p hp;exact ⟨by omega,this.2⟩,by simp at p2 ⊢;omega,by simp at p2 ⊢;omega,by show 1≤1+Q.1;omega,by show 1+Q.1≤8;omega,hf,s1,by simp at s2 ⊢;omega,ls⟩
structure DrI (xs:List UInt8) (F:List PgD × Nat) where
 n:Nat
 a:Nat
 ps:List PgD
 ha:a≤xs.length
 hn:ps.length+n≤3
 eq:zcA xs n a ps=F
structure DsI (xs:List UInt8) (F:List StD × Nat) where
 n:Nat
 a:Nat
 l:List StD
 ha:a≤xs.length
 hn:l.length+n≤14
 eq:zea xs n a l=F
theorem zuA (xs:List UInt8):∀ p ∈ (zg3 xs).ps,szP p≤100000∧rgP p=true:=by
 obtain ⟨p1,_⟩:=ziH xs (1+(nxt xs 0 3).1).toNat (nxt xs 0 3).2 [] (by simp)
 exact p1
def zov (p:PgD) (v:VarD):PgD:=⟨p.vars++[v],p.start,p.message,p.tick,p.input⟩
theorem zxm {p:PgD} {v:VarD} (h:szP p≤100000∧rgP p=true) (hv:rgV v=true):szP (zov p v)≤1000000∧rgP (zov p v)=true:=by
 refine ⟨?_,?_⟩
 ·have:=h.1
  unfold szP zov at *
  simp only [List.length_append,List.length_cons,List.length_nil]
  omega
 ·have:=h.2
  unfold rgP zov at *
  simp only [List.all_append,List.all_cons,List.all_nil,Bool.and_true,hv]
  exact this
theorem zc9 (n:Int) (h0:0≤n) (h1:n<10):ze7 n=true:=by simp only [ze7,Bool.and_eq_true,decide_eq_true_eq];omega
def zlZ (p q:PVal):Prop:=∀ M v,Rd M p v→Rd M q v
theorem zlZ.rfl {p:PVal}:zlZ p p:=fun _ _ h=>h
theorem zlZ.xsl (xs:List (List PVal)):zlZ (.xsl xs) (.slice xs):=fun M v h=>by
 cases h with
 |xsl _ sz b off us h1 h2 h3=>exact .slice xs sz b off _ us h1 h2 h3 (Nat.le_refl _)
def zfb (xs ys:List (List PVal)):Prop:=xs.length=ys.length∧∀ i,(xs.getD i []).length=(ys.getD i []).length∧∀ j,zlZ (zba xs i j) (zba ys i j)
theorem zfb.rfl {xs:List (List PVal)}:zfb xs xs:=⟨Eq.refl _,fun _=>⟨Eq.refl _,fun _=>zlZ.rfl⟩⟩
def ziI (a:AVal):Prop:=∀ g D M v,V g D M a v→∀ g' D' M',V g' D' M' a v
theorem ziI.strInt (s:List UInt8) (k:IntKind) (n:Int):ziI (.tup [.pv (.str s),.pv (.int k n)]):=fun g D M v h g' D' M'=>by
 cases h with
 |tup _ vs hl hv=>
  refine .tup _ vs hl fun i hi=>?_
  have h1:=hv i hi
  match i,hi with
  |0,_=>exact (show V g' D' M' (.pv (.str s)) _ by rw [V.str_inv h1];exact .pv (.str s))
  |1,_=>exact (show V g' D' M' (.pv (.int k n)) _ by rw [V.int_inv h1];exact .pv (.int k n))
theorem zr4 {g:Gh} {D:Nat→Prop} {M M':Mem} {w:World} {id sz:Nat} {xs ys:List (List PVal)} (hle:zfb xs ys) (ho:OR g D M w id (.row sz xs)) (hM:Mem.le M M')
  (hc:g.ν id=false→∀ i,i<xs.length * sz→M' (g.ρ id) i=w.cell? ⟨g.ρ id,i,none⟩) {v:Value} (hv:V g D M (.row id xs.length) v):Rd M' (.slice ys) v:=by
 obtain ⟨r1,r2,r3⟩:=ho
 generalize hn:xs.length=n at hv
 have hys:∀ y,y ∈ ys→y.length=sz:=fun y hy=>by
  obtain ⟨k,hk,rfl⟩:=List.getElem_of_mem hy
  have h1:=(hle.2 k).1
  have hk':k<xs.length:=by rw [hle.1];exact hk
  simp only [List.getD_eq_getElem?_getD,List.getElem?_eq_getElem hk,List.getElem?_eq_getElem hk',Option.getD_some] at h1
  rw [←h1];exact r1 _ (List.getElem_mem hk')
 cases hv with
 |rown _ _ hnu=>
  have:=r2 hnu
  have h2:ys=[]:=List.length_eq_zero_iff.1 (by rw [←hle.1,this];rfl)
  rw [h2];exact .nils
 |row _ _ _ hnu=>
  subst hn
  obtain ⟨vals,T,hh,h4,h5,h6⟩:=r3 hnu
  rw [hle.1]
  refine .slice ys sz (g.ρ id) 0 (g.κ id) (fun i j=>vals.getD (i * sz+j) undef) hys (fun i j hi hj=>?_) (fun i j hi hj=>(hle.2 i).2 j _ _ ((h6 i j (by rw [hle.1];exact hi) hj).mono hM)) (by rw [←hle.1];exact h4)
  rw [←hle.1] at hi
  have hlt2:i * sz+j<xs.length * sz:=by
   have:(i+1) * sz≤xs.length * sz:=Nat.mul_le_mul_right _ hi
   rw [Nat.add_mul] at this;omega
  have hle2:xs.length * sz≤g.κ id * sz:=Nat.mul_le_mul_right _ h4
  rw [Nat.zero_add,hc hnu _ hlt2,cell_of_heap hh]
  have:i * sz+j<vals.size:=by omega
  simp [this]
inductive ArgsLe (rows:List (Nat × List (List PVal))):List AVal→List AVal→Prop
 |nil:ArgsLe rows [] []
 |pv (p:PVal) {l m:List AVal}:ArgsLe rows l m→ArgsLe rows (.pv p::l) (.pv p::m)
 |row (k s:Nat) (xs xs':List (List PVal)) {l m:List AVal}:rows[k]?=some (s,xs)→zfb xs xs'→ArgsLe rows l m→ArgsLe rows (.row k xs.length::l) (.pv (.slice xs')::m)
theorem ArgsLe.len {rows:List (Nat × List (List PVal))} {l m:List AVal} (h:ArgsLe rows l m):l.length=m.length:=by
 induction h with
 |nil=>rfl
 |pv _ _ ih=>simp [ih]
 |row _ _ _ _ _ _ _ ih=>simp [ih]
theorem ArgsLe.get {rows:List (Nat × List (List PVal))} {l m:List AVal} (h:ArgsLe rows l m):∀ i,i<l.length→(∃ p,l.getD i .junk=.pv p∧m.getD i .junk=.pv p)∨∃ k s xs xs',rows[k]?=some (s,xs)∧zfb xs xs'∧l.getD i .junk=.row k xs.length∧m.getD i .junk=.pv (.slice xs'):=by
 induction h with
 |nil=>intro i hi;simp at hi
 |pv p _ ih=>
  intro i hi
  cases i with
  |zero=>exact .inl ⟨p,rfl,rfl⟩
  |succ i=>exact ih i (by simpa using hi)
 |row k s xs xs' h1 h2 _ ih=>
  intro i hi
  cases i with
  |zero=>exact .inr ⟨k,s,xs,xs',h1,h2,rfl,rfl⟩
  |succ i=>exact ih i (by simpa using hi)
abbrev znb (rows:List (Nat × List (List PVal))):List (Option AObj):=rows.map fun r=>some (.row r.1 r.2)
theorem zeL {rows:List (Nat × List (List PVal))} {sl:List AVal} {id:Nat} {o:AObj}:St.obj ⟨sl,znb rows⟩ id=some o ↔ ∃ s xs,rows[id]?=some (s,xs)∧o=.row s xs:=by
 simp only [St.obj,znb,List.getD_eq_getElem?_getD,List.getElem?_map]
 cases h:rows[id]? with
 |none=>simp
 |some r=>
  obtain ⟨s,xs⟩:=r
  simp only [Option.map_some,Option.getD_some,Option.some.injEq,Prod.mk.injEq]
  exact ⟨fun h=>⟨s,xs,⟨rfl,rfl⟩,h.symm⟩,fun ⟨_,_,⟨h1,h2⟩,h3⟩=>by subst h1 h2;exact h3.symm⟩
theorem AC.keep {P:Program} {gl:Nat→Option (List PVal)} {f:FuncId} {rows:List (Nat × List (List PVal))} {args pargs:List AVal} {res:AVal}
  (hle:ArgsLe rows args pargs) (hres:ziI res) (h:AC P gl f pargs [] res []):AC P gl f args (znb rows) res (znb rows):=by
 intro w M g vargs hR hG
 let Rw:Nat→Nat→Prop:=fun b i=>∃ k s xs,rows[k]?=some (s,xs)∧g.ν k=false∧b=g.ρ k∧i<xs.length * s
 let Ow:Nat→Prop:=fun b=>∃ k s xs,rows[k]?=some (s,xs)∧g.ν k=false∧b=g.ρ k
 classical
 let M':Mem:=fun b i=>if Rw b i then w.cell? ⟨b,i,none⟩ else M b i
 have hMle:Mem.le M M':=fun b i u hu=>by
  simp only [M']
  split
  ·exact hR.sat b i u hu
  ·exact hu
 have hsat:∀ b i u,M' b i=some u→w.cell? ⟨b,i,none⟩=some u:=fun b i u hu=>by
  simp only [M'] at hu
  split at hu
  ·exact hu
  ·exact hR.sat b i u hu
 have hq:=h w M' g vargs ⟨by rw [hR.size];exact hle.len,hR.defers,fun i hi=>by
   have hi':i<args.length:=by rw [hle.len];exact hi
   have h1:V g (St.dom ⟨args,znb rows⟩) M (args.getD i .junk) (vargs.toArray.getD i undef):=hR.slots i hi'
   rcases hle.get i hi' with ⟨p,e1,e2⟩|⟨k,s,xs,xs',hk,hx,e1,e2⟩
   ·rw [e1] at h1
    show V g _ M' (pargs.getD i .junk) _
    rw [e2];exact .pv (h1.pv_inv.mono hMle)
   ·rw [e1] at h1
    show V g _ M' (pargs.getD i .junk) _
    rw [e2];exact .pv (zr4 hx (hR.objs k _ (zeL.2 ⟨s,xs,hk,rfl⟩)) hMle (fun hn j hj=>if_pos ⟨k,s,xs,hk,hn,rfl,hj⟩) h1),
  fun id o ho=>by simp [St.obj] at ho,fun id id' o o' b ho=>by simp [St.obj] at ho,fun id o b ho=>by simp [St.obj] at ho,hsat,Mem.le_refl _,fun _ _ _ _=>rfl,Nat.le_refl _,fun _ _ _=>rfl,fun id o b ho=>by simp [St.obj] at ho,rfl,rfl,rfl⟩
  ⟨hG.1.mono hMle,fun b cs hb hc=>by
   obtain ⟨h1,h2⟩:=hG.2 b cs hb hc
   exact ⟨fun hB=>by obtain ⟨id,ob,ho,_⟩:=hB;simp at ho,h2⟩⟩
 refine Calls.mono hq ?_
 rintro e w' ⟨v,g2,M2,he,hR2,_⟩
 have hno:∀ b,¬ zaD g [] b:=fun b hb=>by obtain ⟨id,ob,ho,_⟩:=hb;simp at ho
 have how:∀ id o b,St.obj ⟨[res],znb rows⟩ id=some o→za0 g id o=some b→Ow b:=fun id o b ho hb=>by
  obtain ⟨s,xs,hk,rfl⟩:=zeL.1 ho
  simp only [za0] at hb
  split at hb
  ·cases hb
  ·rename_i hn;exact ⟨id,s,xs,hk,by simpa using hn,by simpa using hb.symm⟩
 have hoff:∀ b i,Ow b→M b i=none:=fun b i hb=>by
  obtain ⟨k,s,xs,hk,hn,rfl⟩:=hb
  exact hR.offM k _ _ (zeL.2 ⟨s,xs,hk,rfl⟩) (by simp [za0,hn]) i
 have hblk:∀ b,Ow b→zaD g (znb rows) b:=fun b hb=>by
  obtain ⟨k,s,xs,hk,hn,rfl⟩:=hb
  exact ⟨k,.row s xs,(zeL (sl:=[])).2 ⟨s,xs,hk,rfl⟩,by simp [za0,hn]⟩
 let M3:Mem:=fun b i=>if Ow b then none else M2 b i
 have hM3:Mem.le M M3:=fun b i u hu=>by
  simp only [M3]
  split
  ·rename_i hb;rw [hoff b i hb] at hu;cases hu
  ·exact hR2.M0 b i u (hMle b i u hu)
 refine ⟨v,g,M3,he,⟨hR2.size,hR2.defers,fun i hi=>?_,fun id o ho=>?_,fun id id' o o' b ho ho'=>hR.apart id id' o o' b ho ho',fun id o b ho hb i=>?_,fun b i u hu=>?_,hM3,fun b i hb hB=>?_,hR2.size0,fun b hb _=>hR2.same b hb (hno b),fun id o b ho hb=>.inl (hblk b (how id o b ho hb)),hR2.os,hR2.tape,hR2.output⟩,fun id hid=>Gh.agree_refl _ _⟩
 ·have hi0:i=0:=by simpa using hi
  subst hi0
  exact hres _ _ _ _ (hR2.slots 0 (by simp)) _ _ _
 ·obtain ⟨s,xs,hk,rfl⟩:=zeL.1 ho
  obtain ⟨r1,r2,r3⟩:=hR.objs id _ ho
  refine ⟨r1,r2,fun hn=>?_⟩
  obtain ⟨vals,T,hh,h4,h5,h6⟩:=r3 hn
  exact ⟨vals,T,(hR2.same _ (Array.getElem?_eq_some_iff.1 hh).1 (hno _)).trans hh,h4,h5,fun i j hi hj=>(h6 i j hi hj).mono hM3⟩
 ·simp only [M3];rw [if_pos (how id o b ho hb)]
 ·simp only [M3] at hu
  split at hu
  ·cases hu
  ·exact hR2.sat b i u hu
 ·have hnb:¬ Ow b:=fun h=>hB (hblk b h)
  simp only [M3]
  rw [if_neg hnb,hR2.Mnew b i hb (hno b)]
  simp only [M']
  rw [if_neg]
  rintro ⟨k,s,xs,hk,hn,h2,_⟩
  exact hnb ⟨k,s,xs,hk,hn,h2⟩
open Go Go.ChangeShapes Go.WideShapes Go.ChangeAt Go.RowKit
def zcV (W:World):Mem:=fun b i=>W.cell? ⟨b,i,none⟩
structure Held (W W':World):Prop where
 os:W'.os=W.os
 output:W'.output=W.output
 size:W.heap.size≤W'.heap.size
 same:∀ b,b<W.heap.size→W'.heap[b]?=W.heap[b]?
theorem zuD {P:Program} {gl:Nat→Option (List PVal)} {f:FuncId} {W:World} (pvs:List PVal) (vargs:List Value) (hac:AC P gl f (pvs.map .pv) [] (.pv (.bool true)) [])
  (hgl:GOK ⟨fun _=>none,gl,fun _=>0,0⟩ (zcV W)) (hex:∀ b cs,gl b=some cs→cs≠[]→∃ vals T l,W.heap[b]?=some (.cells vals T l)∧vals.size=cs.length) (hlen:vargs.length=pvs.length) (hrd:∀ i,i<pvs.length→Rd (zcV W) (pvs.getD i .nilptr) (vargs.getD i undef)) :
  Calls P f vargs.toArray W fun e W'=>e=.returned (.bool true)∧Held W W':=by
 have hR:Rel ⟨W,zcV W,zaD ⟨fun _=>0,fun _=>0,fun _=>false⟩ [],[]⟩ ⟨pvs.map .pv,[]⟩ ⟨fun _=>0,fun _=>0,fun _=>false⟩ (zcV W) ⟨vargs.toArray,[]⟩ W:=by
  refine ⟨by simpa using hlen,rfl,fun i hi=>?_,?_,?_,?_,fun b i u h=>h,Mem.le_refl _,fun _ _ _ _=>rfl,Nat.le_refl _,fun _ _ _=>rfl,?_,rfl,rfl,rfl⟩
  ·simp only [List.length_map] at hi
   have h1:=hrd i hi
   have e1:St.slot ⟨pvs.map .pv,[]⟩ i=.pv (pvs.getD i .nilptr):=by simp [St.slot,List.getD,hi]
   have e2:vargs.toArray.getD i undef=vargs.getD i undef:=by simp [Array.getD,List.getD,hlen,hi]
   rw [e1]
   show V _ _ _ _ (vargs.toArray.getD i undef)
   rw [e2]
   exact .pv h1
  ·intro id o h;simp [St.obj] at h
  ·intro id id' o o' b h;simp [St.obj] at h
  ·intro id o b h;simp [St.obj] at h
  ·intro id o b h;simp [St.obj] at h
 refine (hac W (zcV W) _ vargs hR ⟨hgl,fun b cs hb hne=>⟨by rintro ⟨id,ob,h,_⟩;simp at h,hex b cs hb hne⟩⟩).mono fun e W' ⟨v,g',M',he,hR',_⟩=>?_
 have hs:=hR'.slots 0 (by simp)
 have hv:v=.bool true:=by
  have h1:V g' (St.dom ⟨[.pv (.bool true)],[]⟩) M' (.pv (.bool true)) v:=by simpa [St.slot,Array.getD] using hs
  cases h1 with
  |pv h=>cases h;rfl
 have hB:∀ b,¬ zaD ⟨fun _=>0,fun _=>0,fun _=>false⟩ [] b:=by rintro b ⟨id,ob,h,_⟩;simp at h
 exact ⟨by rw [he,hv],hR'.os,hR'.output,hR'.size0,fun b hb=>hR'.same b hb (hB b)⟩
section
variable {H:Type} {enc:TypeId × Value→H} {P:Program}
theorem Held.sameAt {W W':World} (h:Held W W') {p:MemPlace} (hp:p.block<W.heap.size):W.sameAt W' p:=by
 cases p with
 |cell b off=>show W'.cell? _=W.cell? _;simp only [World.cell?];rw [h.same b hp]
 |map b=>exact h.same b hp
theorem zgj (hl:laidOutB P=true) {W W':World} (hh:Held W W') {sp':Nat→Bool}:∀ {ts:List TypeId} {vs:List Value} {ds:List (DataW H)} {ps:List MemPlace},(∀ t ∈ ts,P.readableRec t=true∧t<P.types.size) →
  DataW.TrodAll enc P W 0 (fun _=>true) true ts vs ds ps→(∀ p ∈ ps,p.block<W.heap.size)→(∀ p ∈ ps,sp' p.block=true)→DataW.TrodAll enc P W' 0 sp' true ts vs ds ps
 |[],[],[],_,_,h,_,_=>h
 |[],[],_::_,_,_,h,_,_=>h.elim
 |[],_::_,_,_,_,h,_,_=>h.elim
 |_::_,[],_,_,_,h,_,_=>h.elim
 |_::_,_::_,[],_,_,h,_,_=>h.elim
 |t::ts,v::vs,d::ds,ps,hr,⟨p,q,h1,h2,he⟩,hlt,hsp=>by
  subst he
  have hr1:=hr t (by simp)
  exact ⟨p,q,WideElems.Trod_stays hl hr1.1 hr1.2 h1 (fun x hx=>hh.sameAt (hlt x (by simp [hx]))) (fun x hx=>hsp x (by simp [hx])),
   zgj hl hh (fun t ht=>hr t (by simp [ht])) h2 (fun x hx=>hlt x (by simp [hx])) (fun x hx=>hsp x (by simp [hx])),rfl⟩
theorem Held.keptBut {W W':World} (h:Held W W') (may:MemPlace→Prop):W.keptBut W' may:=by
 refine ⟨h.os,h.output,fun i hi=>?_⟩
 rw [h.same i hi]
 split
 ·rename_i h1 h2;rw [h1] at h2;cases h2;exact ⟨rfl,rfl,rfl,fun _ _=>rfl⟩
 ·rename_i h1 h2;rw [h1] at h2;cases h2;exact .inr ⟨rfl,rfl⟩
 ·rfl
theorem zuE {f:Func} {s:ChangeSpec} {fresh handsOn again:Bool} {W W':World} {args:Array Value} {ds gs:List (DataW H)} {before:List MemPlace} {tb:TypeId}
  (hl:laidOutB P=true) (hr:∀ t ∈ f.params.toList,P.readableRec t=true∧t<P.types.size) (hrt:f.resultTypes=#[tb]) (htb:P.underlying tb=some .bool)
  (hvars:s.vars=[]) (hfn:∀ ds:List (DataW H),ds.length=f.params.size→(s.fn H ds).results=[.lit (.bool true)]∧(s.fn H ds).args=ds∧(s.fn H ds).vars=[])
  (hW:DataW.Whole enc P f.params.toList s.vars false W args.toList ds gs before) (hh:Held W W') :
  s.post enc P f false fresh handsOn again W args (.bool true) W':=by
 have hlt:=hW.lt
 have hW':=hW
 obtain ⟨p,q,hA,hV,rfl,hz,hn⟩:=hW
 rw [hvars] at hV
 obtain ⟨rfl,rfl⟩:=trodVars_none hV
 rw [List.append_nil] at hlt hz hn hW'
 have hdl:ds.length=f.params.size:=by
  have:∀ {ts:List TypeId} {vs:List Value} {ds:List (DataW H)} {ps:List MemPlace},DataW.TrodAll enc P W 0 (fun _=>true) true ts vs ds ps→ds.length=ts.length:=by
   intro ts
   induction ts with
   |nil=>intro vs ds ps h;obtain ⟨_,rfl,_⟩:=trodAll_nil h;rfl
   |cons t ts ih=>
    intro vs ds ps h
    obtain ⟨_,_,_,_,_,_,_,rfl,_,_,h2⟩:=trodAll_cons h
    simp [ih h2]
  simpa using this hA
 obtain ⟨f1,f2,f3⟩:=hfn (ds++[]) (by simpa using hdl)
 have hres:∀ (b:Nat) (sp:Nat→Bool) (hd:Bool),DataW.TrodAll enc P W' b sp hd f.resultTypes.toList ((Value.bool true).resultList f.resultTypes.size) (s.fn H (ds++[])).results []:=fun b sp hd=>by
  rw [f1,hrt]
  exact trodAll_cons_mk (shut_bool htb _) trodAll_mk0
 have hargs:∀ sp:Nat→Bool,(∀ x ∈ p,sp x.block=true)→DataW.TrodAll enc P W' 0 sp true f.params.toList args.toList (s.fn H (ds++[])).args p:=fun sp hsp=>by
  rw [f2,List.append_nil]
  exact zgj hl hh hr hA hlt hsp
 have hvs:∀ sp:Nat→Bool,DataW.TrodVars enc P W' sp s.vars (s.fn H (ds++[])).vars []:=fun sp=>by rw [hvars,f3];rfl
 refine ⟨ds,[],p,[],p,[],hW',hres _ _ _,hargs _ (fun x hx=>by simpa using hlt x hx),hvs _,hh.keptBut _,fun _=>?_⟩
 refine ⟨?_,_,_,([]++p)++[],⟨[]++p,[],trodAll_append (hargs _ (fun _ _=>rfl)) (hres _ _ _),hvs _,rfl,?_,?_⟩,?_⟩
 ·exact ok_one (by rw [hrt]) rfl (okWide_bool_mk htb _)
 ·intro b off hp
  have hp':MemPlace.cell b off ∈ p:=by simpa using hp
  have:=hz b off hp'
  rw [World.frozen?,hh.same b (hlt _ hp')]
  exact this
 ·intro ha;cases ha
 ·intro x hx _
  simpa using hx
end
end Go.Abs
namespace Go.Abs
open Go Go.ChangeShapes Go.WideShapes Go.ChangeAt Go.RowKit Go.Deep
section
variable {H:Type} {enc:TypeId × Value→H} {P:Program} {W:World} {spare:Nat→Bool} {held:Bool}
theorem zkP (b off k:Nat):(⟨b,off,none⟩:Addr).add k=⟨b,off+k,none⟩:=by
 unfold Addr.add
 split
 ·rename_i h;subst h;rfl
 ·rfl
theorem zl0 {base:Nat} {t e:TypeId} {a:Addr} {len cap:Nat} (ht:P.underlying t=some (.slice e)) (hv:Value.okWide P W .any base t (.slice (some a) len cap)):a.spot=none:=by
 simp only [Value.okWide,ht,Cell.okWide,Cell.ok] at hv
 exact hv.2.2.2.1
end
end Go.Abs
namespace Go.Abs
open Go Go.ChangeShapes Go.WideShapes Go.ChangeAt Go.RowKit Go.Deep
section
variable {H:Type} {enc:TypeId × Value→H} {P:Program} {W:World} {spare:Nat→Bool} {held:Bool}
theorem zpz {base:Nat} {t e:TypeId} {v:Value} {d:DataW H} {p:List MemPlace} (ht:P.underlying t=some (.slice e)) (he:P.underlying e=some (.int .u8)) (hC:P.cellsOf e=1)
  (hval:Value.okWide P W .any base t v) (h:DataW.Trod enc P W 0 spare held t v d p):∃ l:List UInt8,Rd (zcV W) (.slice (l.map zl5)) v:=by
 obtain ⟨a',len',cap',rfl⟩:=okWide_slice ht hval
 obtain ⟨fuel,hf⟩:=h
 rcases Go.ChangeShapes.open_ints ht he hC hf with ⟨hcs,_⟩|⟨a,len,cap,zs,hcs,_,hlc,_,hzl,_,hcell,hwf⟩
 ·simp [Value.cells] at hcs
  obtain ⟨rfl,rfl,rfl⟩:=hcs
  exact ⟨[],.nils⟩
 ·simp [Value.cells] at hcs
  obtain ⟨rfl,rfl,rfl⟩:=hcs
  have hsp:=zl0 ht hval
  obtain ⟨b,off,sp⟩:=a
  cases hsp
  have hml:len'≤zs.length:=by rw [hzl];split<;>omega
  have hz:∀ i,i<zs.length→∃ u:UInt8,zs.getD i 0=(u.toNat:Int):=fun i hi=>by
   have hm:zs.getD i 0 ∈ zs:=by simp [List.getD,hi]
   have:=hwf _ hm
   have hr:0≤zs.getD i 0∧zs.getD i 0≤255:=by simpa [Lit.wf,IntKind.min,IntKind.max,IntKind.bits,IntKind.signed] using this
   refine ⟨UInt8.ofNat (zs.getD i 0).toNat,?_⟩
   rw [UInt8.toNat_ofNat']
   omega
  let g:Nat→UInt8:=fun i=>if h:i<zs.length then Classical.choose (hz i h) else 0
  have hg:∀ i,i<zs.length→zs.getD i 0=((g i).toNat:Int):=fun i hi=>by
   have:=Classical.choose_spec (hz i hi)
   simp only [g,hi,dif_pos];exact this
  refine ⟨(List.range len').map g,?_⟩
  have hlen:(((List.range len').map g).map zl5).length=len':=by simp
  have:=Rd.slice (M:=zcV W) (((List.range len').map g).map zl5) 1 b off cap' (fun i _=>.int .u8 (((g i).toNat:Nat):Int))
   (fun x hx=>by simp at hx;obtain ⟨i,_,rfl⟩:=hx;rfl) (fun i j hi hj=>?_) (fun i j hi hj=>?_) (by rw [hlen];exact hlc)
  ·rw [hlen] at this;exact this
  ·rw [hlen] at hi
   have hj0:j=0:=by omega
   subst hj0
   have hc:=hcell i (by omega)
   rw [zkP] at hc
   rw [hg i (by omega)] at hc
   simpa [zcV] using hc
  ·rw [hlen] at hi
   have hj0:j=0:=by omega
   subst hj0
   have hc:zba (((List.range len').map g).map zl5) i 0=.int .u8 (((g i).toNat:Nat):Int):=by simp [zba,List.getD,hi,zl5]
   rw [hc]
   exact .int _ _
end
end Go.Abs
namespace Go.Abs
open Go
theorem ze3 {H:Type} {enc:TypeId × Value→H} {P:Program} {w:World} {base:Nat} {spare:Nat→Bool} {held:Bool} {fuel:Nat} {t e:TypeId} {cs:List Value} {ps:List MemPlace} {n:Nat} {ds:List (List UInt8)}
  (ht:P.underlying t=some (.array n e)) (he:P.underlying e=some .string) (hC:P.cellsOf e=1)
  (h:DataW.trod enc P w base spare held fuel t cs=some (.agg (ds.map fun s=>.lit (.string s)),ps)) (i:Nat) (hi:i<ds.length):cs[i]?=some (.string ⟨(ds.getD i []).toArray⟩):=by
 obtain ⟨xs,m,_,hx,_,hn,hel⟩:=DataW.trod_array ht h
 simp only [Prod.mk.injEq,DataW.agg.injEq] at hx
 have hlen:ds.length=xs.length:=by have:=congrArg List.length hx.1;simpa using this
 have h1:=hel i (by omega)
 rw [hC,List.getElem?_eq_getElem (by omega)] at h1
 obtain ⟨s,e1,e2,_⟩:=DataW.trod_string he h1
 have h2:(ds.map fun s=>(DataW.lit (.string s):DataW H))[i]?=(xs.map (fun x=>x.fst))[i]?:=by rw [hx.1]
 rw [List.getElem?_map,List.getElem?_map,List.getElem?_eq_getElem hi,List.getElem?_eq_getElem (by omega:i<xs.length)] at h2
 simp only [Option.map_some,Option.some.injEq] at h2
 rw [e2] at h2
 simp only [DataW.lit.injEq,Lit.string.injEq] at h2
 have h3:ds.getD i []=s.data.toList:=by simp [List.getD,hi,h2]
 rw [h3]
 have h4:cs[i]?=some (.string s):=by
  have:=congrArg (fun l=>l[0]?) e1
  simpa using this
 rw [h4]
theorem zr5 {H:Type} {enc:TypeId × Value→H} {P:Program} {w:World} {base:Nat} {spare:Nat→Bool} {held:Bool} {fuel:Nat} {t e:TypeId} {cs:List Value} {ps:List MemPlace} {n:Nat} {k:IntKind} {ds:List Int}
  (ht:P.underlying t=some (.array n e)) (he:P.underlying e=some (.int k)) (hC:P.cellsOf e=1)
  (h:DataW.trod enc P w base spare held fuel t cs=some (.agg (ds.map fun s=>.lit (.int k s)),ps)) (i:Nat) (hi:i<ds.length):cs[i]?=some (.int k (ds.getD i 0)):=by
 obtain ⟨xs,m,_,hx,_,hn,hel⟩:=DataW.trod_array ht h
 simp only [Prod.mk.injEq,DataW.agg.injEq] at hx
 have hlen:ds.length=xs.length:=by have:=congrArg List.length hx.1;simpa using this
 have h1:=hel i (by omega)
 rw [hC,List.getElem?_eq_getElem (by omega)] at h1
 obtain ⟨s,e1,e2,_⟩:=DataW.trod_int he h1
 have h2:(ds.map fun s=>(DataW.lit (.int k s):DataW H))[i]?=(xs.map (fun x=>x.fst))[i]?:=by rw [hx.1]
 rw [List.getElem?_map,List.getElem?_map,List.getElem?_eq_getElem hi,List.getElem?_eq_getElem (by omega:i<xs.length)] at h2
 simp only [Option.map_some,Option.some.injEq] at h2
 rw [e2] at h2
 simp only [DataW.lit.injEq,Lit.int.injEq] at h2
 have h3:ds.getD i 0=s:=by simp [List.getD,hi,h2]
 rw [h3]
 have h4:cs[i]?=some (.int k s):=by
  have:=congrArg (fun l=>l[0]?) e1
  simpa using this
 rw [h4]
theorem zjK {H:Type} {enc:TypeId × Value→H} {P:Program} {w:World} {base:Nat} {spare:Nat→Bool} {held:Bool} {fuel:Nat} {t:TypeId} {cs:List Value} {ps:List MemPlace} {ms:Array (String × TypeId)} {nm:String} {d:DataW H}
  (ht:P.underlying t=some (.interface ms)) (h:DataW.trod enc P w base spare held fuel t cs=some (.iface nm d,ps)):∃ u v,cs[0]?=some (.iface u v):=by
 cases fuel with
 |zero=>simp [DataW.trod] at h
 |succ f=>
  unfold DataW.trod at h
  rw [ht] at h
  split at h<;>simp_all
theorem zdq {P:Program} {W:World} {name:String} {b:Nat} {cs:Array Value} (hg:P.globalNamed name=some b) (hv:W.var? P name=some cs):∃ T l,W.heap[b]?=some (.cells cs T l):=by
 unfold World.var? at hv
 rw [hg] at hv
 simp only [Option.bind_some] at hv
 split at hv
 ·rename_i cs' T l h
  cases hv
  exact ⟨T,l,h⟩
 ·cases hv
theorem zdQ {H:Type} {enc:TypeId × Value→H} {P:Program} {w:World} {base:Nat} {spare:Nat→Bool} {held:Bool} {fuel:Nat} {t e:TypeId} {cs:Array Value} {x:DataW H × List MemPlace} {n m:Nat}
  (ht:P.underlying t=some (.array n e)) (hC:P.cellsOf t=m) (h:DataW.trod enc P w base spare held fuel t cs.toList=some x):cs.size=m:=by
 obtain ⟨_,_,_,_,hl,_⟩:=DataW.trod_array ht h
 simpa [hC] using hl
theorem zjL {H:Type} {enc:TypeId × Value→H} {P:Program} {w:World} {base:Nat} {spare:Nat→Bool} {held:Bool} {fuel:Nat} {t:TypeId} {cs:Array Value} {ps:List MemPlace} {ms:Array (String × TypeId)} {nm:String} {d:DataW H}
  (ht:P.underlying t=some (.interface ms)) (h:DataW.trod enc P w base spare held fuel t cs.toList=some (.iface nm d,ps)):cs.size=1:=by
 rw [←Array.length_toList]
 generalize cs.toList=l at *
 cases fuel with
 |zero=>simp [DataW.trod] at h
 |succ f=>
  unfold DataW.trod at h
  rw [ht] at h
  split at h<;>simp_all
variable {H:Type} {enc:TypeId × Value→H}
theorem zi7 {a:Assume} {C:Checked} {os:Os} {f:FuncId} {fn:Func} {s:ChangeSpec} {conds:List PathCond} {apart fresh handsOn again:Bool} {X:World→Array Value→Prop}
  (hX:∀ (w w':World) (args:Array Value),w.heap=w'.heap→X w args→X w' args)
  (own:ownKnob C.prog.godebug=none) (started:os.Started) (noInit:C.prog.inits.idxOf? f=none) (hfn:C.prog.funcs[f]?=some fn)
  (witness:∃ (w:World) (tape:Tape) (i:Input),w.os=os∧(w.forCall tape i).Shaped C.prog∧i.vars=[]∧Input.okWide C.prog (w.forCall tape i) .any w.heap.size f i ∧
   ((s.pre enc C.prog fn conds apart (w.forCall tape i).memory i.args∧X (w.forCall tape i).memory i.args)∧sizedMet enc C.prog fn (OpenSpec.ofChange s) apart (w.forCall tape i).memory i.args)∧a.holds C.prog (lone (Frame.enter C.prog f i.args .normal) [] (w.forCall tape i)))
  (contract:∀ (W:World) (base:Nat) (args:Array Value) (ds gs:List (DataW H)) (before:List MemPlace),
   (∀ (j:Nat) t v,fn.params[j]?=some t→args[j]?=some v→Value.okWide C.prog W .any base t v) →
   DataW.Whole enc C.prog fn.params.toList s.vars apart W args.toList ds gs before →
   conds.all (PathCond.test C.prog ⟨fn.params.toList,ds,s.plain.varTypes C.prog,gs⟩)=true →
   (DataW.weightsEach C.prog (fn.params.toList++s.plain.varTypes C.prog) (ds++gs)).all (·≤reachBytes)=true→X W args→W.ShapedOpen C.prog →
   Calls C.prog f args W fun e W'=>∃ v,e=.returned v∧s.post enc C.prog fn apart fresh handsOn again W args v W') :
  ReturnsInHanded a C os f .any (fun w args=>(s.pre enc C.prog fn conds apart w args∧X w args)∧sizedMet enc C.prog fn (OpenSpec.ofChange s) apart w args) (s.post enc C.prog fn apart fresh handsOn again):=by
 refine returnsInHanded_of_calls own started noInit witness ?_
 intro w tape i _ hsh _ hok hpre hholds
 obtain ⟨_,_,_,fn',hfn',_,_,_,_,hval⟩:=hok
 have e:fn'=fn:=Option.some.inj (hfn'.symm.trans hfn)
 subst e
 obtain ⟨⟨⟨ds,gs,before,hw,hc⟩,hx⟩,hz⟩:=hpre
 have hw':=DataW.Whole.of_heap (w':=w.forCall tape i) (by rfl) hw
 refine (contract (w.forCall tape i) w.heap.size i.args ds gs before hval hw' hc (hz.weights hw) (hX _ _ _ (by rfl) hx) hsh).mono fun e W' ⟨v,he,hp⟩=>?_
 subst he
 exact ChangeSpec.post_blind hp
theorem zr6 {P:Program} {w:World} {g:Nat} {t:TypeId} {zero:Array Value} {k:IntKind}
  (h:w.ShapedOpen P) (hg:g<P.globals.size)
  (h0:((begin P (fun _ _=>0) default).world.heap[g]?).bind Obj.row?=some (zero,t)) (hz:zero.size=1)
  (hb:P.buildable t=true) (hc:P.cellTypes P.depth t=some [t]) (hu:P.underlying t=some (.int k)) :
  (∃ m,w.cell? ⟨g,0,none⟩=some (.int k m))∧∃ vals T l,w.heap[g]?=some (.cells vals T l)∧vals.size=1:=by
 refine ⟨Go.Proofs.cell_of_shapedOpen_int h hg h0 hz hb hc hu,?_⟩
 obtain ⟨cs,hh,hs,_⟩:=h.1 g zero t hg h0
 exact ⟨cs,t,_,hh,by omega⟩
end Go.Abs
namespace Go.Abs
open Go Go.ChangeShapes Go.WideShapes Go.ChangeAt Go.RowKit Go.Deep
section
variable {H:Type} {enc:TypeId × Value→H} {P:Program} {W:World} {spare:Nat→Bool} {held:Bool}
theorem zpA {base:Nat} {t e:TypeId} {f0 f1 f2 f3:Field} {v:Value} {d:DataW H} {p:List MemPlace} (ht:P.underlying t=some (.slice e)) (he:P.underlying e=some (.struct #[f0,f1,f2,f3])) (hC:P.cellsOf e=4)
  (o0:f0.offset=0∧P.cellsOf f0.type=1) (o1:f1.offset=1∧P.cellsOf f1.type=1) (o2:f2.offset=2∧P.cellsOf f2.type=1) (o3:f3.offset=3∧P.cellsOf f3.type=1)
  (h0:P.underlying f0.type=some (.int .i64)) (h1:P.underlying f1.type=some (.int .i64)) (h2:P.underlying f2.type=some (.int .i64)) (h3:P.underlying f3.type=some (.int .i64))
  (hval:Value.okWide P W .any base t v) (h:DataW.Trod enc P W 0 spare held t v d p) :
  ∃ l:List StD,Rd (zcV W) (.slice (l.map za7)) v∧∀ x ∈ l,zkS x=true:=by
 obtain ⟨a',len',cap',rfl⟩:=okWide_slice ht hval
 obtain ⟨fuel,hf⟩:=h
 rcases open_slice ht hf with ⟨hcs,_⟩|⟨a,len,cap,m,n,D,Pl,hcs,_,hlc,_,hm,_,hi⟩
 ·simp [Value.cells] at hcs
  obtain ⟨rfl,rfl,rfl⟩:=hcs
  exact ⟨[],.nils,fun t ht=>by cases ht⟩
 ·simp [Value.cells] at hcs
  obtain ⟨rfl,rfl,rfl⟩:=hcs
  have hsp:=zl0 ht hval
  obtain ⟨b,off,sp⟩:=a
  cases hsp
  have hml:len'≤m:=by rw [hm];split<;>omega
  have key:∀ i,∃ x:StD,i<len'→(zcV W b (off+i * 4+0)=some (.int .i64 x.kind)∧zcV W b (off+i * 4+1)=some (.int .i64 x.proc)∧zcV W b (off+i * 4+2)=some (.int .i64 x.place)∧zcV W b (off+i * 4+3)=some (.int .i64 x.value))∧zkS x=true:=by
   intro i
   by_cases hil:i<len'
   ·obtain ⟨cs,hc,ht'⟩:=hi i (by omega)
    rw [hC] at hc
    obtain ⟨_,hcl,hat⟩:=World.cells?_some hc
    obtain ⟨xs,n',_,hx1,_,hxl,hfd⟩:=DataW.trod_struct he ht'
    match cs,hcl with
    |[c0,c1,c2,c3],_=>
     have e0:=hfd 0 f0 rfl
     have e1:=hfd 1 f1 rfl
     have e2:=hfd 2 f2 rfl
     have e3:=hfd 3 f3 rfl
     rw [o0.1,o0.2] at e0
     rw [o1.1,o1.2] at e1
     rw [o2.1,o2.2] at e2
     rw [o3.1,o3.2] at e3
     have hx:xs.length=4:=hxl
     match xs,hx with
     |[x0,x1,x2,x3],_=>
      obtain ⟨z0,hz0,_,w0⟩:=DataW.trod_int h0 e0
      obtain ⟨z1,hz1,_,w1⟩:=DataW.trod_int h1 e1
      obtain ⟨z2,hz2,_,w2⟩:=DataW.trod_int h2 e2
      obtain ⟨z3,hz3,_,w3⟩:=DataW.trod_int h3 e3
      simp at hz0 hz1 hz2 hz3
      subst hz0 hz1 hz2 hz3
      have a0:=hat 0 (by omega)
      have a1:=hat 1 (by omega)
      have a2:=hat 2 (by omega)
      have a3:=hat 3 (by omega)
      rw [zkP,zkP] at a0 a1 a2 a3
      have rg:∀ z:Int,Lit.wf (.int .i64 z)→ze7 z=true:=fun z h=>by
       have:-9223372036854775808≤z∧z≤9223372036854775807:=by simpa [Lit.wf,IntKind.min,IntKind.max,IntKind.bits,IntKind.signed] using h
       simp only [ze7,Bool.and_eq_true,decide_eq_true_eq]
       exact this
      refine ⟨⟨z0,z1,z2,z3⟩,fun _=>⟨⟨?_,?_,?_,?_⟩,by simp only [zkS,rg z0 w0,rg z1 w1,rg z2 w2,rg z3 w3,Bool.and_self]⟩⟩
      ·simpa [zcV] using a0
      ·simpa [zcV] using a1
      ·simpa [zcV] using a2
      ·simpa [zcV] using a3
   ·exact ⟨⟨0,0,0,0⟩,fun h=>absurd h hil⟩
  let g:Nat→StD:=fun i=>Classical.choose (key i)
  have hg:∀ i,i<len'→_:=fun i hi=>Classical.choose_spec (key i) hi
  refine ⟨(List.range len').map g,?_,fun t ht=>?_⟩
  ·have hlen:(((List.range len').map g).map za7).length=len':=by simp
   have:=Rd.slice (M:=zcV W) (((List.range len').map g).map za7) 4 b off cap' (fun i j=>match j with|0=>.int .i64 (g i).kind|1=>.int .i64 (g i).proc|2=>.int .i64 (g i).place|_=>.int .i64 (g i).value)
    (fun x hx=>by simp at hx;obtain ⟨i,_,rfl⟩:=hx;rfl) (fun i j hi hj=>?_) (fun i j hi hj=>?_) (by rw [hlen];exact hlc)
   ·rw [hlen] at this;exact this
   ·rw [hlen] at hi
    obtain ⟨⟨g0,g1,g2,g3⟩,_⟩:=hg i hi
    match j,hj with
    |0,_=>exact g0
    |1,_=>exact g1
    |2,_=>exact g2
    |3,_=>exact g3
   ·rw [hlen] at hi
    have hc:zba (((List.range len').map g).map za7) i j=(za7 (g i)).getD j .nilptr:=by simp [zba,List.getD,hi]
    rw [hc]
    match j,hj with
    |0,_=>exact .int _ _
    |1,_=>exact .int _ _
    |2,_=>exact .int _ _
    |3,_=>exact .int _ _
  ·rw [List.mem_map] at ht
   obtain ⟨i,hi',rfl⟩:=ht
   exact (hg i (List.mem_range.1 hi')).2
end
end Go.Abs
