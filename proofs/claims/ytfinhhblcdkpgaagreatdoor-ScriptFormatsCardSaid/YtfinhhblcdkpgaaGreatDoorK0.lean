/- The writing methods of a text builder. No condition. -/
import Derived.Test.YtfinhhblcdkpgaaGreatDoorT0
import Derived.Test.YtfinhhblcdkpgaaGreatDoorShelf
import Derived.Test.YtfinhhblcdkpgaaGreatDoorLib3
import Derived.Lib.AtoiErrMem
set_option maxRecDepth 100000
set_option maxHeartbeats 64000000
set_option linter.unusedSimpArgs false
set_option linter.unusedVariables false
set_option linter.defProp false
namespace Go.Proofs.YtfinhhblcdkpgaaGreatDoor
open Go Go.Abs Go.RowKit
theorem zzR:(Tryz.prog.info? 77).map (·.size)=some 2:=by kernel_rfl
theorem zDb:liesAt Tryz.prog Tryz.prog.depth 77 (2 / Tryz.prog.cellsOf 77) 0 77 1=true:=by kernel_rfl
theorem zzS:(Tryz.prog.info? 5).map (fun i=>(i.zero,i.size,i.bytes))=some (some (.int .u8 0),1,1):=by kernel_rfl
theorem zne:(77:Nat)≠5:=by decide
theorem zmH (b:Nat) (w:World) (h0:w.cell? ⟨b,0,none⟩=some (.pointer (some ⟨b,0,none⟩))) :
  Calls Tryz.prog 55 #[.pointer (some ⟨b,0,none⟩)] w fun e w'=>e=.returned (.tuple #[])∧w'=w:=by
 obtain ⟨j,hj,_⟩:=Option.map_eq_some_iff.1 zzR
 go_enter Tryz.func55,Tryz.ntmps55
 go_wp2
 rw [Lib.run_neq_ptr_same w _ Tryz.underlying75 hj]
 go_wp2
 go_end0
 exact ⟨rfl,rfl⟩
theorem zlC (b:Nat) (w:World) (h0:w.cell? ⟨b,0,none⟩=some (.pointer none)) (hsh:w.shape? b=some (77,2)) (hfz:w.frozen? ⟨b,0,none⟩=false) :
  Calls Tryz.prog 55 #[.pointer (some ⟨b,0,none⟩)] w fun e w'=>e=.returned (.tuple #[])∧w'=w.setCell ⟨b,0,none⟩ (.pointer (some ⟨b,0,none⟩)):=by
 obtain ⟨j,hj,hjs⟩:=Option.map_eq_some_iff.1 zzR
 go_enter Tryz.func55,Tryz.ntmps55
 go_wp2
 rw [Lib.run_to_unsafe w ⟨b,0,none⟩ Tryz.underlying75 Tryz.underlying150 hj (by rw [hjs];decide) hsh (Nat.zero_lt_succ 1)]
 simp only [Result.andThen]
 rw [Oper.upon_value]
 go_wp2
 rw [run_callFunc_extern Tryz.func81 (by kernel_rfl) (by kernel_rfl) (by kernel_rfl) (e:=Extern.AbiNoEscape.same) (by kernel_rfl)]
 rw [Lib.run_noEscape]
 simp only [Result.andThen]
 rw [Oper.upon_value]
 go_wp2
 rw [Lib.run_from_unsafe w ⟨b,0,none⟩ Tryz.underlying150 Tryz.underlying75 hj hsh zDb]
 simp only [Result.andThen]
 rw [Oper.upon_value]
 go_wp2
 go_end0
 exact ⟨rfl,rfl⟩
theorem zld (b:Nat) (p v:Value) (w:World) (hbk:w.heap[b]?=some (.cells #[p,v] 77 (0,0))) (hp:p=.pointer none∨p=.pointer (some ⟨b,0,none⟩)) :
  Calls Tryz.prog 55 #[.pointer (some ⟨b,0,none⟩)] w fun e w1=>e=.returned (.tuple #[])∧(w1.heap[b]?=some (.cells #[.pointer (some ⟨b,0,none⟩),v] 77 (0,0))∧w.grownBy w1 (some b)∧w1.heap.size=w.heap.size):=by
 have h0:w.cell? ⟨b,0,none⟩=some p:=by rw [Lib.cell_of_heap hbk];rfl
 rcases hp with rfl|rfl
 ·refine (zlC b w h0 (by simp [World.shape?,hbk]) (Lib.frozen_of_heap hbk 0)).mono ?_
  rintro e w' ⟨rfl,rfl⟩
  refine ⟨rfl,by simp [World.setCell,Array.getElem?_modify,hbk],⟨rfl,rfl,rfl,by simp [World.setCell],fun k _ hk=>Below.heap_setCell _ _ _ _ (fun e=>hk (by simp [e]))⟩,by simp [World.setCell]⟩
 ·refine (zmH b w h0).mono ?_
  rintro e w' ⟨rfl,rfl⟩
  exact ⟨rfl,hbk,⟨rfl,rfl,rfl,Nat.le_refl _,fun _ _ _=>rfl⟩,rfl⟩
theorem zgK (b:Nat) (p v:Value) (bs:List Value) (s:ByteArray) (w:World) (hbk:w.heap[b]?=some (.cells #[p,v] 77 (0,0))) (hp:p=.pointer none∨p=.pointer (some ⟨b,0,none⟩))
  (hown:w.ownsRow 0 5 1 v bs.length bs) (hlen:bs.length+s.size≤140737488355328) :
  Calls Tryz.prog 34 #[.pointer (some ⟨b,0,none⟩),.string s] w fun e w'=>e=.returned (.tuple #[.int .i64 s.size,.nilIface])∧∃ v',BPost 77 5 b w w' v v' (bs++Lib.strCells s):=by
 obtain ⟨i0,hi,hz0,hz1,hz2⟩:=info_parts zzS
 have hne:v.ownBlock≠some b:=Lib.ownBlock_ne hown hbk zne
 have hlt:b<w.heap.size:=by
  rcases Nat.lt_or_ge b w.heap.size with h'|h'
  ·exact h'
  ·simp [Array.getElem?_eq_none h'] at hbk
 go_enter Tryz.func34,Tryz.ntmps34
 go_wp2_with (go_at_call 55;refine (zld b p v _ hbk hp).mono ?_)
 rintro e w1 ⟨rfl,hbk1,hg1,hs1⟩
 have HS:Hid (w1.heap.size=w.heap.size):=hs1
 clear hs1
 have hown1:=hown.kept hg1 (Or.inr hne)
 have c0:w1.cell? ⟨b,0,none⟩=some (.pointer (some ⟨b,0,none⟩)):=by rw [Lib.cell_of_heap hbk1];rfl
 have c1:w1.cell? ⟨b,1,none⟩=some v:=by rw [Lib.cell_of_heap hbk1];rfl
 go_wp2_with (at_builtin;refine zeO _ rfl _ _ 22 9 rfl v (.string s) rfl rfl (zqI w1 22 9 _ 5 i0 Tryz.underlying22 Tryz.underlying9 hi hz0 hz1 hz2 v bs.length bs hown1 s hlen) ?_)
 rintro v' w2 hR
 have hs1:=HS.out
 have hown':=hR.own
 have hgrow:=hR.grow
 have hpl:=hR.place
 clear hR
 have hb2:w2.heap[b]?=some (.cells #[.pointer (some ⟨b,0,none⟩),v] 77 (0,0)):=by
  rw [hgrow.block b (by omega) (fun e=>hne e.symm)]
  exact hbk1
 have d0:w2.cell? ⟨b,0,none⟩=some (.pointer (some ⟨b,0,none⟩)):=by rw [Lib.cell_of_heap hb2];rfl
 have d1:w2.cell? ⟨b,1,none⟩=some v:=by rw [Lib.cell_of_heap hb2];rfl
 have f1:w2.frozen? ⟨b,1,none⟩=false:=Lib.frozen_of_heap hb2 1
 have hne':v'.ownBlock≠some b:=Lib.ownBlock_ne hown' hb2 zne
 obtain ⟨ao,n',cap,rfl⟩:∃ ao n' cap,v'=.slice ao n' cap:=by
  rcases hown'.2 with ⟨hv,_⟩|⟨g,cap,cur,hv,_⟩
  ·exact ⟨_,_,_,hv⟩
  ·exact ⟨_,_,_,hv⟩
 clear hs1
 go_wp2
 go_ret2
 have hs1:=HS.out
 refine ⟨rfl,.slice ao n' cap,?_⟩
 refine ⟨by simp [World.setCell,Array.getElem?_modify,hb2],?_,?_,?_,?_,?_,?_,?_⟩
 ·have:=hown'.kept (row:=some b) (w':=w2.setCell ⟨b,1,none⟩ (.slice ao n' cap)) ⟨rfl,rfl,rfl,by simp [World.setCell],fun k _ hk=>Below.heap_setCell _ _ _ _ (fun e=>hk (by simp [e]))⟩ (Or.inr hne')
  simpa [Lib.strCells_length] using this
 ·rcases hpl with h|⟨g,h,hh⟩
  ·exact .inl h
  ·exact .inr ⟨g,h,by omega⟩
 ·intro k hk hkb hkv
  rw [Below.heap_setCell _ _ _ _ hkb,hgrow.block k (by omega) (fun e=>hkv e.symm),hg1.block k hk (by simpa using hkb)]
 ·have:=hgrow.size;simp [World.setCell];omega
 ·exact hgrow.os.trans hg1.os
 ·exact hgrow.tape.trans hg1.tape
 ·exact hgrow.output.trans hg1.output
theorem zjm (b:Nat) (p v:Value) (bs:List Value) (c:Int) (w:World) (hbk:w.heap[b]?=some (.cells #[p,v] 77 (0,0))) (hp:p=.pointer none∨p=.pointer (some ⟨b,0,none⟩))
  (hown:w.ownsRow 0 5 1 v bs.length bs) (hlen:bs.length+1≤140737488355328) :
  Calls Tryz.prog 89 #[.pointer (some ⟨b,0,none⟩),.int .u8 c] w fun e w'=>e=.returned .nilIface∧∃ v',BPost 77 5 b w w' v v' (bs++[.int .u8 c]):=by
 obtain ⟨i0,hi,hz0,hz1,hz2⟩:=info_parts zzS
 have hne:v.ownBlock≠some b:=Lib.ownBlock_ne hown hbk zne
 have hlt:b<w.heap.size:=by
  rcases Nat.lt_or_ge b w.heap.size with h'|h'
  ·exact h'
  ·simp [Array.getElem?_eq_none h'] at hbk
 go_enter Tryz.func89,Tryz.ntmps89
 go_wp2_with (go_at_call 55;refine (zld b p v _ hbk hp).mono ?_)
 rintro e w1 ⟨rfl,hbk1,hg1,hs1⟩
 have HS:Hid (w1.heap.size=w.heap.size):=hs1
 clear hs1
 have hown1:=hown.kept hg1 (Or.inr hne)
 have c0:w1.cell? ⟨b,0,none⟩=some (.pointer (some ⟨b,0,none⟩)):=by rw [Lib.cell_of_heap hbk1];rfl
 have c1:w1.cell? ⟨b,1,none⟩=some v:=by rw [Lib.cell_of_heap hbk1];rfl
 go_wp2_with (at_builtin;refine zeO _ rfl _ _ 22 22 rfl v (.slice (some ⟨w1.heap.size,0,none⟩) 1 1) rfl rfl (znx _ 22 _ 5 i0 Tryz.underlying22 hi hz0 hz1 hz2 v bs.length bs (hown1.alloc _) ⟨w1.heap.size,0,none⟩ 1 (.int .u8 c) ?cx rfl hlen) ?_)
 case cx=>simp [Addr.add]
 rintro v' w2 hR
 have hs1:=HS.out
 have hown':=hR.own
 have hgrow:=hR.grow
 have hpl:=hR.place
 clear hR
 have hb2:w2.heap[b]?=some (.cells #[.pointer (some ⟨b,0,none⟩),v] 77 (0,0)):=by
  rw [hgrow.block b (by simp;omega) (fun e=>hne e.symm),Lib.alloc_old w1 _ b (by omega)]
  exact hbk1
 have d0:w2.cell? ⟨b,0,none⟩=some (.pointer (some ⟨b,0,none⟩)):=by rw [Lib.cell_of_heap hb2];rfl
 have d1:w2.cell? ⟨b,1,none⟩=some v:=by rw [Lib.cell_of_heap hb2];rfl
 have f1:w2.frozen? ⟨b,1,none⟩=false:=Lib.frozen_of_heap hb2 1
 have hne':v'.ownBlock≠some b:=Lib.ownBlock_ne hown' hb2 zne
 obtain ⟨g,cap,rfl⟩:∃ g cap,v'=.slice (some ⟨g,0,none⟩) (bs.length+1) cap:=by
  rcases hown'.2 with ⟨_,h0⟩|⟨g,cap,cur,hv,_⟩
  ·omega
  ·exact ⟨g,cap,hv⟩
 clear hs1
 go_wp2
 go_ret
 have hs1:=HS.out
 refine ⟨rfl,.slice (some ⟨g,0,none⟩) (bs.length+1) cap,?_⟩
 refine ⟨by simp [World.setCell,Array.getElem?_modify,hb2],?_,?_,?_,?_,?_,?_,?_⟩
 ·have:=hown'.kept (row:=some b) (w':=w2.setCell ⟨b,1,none⟩ (.slice (some ⟨g,0,none⟩) (bs.length+1) cap)) ⟨rfl,rfl,rfl,by simp [World.setCell],fun k _ hk=>Below.heap_setCell _ _ _ _ (fun e=>hk (by simp [e]))⟩ (Or.inr hne')
  simpa using this
 ·rcases hpl with h|⟨g',h,hh⟩
  ·exact .inl h
  ·exact .inr ⟨g',h,by simp at hh;omega⟩
 ·intro k hk hkb hkv
  rw [Below.heap_setCell _ _ _ _ hkb,hgrow.block k (by simp;omega) (fun e=>hkv e.symm),Lib.alloc_old w1 _ k (by omega),hg1.block k hk (by simpa using hkb)]
 ·have:=hgrow.size;simp at this;simp [World.setCell];omega
 ·exact hgrow.os.trans hg1.os
 ·exact hgrow.tape.trans hg1.tape
 ·exact hgrow.output.trans hg1.output
/-! ### Contracts -/
abbrev bH (B n:Nat):Option AObj:=some (.bh 77 5 B n)
abbrev bB (t:List UInt8):Option AObj:=some (.bb 5 t)
theorem zlD (t s:List UInt8) (hl:t.length+s.length≤140737488355328) :
  AC Tryz.prog gl 34 [.ref 0 0,.pv (.str s)] [bH 1 t.length,bB t] (.tup [.pv (.int .i64 s.length),.pv (.err true)]) [bH 2 (t++s).length,some .dead,bB (t++s)]:=by
 refine AC.bwrite zne ?_
 intro w b p v y M hy hbk hp hown
 cases hy
 have hb:t.length=(zbD t).length:=by simp [zbD]
 rw [hb] at hown
 refine (zgK b p v (zbD t) ⟨s.toArray⟩ w hbk hp hown (by rw [←hb];simpa [ByteArray.size] using hl)).mono ?_
 rintro en w' ⟨rfl,v',hB⟩
 refine ⟨_,v',rfl,fun g D M'=>zjl ?_ (.pv .errn),?_⟩
 ·have:(ByteArray.mk s.toArray).size=s.length:=by simp [ByteArray.size]
  rw [this]
  exact zzj _ _ _ _ _
 ·rw [zfR,←zmt]
  exact hB
theorem zzT (t:List UInt8) (c:UInt8) (hl:t.length+1≤140737488355328) :
  AC Tryz.prog gl 89 [.ref 0 0,.pv (.int .u8 c.toNat)] [bH 1 t.length,bB t] (.pv (.err true)) [bH 2 (t++[c]).length,some .dead,bB (t++[c])]:=by
 refine AC.bwrite zne ?_
 intro w b p v y M hy hbk hp hown
 cases hy
 have hb:t.length=(zbD t).length:=by simp [zbD]
 rw [hb] at hown
 refine (zjm b p v (zbD t) c.toNat w hbk hp hown (by rw [←hb];exact hl)).mono ?_
 rintro en w' ⟨rfl,v',hB⟩
 refine ⟨_,v',rfl,fun g D M'=>.pv .errn,?_⟩
 rw [zfR]
 exact hB
theorem zrp (t:List UInt8):AC Tryz.prog gl 39 [.ref 0 0] [bH 1 t.length,bB t] (.pv (.str t)) [some .dead,some .dead]:=AC.bString Tryz.lays169 Tryz.Builder_Extra_169 t
theorem zwR (t:List UInt8):AC Tryz.prog gl 38 [.ref 0 0] [bH 1 t.length,bB t] (.pv (.int .i64 t.length)) [bH 1 t.length,bB t]:=AC.bLen Tryz.lays170 zne t
theorem zkx (s:List UInt8) (c:UInt8) (hl:s.length<4294967281):AC Tryz.prog gl 40 [.pv (.str s),.pv (.str [c])] [] (.pv (.slice ((zan c s).map fun x=>[.str x]))) []:=by
 refine AC.ofTexts (ps:=[.str s,.str [c]]) fun w M vs hvl hr hs hg hx=>?_
 match vs,hvl with
 |[v0,v1],_=>
  have e0:v0=_:=(hr 0 (by simp)).str_inv
  have e1:v1=_:=(hr 1 (by simp)).str_inv
  subst e0 e1
  obtain ⟨u,hu,hru⟩:=hg 5 [.ani .i64] rfl 0 (by simp)
  obtain ⟨m,rfl⟩:∃ m,u=.int .i64 m:=by cases hru;exact ⟨_,rfl⟩
  refine (Tryz.strings_Split ⟨s.toArray⟩ ⟨#[c]⟩ m w (by simpa [ByteArray.size] using hl) (hs _ _ _ hu) (Nat.le_refl 1)).mono ?_
  rintro e w' ⟨rfl,rfl⟩
  have hsp:=zqK c s.length ⟨s.toArray⟩ (by simp [ByteArray.size])
  have hlen:(zan c s).length=Lib.countB ⟨s.toArray⟩ ⟨#[c]⟩+1:=by
   have:=congrArg List.length hsp
   rw [List.length_map,Lib.splitB_all ⟨#[c]⟩ (Nat.le_refl 1) 0 _ _ rfl] at this
   simpa using this.symm
  have:(zan c s).map (fun x=>Value.string ⟨x.toArray⟩)=(Lib.splitB ⟨#[c]⟩ 0 (Lib.countB ⟨s.toArray⟩ ⟨#[c]⟩) ⟨s.toArray⟩).map Value.string:=by
   rw [show zan c s=_ from (by simpa using hsp.symm),List.map_map]
   refine List.map_congr_left fun b _=>?_
   simp
  exact ⟨9,by rw [hlen],by rw [this]⟩
end Go.Proofs.YtfinhhblcdkpgaaGreatDoor
