/- The writing methods of a text builder. No condition. -/
import Derived.Test.YtfinhhblcdkpgaaGreatDoorT0
import Derived.Test.YtfinhhblcdkpgaaGreatDoorShelf
import Derived.Test.YtfinhhblcdkpgaaGreatDoorLib3
import Derived.Lib.AtoiErrMem
set_option maxRecDepth 100000
set_option maxHeartbeats 64000000
set_option linter.unusedSimpArgs false
set_option linter.unusedVariables false
set_option linter.defProp false
namespace Go.Proofs.YtfinhhblcdkpgaaGreatDoor
open Go Go.Abs Go.RowKit
theorem zCs:(Tryz.prog.info? 77).map (·.size)=some 2:=by kernel_rfl
theorem zF0:liesAt Tryz.prog Tryz.prog.depth 77 (2 / Tryz.prog.cellsOf 77) 0 77 1=true:=by kernel_rfl
theorem zCt:(Tryz.prog.info? 5).map (fun i=>(i.zero,i.size,i.bytes))=some (some (.int .u8 0),1,1):=by kernel_rfl
theorem zne:(77:Nat)≠5:=by decide
theorem zoq (b:Nat) (w:World) (h0:w.cell? ⟨b,0,none⟩=some (.pointer (some ⟨b,0,none⟩))) :
  Calls Tryz.prog 55 #[.pointer (some ⟨b,0,none⟩)] w fun e w'=>e=.returned (.tuple #[])∧w'=w:=by
 obtain ⟨j,hj,_⟩:=Option.map_eq_some_iff.1 zCs
 go_enter Tryz.func55,Tryz.ntmps55
 go_wp2
 rw [Lib.run_neq_ptr_same w _ Tryz.underlying75 hj]
 go_wp2
 go_end0
 exact ⟨rfl,rfl⟩
theorem zni (b:Nat) (w:World) (h0:w.cell? ⟨b,0,none⟩=some (.pointer none)) (hsh:w.shape? b=some (77,2)) (hfz:w.frozen? ⟨b,0,none⟩=false) :
  Calls Tryz.prog 55 #[.pointer (some ⟨b,0,none⟩)] w fun e w'=>e=.returned (.tuple #[])∧w'=w.setCell ⟨b,0,none⟩ (.pointer (some ⟨b,0,none⟩)):=by
 obtain ⟨j,hj,hjs⟩:=Option.map_eq_some_iff.1 zCs
 go_enter Tryz.func55,Tryz.ntmps55
 go_wp2
 rw [Lib.run_to_unsafe w ⟨b,0,none⟩ Tryz.underlying75 Tryz.underlying150 hj (by rw [hjs];decide) hsh (Nat.zero_lt_succ 1)]
 simp only [Result.andThen]
 rw [Oper.upon_value]
 go_wp2
 rw [run_callFunc_extern Tryz.func81 (by kernel_rfl) (by kernel_rfl) (by kernel_rfl) (e:=Extern.AbiNoEscape.same) (by kernel_rfl)]
 rw [Lib.run_noEscape]
 simp only [Result.andThen]
 rw [Oper.upon_value]
 go_wp2
 rw [Lib.run_from_unsafe w ⟨b,0,none⟩ Tryz.underlying150 Tryz.underlying75 hj hsh zF0]
 simp only [Result.andThen]
 rw [Oper.upon_value]
 go_wp2
 go_end0
 exact ⟨rfl,rfl⟩
theorem zmI (b:Nat) (p v:Value) (w:World) (hbk:w.heap[b]?=some (.cells #[p,v] 77 (0,0))) (hp:p=.pointer none∨p=.pointer (some ⟨b,0,none⟩)) :
  Calls Tryz.prog 55 #[.pointer (some ⟨b,0,none⟩)] w fun e w1=>e=.returned (.tuple #[])∧(w1.heap[b]?=some (.cells #[.pointer (some ⟨b,0,none⟩),v] 77 (0,0))∧w.grownBy w1 (some b)∧w1.heap.size=w.heap.size):=by
 have h0:w.cell? ⟨b,0,none⟩=some p:=by rw [Lib.cell_of_heap hbk];rfl
 rcases hp with rfl|rfl
 ·refine (zni b w h0 (by simp [World.shape?,hbk]) (Lib.frozen_of_heap hbk 0)).mono ?_
  rintro e w' ⟨rfl,rfl⟩
  refine ⟨rfl,by simp [World.setCell,Array.getElem?_modify,hbk],⟨rfl,rfl,rfl,by simp [World.setCell],fun k _ hk=>Below.heap_setCell _ _ _ _ (fun e=>hk (by simp [e]))⟩,by simp [World.setCell]⟩
 ·refine (zoq b w h0).mono ?_
  rintro e w' ⟨rfl,rfl⟩
  exact ⟨rfl,hbk,⟨rfl,rfl,rfl,Nat.le_refl _,fun _ _ _=>rfl⟩,rfl⟩
theorem zhI (b:Nat) (p v:Value) (bs:List Value) (s:ByteArray) (w:World) (hbk:w.heap[b]?=some (.cells #[p,v] 77 (0,0))) (hp:p=.pointer none∨p=.pointer (some ⟨b,0,none⟩))
  (hown:w.ownsRow 0 5 1 v bs.length bs) (hlen:bs.length+s.size≤140737488355328) :
  Calls Tryz.prog 34 #[.pointer (some ⟨b,0,none⟩),.string s] w fun e w'=>e=.returned (.tuple #[.int .i64 s.size,.nilIface])∧∃ v',BPost 77 5 b w w' v v' (bs++Lib.strCells s):=by
 obtain ⟨i0,hi,hz0,hz1,hz2⟩:=info_parts zCt
 have hne:v.ownBlock≠some b:=Lib.ownBlock_ne hown hbk zne
 have hlt:b<w.heap.size:=by
  rcases Nat.lt_or_ge b w.heap.size with h'|h'
  ·exact h'
  ·simp [Array.getElem?_eq_none h'] at hbk
 go_enter Tryz.func34,Tryz.ntmps34
 go_wp2_with (go_at_call 55;refine (zmI b p v _ hbk hp).mono ?_)
 rintro e w1 ⟨rfl,hbk1,hg1,hs1⟩
 have HS:Hid (w1.heap.size=w.heap.size):=hs1
 clear hs1
 have hown1:=hown.kept hg1 (Or.inr hne)
 have c0:w1.cell? ⟨b,0,none⟩=some (.pointer (some ⟨b,0,none⟩)):=by rw [Lib.cell_of_heap hbk1];rfl
 have c1:w1.cell? ⟨b,1,none⟩=some v:=by rw [Lib.cell_of_heap hbk1];rfl
 go_wp2_with (at_builtin;refine zfB _ rfl _ _ 22 9 rfl v (.string s) rfl rfl (zsx w1 22 9 _ 5 i0 Tryz.underlying22 Tryz.underlying9 hi hz0 hz1 hz2 v bs.length bs hown1 s hlen) ?_)
 rintro v' w2 hR
 have hs1:=HS.out
 have hown':=hR.own
 have hgrow:=hR.grow
 have hpl:=hR.place
 clear hR
 have hb2:w2.heap[b]?=some (.cells #[.pointer (some ⟨b,0,none⟩),v] 77 (0,0)):=by
  rw [hgrow.block b (by omega) (fun e=>hne e.symm)]
  exact hbk1
 have d0:w2.cell? ⟨b,0,none⟩=some (.pointer (some ⟨b,0,none⟩)):=by rw [Lib.cell_of_heap hb2];rfl
 have d1:w2.cell? ⟨b,1,none⟩=some v:=by rw [Lib.cell_of_heap hb2];rfl
 have f1:w2.frozen? ⟨b,1,none⟩=false:=Lib.frozen_of_heap hb2 1
 have hne':v'.ownBlock≠some b:=Lib.ownBlock_ne hown' hb2 zne
 obtain ⟨ao,n',cap,rfl⟩:∃ ao n' cap,v'=.slice ao n' cap:=by
  rcases hown'.2 with ⟨hv,_⟩|⟨g,cap,cur,hv,_⟩
  ·exact ⟨_,_,_,hv⟩
  ·exact ⟨_,_,_,hv⟩
 clear hs1
 go_wp2
 go_ret2
 have hs1:=HS.out
 refine ⟨rfl,.slice ao n' cap,?_⟩
 refine ⟨by simp [World.setCell,Array.getElem?_modify,hb2],?_,?_,?_,?_,?_,?_,?_⟩
 ·have:=hown'.kept (row:=some b) (w':=w2.setCell ⟨b,1,none⟩ (.slice ao n' cap)) ⟨rfl,rfl,rfl,by simp [World.setCell],fun k _ hk=>Below.heap_setCell _ _ _ _ (fun e=>hk (by simp [e]))⟩ (Or.inr hne')
  simpa [Lib.strCells_length] using this
 ·rcases hpl with h|⟨g,h,hh⟩
  ·exact .inl h
  ·exact .inr ⟨g,h,by omega⟩
 ·intro k hk hkb hkv
  rw [Below.heap_setCell _ _ _ _ hkb,hgrow.block k (by omega) (fun e=>hkv e.symm),hg1.block k hk (by simpa using hkb)]
 ·have:=hgrow.size;simp [World.setCell];omega
 ·exact hgrow.os.trans hg1.os
 ·exact hgrow.tape.trans hg1.tape
 ·exact hgrow.output.trans hg1.output
theorem zkC (b:Nat) (p v:Value) (bs:List Value) (c:Int) (w:World) (hbk:w.heap[b]?=some (.cells #[p,v] 77 (0,0))) (hp:p=.pointer none∨p=.pointer (some ⟨b,0,none⟩))
  (hown:w.ownsRow 0 5 1 v bs.length bs) (hlen:bs.length+1≤140737488355328) :
  Calls Tryz.prog 89 #[.pointer (some ⟨b,0,none⟩),.int .u8 c] w fun e w'=>e=.returned .nilIface∧∃ v',BPost 77 5 b w w' v v' (bs++[.int .u8 c]):=by
 obtain ⟨i0,hi,hz0,hz1,hz2⟩:=info_parts zCt
 have hne:v.ownBlock≠some b:=Lib.ownBlock_ne hown hbk zne
 have hlt:b<w.heap.size:=by
  rcases Nat.lt_or_ge b w.heap.size with h'|h'
  ·exact h'
  ·simp [Array.getElem?_eq_none h'] at hbk
 go_enter Tryz.func89,Tryz.ntmps89
 go_wp2_with (go_at_call 55;refine (zmI b p v _ hbk hp).mono ?_)
 rintro e w1 ⟨rfl,hbk1,hg1,hs1⟩
 have HS:Hid (w1.heap.size=w.heap.size):=hs1
 clear hs1
 have hown1:=hown.kept hg1 (Or.inr hne)
 have c0:w1.cell? ⟨b,0,none⟩=some (.pointer (some ⟨b,0,none⟩)):=by rw [Lib.cell_of_heap hbk1];rfl
 have c1:w1.cell? ⟨b,1,none⟩=some v:=by rw [Lib.cell_of_heap hbk1];rfl
 go_wp2_with (at_builtin;refine zfB _ rfl _ _ 22 22 rfl v (.slice (some ⟨w1.heap.size,0,none⟩) 1 1) rfl rfl (zpf _ 22 _ 5 i0 Tryz.underlying22 hi hz0 hz1 hz2 v bs.length bs (hown1.alloc _) ⟨w1.heap.size,0,none⟩ 1 (.int .u8 c) ?cx rfl hlen) ?_)
 case cx=>simp [Addr.add]
 rintro v' w2 hR
 have hs1:=HS.out
 have hown':=hR.own
 have hgrow:=hR.grow
 have hpl:=hR.place
 clear hR
 have hb2:w2.heap[b]?=some (.cells #[.pointer (some ⟨b,0,none⟩),v] 77 (0,0)):=by
  rw [hgrow.block b (by simp;omega) (fun e=>hne e.symm),Lib.alloc_old w1 _ b (by omega)]
  exact hbk1
 have d0:w2.cell? ⟨b,0,none⟩=some (.pointer (some ⟨b,0,none⟩)):=by rw [Lib.cell_of_heap hb2];rfl
 have d1:w2.cell? ⟨b,1,none⟩=some v:=by rw [Lib.cell_of_heap hb2];rfl
 have f1:w2.frozen? ⟨b,1,none⟩=false:=Lib.frozen_of_heap hb2 1
 have hne':v'.ownBlock≠some b:=Lib.ownBlock_ne hown' hb2 zne
 obtain ⟨g,cap,rfl⟩:∃ g cap,v'=.slice (some ⟨g,0,none⟩) (bs.length+1) cap:=by
  rcases hown'.2 with ⟨_,h0⟩|⟨g,cap,cur,hv,_⟩
  ·omega
  ·exact ⟨g,cap,hv⟩
 clear hs1
 go_wp2
 go_ret
 have hs1:=HS.out
 refine ⟨rfl,.slice (some ⟨g,0,none⟩) (bs.length+1) cap,?_⟩
 refine ⟨by simp [World.setCell,Array.getElem?_modify,hb2],?_,?_,?_,?_,?_,?_,?_⟩
 ·have:=hown'.kept (row:=some b) (w':=w2.setCell ⟨b,1,none⟩ (.slice (some ⟨g,0,none⟩) (bs.length+1) cap)) ⟨rfl,rfl,rfl,by simp [World.setCell],fun k _ hk=>Below.heap_setCell _ _ _ _ (fun e=>hk (by simp [e]))⟩ (Or.inr hne')
  simpa using this
 ·rcases hpl with h|⟨g',h,hh⟩
  ·exact .inl h
  ·exact .inr ⟨g',h,by simp at hh;omega⟩
 ·intro k hk hkb hkv
  rw [Below.heap_setCell _ _ _ _ hkb,hgrow.block k (by simp;omega) (fun e=>hkv e.symm),Lib.alloc_old w1 _ k (by omega),hg1.block k hk (by simpa using hkb)]
 ·have:=hgrow.size;simp at this;simp [World.setCell];omega
 ·exact hgrow.os.trans hg1.os
 ·exact hgrow.tape.trans hg1.tape
 ·exact hgrow.output.trans hg1.output
/-! ### Contracts -/
abbrev bH (B n:Nat):Option AObj:=some (.bh 77 5 B n)
abbrev bB (t:List UInt8):Option AObj:=some (.bb 5 t)
theorem znj (t s:List UInt8) (hl:t.length+s.length≤140737488355328) :
  AC Tryz.prog gl 34 [.ref 0 0,.pv (.str s)] [bH 1 t.length,bB t] (.tup [.pv (.int .i64 s.length),.pv (.err true)]) [bH 2 (t++s).length,some .dead,bB (t++s)]:=by
 refine AC.bwrite zne ?_
 intro w b p v y M hy hbk hp hown
 cases hy
 have hb:t.length=(zb0 t).length:=by simp [zb0]
 rw [hb] at hown
 refine (zhI b p v (zb0 t) ⟨s.toArray⟩ w hbk hp hown (by rw [←hb];simpa [ByteArray.size] using hl)).mono ?_
 rintro en w' ⟨rfl,v',hB⟩
 refine ⟨_,v',rfl,fun g D M'=>zkB ?_ (.pv .errn),?_⟩
 ·have:(ByteArray.mk s.toArray).size=s.length:=by simp [ByteArray.size]
  rw [this]
  exact zBM _ _ _ _ _
 ·rw [zgD,←zoa]
  exact hB
theorem zCu (t:List UInt8) (c:UInt8) (hl:t.length+1≤140737488355328) :
  AC Tryz.prog gl 89 [.ref 0 0,.pv (.int .u8 c.toNat)] [bH 1 t.length,bB t] (.pv (.err true)) [bH 2 (t++[c]).length,some .dead,bB (t++[c])]:=by
 refine AC.bwrite zne ?_
 intro w b p v y M hy hbk hp hown
 cases hy
 have hb:t.length=(zb0 t).length:=by simp [zb0]
 rw [hb] at hown
 refine (zkC b p v (zb0 t) c.toNat w hbk hp hown (by rw [←hb];exact hl)).mono ?_
 rintro en w' ⟨rfl,v',hB⟩
 refine ⟨_,v',rfl,fun g D M'=>.pv .errn,?_⟩
 rw [zgD]
 exact hB
theorem zte (t:List UInt8):AC Tryz.prog gl 39 [.ref 0 0] [bH 1 t.length,bB t] (.pv (.str t)) [some .dead,some .dead]:=AC.bString Tryz.lays169 Tryz.Builder_Extra_169 t
theorem zy8 (t:List UInt8):AC Tryz.prog gl 38 [.ref 0 0] [bH 1 t.length,bB t] (.pv (.int .i64 t.length)) [bH 1 t.length,bB t]:=AC.bLen Tryz.lays170 zne t
theorem zlQ (s:List UInt8) (c:UInt8) (hl:s.length<4294967281):AC Tryz.prog gl 40 [.pv (.str s),.pv (.str [c])] [] (.pv (.slice ((zaj c s).map fun x=>[.str x]))) []:=by
 refine AC.ofTexts (ps:=[.str s,.str [c]]) fun w M vs hvl hr hs hg hx=>?_
 match vs,hvl with
 |[v0,v1],_=>
  have e0:v0=_:=(hr 0 (by simp)).str_inv
  have e1:v1=_:=(hr 1 (by simp)).str_inv
  subst e0 e1
  obtain ⟨u,hu,hru⟩:=hg 5 [.ani .i64] rfl 0 (by simp)
  obtain ⟨m,rfl⟩:∃ m,u=.int .i64 m:=by cases hru;exact ⟨_,rfl⟩
  refine (Tryz.strings_Split ⟨s.toArray⟩ ⟨#[c]⟩ m w (by simpa [ByteArray.size] using hl) (hs _ _ _ hu) (Nat.le_refl 1)).mono ?_
  rintro e w' ⟨rfl,rfl⟩
  have hsp:=zsz c s.length ⟨s.toArray⟩ (by simp [ByteArray.size])
  have hlen:(zaj c s).length=Lib.countB ⟨s.toArray⟩ ⟨#[c]⟩+1:=by
   have:=congrArg List.length hsp
   rw [List.length_map,Lib.splitB_all ⟨#[c]⟩ (Nat.le_refl 1) 0 _ _ rfl] at this
   simpa using this.symm
  have:(zaj c s).map (fun x=>Value.string ⟨x.toArray⟩)=(Lib.splitB ⟨#[c]⟩ 0 (Lib.countB ⟨s.toArray⟩ ⟨#[c]⟩) ⟨s.toArray⟩).map Value.string:=by
   rw [show zaj c s=_ from (by simpa using hsp.symm),List.map_map]
   refine List.map_congr_left fun b _=>?_
   simp
  exact ⟨9,by rw [hlen],by rw [this]⟩
theorem znk (s:List UInt8) (c:Int):AC Tryz.prog gl 179 [.pv (.str s),.pv (.int .u8 c)] [] (.pv (.int .i64 (Lib.indexByte s c.toNat.toUInt8))) []:=by
 refine AC.ofCalls (ps:=[.str s,.int .u8 c]) fun w M vs hl hr hs hg hx=>?_
 match vs,hl with
 |[v0,v1],_=>
  have e0:v0=_:=(hr 0 (by simp)).str_inv
  have e1:v1=_:=(hr 1 (by simp)).int_inv
  subst e0 e1
  refine (Tryz.strings_IndexByte ⟨s.toArray⟩ c w).mono ?_
  rintro e w' ⟨rfl,rfl⟩
  exact ⟨_,rfl,fun g D M'=>.pv (.int _ _),Below.refl _ _⟩
theorem zor (l:List UInt8) (h0:l≠[]) (hd:∀ c ∈ l,isD c=true) (hl:l.length≤4096) (hv:zba l<9223372036854775808):AC Tryz.prog gl 121 [.pv (.str l),.pv (.int .i64 10),.pv (.int .i64 64)] [] (.tup [.pv (.int .i64 (zba l)),.pv (.err true)]) []:=by
 refine AC.ofCalls (ps:=[.str l,.int .i64 10,.int .i64 64]) fun w M vs hvl hr hs hg hx=>?_
 match vs,hvl with
 |[v0,v1,v2],_=>
  have e0:v0=_:=(hr 0 (by simp)).str_inv
  have e1:v1=_:=(hr 1 (by simp)).int_inv
  have e2:v2=_:=(hr 2 (by simp)).int_inv
  subst e0 e1 e2
  refine (Tryz.strconv_ParseInt_10_at64_ok ⟨l.toArray⟩ (by simp [ByteArray.size];omega) (zba l) (by have:=zgm l h0 hd;rw [if_pos hv] at this;simpa using this) w).mono ?_
  rintro e w' ⟨rfl,hw⟩
  refine ⟨_,rfl,fun g D M'=>zkB (.pv (.int _ _)) (.pv .errn),?_⟩
  rcases hw with rfl|⟨t,rfl⟩
  ·exact Below.refl _ _
  ·exact Lib.bytesWorld_below w _ t
theorem zkl (l:List UInt8) (h0:l≠[]) (hd:∀ c ∈ l,isD c=true) (hl:l.length≤4096) (hv:¬ zba l<9223372036854775808):AC Tryz.prog gl 121 [.pv (.str l),.pv (.int .i64 10),.pv (.int .i64 64)] [] (.tup [.junk,.pv (.err false)]) []:=by
 refine AC.ofCalls (ps:=[.str l,.int .i64 10,.int .i64 64]) fun w M vs hvl hr hs hg hx=>?_
 match vs,hvl with
 |[v0,v1,v2],_=>
  have e0:v0=_:=(hr 0 (by simp)).str_inv
  have e1:v1=_:=(hr 1 (by simp)).int_inv
  have e2:v2=_:=(hr 2 (by simp)).int_inv
  subst e0 e1 e2
  obtain ⟨u,hu,hru⟩:=hg 11 [.err false] rfl 0 (by simp)
  have hiv:∃ t v,u=.iface t v:=by
   rcases hru.err_inv with ⟨h,_⟩|⟨_,t,v,h⟩
   ·cases h
   ·exact ⟨t,v,h⟩
  refine (Tryz.strconv_ParseInt_10_at64_range ⟨l.toArray⟩ (by simp [ByteArray.size];omega) (by have:=zgm l h0 hd;rw [if_neg hv] at this;simpa using this) u w (hs _ _ _ hu) (.inr hiv)).mono ?_
  rintro e w' ⟨N,rfl,_,_,hb⟩
  exact ⟨_,rfl,fun g D M'=>zkB (.junk _) (.pv (.erri _ _)),hb⟩
theorem zd4 (n:Int):AC Tryz.prog gl 126 [.pv (.int .u8 n)] [] (.pv (.bool (zdf n))) []:=by
 refine zap (fun _=>0) 0 zFu ?_
 simp -implicitDefEqProofs +contextual (maxSteps:=9000000) only [kx,↓ky,zEX,simprocAttr]
 grind [zdf]
theorem zfK (n:Int):AC Tryz.prog gl 165 [.pv (.int .u8 n)] [] (.pv (.bool (zcU n))) []:=by
 refine zap (fun _=>0) 0 zFJ ?_
 simp -implicitDefEqProofs +contextual (maxSteps:=9000000) only [kx,↓ky,zE4,simprocAttr]
 grind [zcU]
theorem zos (s:List UInt8) (a:Nat) (hs:s.length≤1099511627776) (ha:a≤s.length):AC Tryz.prog gl 127 [.pv (.str s),.pv (.int .i64 a)] [] (.pv (.int .i64 (zbM isW s a))) []:=by
 refine zap (fun _=>0) 0 zFv ?_
 simp -implicitDefEqProofs +contextual (maxSteps:=9000000) only [kx,↓ky,zB1,simprocAttr]
 refine zaI (ι:={k:Nat // k≤s.length∧zbM isW s k=zbM isW s a}) (fun i=>⟨(.pv (.str s)::.pv (.int .i64 i.1)::.junk::.junk::.pv (.int .i64 0)::jl 19 []),[]⟩) (fun i=>s.length - i.1) ⟨a,ha,rfl⟩ WFn ?_
 rintro ⟨k,hk,heq⟩
 have hst:=zcf isW s k
 have hen:=zgW isW s k
 have hw:k<s.length→IntKind.i64.wrap ((k:Int)+1)=((k+1:Nat):Int):=fun h=>zaQ k (by omega)
 repeat' first|refine Va zB1 ?_|(with_reducible first|refine SB.c ?_ ?_<;>intro _|exact zad)|refine CK.d0 zdY (zd4 _) ?_|refine CK.d0 zet (zfK _) ?_|with_reducible refine zac ?_|omega
 ·rename_i hc
  simp only [Bool.and_eq_true,decide_eq_true_eq] at hc
  have hlt:k<s.length:=by omega
  have hW:isW (s.getD k 0)=true:=hc.2
  rw [hst hlt,if_pos hW] at heq
  exact ⟨⟨k+1,by omega,heq⟩,(WFe (by simp [kwf,hw hlt]) (by simp [kwf,hw hlt])),by simp;omega⟩
 ·rename_i hc
  rw [←heq]
  by_cases hlt:k<s.length
  ·have hW:isW (s.getD k 0)=false:=by
    simp only [Bool.and_eq_false_iff,decide_eq_false_iff_not] at hc
    rcases hc with h|h
    ·omega
    ·exact h
   rw [hst hlt,hW];simp
  ·rw [hen (by omega)]
theorem zqQ (s:List UInt8) (a:Nat) (hs:s.length≤4096) (ha:a≤s.length):AC Tryz.prog gl 159 [.pv (.str s),.pv (.int .i64 a)] [] (.pv (.int .i64 (zbM zbL s a))) []:=by
 rw [←zkG s a ha]
 have hc:=znk (s.drop a) 10
 have hb:=zkG s a ha
 have h1:=zht zbL s a ha
 have h2:=zfl zbL s a
 have htk:s.take s.length=s:=List.take_length
 replace hc:AC Tryz.prog gl 179 [.pv (.str (s.drop a)),.pv (.int .u8 10)] [] (.pv (.int .i64 (Lib.indexByte (s.drop a) 10))) []:=hc
 generalize Lib.indexByte (s.drop a) 10=x at *
 have hw:¬ x<0→IntKind.i64.wrap ((a:Int)+x)=a+x:=fun h=>zaS _ (by omega) (by rw [if_neg h] at hb;omega)
 refine zap (fun _=>0) 0 zFF ?_
 repeat' first|refine Va (fA2 zE3 htk) ?_|(with_reducible first|refine SB.c ?_ ?_<;>intro _|exact zad)|refine CK.d0 zsO hc ?_|with_reducible refine zac ?_|omega
 all_goals grind
theorem zy9 (s:List UInt8) (a:Nat) (hs:s.length≤4096) (ha:a<s.length):AC Tryz.prog gl 181 [.pv (.str s),.pv (.int .i64 a)] [] (.pv (.int .i64 (zct (s.getD a 0).toNat (zcX s a)))) []:=by
 have hw:=zaQ a (by omega)
 have ha':(a:Int)<s.length:=by omega
 unfold zcX
 refine zap (fun _=>0) 0 zFM ?_
 by_cases h1:a+1<s.length
 ·have h1':((a+1:Nat):Int)<s.length:=by omega
  rw [if_pos h1]
  repeat' first|refine Va (fA6 zB2 ha ha' hw h1 h1') ?_|(with_reducible first|refine SB.c ?_ ?_<;>intro _|exact zad)|with_reducible refine zac ?_|omega
  all_goals grind [zct]
 ·have h1':¬ ((a+1:Nat):Int)<s.length:=by omega
  rw [if_neg h1]
  repeat' first|refine Va (fA5 zB2 ha ha' hw h1') ?_|(with_reducible first|refine SB.c ?_ ?_<;>intro _|exact zad)|with_reducible refine zac ?_|omega
  all_goals grind [zct]
end Go.Proofs.YtfinhhblcdkpgaaGreatDoor
