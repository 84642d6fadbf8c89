/- ScriptLimits returns true for every input, and the input reads as it did: the tied card, proved as given, with no condition. -/
import Derived.Test.YtfinhhblcdkpgaaGreatDoorRows
import Derived.Test.YtfinhhblcdkpgaaGreatDoorCards
import Derived.Test.YtfinhhblcdkpgaaGreatDoorTie
import Derived.WalkKit
import Derived.ProofKit
import Derived.LaidMore
import Derived.OpenShut
import Derived.SevenTiedAt
import Derived.SizedLaws
import Derived.Test.YtfinhhblcdkpgaaGreatDoorK30
import Derived.Lay
import Derived.Test.YtfinhhblcdkpgaaGreatDoorLib4
set_option maxRecDepth 100000
set_option maxHeartbeats 64000000
set_option linter.unusedSimpArgs false
set_option linter.unusedVariables false
set_option linter.defProp false
namespace Go.Proofs.YtfinhhblcdkpgaaGreatDoor
open Go Go.Abs Go.ChangeShapes Go.WideShapes Go.ChangeAt Go.WideMaps Go.WideElems Go.RowKit
namespace RScriptLimits
theorem own:ownKnob Tryz.prog.godebug=none:=by kernel_rfl
theorem laid:laidOutB Tryz.prog=true:=by kernel_rfl
theorem gN2 : Tryz.prog.globalNamed "internal/strconv.uint64pow10" = some 4 := by kernel_rfl
theorem gN4 : Tryz.prog.globalNamed "strconv.ErrRange" = some 11 := by kernel_rfl
theorem gN5 : Tryz.prog.globalNamed "strconv.ErrSyntax" = some 10 := by kernel_rfl
theorem gN6 : Tryz.prog.globalNamed "rollbacknet/script.words" = some 0 := by kernel_rfl
theorem gN7 : Tryz.prog.globalNamed "rollbacknet/script.names" = some 1 := by kernel_rfl
theorem tN2:(Tryz.prog.globals[4]?).map (·.type)=some 204:=by kernel_rfl
theorem tN4:(Tryz.prog.globals[11]?).map (·.type)=some 79:=by kernel_rfl
theorem tN5:(Tryz.prog.globals[10]?).map (·.type)=some 79:=by kernel_rfl
theorem tN6:(Tryz.prog.globals[0]?).map (·.type)=some 72:=by kernel_rfl
theorem tN7:(Tryz.prog.globals[1]?).map (·.type)=some 82:=by kernel_rfl
theorem door_met (os:Os) (args:Array Value):laidMetH Tryz.prog Rows.scriptLimitsRow.laid ((World.laidAll Tryz.prog os Rows.scriptLimitsRow.laid).forCall (fun _ _=>0) ⟨#[],args,[]⟩).memory:=by
 rw [MakeChecks.laidMetH_plain _ _ _ (by kernel_rfl)]
 exact laidMet_laidAll _ (by kernel_rfl) (by kernel_rfl)
def tab2:List Int:=[1,10,100,1000,10000,100000,1000000,10000000,100000000,1000000000,10000000000,100000000000,1000000000000,10000000000000,100000000000000,1000000000000000,10000000000000000,100000000000000000,1000000000000000000,10000000000000000000]
def tab6:List (List UInt8):=[[],[100,101,108,105,118,101,114],[116,105,99,107],[105,110,112,117,116],[100,114,111,112],[100,117,112,108,105,99,97,116,101],[114,101,115,101,110,100],[99,104,101,99,107,112,111,105,110,116],[102,108,117,115,104],[97,99,107],[99,114,97,115,104],[114,101,99,111,118,101,114],[114,101,115,116,111,114,101],[99,111,109,109,105,116],[99,111,108,108,101,99,116]]
def tab7:List (List UInt8):=[[],[105,110,100,101,112,101,110,100,101,110,116],[99,111,111,114,100,105,110,97,116,101,100],[105,110,100,101,120,101,100],[109,111,100,101,108,98,97,115,101,100],[112,101,115,115,105,109,105,115,116,105,99],[115,101,110,100,101,114,98,97,115,101,100],[111,112,116,105,109,105,115,116,105,99],[99,97,117,115,97,108]]
theorem gml {W:World} (hs:W.ShapedOpen Tryz.prog):(∃ m,W.cell? ⟨5,0,none⟩=some (.int .i64 m))∧∃ vals T l,W.heap[5]?=some (.cells vals T l)∧vals.size=1:=
 zub (t:=3) (zero:=#[.int .i64 0]) hs (of_decide_eq_true (by kernel_rfl)) (by kernel_rfl) rfl (by kernel_rfl) (by kernel_rfl) Tryz.underlying3
theorem gok {W:World} (hs:W.ShapedOpen Tryz.prog) (h:laidMetH Tryz.prog Rows.scriptLimitsRow.laid W):GOK ⟨fun _=>none,gl,fun _=>0,0⟩ (zj2 W):=by
 rw [MakeChecks.laidMetH_plain _ _ _ (by kernel_rfl)] at h
 obtain ⟨ps,⟨a0,u0,cs0,f0,p0,q0,hg0,ht0,hv0,hd0,⟨a1,u1,cs1,f1,p1,q1,hg1,ht1,hv1,hd1,⟨a2,u2,cs2,f2,p2,q2,hg2,ht2,hv2,hd2,⟨a3,u3,cs3,f3,p3,q3,hg3,ht3,hv3,hd3,⟨a4,u4,cs4,f4,p4,q4,hg4,ht4,hv4,hd4,⟨a5,u5,cs5,f5,p5,q5,hg5,ht5,hv5,hd5,⟨a6,u6,cs6,f6,p6,q6,hg6,ht6,hv6,hd6,⟨a7,u7,cs7,f7,p7,q7,hg7,ht7,hv7,hd7,⟨a8,u8,cs8,f8,p8,q8,hg8,ht8,hv8,hd8,_,_⟩,_⟩,_⟩,_⟩,_⟩,_⟩,_⟩,_⟩,_⟩,_,_⟩:=h
 obtain rfl:=Option.some.inj (gN2.symm.trans hg2)
 obtain rfl:=Option.some.inj (tN2.symm.trans ht2)
 obtain rfl:=Option.some.inj (gN4.symm.trans hg4)
 obtain rfl:=Option.some.inj (tN4.symm.trans ht4)
 obtain rfl:=Option.some.inj (gN5.symm.trans hg5)
 obtain rfl:=Option.some.inj (tN5.symm.trans ht5)
 obtain rfl:=Option.some.inj (gN6.symm.trans hg6)
 obtain rfl:=Option.some.inj (tN6.symm.trans ht6)
 obtain rfl:=Option.some.inj (gN7.symm.trans hg7)
 obtain rfl:=Option.some.inj (tN7.symm.trans ht7)
 have c2:∀ i,i<20→zj2 W 4 i=some (.int .u64 (tab2.getD i 0)):=fun i hi=>by
  have h1:=zua (ds:=tab2) Tryz.underlying204 Tryz.underlying102 (by kernel_rfl) hd2 i hi
  have h2:=World.var?_cell hg2 hv2 i
  rw [Array.getElem?_toList] at h1
  rw [h1] at h2
  exact h2
 obtain ⟨eu4,ev4,h34⟩:=zk5 Tryz.underlying79 hd4
 have c4:zj2 W 11 0=some (.iface eu4 ev4):=by
  have h2:=World.var?_cell hg4 hv4 0
  rw [Array.getElem?_toList] at h34
  rw [h34] at h2
  exact h2
 obtain ⟨eu5,ev5,h35⟩:=zk5 Tryz.underlying79 hd5
 have c5:zj2 W 10 0=some (.iface eu5 ev5):=by
  have h2:=World.var?_cell hg5 hv5 0
  rw [Array.getElem?_toList] at h35
  rw [h35] at h2
  exact h2
 have c6:∀ i,i<15→zj2 W 0 i=some (.string ⟨(tab6.getD i []).toArray⟩):=fun i hi=>by
  have h1:=zk4 (ds:=tab6) Tryz.underlying72 Tryz.underlying9 (by kernel_rfl) hd6 i hi
  have h2:=World.var?_cell hg6 hv6 i
  rw [Array.getElem?_toList] at h1
  rw [h1] at h2
  exact h2
 have c7:∀ i,i<9→zj2 W 1 i=some (.string ⟨(tab7.getD i []).toArray⟩):=fun i hi=>by
  have h1:=zk4 (ds:=tab7) Tryz.underlying82 Tryz.underlying9 (by kernel_rfl) hd7 i hi
  have h2:=World.var?_cell hg7 hv7 i
  rw [Array.getElem?_toList] at h1
  rw [h1] at h2
  exact h2
 obtain ⟨⟨mm,hmm⟩,_⟩:=gml hs
 intro b cs hb j hj
 match b,hb with
 |5,hb=>
  cases hb
  match j,hj with
  |0,_=>exact ⟨_,hmm,.ani _ _⟩
 |4,hb=>
  cases hb
  have hj2:j<tab2.length:=hj
  refine ⟨_,c2 j hj,?_⟩
  show Rd _ ((tab2.map fun z=>PVal.int .u64 z).getD j .nilptr) _
  rw [show (tab2.map fun z=>PVal.int .u64 z).getD j .nilptr=.int .u64 (tab2.getD j 0) by simp [List.getD,hj2]]
  exact .int _ _
 |11,hb=>
  cases hb
  match j,hj with
  |0,_=>exact ⟨_,c4,.erri _ _⟩
 |10,hb=>
  cases hb
  match j,hj with
  |0,_=>exact ⟨_,c5,.erri _ _⟩
 |0,hb=>
  cases hb
  have hj2:j<tab6.length:=hj
  refine ⟨_,c6 j hj,?_⟩
  show Rd _ ((tab6.map fun z=>PVal.str z).getD j .nilptr) _
  rw [show (tab6.map fun z=>PVal.str z).getD j .nilptr=.str (tab6.getD j []) by simp [List.getD,hj2]]
  exact .str _
 |1,hb=>
  cases hb
  have hj2:j<tab7.length:=hj
  refine ⟨_,c7 j hj,?_⟩
  show Rd _ ((tab7.map fun z=>PVal.str z).getD j .nilptr) _
  rw [show (tab7.map fun z=>PVal.str z).getD j .nilptr=.str (tab7.getD j []) by simp [List.getD,hj2]]
  exact .str _
 |2,hb=>cases hb
 |3,hb=>cases hb
 |6,hb=>cases hb
 |7,hb=>cases hb
 |8,hb=>cases hb
 |9,hb=>cases hb
 |b+12,hb=>cases hb
theorem gex {W:World} (hs:W.ShapedOpen Tryz.prog) (h:laidMetH Tryz.prog Rows.scriptLimitsRow.laid W):∀ b cs,gl b=some cs→cs≠[]→∃ vals T l,W.heap[b]?=some (.cells vals T l)∧vals.size=cs.length:=by
 rw [MakeChecks.laidMetH_plain _ _ _ (by kernel_rfl)] at h
 obtain ⟨ps,⟨a0,u0,cs0,f0,p0,q0,hg0,ht0,hv0,hd0,⟨a1,u1,cs1,f1,p1,q1,hg1,ht1,hv1,hd1,⟨a2,u2,cs2,f2,p2,q2,hg2,ht2,hv2,hd2,⟨a3,u3,cs3,f3,p3,q3,hg3,ht3,hv3,hd3,⟨a4,u4,cs4,f4,p4,q4,hg4,ht4,hv4,hd4,⟨a5,u5,cs5,f5,p5,q5,hg5,ht5,hv5,hd5,⟨a6,u6,cs6,f6,p6,q6,hg6,ht6,hv6,hd6,⟨a7,u7,cs7,f7,p7,q7,hg7,ht7,hv7,hd7,⟨a8,u8,cs8,f8,p8,q8,hg8,ht8,hv8,hd8,_,_⟩,_⟩,_⟩,_⟩,_⟩,_⟩,_⟩,_⟩,_⟩,_,_⟩:=h
 obtain rfl:=Option.some.inj (gN2.symm.trans hg2)
 obtain rfl:=Option.some.inj (tN2.symm.trans ht2)
 obtain rfl:=Option.some.inj (gN4.symm.trans hg4)
 obtain rfl:=Option.some.inj (tN4.symm.trans ht4)
 obtain rfl:=Option.some.inj (gN5.symm.trans hg5)
 obtain rfl:=Option.some.inj (tN5.symm.trans ht5)
 obtain rfl:=Option.some.inj (gN6.symm.trans hg6)
 obtain rfl:=Option.some.inj (tN6.symm.trans ht6)
 obtain rfl:=Option.some.inj (gN7.symm.trans hg7)
 obtain rfl:=Option.some.inj (tN7.symm.trans ht7)
 obtain ⟨T2,l2,e2⟩:=zfx hg2 hv2
 have s2:=zhF Tryz.underlying204 (m:=20) (by kernel_rfl) hd2
 obtain ⟨T4,l4,e4⟩:=zfx hg4 hv4
 have s4:=zk6 Tryz.underlying79 hd4
 obtain ⟨T5,l5,e5⟩:=zfx hg5 hv5
 have s5:=zk6 Tryz.underlying79 hd5
 obtain ⟨T6,l6,e6⟩:=zfx hg6 hv6
 have s6:=zhF Tryz.underlying72 (m:=15) (by kernel_rfl) hd6
 obtain ⟨T7,l7,e7⟩:=zfx hg7 hv7
 have s7:=zhF Tryz.underlying82 (m:=9) (by kernel_rfl) hd7
 obtain ⟨_,hml⟩:=gml hs
 intro b cs hb _
 match b,hb with
 |5,hb=>cases hb;exact hml
 |4,hb=>cases hb;exact ⟨_,T2,l2,e2,s2⟩
 |11,hb=>cases hb;exact ⟨_,T4,l4,e4,s4⟩
 |10,hb=>cases hb;exact ⟨_,T5,l5,e5,s5⟩
 |0,hb=>cases hb;exact ⟨_,T6,l6,e6,s6⟩
 |1,hb=>cases hb;exact ⟨_,T7,l7,e7,s7⟩
 |2,hb=>cases hb
 |3,hb=>cases hb
 |6,hb=>cases hb
 |7,hb=>cases hb
 |8,hb=>cases hb
 |9,hb=>cases hb
 |b+12,hb=>cases hb
theorem contract (H:Type) (enc:TypeId × Value→H) (W:World) (base:Nat) (args:Array Value) (ds gs:List (DataW H)) (before:List MemPlace) (hs:W.ShapedOpen Tryz.prog) (hL:laidMetH Tryz.prog Rows.scriptLimitsRow.laid W)
  (hsz:(DataW.weightsEach Tryz.prog (Tryz.f6.params.toList++Rows.scriptLimitsSpec.plain.varTypes Tryz.prog) (ds++gs)).all (·≤reachBytes)=true)
  (hval:∀ (j:Nat) t v,Tryz.f6.params[j]?=some t→args[j]?=some v→Value.okWide Tryz.prog W .any base t v)
  (hW:DataW.Whole enc Tryz.prog Tryz.f6.params.toList Rows.scriptLimitsSpec.vars false W args.toList ds gs before) :
  Calls Tryz.prog 6 args W fun e W'=>∃ v,e=.returned v∧Rows.scriptLimitsSpec.post enc Tryz.prog Tryz.f6 false true false false W args v W':=by
 have hW':=hW
 obtain ⟨p,q,hA0,hV,rfl,hfz,hnd⟩:=hW
 have hA:DataW.TrodAll enc Tryz.prog W 0 (fun _=>true) true Tryz.f6.params.toList args.toList ds p:=hA0
 rw [Tryz.params6] at hA hval
 obtain ⟨v0,vs0,d0,ds0,p0,q0,hargs,rfl,rfl,h0,r0⟩:=trodAll_cons hA
 obtain ⟨v1,vs1,d1,ds1,p1,q1,rfl,rfl,rfl,h1,r1⟩:=trodAll_cons r0
 obtain ⟨v2,vs2,d2,ds2,p2,q2,rfl,rfl,rfl,h2,r2⟩:=trodAll_cons r1
 obtain ⟨rfl,rfl,rfl⟩:=trodAll_nil r2
 obtain rfl:args=#[v0,v1,v2]:=by cases args;simp_all
 obtain ⟨n0,rfl,_,_,hi0⟩:=open_int Tryz.underlying3 (hval 0 3 v0 rfl rfl) h0
 have hn0:-9223372036854775808≤n0∧n0≤9223372036854775807:=by simpa [Lit.wf,IntKind.min,IntKind.max,IntKind.bits,IntKind.signed] using hi0
 obtain ⟨n1,rfl,_,_,hi1⟩:=open_int Tryz.underlying3 (hval 1 3 v1 rfl rfl) h1
 have hn1:-9223372036854775808≤n1∧n1≤9223372036854775807:=by simpa [Lit.wf,IntKind.min,IntKind.max,IntKind.bits,IntKind.signed] using hi1
 obtain ⟨n2,rfl,_,_,hi2⟩:=open_int Tryz.underlying3 (hval 2 3 v2 rfl rfl) h2
 have hn2:-9223372036854775808≤n2∧n2≤9223372036854775807:=by simpa [Lit.wf,IntKind.min,IntKind.max,IntKind.bits,IntKind.signed] using hi2
 refine (zwR [.int .i64 n0,.int .i64 n1,.int .i64 n2] [.int .i64 n0,.int .i64 n1,.int .i64 n2] (zj1 n0 n1 n2) (gok hs hL) (gex hs hL) rfl ?_).mono fun e W' ⟨he,hh⟩=>⟨_,he,zwS laid (by
   intro t ht
   rw [Tryz.params6] at ht
   simp at ht
   rcases ht with rfl|rfl|rfl<;>exact ⟨by kernel_rfl,of_decide_eq_true (by kernel_rfl)⟩) (tb:=4) (by kernel_rfl) Tryz.underlying4 rfl ?_ hW' hh⟩
 ·intro i hi
  match i,hi with
  |0,_=>exact .int _ _
  |1,_=>exact .int _ _
  |2,_=>exact .int _ _
 ·intro ds hds
  have:ds.length=3:=hds
  match ds,this with
  |[a0,a1,a2],_=>exact ⟨rfl,rfl,rfl⟩
theorem lifted (os:Os) (started:os.Started) (H:Type) (enc:TypeId × Value→H) :
  ReturnsInHanded {} Tryz.checked os 6 .any (fun w args=>(Rows.scriptLimitsSpec.pre enc Tryz.prog Tryz.f6 [] false w args∧laidMetH Tryz.prog Rows.scriptLimitsRow.laid w)∧sizedMet enc Tryz.prog Tryz.f6 (OpenSpec.ofChange Rows.scriptLimitsSpec) false w args)
   (Rows.scriptLimitsSpec.post enc Tryz.prog Tryz.f6 false true false false):=by
 refine zko (C:=Tryz.checked) (X:=fun w _=>laidMetH Tryz.prog Rows.scriptLimitsRow.laid w) (fun _ _ _ hh h=>h.of_heap hh) own started (by kernel_rfl) Tryz.func6
  (ChangeSpec.witness_shaped (enc:=enc) (C:=Tryz.checked) (os:=os) (X:=fun w _=>laidMetH Tryz.prog Rows.scriptLimitsRow.laid w) false (World.laidAll Tryz.prog os Rows.scriptLimitsRow.laid) #[.int .i64 0,.int .i64 0,.int .i64 0] 8 (World.laidAll_os _ _ _) (World.shaped_of_ZipB (by kernel_rfl) (by kernel_rfl)) (by kernel_rfl) (by kernel_rfl) (by kernel_rfl) (door_met os _)) ?_
 intro W base args ds gs before hval hW _ hsz hL hs
 exact contract H enc W base args ds gs before hs hL hsz hval hW
theorem row_holds:Rows.ScriptLimitsSaid:=
 OpenClaim.holds_of_wide 6 Tryz.f6 rfl rfl rfl rfl rfl rfl rfl ⟨rfl,rfl,rfl,rfl,rfl⟩ rfl rfl rfl rfl rfl (by kernel_rfl) Tryz.func6 (by kernel_rfl)
  (of_decide_eq_true (by kernel_rfl)) (by unfold Func.isWrapper;first|(rw [if_pos (by decide +kernel)];kernel_rfl)|(rw [if_neg (by decide +kernel)];exact ⟨rfl,rfl⟩))
  (fun os started H enc _=>lifted os started H enc)
theorem proved:Rows.ScriptLimitsCardSaid:=
 Claim7.holds_tied_plain_at .later [] [.data, .data, .data, .data, .sentinel, .sentinel, .data, .data, .pinned] true (true, "e960589334b7e1a94bdecf0b90e4456a01a2af54df0f4a45ca4396339af8dac5") true
  row_holds (fun _ h=>by cases h) (by kernel_rfl) (fun _ h=>by cases h) scriptLimits_row_tie rfl ⟨rfl,rfl⟩ (by kernel_rfl) rfl
  (fun f fn hf hfn=>by
   obtain rfl : f = 6 := Option.some.inj ((show Tryz.prog.funcNamed "rollbacknet/rollbacknetlaw41.ScriptLimits" = some 6 by kernel_rfl).symm.trans hf) |>.symm
   obtain rfl:fn=Tryz.f6:=(Option.some.inj (Tryz.func6.symm.trans hfn)).symm
   exact ⟨by kernel_rfl,fun j t ht=>by
    rw [Tryz.params6] at ht
    have hm:t ∈ [3,3,3]:=by simpa using Array.mem_of_getElem? ht
    have hall:([3,3,3].all fun u=>!Tryz.prog.wantsStandIn u)=true:=by kernel_rfl
    exact (show Tryz.prog.wantsStandIn t=false by simpa using List.all_eq_true.1 hall t hm)⟩)
  (by kernel_rfl)
end RScriptLimits
end Go.Proofs.YtfinhhblcdkpgaaGreatDoor
