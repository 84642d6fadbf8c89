/- The table of types of the program, held against the program. No condition. -/
import Derived.Test.YtfinhhblcdkpgaaGreatDoorProg
import Derived.KernelRfl
import Derived.Test.YtfinhhblcdkpgaaGreatDoorLib3
set_option maxRecDepth 100000
set_option maxHeartbeats 64000000
set_option linter.unusedSimpArgs false
set_option linter.unusedVariables false
set_option linter.defProp false
namespace Go.Proofs.YtfinhhblcdkpgaaGreatDoor
open Go Go.Abs
def ty2:Ty:={ size:=1,bytes:=8,zero:=some [.pv (.int .i64 0)],kind:=.int .i64 }
def ty4:Ty:={ size:=1,bytes:=1,zero:=some [.pv (.bool false)],kind:=.bool }
def ty5:Ty:={ size:=1,bytes:=1,zero:=some [.pv (.int .u8 0)],kind:=.int .u8 }
def ty9:Ty:={ size:=1,bytes:=16,zero:=some [.pv (.str [])],kind:=.string }
def zEi:Ty:={ size:=1,bytes:=8,zero:=some [.pv (.int .u64 0)],kind:=.int .u64 }
def ze3:Ty:={ size:=1,bytes:=8,zero:=some [.pv .nilptr] }
def zzQ:Ty:={ size:=1,bytes:=16,zero:=some [.pv (.err true)],kind:=.iface }
def zC3:Ty:={ size:=1,bytes:=24,zero:=some [.snil],eSize:=1,eBytes:=1,eZero:=true,kKind:=.int .u8,eZV:=some (false,[.int .u8 0]),kind:=.slice }
def zzR:Ty:={ size:=1,bytes:=24,zero:=some [.snil],eSize:=5,eBytes:=120,eZero:=true,eZV:=some (true,[.slice [],.slice [],.slice [],.slice [],.slice []]),kind:=.slice }
def zEj:Ty:={ size:=1,bytes:=24,zero:=some [.snil],eSize:=4,eBytes:=32,eZero:=true,eZV:=some (true,[.int .i64 0,.int .i64 0,.int .i64 0,.int .i64 0]),kind:=.slice }
def zEk:Ty:={ size:=4,bytes:=32,agg:=true,zero:=some [.pv (.int .i64 0),.pv (.int .i64 0),.pv (.int .i64 0),.pv (.int .i64 0)],fields:=[(0,1),(1,1),(2,1),(3,1)],kind:=.struct,eqs:=some [.int .i64,.int .i64,.int .i64,.int .i64] }
def zEl:Ty:={ size:=1,bytes:=24,zero:=some [.snil],eSize:=3,eBytes:=32,eZero:=true,eZV:=some (true,[.str [],.int .i64 0,.int .i64 0]),kind:=.slice }
def zEm:Ty:={ size:=1,bytes:=24,zero:=some [.snil],eSize:=18,eBytes:=232,eZero:=true,eZV:=some (true,[.int .i64 0,.str [],.int .i64 0,.int .i64 0,.int .i64 0,.int .i64 0,.str [],.int .i64 0,.int .i64 0,.slice [],.int .i64 0,.int .i64 0,.str [],.int .i64 0,.int .i64 0,.slice [],.slice [],.slice []]),kind:=.slice }
def zzS:Ty:={ size:=5,bytes:=120,agg:=true,zero:=some [.snil,.snil,.snil,.snil,.snil],fields:=[(0,1),(1,1),(2,1),(3,1),(4,1)],kind:=.struct }
def zEn:Ty:={ size:=3,bytes:=32,agg:=true,zero:=some [.pv (.str []),.pv (.int .i64 0),.pv (.int .i64 0)],fields:=[(0,1),(1,1),(2,1)],kind:=.struct,eqs:=some [.string,.int .i64,.int .i64] }
def zzT:Ty:={ size:=3,bytes:=40,agg:=true,zero:=some [.snil,.pv (.int .i64 0),.pv (.int .i64 0)],fields:=[(0,1),(1,1),(2,1)],kind:=.struct }
def zEo:Ty:={ size:=1,bytes:=24,zero:=some [.snil],eSize:=1,eBytes:=8,eZero:=true,kKind:=.int .i64,eZV:=some (false,[.int .i64 0]),kind:=.slice }
def zEp:Ty:={ size:=1,bytes:=24,zero:=some [.snil],eSize:=1,eBytes:=16,eZero:=true,kKind:=.string,eZV:=some (false,[.str []]),kind:=.slice }
def zEq:Ty:={ size:=15,bytes:=240,agg:=true,zero:=some [.pv (.str []),.pv (.str []),.pv (.str []),.pv (.str []),.pv (.str []),.pv (.str []),.pv (.str []),.pv (.str []),.pv (.str []),.pv (.str []),.pv (.str []),.pv (.str []),.pv (.str []),.pv (.str []),.pv (.str [])],eSize:=1,eBytes:=16,eZero:=true,kKind:=.string,kind:=.array 15 }
def zEr:Ty:={ size:=2,bytes:=32,agg:=true,zero:=some [.pv .nilptr,.snil],fields:=[(0,1),(1,1)],kind:=.struct,bld:=some 5 }
def zEs:Ty:={ size:=9,bytes:=144,agg:=true,zero:=some [.pv (.str []),.pv (.str []),.pv (.str []),.pv (.str []),.pv (.str []),.pv (.str []),.pv (.str []),.pv (.str []),.pv (.str [])],eSize:=1,eBytes:=16,eZero:=true,kKind:=.string,kind:=.array 9 }
def zEt:Ty:={ size:=7,bytes:=104,agg:=true,zero:=some [.snil,.pv (.bool false),.pv (.int .i64 0),.snil,.pv (.int .i64 0),.pv (.int .i64 0),.snil],fields:=[(0,1),(1,1),(2,1),(3,3),(6,1)],kind:=.struct }
def zEu:Ty:={ size:=1,bytes:=8,zero:=some [.pv .nilmap],kKind:=.string,eZV:=some (true,[.int .i64 0,.int .i64 0]),kind:=.map }
def zEv:Ty:={ size:=2,bytes:=16,agg:=true,zero:=some [.pv (.int .i64 0),.pv (.int .i64 0)],fields:=[(0,1),(1,1)],kind:=.struct,eqs:=some [.int .i64,.int .i64] }
def zEw:Ty:={ size:=3,bytes:=16,agg:=true,zero:=some [.pv .nilmap,.pv (.bool false),.pv (.bool false)],fields:=[(0,1),(1,1),(2,1)],kind:=.struct }
def zyy:Ty:={ size:=1,bytes:=24,agg:=true,zero:=some [.snil],fields:=[(0,1)],kind:=.struct }
def zyz:Ty:={ size:=1,bytes:=24,zero:=some [.snil],eSize:=1,eBytes:=8,eZero:=true,eZV:=some (false,[.nilptr]),kind:=.slice }
def zyA:Ty:={ size:=1,bytes:=24,zero:=some [.snil],eSize:=6,eBytes:=72,eZero:=true,eZV:=some (true,[.int .i64 0,.int .i64 0,.str [],.int .i64 0,.int .i64 0,.slice []]),kind:=.slice }
def zyB:Ty:={ size:=6,bytes:=72,agg:=true,zero:=some [.pv (.int .i64 0),.pv (.int .i64 0),.pv (.str []),.pv (.int .i64 0),.pv (.int .i64 0),.snil],fields:=[(0,1),(1,1),(2,1),(3,1),(4,1),(5,1)],kind:=.struct }
def zyC:Ty:={ size:=18,bytes:=232,agg:=true,zero:=some [.pv (.int .i64 0),.pv (.str []),.pv (.int .i64 0),.pv (.int .i64 0),.pv (.int .i64 0),.pv (.int .i64 0),.pv (.str []),.pv (.int .i64 0),.pv (.int .i64 0),.snil,.pv (.int .i64 0),.pv (.int .i64 0),.pv (.str []),.pv (.int .i64 0),.pv (.int .i64 0),.snil,.snil,.snil],fields:=[(0,1),(1,1),(2,1),(3,1),(4,6),(10,6),(16,1),(17,1)],kind:=.struct }
def zyD:Ty:={ size:=1,bytes:=24,zero:=some [.snil],eSize:=4,eBytes:=40,eZero:=true,eZV:=some (true,[.int .i64 0,.str [],.int .i64 0,.int .i64 0]),kind:=.slice }
def zyE:Ty:={ size:=5,bytes:=56,agg:=true,zero:=some [.snil,.pv (.int .i64 0),.pv (.int .i64 0),.pv (.int .i64 0),.pv (.bool false)],fields:=[(0,1),(1,1),(2,1),(3,1),(4,1)],kind:=.struct }
def zyF:Ty:={ size:=4,bytes:=4,agg:=true,zero:=some [.pv (.bool false),.pv (.bool false),.pv (.bool false),.pv (.bool false)],eSize:=1,eBytes:=1,eZero:=true,kKind:=.bool,kind:=.array 4 }
def zyG:Ty:={ size:=4,bytes:=40,agg:=true,zero:=some [.pv (.int .i64 0),.pv (.str []),.pv (.int .i64 0),.pv (.int .i64 0)],fields:=[(0,1),(1,1),(2,1),(3,1)],kind:=.struct,eqs:=some [.int .i64,.string,.int .i64,.int .i64] }
def zyH:Ty:={ size:=1,bytes:=8,agg:=true,zero:=some [.pv (.int .i64 0)],fields:=[(0,1)],kind:=.struct,eqs:=some [.int .i64] }
def zyI:Ty:={ size:=4,bytes:=32,agg:=true,zero:=some [.pv .nilptr,.pv .nilptr,.pv .nilptr,.pv .nilptr],eSize:=1,eBytes:=8,eZero:=true,kind:=.array 4 }
def zyJ:Ty:={ size:=4,bytes:=64,agg:=true,zero:=some [.pv (.str []),.pv (.str []),.pv (.str []),.pv (.str [])],eSize:=1,eBytes:=16,eZero:=true,kKind:=.string,kind:=.array 4 }
def tyF:Nat→Option Ty
 |2=>some ty2
 |3=>some ty2
 |4=>some ty4
 |5=>some ty5
 |9=>some ty9
 |20=>some zzQ
 |22=>some zC3
 |24=>some zzR
 |25=>some zEj
 |29=>some ty2
 |41=>some zEk
 |42=>some zEl
 |43=>some zEm
 |45=>some zzS
 |48=>some zEn
 |50=>some zzR
 |52=>some zzT
 |57=>some zEo
 |59=>some zzS
 |70=>some zEp
 |72=>some zEq
 |77=>some zEr
 |79=>some zzQ
 |82=>some zEs
 |85=>some ze3
 |87=>some zEt
 |91=>some zEu
 |93=>some zEv
 |95=>some ze3
 |97=>some zEw
 |102=>some zEi
 |113=>some zyy
 |115=>some zyz
 |117=>some ze3
 |118=>some ze3
 |126=>some zyA
 |128=>some zyB
 |130=>some zyC
 |140=>some zyD
 |144=>some zyE
 |147=>some zyF
 |153=>some ze3
 |161=>some ze3
 |169=>some zyG
 |172=>some ze3
 |198=>some ze3
 |213=>some zyH
 |215=>some ze3
 |217=>some zzT
 |220=>some ze3
 |221=>some ze3
 |237=>some ze3
 |238=>some zyI
 |239=>some zyJ
 |_=>none
def gl:Nat→Option (List PVal)
 |0=>some [.str [],.str [100,101,108,105,118,101,114],.str [116,105,99,107],.str [105,110,112,117,116],.str [100,114,111,112],.str [100,117,112,108,105,99,97,116,101],.str [114,101,115,101,110,100],.str [99,104,101,99,107,112,111,105,110,116],.str [102,108,117,115,104],.str [97,99,107],.str [99,114,97,115,104],.str [114,101,99,111,118,101,114],.str [114,101,115,116,111,114,101],.str [99,111,109,109,105,116],.str [99,111,108,108,101,99,116]]
 |1=>some [.str [],.str [105,110,100,101,112,101,110,100,101,110,116],.str [99,111,111,114,100,105,110,97,116,101,100],.str [105,110,100,101,120,101,100],.str [109,111,100,101,108,98,97,115,101,100],.str [112,101,115,115,105,109,105,115,116,105,99],.str [115,101,110,100,101,114,98,97,115,101,100],.str [111,112,116,105,109,105,115,116,105,99],.str [99,97,117,115,97,108]]
 |4=>some [.int .u64 1,.int .u64 10,.int .u64 100,.int .u64 1000,.int .u64 10000,.int .u64 100000,.int .u64 1000000,.int .u64 10000000,.int .u64 100000000,.int .u64 1000000000,.int .u64 10000000000,.int .u64 100000000000,.int .u64 1000000000000,.int .u64 10000000000000,.int .u64 100000000000000,.int .u64 1000000000000000,.int .u64 10000000000000000,.int .u64 100000000000000000,.int .u64 1000000000000000000,.int .u64 10000000000000000000]
 |5=>some [.ani .i64]
 |10=>some [.err false]
 |11=>some [.err false]
 |_=>none
theorem zHH:gl 0=some [.str [],.str [100,101,108,105,118,101,114],.str [116,105,99,107],.str [105,110,112,117,116],.str [100,114,111,112],.str [100,117,112,108,105,99,97,116,101],.str [114,101,115,101,110,100],.str [99,104,101,99,107,112,111,105,110,116],.str [102,108,117,115,104],.str [97,99,107],.str [99,114,97,115,104],.str [114,101,99,111,118,101,114],.str [114,101,115,116,111,114,101],.str [99,111,109,109,105,116],.str [99,111,108,108,101,99,116]]:=rfl
theorem zHI:gl 1=some [.str [],.str [105,110,100,101,112,101,110,100,101,110,116],.str [99,111,111,114,100,105,110,97,116,101,100],.str [105,110,100,101,120,101,100],.str [109,111,100,101,108,98,97,115,101,100],.str [112,101,115,115,105,109,105,115,116,105,99],.str [115,101,110,100,101,114,98,97,115,101,100],.str [111,112,116,105,109,105,115,116,105,99],.str [99,97,117,115,97,108]]:=rfl
theorem zHJ:gl 4=some [.int .u64 1,.int .u64 10,.int .u64 100,.int .u64 1000,.int .u64 10000,.int .u64 100000,.int .u64 1000000,.int .u64 10000000,.int .u64 100000000,.int .u64 1000000000,.int .u64 10000000000,.int .u64 100000000000,.int .u64 1000000000000,.int .u64 10000000000000,.int .u64 100000000000000,.int .u64 1000000000000000,.int .u64 10000000000000000,.int .u64 100000000000000000,.int .u64 1000000000000000000,.int .u64 10000000000000000000]:=rfl
theorem zHK:gl 5=some [.ani .i64]:=rfl
theorem zEx:gl 10=some [.err false]:=rfl
theorem zEy:gl 11=some [.err false]:=rfl
def zbs (site:Nat→Nat) (nobj:Nat):Env:=⟨tyF,gl,site,nobj⟩
theorem zcl (site:Nat→Nat) (nobj:Nat):zaY Tryz.prog (zbs site nobj):=by
 intro t ty h
 change tyF t=some ty at h
 unfold tyF at h
 split at h<;>first|(cases h;done)|(cases h;kernel_rfl)
theorem zag (f : FuncId) {fn : Func} (hf : Tryz.prog.funcs[f]? = some fn) (hn : (fn.name == "runtime.NumGoroutine" || fn.body.isNone) = false) (vargs : Array Value) (w : World) : (callFunc f vargs).run Tryz.prog w = .ok (.enter f vargs) w := by
 simp only [Bool.or_eq_false_iff] at hn
 obtain ⟨h1,h2⟩:=hn
 unfold callFunc
 simp only [Sem.run_bind,run_program,Result.andThen,hf,h1,h2,Bool.false_eq_true,if_false,Sem.run_pure]
theorem mixed:Tryz.prog.follows .mixedOrders=true:=by kernel_rfl
theorem zBO (site:Nat→Nat) (nobj t:Nat):(zbs site nobj).ty t=tyF t:=rfl
theorem zBP (site:Nat→Nat) (nobj t:Nat):(zbs site nobj).gl t=gl t:=rfl
theorem zvt (site:Nat→Nat) (nobj t:Nat):(zbs site nobj).site t=site t:=rfl
theorem zvu (site:Nat→Nat) (nobj:Nat):(zbs site nobj).nobj=nobj:=rfl
def tx2:=And.intro (show tyF 2=some ty2 from rfl) ty2.eq_1
def tx3:=And.intro (show tyF 3=some ty2 from rfl) ty2.eq_1
def tx4:=And.intro (show tyF 4=some ty4 from rfl) ty4.eq_1
def tx5:=And.intro (show tyF 5=some ty5 from rfl) ty5.eq_1
def tx9:=And.intro (show tyF 9=some ty9 from rfl) ty9.eq_1
def zHL:=And.intro (show tyF 20=some zzQ from rfl) zzQ.eq_1
def zC4:=And.intro (show tyF 22=some zC3 from rfl) zC3.eq_1
def zEz:=And.intro (show tyF 24=some zzR from rfl) zzR.eq_1
def zvv:=And.intro (show tyF 25=some zEj from rfl) zEj.eq_1
def zmJ:=And.intro (show tyF 29=some ty2 from rfl) ty2.eq_1
def zrv:=And.intro (show tyF 41=some zEk from rfl) zEk.eq_1
def zpg:=And.intro (show tyF 42=some zEl from rfl) zEl.eq_1
def zgE:=And.intro (show tyF 43=some zEm from rfl) zEm.eq_1
def zlv:=And.intro (show tyF 45=some zzS from rfl) zzS.eq_1
def zrw:=And.intro (show tyF 48=some zEn from rfl) zEn.eq_1
def zBQ:=And.intro (show tyF 50=some zzR from rfl) zzR.eq_1
def zvw:=And.intro (show tyF 52=some zzT from rfl) zzT.eq_1
def zC5:=And.intro (show tyF 57=some zEo from rfl) zEo.eq_1
def zyK:=And.intro (show tyF 59=some zzS from rfl) zzS.eq_1
def zph:=And.intro (show tyF 70=some zEp from rfl) zEp.eq_1
def zGh:=And.intro (show tyF 72=some zEq from rfl) zEq.eq_1
def zGi:=And.intro (show tyF 77=some zEr from rfl) zEr.eq_1
def zGj:=And.intro (show tyF 79=some zzQ from rfl) zzQ.eq_1
def zGk:=And.intro (show tyF 82=some zEs from rfl) zEs.eq_1
def zEA:=And.intro (show tyF 85=some ze3 from rfl) ze3.eq_1
def zBR:=And.intro (show tyF 87=some zEt from rfl) zEt.eq_1
def zGl:=And.intro (show tyF 91=some zEu from rfl) zEu.eq_1
def zGm:=And.intro (show tyF 93=some zEv from rfl) zEv.eq_1
def zC6:=And.intro (show tyF 95=some ze3 from rfl) ze3.eq_1
def zGn:=And.intro (show tyF 97=some zEw from rfl) zEw.eq_1
def zBS:=And.intro (show tyF 102=some zEi from rfl) zEi.eq_1
def zEB:=And.intro (show tyF 113=some zyy from rfl) zyy.eq_1
def zyL:=And.intro (show tyF 115=some zyz from rfl) zyz.eq_1
def zBT:=And.intro (show tyF 117=some ze3 from rfl) ze3.eq_1
def zBU:=And.intro (show tyF 118=some ze3 from rfl) ze3.eq_1
def zfW:=And.intro (show tyF 126=some zyA from rfl) zyA.eq_1
def zdH:=And.intro (show tyF 128=some zyB from rfl) zyB.eq_1
def zja:=And.intro (show tyF 130=some zyC from rfl) zyC.eq_1
def zfg:=And.intro (show tyF 140=some zyD from rfl) zyD.eq_1
def zhn:=And.intro (show tyF 144=some zyE from rfl) zyE.eq_1
def zyM:=And.intro (show tyF 147=some zyF from rfl) zyF.eq_1
def zBV:=And.intro (show tyF 153=some ze3 from rfl) ze3.eq_1
def zBW:=And.intro (show tyF 161=some ze3 from rfl) ze3.eq_1
def zfh:=And.intro (show tyF 169=some zyG from rfl) zyG.eq_1
def zjb:=And.intro (show tyF 172=some ze3 from rfl) ze3.eq_1
def zvx:=And.intro (show tyF 198=some ze3 from rfl) ze3.eq_1
def zBX:=And.intro (show tyF 213=some zyH from rfl) zyH.eq_1
def zho:=And.intro (show tyF 215=some ze3 from rfl) ze3.eq_1
def zmK:=And.intro (show tyF 217=some zzT from rfl) zzT.eq_1
def zEC:=And.intro (show tyF 220=some ze3 from rfl) ze3.eq_1
def zED:=And.intro (show tyF 221=some ze3 from rfl) ze3.eq_1
def zEE:=And.intro (show tyF 237=some ze3 from rfl) ze3.eq_1
def zEF:=And.intro (show tyF 238=some zyI from rfl) zyI.eq_1
def zEG:=And.intro (show tyF 239=some zyJ from rfl) zyJ.eq_1
def tyS:=And.intro @zBO<|And.intro @zvt<|And.intro @zvu<|And.intro @zBP<|And.intro zHH<|And.intro zHI<|And.intro zHJ<|And.intro zHK<|And.intro zEx<|zEy
def tq6:=And.intro tyS<|And.intro tx3<|And.intro tx4<|And.intro tx9<|And.intro zC4<|And.intro zEz<|And.intro zvv<|And.intro zmJ<|And.intro zrv<|zvw
def tq8:=And.intro tyS<|And.intro tx3<|And.intro tx9<|And.intro zvv<|And.intro zmJ<|And.intro zrv<|And.intro zgE<|And.intro zBQ<|And.intro zvw<|zyK
def zjc:=And.intro tyS<|And.intro tx3<|And.intro tx4<|And.intro tx9<|And.intro zEz<|And.intro zvv<|And.intro zmJ<|And.intro zrv<|zlv
def zHM:=And.intro tyS<|And.intro tx3<|And.intro tx9<|And.intro zvv<|And.intro zmJ<|zvw
def zGo:=And.intro tyS<|tx3
def zEH:=And.intro tyS<|And.intro tx3<|And.intro tx9<|zGh
def zC7:=And.intro tyS<|And.intro tx3<|And.intro tx9<|zph
def zqE:=And.intro tyS<|And.intro tx3<|And.intro tx9<|And.intro zEz<|And.intro zvv<|And.intro zmJ<|And.intro zrv<|And.intro zlv<|And.intro zGi<|zGk
def zEI:=And.intro tyS<|And.intro tx3<|And.intro tx9<|And.intro zvv<|And.intro zmJ<|And.intro zvw<|And.intro zph<|And.intro zEA<|zBR
def zEJ:=And.intro tyS<|And.intro tx3<|And.intro zvv<|zrv
def zqF:=And.intro tyS<|And.intro tx3<|And.intro tx4<|And.intro tx9<|And.intro zmJ<|And.intro zpg<|And.intro zgE<|And.intro zlv<|And.intro zrw<|And.intro zC5<|And.intro zyK<|And.intro zGl<|And.intro zGm<|And.intro zC6<|zGn
def zHN:=And.intro tyS<|And.intro zgE<|And.intro zC5<|zyK
def zC8:=And.intro tyS<|And.intro tx3<|And.intro tx9<|zph
def zC9:=And.intro tyS<|And.intro tx3<|And.intro tx5<|And.intro tx9<|And.intro zC4<|zBS
def zGp:=And.intro tyS<|And.intro tx3<|And.intro tx9<|And.intro zmJ<|And.intro zpg<|And.intro zgE<|And.intro zlv<|zrw
def zDa:=And.intro tyS<|tx3
def zDb:=And.intro tyS<|And.intro tx3<|And.intro tx9<|zrv
def zjd:=And.intro tyS<|And.intro tx3<|And.intro tx4<|And.intro tx9<|And.intro zvv<|And.intro zmJ<|And.intro zrv<|And.intro zlv<|And.intro zBQ<|And.intro zvw<|And.intro zyK<|zph
def zEK:=And.intro tyS<|And.intro tx3<|And.intro tx4<|And.intro zBQ<|And.intro zvw<|zyK
def zHO:=And.intro tyS<|And.intro tx3<|And.intro tx9<|And.intro zC4<|And.intro zmJ<|And.intro zlv<|zEB
def zh1:=And.intro tyS<|And.intro tx3<|And.intro tx9<|And.intro zrv<|And.intro zyL<|And.intro zBT<|zBU
def zhh:=And.intro tyS<|And.intro tx3<|And.intro tx4<|And.intro tx9<|And.intro zvv<|And.intro zmJ<|And.intro zrv<|And.intro zBQ<|And.intro zvw<|And.intro zph<|And.intro zEA<|zBR
def zyN:=And.intro tyS<|And.intro tx3<|And.intro tx4<|And.intro zpg<|And.intro zgE<|And.intro zlv<|zrw
def zDc:=And.intro tyS<|And.intro tx3<|And.intro zgE<|And.intro zC6<|zja
def zEL:=And.intro tyS<|And.intro tx3<|zC5
def zEM:=And.intro tyS<|And.intro tx3<|And.intro tx4<|And.intro tx9<|And.intro zgE<|And.intro zdH<|zja
def zDd:=And.intro tyS<|And.intro tx3<|And.intro tx5<|And.intro tx9<|zC4
def zzU:=And.intro tyS<|And.intro tx3<|And.intro tx4<|And.intro tx9<|And.intro zpg<|And.intro zgE<|And.intro zlv<|zrw
def zHP:=And.intro tyS<|And.intro tx3<|And.intro tx9<|zgE
def zBY:=And.intro tyS<|And.intro tx3<|And.intro tx5<|And.intro tx9<|zph
def zzV:=And.intro tyS<|And.intro tx3<|And.intro tx9<|zph
def zw1:=And.intro tyS<|And.intro tx3<|And.intro tx4<|And.intro tx9<|And.intro zmJ<|And.intro zlv<|zhn
def zmL:=And.intro tyS<|And.intro tx3<|And.intro tx4<|And.intro tx9<|And.intro zmJ<|And.intro zpg<|And.intro zgE<|And.intro zlv<|And.intro zrw<|And.intro zC5<|And.intro zyK<|zyM
def zh7:=And.intro tyS<|And.intro tx3<|And.intro tx4<|And.intro tx9<|And.intro zrv<|zph
def zEN:=And.intro tyS<|And.intro tx3<|And.intro tx9<|And.intro zpg<|And.intro zgE<|And.intro zlv<|And.intro zrw<|And.intro zph<|zBV
def zw2:=And.intro tyS<|And.intro tx3<|And.intro zrv<|zyL
def zw3:=And.intro tyS<|And.intro tx3<|And.intro tx9<|And.intro zph<|zBR
def zvy:=And.intro tyS<|And.intro tx3<|And.intro tx9<|And.intro zvw<|And.intro zph<|And.intro zGk<|zBR
def zrx:=And.intro tyS<|And.intro tx3<|And.intro tx4<|And.intro tx5<|And.intro tx9<|And.intro zmJ<|And.intro zlv<|And.intro zBQ<|And.intro zvw<|And.intro zyK<|And.intro zGi<|And.intro zEA<|zBR
def zhp:=And.intro tyS<|And.intro tx3<|And.intro tx4<|And.intro tx9<|And.intro zrv<|And.intro zph<|And.intro zGh<|And.intro zyL<|And.intro zBT<|zBU
def zHQ:=And.intro tyS<|And.intro tx3<|And.intro zgE<|zlv
def zHR:=And.intro tyS<|And.intro tx3<|And.intro tx4<|And.intro tx9<|zrw
def zzW:=And.intro tyS<|And.intro tx3<|And.intro tx4<|And.intro zgE<|zBW
def zzX:=And.intro tyS<|And.intro tx3<|And.intro tx4<|And.intro tx9<|And.intro zgE<|And.intro zC6<|And.intro zdH<|zja
def zEO:=And.intro tyS<|And.intro tx3<|And.intro tx4<|And.intro tx9<|And.intro zfW<|zdH
def zHS:=And.intro tyS<|And.intro tx3<|And.intro zgE<|zlv
def zyO:=And.intro tyS<|And.intro tx3<|And.intro tx4<|And.intro tx5<|tx9
def zBZ:=And.intro tyS<|And.intro tx3<|And.intro tx4<|And.intro tx9<|And.intro zgE<|And.intro zdH<|zja
def zB0:=And.intro tyS<|And.intro tx3<|And.intro tx5<|And.intro tx9<|zph
def zfX:=And.intro tyS<|And.intro tx3<|And.intro tx5<|And.intro tx9<|zBS
def zw4:=And.intro tyS<|And.intro tx3<|And.intro tx5<|And.intro tx9<|And.intro zmJ<|And.intro zfg<|zfh
def zh8:=And.intro tyS<|And.intro tx3<|And.intro tx4<|And.intro tx9<|And.intro zpg<|And.intro zgE<|And.intro zlv<|And.intro zrw<|And.intro zfg<|And.intro zhn<|zjb
def zHT:=And.intro tyS<|And.intro tx3<|zrw
def zEP:=And.intro tyS<|And.intro tx3<|And.intro tx4<|And.intro tx9<|And.intro zpg<|And.intro zgE<|And.intro zdH<|zja
def zDe:=And.intro tyS<|And.intro tx3<|And.intro tx4<|And.intro tx9<|And.intro zpg<|And.intro zgE<|And.intro zdH<|zja
def zGq:=And.intro tyS<|And.intro tx3<|And.intro zgE<|And.intro zph<|zBV
def zEQ:=And.intro tyS<|And.intro tx2<|And.intro tx3<|And.intro tx9<|zGj
def zw5:=And.intro tyS<|And.intro tx3<|And.intro tx4<|And.intro tx9<|And.intro zmJ<|And.intro zlv<|zfg
def zER:=And.intro tyS<|And.intro tx3<|And.intro zgE<|zBW
def zES:=And.intro tyS<|And.intro tx3<|And.intro tx4<|And.intro tx5<|tx9
def zHU:=And.intro tyS<|And.intro tx3<|And.intro tx4<|And.intro tx9<|And.intro zgE<|And.intro zja<|zvx
def zzY:=And.intro tyS<|And.intro tx3<|And.intro tx4<|And.intro zGl<|And.intro zGm<|zGn
def zry:=And.intro tyS<|And.intro tx3<|And.intro tx4<|And.intro tx9<|And.intro zC6<|And.intro zfW<|zdH
def zET:=And.intro tyS<|And.intro tx3<|And.intro zgE<|And.intro zdH<|zja
def zHV:=And.intro tyS<|tx5
def zw6:=And.intro tyS<|And.intro tx3<|And.intro tx5<|tx9
def zHW:=And.intro tyS<|tx5
def zvz:=And.intro tyS<|And.intro tx3<|And.intro tx4<|And.intro tx9<|And.intro zfW<|zdH
def zEU:=And.intro tyS<|And.intro tx3<|And.intro tx9<|And.intro zfW<|zdH
def zEV:=And.intro tyS<|tx5
def zmM:=And.intro tyS<|And.intro tx3<|And.intro tx4<|And.intro tx5<|And.intro tx9<|zfh
def zcs:=And.intro tyS<|And.intro tx3<|And.intro tx9<|And.intro zrw<|zjb
def zqG:=And.intro tyS<|And.intro tx3<|And.intro tx4<|And.intro tx9<|And.intro zhn<|zjb
def zqH:=And.intro tyS<|And.intro tx3<|And.intro tx4<|And.intro zfg<|And.intro zhn<|zfh
def zgk:=And.intro tyS<|And.intro tx4<|And.intro tx9<|And.intro zgE<|And.intro zhn<|zjb
def zsA:=And.intro tyS<|And.intro tx3<|And.intro tx9<|And.intro zpg<|zrw
def zvA:=And.intro tyS<|And.intro tx3<|And.intro tx4<|And.intro tx9<|And.intro zpg<|And.intro zfW<|zdH
def zqI:=And.intro tyS<|And.intro tx3<|And.intro tx4<|And.intro tx9<|And.intro zpg<|And.intro zfW<|zdH
def zob:=And.intro tyS<|And.intro tx3<|And.intro tx5<|And.intro tx9<|And.intro zmJ<|And.intro zfg<|zfh
def zlw:=And.intro tyS<|And.intro tx3<|And.intro tx4<|And.intro zpg<|And.intro zlv<|And.intro zfg<|And.intro zyM<|And.intro zho<|And.intro zmK<|And.intro zEC<|zED
def zEW:=And.intro tyS<|And.intro tx3<|And.intro zgE<|And.intro zja<|zvx
def zEX:=And.intro tyS<|tx5
def zB1:=And.intro tyS<|And.intro tx3<|And.intro tx5<|tx9
def zEY:=And.intro tyS<|tx9
def zEZ:=And.intro tyS<|tx9
def zvB:=And.intro tyS<|And.intro tx3<|And.intro tx4<|And.intro tx9<|And.intro zfW<|And.intro zdH<|zvx
def zE0:=And.intro tyS<|And.intro tx3<|And.intro tx9<|And.intro zfW<|zdH
def zyP:=And.intro tyS<|And.intro tx3<|And.intro zfW<|zdH
def zE1:=And.intro tyS<|tx3
def zvC:=And.intro tyS<|And.intro tx3<|And.intro tx5<|tx9
def zE2:=And.intro tyS<|tx5
def zyQ:=And.intro tyS<|And.intro tx3<|And.intro tx5<|tx9
def zmN:=And.intro tyS<|And.intro tx3<|And.intro tx4<|And.intro tx9<|And.intro zfg<|And.intro zhn<|And.intro zfh<|zjb
def zmO:=And.intro tyS<|And.intro tx3<|And.intro tx4<|And.intro tx9<|And.intro zfg<|And.intro zhn<|zfh
def zqJ:=And.intro tyS<|And.intro tx3<|And.intro tx4<|And.intro tx9<|And.intro zhn<|zjb
def zki:=And.intro tyS<|And.intro tx3<|And.intro tx4<|And.intro zfg<|And.intro zhn<|And.intro zfh<|zjb
def zmP:=And.intro tyS<|And.intro tx3<|And.intro tx4<|And.intro tx9<|And.intro zfg<|And.intro zhn<|zfh
def zbb:=And.intro tyS<|And.intro tx3<|And.intro tx9<|And.intro zgE<|And.intro zdH<|And.intro zja<|zjb
def zE3:=And.intro tyS<|And.intro tx3<|And.intro tx5<|tx9
def zsB:=And.intro tyS<|And.intro tx3<|And.intro tx5<|And.intro tx9<|zfh
def zqK:=And.intro tyS<|And.intro tx3<|And.intro tx4<|And.intro zHL<|And.intro zlv<|zBX
def zeZ:=And.intro tyS<|And.intro tx3<|And.intro tx9<|And.intro zpg<|And.intro zrw<|zho
def zdW:=And.intro tyS<|And.intro tx3<|And.intro tx4<|And.intro tx9<|And.intro zgE<|And.intro zlv<|And.intro zyM<|And.intro zho<|And.intro zEE<|And.intro zEF<|zEG
def zyR:=And.intro tyS<|And.intro tx3<|And.intro zfW<|And.intro zdH<|zvx
def zE4:=And.intro tyS<|tx5
def zE5:=And.intro tyS<|tx3
def zdy:=And.intro tyS<|And.intro tx3<|And.intro tx4<|And.intro tx9<|And.intro zfW<|And.intro zdH<|And.intro zfg<|And.intro zhn<|And.intro zfh<|zjb
def zyS:=And.intro tyS<|And.intro tx3<|And.intro tx5<|And.intro tx9<|And.intro zGj<|zfh
def zB2:=And.intro tyS<|And.intro tx3<|And.intro tx5<|tx9
def zvD:=And.intro tyS<|And.intro tx3<|And.intro tx9<|And.intro zho<|zmK
def zsC:=And.intro tyS<|And.intro tx3<|And.intro tx4<|And.intro tx9<|And.intro zfg<|And.intro zfh<|And.intro zho<|zmK
def zsD:=And.intro tyS<|And.intro tx3<|And.intro zfg<|And.intro zfh<|And.intro zho<|zmK
def zyT:=And.intro tyS<|And.intro tx4<|And.intro tx9<|zho
def zqL:=And.intro tyS<|And.intro tx4<|And.intro tx9<|And.intro zgE<|zho
def zB3:=And.intro tyS<|And.intro tx3<|And.intro zfg<|And.intro zfh<|And.intro zBX<|zmK
def zgF:=And.intro tyS<|And.intro tx3<|And.intro tx9<|And.intro zfW<|And.intro zdH<|And.intro zhn<|zjb
def zE6:=And.intro tyS<|And.intro tx3<|tx9
def zE7:=And.intro tyS<|tx3
def zvE:=And.intro tyS<|And.intro tx3<|And.intro tx9<|And.intro zfg<|And.intro zfh<|zmK
def zcb:=And.intro tyS<|And.intro tx3<|And.intro tx9<|And.intro zgE<|And.intro zdH<|And.intro zja<|zho
def zdp:=And.intro tyS<|And.intro tx3<|And.intro tx4<|And.intro tx9<|And.intro zfW<|And.intro zdH<|And.intro zfg<|And.intro zhn<|And.intro zfh<|zjb
def zlx:=And.intro tyS<|And.intro tx3<|And.intro zfW<|And.intro zdH<|zho
def zE8:=And.intro tyS<|tx9
def zly:=And.intro tyS<|And.intro tx9<|And.intro zfW<|And.intro zdH<|zho
def zvF:=And.intro tyS<|And.intro tx3<|And.intro tx9<|And.intro zho<|zmK
def zsE:=And.intro tyS<|And.intro tx3<|tx9
def zdX:=And.intro tyS<|And.intro tx3<|And.intro tx9<|And.intro zfW<|And.intro zdH<|And.intro zfg<|And.intro zfh<|And.intro zho<|zmK
def zE9:=And.intro tyS<|tx3
def fi6:=FI.of Tryz.func6 rfl Tryz.ntmps6 Tryz.results6
def fi8:=FI.of Tryz.func8 rfl Tryz.ntmps8 Tryz.results8
def zB4:=FI.of Tryz.func10 rfl Tryz.ntmps10 Tryz.results10
def zHX:=FI.of Tryz.func12 rfl Tryz.ntmps12 Tryz.results12
def zHY:=FI.of Tryz.func13 rfl Tryz.ntmps13 Tryz.results13
def zFa:=FI.of Tryz.func14 rfl Tryz.ntmps14 Tryz.results14
def zDf:=FI.of Tryz.func15 rfl Tryz.ntmps15 Tryz.results15
def zzZ:=FI.of Tryz.func19 rfl Tryz.ntmps19 Tryz.results19
def zFb:=FI.of Tryz.func20 rfl Tryz.ntmps20 Tryz.results20
def zHZ:=FI.of Tryz.func21 rfl Tryz.ntmps21 Tryz.results21
def zH0:=FI.of Tryz.func22 rfl Tryz.ntmps22 Tryz.results22
def zH1:=FI.of Tryz.func23 rfl Tryz.ntmps23 Tryz.results23
def zDg:=FI.of Tryz.func26 rfl Tryz.ntmps26 Tryz.results26
def zGr:=FI.of Tryz.func27 rfl Tryz.ntmps27 Tryz.results27
def zH2:=FI.of Tryz.func28 rfl Tryz.ntmps28 Tryz.results28
def zDh:=FI.of Tryz.func29 rfl Tryz.ntmps29 Tryz.results29
def zDi:=FI.of Tryz.func30 rfl Tryz.ntmps30 Tryz.results30
def zyU:=FI.of Tryz.func31 rfl Tryz.ntmps31 Tryz.results31
def zH3:=FI.of Tryz.func32 rfl Tryz.ntmps32 Tryz.results32
def zH4:=FI.of Tryz.func36 rfl Tryz.ntmps36 Tryz.results36
def zqM:=FI.of Tryz.func37 rfl Tryz.ntmps37 Tryz.results37
def zGs:=FI.of Tryz.func41 rfl Tryz.ntmps41 Tryz.results41
def zFc:=FI.of Tryz.func42 rfl Tryz.ntmps42 Tryz.results42
def zH5:=FI.of Tryz.func43 rfl Tryz.ntmps43 Tryz.results43
def zH6:=FI.of Tryz.func44 rfl Tryz.ntmps44 Tryz.results44
def zH7:=FI.of Tryz.func45 rfl Tryz.ntmps45 Tryz.results45
def zH8:=FI.of Tryz.func47 rfl Tryz.ntmps47 Tryz.results47
def zFd:=FI.of Tryz.func48 rfl Tryz.ntmps48 Tryz.results48
def zH9:=FI.of Tryz.func49 rfl Tryz.ntmps49 Tryz.results49
def zIa:=FI.of Tryz.func50 rfl Tryz.ntmps50 Tryz.results50
def zFe:=FI.of Tryz.func51 rfl Tryz.ntmps51 Tryz.results51
def zDj:=FI.of Tryz.func52 rfl Tryz.ntmps52 Tryz.results52
def zFf:=FI.of Tryz.func53 rfl Tryz.ntmps53 Tryz.results53
def zIb:=FI.of Tryz.func54 rfl Tryz.ntmps54 Tryz.results54
def zIc:=FI.of Tryz.func57 rfl Tryz.ntmps57 Tryz.results57
def zDk:=FI.of Tryz.func58 rfl Tryz.ntmps58 Tryz.results58
def zDl:=FI.of Tryz.func60 rfl Tryz.ntmps60 Tryz.results60
def zFg:=FI.of Tryz.func61 rfl Tryz.ntmps61 Tryz.results61
def zGt:=FI.of Tryz.func62 rfl Tryz.ntmps62 Tryz.results62
def zId:=FI.of Tryz.func63 rfl Tryz.ntmps63 Tryz.results63
def zIe:=FI.of Tryz.func64 rfl Tryz.ntmps64 Tryz.results64
def zIf:=FI.of Tryz.func65 rfl Tryz.ntmps65 Tryz.results65
def zGu:=FI.of Tryz.func66 rfl Tryz.ntmps66 Tryz.results66
def zFh:=FI.of Tryz.func67 rfl Tryz.ntmps67 Tryz.results67
def zIg:=FI.of Tryz.func68 rfl Tryz.ntmps68 Tryz.results68
def zIh:=FI.of Tryz.func70 rfl Tryz.ntmps70 Tryz.results70
def zIi:=FI.of Tryz.func71 rfl Tryz.ntmps71 Tryz.results71
def zGv:=FI.of Tryz.func72 rfl Tryz.ntmps72 Tryz.results72
def zIj:=FI.of Tryz.func74 rfl Tryz.ntmps74 Tryz.results74
def zFi:=FI.of Tryz.func75 rfl Tryz.ntmps75 Tryz.results75
def zIk:=FI.of Tryz.func76 rfl Tryz.ntmps76 Tryz.results76
def zGw:=FI.of Tryz.func77 rfl Tryz.ntmps77 Tryz.results77
def zIl:=FI.of Tryz.func78 rfl Tryz.ntmps78 Tryz.results78
def zIm:=FI.of Tryz.func79 rfl Tryz.ntmps79 Tryz.results79
def zIn:=FI.of Tryz.func80 rfl Tryz.ntmps80 Tryz.results80
def zIo:=FI.of Tryz.func84 rfl Tryz.ntmps84 Tryz.results84
def zFj:=FI.of Tryz.func88 rfl Tryz.ntmps88 Tryz.results88
def zDm:=FI.of Tryz.func90 rfl Tryz.ntmps90 Tryz.results90
def zIp:=FI.of Tryz.func91 rfl Tryz.ntmps91 Tryz.results91
def zIq:=FI.of Tryz.func92 rfl Tryz.ntmps92 Tryz.results92
def zIr:=FI.of Tryz.func93 rfl Tryz.ntmps93 Tryz.results93
def zFk:=FI.of Tryz.func94 rfl Tryz.ntmps94 Tryz.results94
def zFl:=FI.of Tryz.func95 rfl Tryz.ntmps95 Tryz.results95
def zIs:=FI.of Tryz.func96 rfl Tryz.ntmps96 Tryz.results96
def zIt:=FI.of Tryz.func97 rfl Tryz.ntmps97 Tryz.results97
def zIu:=FI.of Tryz.func98 rfl Tryz.ntmps98 Tryz.results98
def zIv:=FI.of Tryz.func99 rfl Tryz.ntmps99 Tryz.results99
def zFm:=FI.of Tryz.func100 rfl Tryz.ntmps100 Tryz.results100
def zFn:=FI.of Tryz.func101 rfl Tryz.ntmps101 Tryz.results101
def zFo:=FI.of Tryz.func103 rfl Tryz.ntmps103 Tryz.results103
def zFp:=FI.of Tryz.func104 rfl Tryz.ntmps104 Tryz.results104
def zfY:=FI.of Tryz.func105 rfl Tryz.ntmps105 Tryz.results105
def zyV:=FI.of Tryz.func106 rfl Tryz.ntmps106 Tryz.results106
def zB5:=FI.of Tryz.func107 rfl Tryz.ntmps107 Tryz.results107
def zvG:=FI.of Tryz.func108 rfl Tryz.ntmps108 Tryz.results108
def zFq:=FI.of Tryz.func109 rfl Tryz.ntmps109 Tryz.results109
def zFr:=FI.of Tryz.func110 rfl Tryz.ntmps110 Tryz.results110
def zB6:=FI.of Tryz.func111 rfl Tryz.ntmps111 Tryz.results111
def zFs:=FI.of Tryz.func123 rfl Tryz.ntmps123 Tryz.results123
def zFt:=FI.of Tryz.func125 rfl Tryz.ntmps125 Tryz.results125
def zFu:=FI.of Tryz.func126 rfl Tryz.ntmps126 Tryz.results126
def zFv:=FI.of Tryz.func127 rfl Tryz.ntmps127 Tryz.results127
def zFw:=FI.of Tryz.func128 rfl Tryz.ntmps128 Tryz.results128
def zFx:=FI.of Tryz.func129 rfl Tryz.ntmps129 Tryz.results129
def zFy:=FI.of Tryz.func130 rfl Tryz.ntmps130 Tryz.results130
def zFz:=FI.of Tryz.func131 rfl Tryz.ntmps131 Tryz.results131
def zFA:=FI.of Tryz.func132 rfl Tryz.ntmps132 Tryz.results132
def zFB:=FI.of Tryz.func133 rfl Tryz.ntmps133 Tryz.results133
def zFC:=FI.of Tryz.func136 rfl Tryz.ntmps136 Tryz.results136
def zFD:=FI.of Tryz.func137 rfl Tryz.ntmps137 Tryz.results137
def zFE:=FI.of Tryz.func138 rfl Tryz.ntmps138 Tryz.results138
def zB7:=FI.of Tryz.func139 rfl Tryz.ntmps139 Tryz.results139
def zB8:=FI.of Tryz.func140 rfl Tryz.ntmps140 Tryz.results140
def zyW:=FI.of Tryz.func141 rfl Tryz.ntmps141 Tryz.results141
def zyX:=FI.of Tryz.func142 rfl Tryz.ntmps142 Tryz.results142
def zB9:=FI.of Tryz.func143 rfl Tryz.ntmps143 Tryz.results143
def zcQ:=FI.of Tryz.func144 rfl Tryz.ntmps144 Tryz.results144
def zFF:=FI.of Tryz.func159 rfl Tryz.ntmps159 Tryz.results159
def zFG:=FI.of Tryz.func160 rfl Tryz.ntmps160 Tryz.results160
def zFH:=FI.of Tryz.func162 rfl Tryz.ntmps162 Tryz.results162
def zCa:=FI.of Tryz.func163 rfl Tryz.ntmps163 Tryz.results163
def zFI:=FI.of Tryz.func164 rfl Tryz.ntmps164 Tryz.results164
def zFJ:=FI.of Tryz.func165 rfl Tryz.ntmps165 Tryz.results165
def zFK:=FI.of Tryz.func166 rfl Tryz.ntmps166 Tryz.results166
def zoc:=FI.of Tryz.func167 rfl Tryz.ntmps167 Tryz.results167
def zFL:=FI.of Tryz.func180 rfl Tryz.ntmps180 Tryz.results180
def zFM:=FI.of Tryz.func181 rfl Tryz.ntmps181 Tryz.results181
def zCb:=FI.of Tryz.func182 rfl Tryz.ntmps182 Tryz.results182
def zCc:=FI.of Tryz.func183 rfl Tryz.ntmps183 Tryz.results183
def zCd:=FI.of Tryz.func184 rfl Tryz.ntmps184 Tryz.results184
def zCe:=FI.of Tryz.func185 rfl Tryz.ntmps185 Tryz.results185
def zCf:=FI.of Tryz.func186 rfl Tryz.ntmps186 Tryz.results186
def zFN:=FI.of Tryz.func187 rfl Tryz.ntmps187 Tryz.results187
def zod:=FI.of Tryz.func188 rfl Tryz.ntmps188 Tryz.results188
def zFO:=FI.of Tryz.func189 rfl Tryz.ntmps189 Tryz.results189
def zFP:=FI.of Tryz.func190 rfl Tryz.ntmps190 Tryz.results190
def zFQ:=FI.of Tryz.func196 rfl Tryz.ntmps196 Tryz.results196
def zcR:=FI.of Tryz.func197 rfl Tryz.ntmps197 Tryz.results197
def zhq:=FI.of Tryz.func198 rfl Tryz.ntmps198 Tryz.results198
def zvH:=FI.of Tryz.func199 rfl Tryz.ntmps199 Tryz.results199
def zFR:=FI.of Tryz.func200 rfl Tryz.ntmps200 Tryz.results200
def zqN:=FI.of Tryz.func201 rfl Tryz.ntmps201 Tryz.results201
def zFS:=FI.of Tryz.func202 rfl Tryz.ntmps202 Tryz.results202
def zFT:=FI.of Tryz.func203 rfl Tryz.ntmps203 Tryz.results203
def zgG:=FI.of Tryz.func204 rfl Tryz.ntmps204 Tryz.results204
def zFU:=FI.of Tryz.func205 rfl Tryz.ntmps205 Tryz.results205
def zyY:=zag 8 Tryz.func8 (by kernel_rfl)
def zvI:=zag 10 Tryz.func10 (by kernel_rfl)
def zvJ:=zag 12 Tryz.func12 (by kernel_rfl)
def zh9:=zag 13 Tryz.func13 (by kernel_rfl)
def zcm:=zag 14 Tryz.func14 (by kernel_rfl)
def zaB:=zag 15 Tryz.func15 (by kernel_rfl)
def zvK:=zag 19 Tryz.func19 (by kernel_rfl)
def zlz:=zag 20 Tryz.func20 (by kernel_rfl)
def zvL:=zag 21 Tryz.func21 (by kernel_rfl)
def zpi:=zag 22 Tryz.func22 (by kernel_rfl)
def zvM:=zag 23 Tryz.func23 (by kernel_rfl)
def zeD:=zag 26 Tryz.func26 (by kernel_rfl)
def zgH:=zag 27 Tryz.func27 (by kernel_rfl)
def zpj:=zag 28 Tryz.func28 (by kernel_rfl)
def zaH:=zag 29 Tryz.func29 (by kernel_rfl)
def zbn:=zag 30 Tryz.func30 (by kernel_rfl)
def zvN:=zag 31 Tryz.func31 (by kernel_rfl)
def zvO:=zag 32 Tryz.func32 (by kernel_rfl)
def zgI:=zag 34 Tryz.func34 (by kernel_rfl)
def zcS:=zag 35 Tryz.func35 (by kernel_rfl)
def zpk:=zag 36 Tryz.func36 (by kernel_rfl)
def zpl:=zag 37 Tryz.func37 (by kernel_rfl)
def zpm:=zag 38 Tryz.func38 (by kernel_rfl)
def zia:=zag 39 Tryz.func39 (by kernel_rfl)
def zfC:=zag 40 Tryz.func40 (by kernel_rfl)
def zpn:=zag 41 Tryz.func41 (by kernel_rfl)
def zib:=zag 42 Tryz.func42 (by kernel_rfl)
def zbA:=zag 43 Tryz.func43 (by kernel_rfl)
def zvP:=zag 44 Tryz.func44 (by kernel_rfl)
def zfD:=zag 45 Tryz.func45 (by kernel_rfl)
def zvQ:=zag 47 Tryz.func47 (by kernel_rfl)
def zic:=zag 48 Tryz.func48 (by kernel_rfl)
def zid:=zag 49 Tryz.func49 (by kernel_rfl)
def zfE:=zag 50 Tryz.func50 (by kernel_rfl)
def zie:=zag 51 Tryz.func51 (by kernel_rfl)
def zlA:=zag 52 Tryz.func52 (by kernel_rfl)
def zpo:=zag 53 Tryz.func53 (by kernel_rfl)
def zif:=zag 54 Tryz.func54 (by kernel_rfl)
def zvR:=zag 57 Tryz.func57 (by kernel_rfl)
def zaV:=zag 58 Tryz.func58 (by kernel_rfl)
def zbo:=zag 60 Tryz.func60 (by kernel_rfl)
def zpp:=zag 61 Tryz.func61 (by kernel_rfl)
def zig:=zag 62 Tryz.func62 (by kernel_rfl)
def zih:=zag 63 Tryz.func63 (by kernel_rfl)
def zgJ:=zag 64 Tryz.func64 (by kernel_rfl)
def zpq:=zag 65 Tryz.func65 (by kernel_rfl)
def zeE:=zag 66 Tryz.func66 (by kernel_rfl)
def zvS:=zag 67 Tryz.func67 (by kernel_rfl)
def zlB:=zag 68 Tryz.func68 (by kernel_rfl)
def zgK:=zag 70 Tryz.func70 (by kernel_rfl)
def zfF:=zag 71 Tryz.func71 (by kernel_rfl)
def zeF:=zag 72 Tryz.func72 (by kernel_rfl)
def zii:=zag 74 Tryz.func74 (by kernel_rfl)
def zbB:=zag 75 Tryz.func75 (by kernel_rfl)
def zij:=zag 76 Tryz.func76 (by kernel_rfl)
def zlC:=zag 77 Tryz.func77 (by kernel_rfl)
def zik:=zag 78 Tryz.func78 (by kernel_rfl)
def zb6:=zag 79 Tryz.func79 (by kernel_rfl)
def zcA:=zag 80 Tryz.func80 (by kernel_rfl)
def zil:=zag 84 Tryz.func84 (by kernel_rfl)
def zdn:=zag 88 Tryz.func88 (by kernel_rfl)
def zvT:=zag 89 Tryz.func89 (by kernel_rfl)
def zlD:=zag 90 Tryz.func90 (by kernel_rfl)
def zfG:=zag 91 Tryz.func91 (by kernel_rfl)
def zgL:=zag 92 Tryz.func92 (by kernel_rfl)
def zpr:=zag 93 Tryz.func93 (by kernel_rfl)
def zim:=zag 94 Tryz.func94 (by kernel_rfl)
def zdI:=zag 95 Tryz.func95 (by kernel_rfl)
def zfH:=zag 96 Tryz.func96 (by kernel_rfl)
def zcT:=zag 97 Tryz.func97 (by kernel_rfl)
def zps:=zag 98 Tryz.func98 (by kernel_rfl)
def zec:=zag 99 Tryz.func99 (by kernel_rfl)
def zgM:=zag 100 Tryz.func100 (by kernel_rfl)
def zsF:=zag 101 Tryz.func101 (by kernel_rfl)
def zgN:=zag 103 Tryz.func103 (by kernel_rfl)
def zmQ:=zag 104 Tryz.func104 (by kernel_rfl)
def zgO:=zag 105 Tryz.func105 (by kernel_rfl)
def zab:=zag 106 Tryz.func106 (by kernel_rfl)
def zbH:=zag 107 Tryz.func107 (by kernel_rfl)
def za5:=zag 108 Tryz.func108 (by kernel_rfl)
def zgP:=zag 109 Tryz.func109 (by kernel_rfl)
def zgQ:=zag 110 Tryz.func110 (by kernel_rfl)
def zes:=zag 111 Tryz.func111 (by kernel_rfl)
def zfi:=zag 121 Tryz.func121 (by kernel_rfl)
def zmR:=zag 122 Tryz.func122 (by kernel_rfl)
def zgR:=zag 123 Tryz.func123 (by kernel_rfl)
def zje:=zag 124 Tryz.func124 (by kernel_rfl)
def zsG:=zag 125 Tryz.func125 (by kernel_rfl)
def zdY:=zag 126 Tryz.func126 (by kernel_rfl)
def zfj:=zag 127 Tryz.func127 (by kernel_rfl)
def zsH:=zag 128 Tryz.func128 (by kernel_rfl)
def zmS:=zag 129 Tryz.func129 (by kernel_rfl)
def zgS:=zag 130 Tryz.func130 (by kernel_rfl)
def zsI:=zag 131 Tryz.func131 (by kernel_rfl)
def zjf:=zag 132 Tryz.func132 (by kernel_rfl)
def zsJ:=zag 133 Tryz.func133 (by kernel_rfl)
def zmT:=zag 136 Tryz.func136 (by kernel_rfl)
def zsK:=zag 137 Tryz.func137 (by kernel_rfl)
def zmU:=zag 138 Tryz.func138 (by kernel_rfl)
def zaG:=zag 139 Tryz.func139 (by kernel_rfl)
def zal:=zag 140 Tryz.func140 (by kernel_rfl)
def zae:=zag 141 Tryz.func141 (by kernel_rfl)
def zb2:=zag 142 Tryz.func142 (by kernel_rfl)
def zjg:=zag 143 Tryz.func143 (by kernel_rfl)
def zjh:=zag 144 Tryz.func144 (by kernel_rfl)
def zsL:=zag 159 Tryz.func159 (by kernel_rfl)
def zmV:=zag 160 Tryz.func160 (by kernel_rfl)
def zsM:=zag 161 Tryz.func161 (by kernel_rfl)
def zmW:=zag 162 Tryz.func162 (by kernel_rfl)
def zmX:=zag 163 Tryz.func163 (by kernel_rfl)
def zji:=zag 164 Tryz.func164 (by kernel_rfl)
def zet:=zag 165 Tryz.func165 (by kernel_rfl)
def zsN:=zag 166 Tryz.func166 (by kernel_rfl)
def zak:=zag 167 Tryz.func167 (by kernel_rfl)
def zsO:=zag 179 Tryz.func179 (by kernel_rfl)
def zsP:=zag 180 Tryz.func180 (by kernel_rfl)
def zmY:=zag 181 Tryz.func181 (by kernel_rfl)
def zaa:=zag 182 Tryz.func182 (by kernel_rfl)
def zaD:=zag 183 Tryz.func183 (by kernel_rfl)
def zb3:=zag 184 Tryz.func184 (by kernel_rfl)
def zam:=zag 185 Tryz.func185 (by kernel_rfl)
def zbg:=zag 186 Tryz.func186 (by kernel_rfl)
def zdq:=zag 187 Tryz.func187 (by kernel_rfl)
def zdZ:=zag 188 Tryz.func188 (by kernel_rfl)
def zgT:=zag 189 Tryz.func189 (by kernel_rfl)
def zjj:=zag 190 Tryz.func190 (by kernel_rfl)
def zgU:=zag 196 Tryz.func196 (by kernel_rfl)
def zmZ:=zag 197 Tryz.func197 (by kernel_rfl)
def zjk:=zag 198 Tryz.func198 (by kernel_rfl)
def zas:=zag 199 Tryz.func199 (by kernel_rfl)
def zeu:=zag 200 Tryz.func200 (by kernel_rfl)
def zev:=zag 201 Tryz.func201 (by kernel_rfl)
def zm0:=zag 202 Tryz.func202 (by kernel_rfl)
def zm1:=zag 203 Tryz.func203 (by kernel_rfl)
def zm2:=zag 204 Tryz.func204 (by kernel_rfl)
def zjl:=zag 205 Tryz.func205 (by kernel_rfl)
theorem zap {f:FuncId} {code:Code} (site:Nat→Nat) (nobj:Nat) {n:Nat} {rs:List ResultVar} (hF:FI Tryz.prog f code n rs) {args:List AVal} {res:AVal}
  (h:VC Tryz.prog (zbs site nobj) 0 code ⟨args++List.replicate (n - args.length) .junk,List.replicate nobj none⟩ (RQ (zbs site nobj) rs res)) (hargs:args.length≤n:=by simp) :
  AC Tryz.prog gl f args [] res []:=by
 obtain ⟨fn,hf,hb,rfl,hrs⟩:=hF
 obtain rfl:fn.results.toList=rs:=by rw [hrs]
 exact AC.of_vc (env:=zbs site nobj) (zcl _ _) mixed hf hb hargs h
theorem zax {f:FuncId} {code:Code} (site:Nat→Nat) (nobj:Nat) {n:Nat} {rs:List ResultVar} (hF:FI Tryz.prog f code n rs) {args:List AVal} {objs:List (Option AObj)} {res:AVal} {objs':List (Option AObj)}
  (h:VC Tryz.prog (zbs site nobj) objs.length code ⟨args++List.replicate (n - args.length) .junk,objs++List.replicate (nobj - objs.length) none⟩ (zay (zbs site nobj) objs.length rs res objs')) (hargs:args.length≤n:=by simp) (hobjs:objs.length≤nobj:=by simp) :
  AC Tryz.prog gl f args objs res objs':=by
 obtain ⟨fn,hf,hb,rfl,hrs⟩:=hF
 obtain rfl:fn.results.toList=rs:=by rw [hrs]
 exact AC.of_body (env:=zbs site nobj) (zcl _ _) hf hb hargs hobjs (VC.to (zcl _ _) mixed code h)
theorem zbw {f:FuncId} {code:Code} (site:Nat→Nat) (nobj:Nat) {n:Nat} {rs:List ResultVar} (hF:FI Tryz.prog f code n rs) {args:List AVal} {objs:List (Option AObj)} {res:AVal} {objs':List (Option AObj)}
  (h:VC Tryz.prog (zbs site nobj) objs.length code ⟨args++List.replicate (n - args.length) .junk,objs++List.replicate (nobj - objs.length) none⟩ (zys (zbs site nobj) objs.length (zay (zbs site nobj) objs.length rs res objs'))) (hargs:args.length≤n:=by simp) (hobjs:objs.length≤nobj:=by simp) :
  AC Tryz.prog gl f args objs res objs':=by
 obtain ⟨fn,hf,hb,rfl,hrs⟩:=hF
 obtain rfl:fn.results.toList=rs:=by rw [hrs]
 exact AC.of_body (env:=zbs site nobj) (zcl _ _) hf hb hargs hobjs (SW.weakEnd (VC.to (zcl _ _) mixed code h))
theorem zbO {f:FuncId} {code:Code} (site:Nat→Nat) (nobj:Nat) {n:Nat} {rs:List ResultVar} (hF:FI Tryz.prog f code n rs) {args:List AVal} {objs:List (Option AObj)} {x:Value} {objs':List (Option AObj)}
  (h:VC Tryz.prog (zbs site nobj) objs.length code ⟨args++List.replicate (n - args.length) .junk,objs++List.replicate (nobj - objs.length) none⟩ (zci objs.length x objs')) (hargs:args.length≤n:=by simp) (hobjs:objs.length≤nobj:=by simp) :
  AP Tryz.prog gl f args objs x objs':=by
 obtain ⟨fn,hf,hb,rfl,hrs⟩:=hF
 exact AP.of_body (env:=zbs site nobj) (zcl _ _) hf hb hargs hobjs (VC.to (zcl _ _) mixed code h)
theorem zaI {site:Nat→Nat} {nobj pin:Nat} {σ:St} {Q:Exit→St→Prop} {ι:Type} {c:Code} {t:Tg (Code.loop c,Q)} (I:ι→St) (μ:ι→Nat) (i0:ι) (h0:za0 (zbs site nobj) pin σ (I i0))
  (round:∀ i,VC Tryz.prog (zbs site nobj) pin c (I i) (zeY (NX (zbs site nobj) pin I μ .mk (μ i)) Q)):LW Tryz.prog (zbs site nobj) pin (.loop c) σ Q t:=
 LW.loop (zcl _ _) mixed I μ i0 h0 round
theorem loopS {site:Nat→Nat} {nobj pin:Nat} {σ:St} {Q:Exit→St→Prop} {ι:Type} {c:Code} {t:Tg (Code.loop c,Q)} (I:ι→St) (μ:ι→Nat) (i0:ι) (h0:za0 (zbs site nobj) pin σ (I i0))
  (round:∀ i,SW Tryz.prog (zbs site nobj) pin c (I i) (zeY (NX (zbs site nobj) pin I μ .mk (μ i)) Q)):LW Tryz.prog (zbs site nobj) pin (.loop c) σ Q t:=
 LW.loopS I μ i0 h0 round
theorem toV {site:Nat→Nat} {nobj pin:Nat} {σ:St} {Q:Exit→St→Prop} {c:Code} (h:VC Tryz.prog (zbs site nobj) pin c σ Q):SW Tryz.prog (zbs site nobj) pin c σ Q:=VC.to (zcl _ _) mixed c h
end Go.Proofs.YtfinhhblcdkpgaaGreatDoor
