/- The table of types of the program, held against the program. No condition. -/
import Derived.Test.YtfinhhblcdkpgaaGreatDoorProg
import Derived.KernelRfl
import Derived.Test.YtfinhhblcdkpgaaGreatDoorLib3
set_option maxRecDepth 100000
set_option maxHeartbeats 64000000
set_option linter.unusedSimpArgs false
set_option linter.unusedVariables false
set_option linter.defProp false
namespace Go.Proofs.YtfinhhblcdkpgaaGreatDoor
open Go Go.Abs
def ty2:Ty:={ size:=1,bytes:=8,zero:=some [.pv (.int .i64 0)],kind:=.int .i64 }
def ty4:Ty:={ size:=1,bytes:=1,zero:=some [.pv (.bool false)],kind:=.bool }
def ty5:Ty:={ size:=1,bytes:=1,zero:=some [.pv (.int .u8 0)],kind:=.int .u8 }
def ty9:Ty:={ size:=1,bytes:=16,zero:=some [.pv (.str [])],kind:=.string }
def zFT:Ty:={ size:=1,bytes:=8,zero:=some [.pv (.int .u64 0)],kind:=.int .u64 }
def zfi:Ty:={ size:=1,bytes:=8,zero:=some [.pv .nilptr] }
def zBf:Ty:={ size:=1,bytes:=16,zero:=some [.pv (.err true)],kind:=.iface }
def zFU:Ty:={ size:=1,bytes:=24,zero:=some [.snil],eSize:=1,eBytes:=1,eZero:=true,kKind:=.int .u8,eZV:=some (false,[.int .u8 0]),kind:=.slice }
def zBg:Ty:={ size:=1,bytes:=24,zero:=some [.snil],eSize:=5,eBytes:=120,eZero:=true,eZV:=some (true,[.slice [],.slice [],.slice [],.slice [],.slice []]),kind:=.slice }
def zFV:Ty:={ size:=1,bytes:=24,zero:=some [.snil],eSize:=4,eBytes:=32,eZero:=true,eZV:=some (true,[.int .i64 0,.int .i64 0,.int .i64 0,.int .i64 0]),kind:=.slice }
def zFW:Ty:={ size:=4,bytes:=32,agg:=true,zero:=some [.pv (.int .i64 0),.pv (.int .i64 0),.pv (.int .i64 0),.pv (.int .i64 0)],fields:=[(0,1),(1,1),(2,1),(3,1)],kind:=.struct,eqs:=some [.int .i64,.int .i64,.int .i64,.int .i64] }
def zFX:Ty:={ size:=1,bytes:=24,zero:=some [.snil],eSize:=3,eBytes:=32,eZero:=true,eZV:=some (true,[.str [],.int .i64 0,.int .i64 0]),kind:=.slice }
def zFY:Ty:={ size:=1,bytes:=24,zero:=some [.snil],eSize:=18,eBytes:=232,eZero:=true,eZV:=some (true,[.int .i64 0,.str [],.int .i64 0,.int .i64 0,.int .i64 0,.int .i64 0,.str [],.int .i64 0,.int .i64 0,.slice [],.int .i64 0,.int .i64 0,.str [],.int .i64 0,.int .i64 0,.slice [],.slice [],.slice []]),kind:=.slice }
def zBh:Ty:={ size:=5,bytes:=120,agg:=true,zero:=some [.snil,.snil,.snil,.snil,.snil],fields:=[(0,1),(1,1),(2,1),(3,1),(4,1)],kind:=.struct }
def zFZ:Ty:={ size:=3,bytes:=32,agg:=true,zero:=some [.pv (.str []),.pv (.int .i64 0),.pv (.int .i64 0)],fields:=[(0,1),(1,1),(2,1)],kind:=.struct,eqs:=some [.string,.int .i64,.int .i64] }
def zBi:Ty:={ size:=3,bytes:=40,agg:=true,zero:=some [.snil,.pv (.int .i64 0),.pv (.int .i64 0)],fields:=[(0,1),(1,1),(2,1)],kind:=.struct }
def zF0:Ty:={ size:=1,bytes:=24,zero:=some [.snil],eSize:=1,eBytes:=8,eZero:=true,kKind:=.int .i64,eZV:=some (false,[.int .i64 0]),kind:=.slice }
def zF1:Ty:={ size:=1,bytes:=24,zero:=some [.snil],eSize:=1,eBytes:=16,eZero:=true,kKind:=.string,eZV:=some (false,[.str []]),kind:=.slice }
def zF2:Ty:={ size:=15,bytes:=240,agg:=true,zero:=some [.pv (.str []),.pv (.str []),.pv (.str []),.pv (.str []),.pv (.str []),.pv (.str []),.pv (.str []),.pv (.str []),.pv (.str []),.pv (.str []),.pv (.str []),.pv (.str []),.pv (.str []),.pv (.str []),.pv (.str [])],eSize:=1,eBytes:=16,eZero:=true,kKind:=.string,kind:=.array 15 }
def zF3:Ty:={ size:=2,bytes:=32,agg:=true,zero:=some [.snil,.pv (.int .i64 0)],fields:=[(0,1),(1,1)],kind:=.struct }
def zF4:Ty:={ size:=2,bytes:=32,agg:=true,zero:=some [.pv .nilptr,.snil],fields:=[(0,1),(1,1)],kind:=.struct,bld:=some 5 }
def zF5:Ty:={ size:=9,bytes:=144,agg:=true,zero:=some [.pv (.str []),.pv (.str []),.pv (.str []),.pv (.str []),.pv (.str []),.pv (.str []),.pv (.str []),.pv (.str []),.pv (.str [])],eSize:=1,eBytes:=16,eZero:=true,kKind:=.string,kind:=.array 9 }
def zF6:Ty:={ size:=7,bytes:=104,agg:=true,zero:=some [.snil,.pv (.bool false),.pv (.int .i64 0),.snil,.pv (.int .i64 0),.pv (.int .i64 0),.snil],fields:=[(0,1),(1,1),(2,1),(3,3),(6,1)],kind:=.struct }
def zF7:Ty:={ size:=1,bytes:=8,zero:=some [.pv .nilmap],kKind:=.string,eZV:=some (true,[.int .i64 0,.int .i64 0]),kind:=.map }
def zF8:Ty:={ size:=2,bytes:=16,agg:=true,zero:=some [.pv (.int .i64 0),.pv (.int .i64 0)],fields:=[(0,1),(1,1)],kind:=.struct,eqs:=some [.int .i64,.int .i64] }
def zF9:Ty:={ size:=3,bytes:=16,agg:=true,zero:=some [.pv .nilmap,.pv (.bool false),.pv (.bool false)],fields:=[(0,1),(1,1),(2,1)],kind:=.struct }
def zzN:Ty:={ size:=1,bytes:=24,zero:=some [.snil],eSize:=1,eBytes:=8,eZero:=true,eZV:=some (false,[.nilptr]),kind:=.slice }
def zzO:Ty:={ size:=1,bytes:=24,zero:=some [.snil],eSize:=6,eBytes:=72,eZero:=true,eZV:=some (true,[.int .i64 0,.int .i64 0,.str [],.int .i64 0,.int .i64 0,.slice []]),kind:=.slice }
def zzP:Ty:={ size:=6,bytes:=72,agg:=true,zero:=some [.pv (.int .i64 0),.pv (.int .i64 0),.pv (.str []),.pv (.int .i64 0),.pv (.int .i64 0),.snil],fields:=[(0,1),(1,1),(2,1),(3,1),(4,1),(5,1)],kind:=.struct }
def zzQ:Ty:={ size:=18,bytes:=232,agg:=true,zero:=some [.pv (.int .i64 0),.pv (.str []),.pv (.int .i64 0),.pv (.int .i64 0),.pv (.int .i64 0),.pv (.int .i64 0),.pv (.str []),.pv (.int .i64 0),.pv (.int .i64 0),.snil,.pv (.int .i64 0),.pv (.int .i64 0),.pv (.str []),.pv (.int .i64 0),.pv (.int .i64 0),.snil,.snil,.snil],fields:=[(0,1),(1,1),(2,1),(3,1),(4,6),(10,6),(16,1),(17,1)],kind:=.struct }
def zzR:Ty:={ size:=3,bytes:=48,agg:=true,zero:=some [.pv (.str []),.pv (.str []),.pv (.str [])],eSize:=1,eBytes:=16,eZero:=true,kKind:=.string,kind:=.array 3 }
def zzS:Ty:={ size:=2,bytes:=32,agg:=true,zero:=some [.pv (.str []),.pv (.str [])],eSize:=1,eBytes:=16,eZero:=true,kKind:=.string,kind:=.array 2 }
def zzT:Ty:={ size:=1,bytes:=24,zero:=some [.snil],eSize:=4,eBytes:=40,eZero:=true,eZV:=some (true,[.int .i64 0,.str [],.int .i64 0,.int .i64 0]),kind:=.slice }
def zzU:Ty:={ size:=5,bytes:=56,agg:=true,zero:=some [.snil,.pv (.int .i64 0),.pv (.int .i64 0),.pv (.int .i64 0),.pv (.bool false)],fields:=[(0,1),(1,1),(2,1),(3,1),(4,1)],kind:=.struct }
def zzV:Ty:={ size:=4,bytes:=4,agg:=true,zero:=some [.pv (.bool false),.pv (.bool false),.pv (.bool false),.pv (.bool false)],eSize:=1,eBytes:=1,eZero:=true,kKind:=.bool,kind:=.array 4 }
def zzW:Ty:={ size:=4,bytes:=40,agg:=true,zero:=some [.pv (.int .i64 0),.pv (.str []),.pv (.int .i64 0),.pv (.int .i64 0)],fields:=[(0,1),(1,1),(2,1),(3,1)],kind:=.struct,eqs:=some [.int .i64,.string,.int .i64,.int .i64] }
def zzX:Ty:={ size:=1,bytes:=8,agg:=true,zero:=some [.pv (.int .i64 0)],fields:=[(0,1)],kind:=.struct,eqs:=some [.int .i64] }
def zzY:Ty:={ size:=4,bytes:=32,agg:=true,zero:=some [.pv .nilptr,.pv .nilptr,.pv .nilptr,.pv .nilptr],eSize:=1,eBytes:=8,eZero:=true,kind:=.array 4 }
def zzZ:Ty:={ size:=4,bytes:=64,agg:=true,zero:=some [.pv (.str []),.pv (.str []),.pv (.str []),.pv (.str [])],eSize:=1,eBytes:=16,eZero:=true,kKind:=.string,kind:=.array 4 }
def tyF:Nat→Option Ty
 |2=>some ty2
 |3=>some ty2
 |4=>some ty4
 |5=>some ty5
 |9=>some ty9
 |20=>some zBf
 |22=>some zFU
 |24=>some zBg
 |25=>some zFV
 |26=>some zfi
 |29=>some ty2
 |41=>some zFW
 |42=>some zFX
 |43=>some zFY
 |45=>some zBh
 |48=>some zFZ
 |50=>some zBg
 |52=>some zBi
 |57=>some zF0
 |59=>some zBh
 |70=>some zF1
 |72=>some zF2
 |74=>some zF3
 |77=>some zF4
 |79=>some zBf
 |82=>some zF5
 |85=>some zfi
 |87=>some zF6
 |91=>some zF7
 |93=>some zF8
 |95=>some zfi
 |97=>some zF9
 |102=>some zFT
 |115=>some zzN
 |117=>some zfi
 |118=>some zfi
 |126=>some zzO
 |128=>some zzP
 |130=>some zzQ
 |133=>some zzR
 |135=>some zzS
 |140=>some zzT
 |144=>some zzU
 |147=>some zzV
 |161=>some zfi
 |169=>some zzW
 |172=>some zfi
 |198=>some zfi
 |213=>some zzX
 |215=>some zfi
 |217=>some zBi
 |220=>some zfi
 |221=>some zfi
 |237=>some zfi
 |238=>some zzY
 |239=>some zzZ
 |_=>none
def gl:Nat→Option (List PVal)
 |0=>some [.str [],.str [100,101,108,105,118,101,114],.str [116,105,99,107],.str [105,110,112,117,116],.str [100,114,111,112],.str [100,117,112,108,105,99,97,116,101],.str [114,101,115,101,110,100],.str [99,104,101,99,107,112,111,105,110,116],.str [102,108,117,115,104],.str [97,99,107],.str [99,114,97,115,104],.str [114,101,99,111,118,101,114],.str [114,101,115,116,111,114,101],.str [99,111,109,109,105,116],.str [99,111,108,108,101,99,116]]
 |1=>some [.str [],.str [105,110,100,101,112,101,110,100,101,110,116],.str [99,111,111,114,100,105,110,97,116,101,100],.str [105,110,100,101,120,101,100],.str [109,111,100,101,108,98,97,115,101,100],.str [112,101,115,115,105,109,105,115,116,105,99],.str [115,101,110,100,101,114,98,97,115,101,100],.str [111,112,116,105,109,105,115,116,105,99],.str [99,97,117,115,97,108]]
 |2=>some [.str [120],.str [121],.str [122]]
 |3=>some [.str [97],.str [98]]
 |4=>some [.int .u64 1,.int .u64 10,.int .u64 100,.int .u64 1000,.int .u64 10000,.int .u64 100000,.int .u64 1000000,.int .u64 10000000,.int .u64 100000000,.int .u64 1000000000,.int .u64 10000000000,.int .u64 100000000000,.int .u64 1000000000000,.int .u64 10000000000000,.int .u64 100000000000000,.int .u64 1000000000000000,.int .u64 10000000000000000,.int .u64 100000000000000000,.int .u64 1000000000000000000,.int .u64 10000000000000000000]
 |5=>some [.ani .i64]
 |10=>some [.err false]
 |11=>some [.err false]
 |_=>none
theorem zJi:gl 0=some [.str [],.str [100,101,108,105,118,101,114],.str [116,105,99,107],.str [105,110,112,117,116],.str [100,114,111,112],.str [100,117,112,108,105,99,97,116,101],.str [114,101,115,101,110,100],.str [99,104,101,99,107,112,111,105,110,116],.str [102,108,117,115,104],.str [97,99,107],.str [99,114,97,115,104],.str [114,101,99,111,118,101,114],.str [114,101,115,116,111,114,101],.str [99,111,109,109,105,116],.str [99,111,108,108,101,99,116]]:=rfl
theorem zJj:gl 1=some [.str [],.str [105,110,100,101,112,101,110,100,101,110,116],.str [99,111,111,114,100,105,110,97,116,101,100],.str [105,110,100,101,120,101,100],.str [109,111,100,101,108,98,97,115,101,100],.str [112,101,115,115,105,109,105,115,116,105,99],.str [115,101,110,100,101,114,98,97,115,101,100],.str [111,112,116,105,109,105,115,116,105,99],.str [99,97,117,115,97,108]]:=rfl
theorem zJk:gl 2=some [.str [120],.str [121],.str [122]]:=rfl
theorem zJl:gl 3=some [.str [97],.str [98]]:=rfl
theorem zJm:gl 4=some [.int .u64 1,.int .u64 10,.int .u64 100,.int .u64 1000,.int .u64 10000,.int .u64 100000,.int .u64 1000000,.int .u64 10000000,.int .u64 100000000,.int .u64 1000000000,.int .u64 10000000000,.int .u64 100000000000,.int .u64 1000000000000,.int .u64 10000000000000,.int .u64 100000000000000,.int .u64 1000000000000000,.int .u64 10000000000000000,.int .u64 100000000000000000,.int .u64 1000000000000000000,.int .u64 10000000000000000000]:=rfl
theorem zJn:gl 5=some [.ani .i64]:=rfl
theorem zGa:gl 10=some [.err false]:=rfl
theorem zGb:gl 11=some [.err false]:=rfl
def zb7 (site:Nat→Nat) (nobj:Nat):Env:=⟨tyF,gl,site,nobj⟩
theorem zfc (site:Nat→Nat) (nobj:Nat):za1 Tryz.prog (zb7 site nobj):=by
 intro t ty h
 change tyF t=some ty at h
 unfold tyF at h
 split at h<;>first|(cases h;done)|(cases h;kernel_rfl)
theorem zaf (f : FuncId) {fn : Func} (hf : Tryz.prog.funcs[f]? = some fn) (hn : (fn.name == "runtime.NumGoroutine" || fn.body.isNone) = false) (vargs : Array Value) (w : World) : (callFunc f vargs).run Tryz.prog w = .ok (.enter f vargs) w := by
 simp only [Bool.or_eq_false_iff] at hn
 obtain ⟨h1,h2⟩:=hn
 unfold callFunc
 simp only [Sem.run_bind,run_program,Result.andThen,hf,h1,h2,Bool.false_eq_true,if_false,Sem.run_pure]
theorem mixed:Tryz.prog.follows .mixedOrders=true:=by kernel_rfl
theorem zDa (site:Nat→Nat) (nobj t:Nat):(zb7 site nobj).ty t=tyF t:=rfl
theorem zDb (site:Nat→Nat) (nobj t:Nat):(zb7 site nobj).gl t=gl t:=rfl
theorem zwE (site:Nat→Nat) (nobj t:Nat):(zb7 site nobj).site t=site t:=rfl
theorem zwF (site:Nat→Nat) (nobj:Nat):(zb7 site nobj).nobj=nobj:=rfl
def tx2:=And.intro (show tyF 2=some ty2 from rfl) ty2.eq_1
def tx3:=And.intro (show tyF 3=some ty2 from rfl) ty2.eq_1
def tx4:=And.intro (show tyF 4=some ty4 from rfl) ty4.eq_1
def tx5:=And.intro (show tyF 5=some ty5 from rfl) ty5.eq_1
def tx9:=And.intro (show tyF 9=some ty9 from rfl) ty9.eq_1
def zJo:=And.intro (show tyF 20=some zBf from rfl) zBf.eq_1
def zz0:=And.intro (show tyF 22=some zFU from rfl) zFU.eq_1
def zGc:=And.intro (show tyF 24=some zBg from rfl) zBg.eq_1
def zwG:=And.intro (show tyF 25=some zFV from rfl) zFV.eq_1
def zyd:=And.intro (show tyF 26=some zfi from rfl) zfi.eq_1
def zp0:=And.intro (show tyF 29=some ty2 from rfl) ty2.eq_1
def zvr:=And.intro (show tyF 41=some zFW from rfl) zFW.eq_1
def zp1:=And.intro (show tyF 42=some zFX from rfl) zFX.eq_1
def zgX:=And.intro (show tyF 43=some zFY from rfl) zFY.eq_1
def znc:=And.intro (show tyF 45=some zBh from rfl) zBh.eq_1
def zsy:=And.intro (show tyF 48=some zFZ from rfl) zFZ.eq_1
def zDc:=And.intro (show tyF 50=some zBg from rfl) zBg.eq_1
def zye:=And.intro (show tyF 52=some zBi from rfl) zBi.eq_1
def zBj:=And.intro (show tyF 57=some zF0 from rfl) zF0.eq_1
def zz1:=And.intro (show tyF 59=some zBh from rfl) zBh.eq_1
def zrD:=And.intro (show tyF 70=some zF1 from rfl) zF1.eq_1
def zJp:=And.intro (show tyF 72=some zF2 from rfl) zF2.eq_1
def zGd:=And.intro (show tyF 74=some zF3 from rfl) zF3.eq_1
def zJq:=And.intro (show tyF 77=some zF4 from rfl) zF4.eq_1
def zHT:=And.intro (show tyF 79=some zBf from rfl) zBf.eq_1
def zJr:=And.intro (show tyF 82=some zF5 from rfl) zF5.eq_1
def zGe:=And.intro (show tyF 85=some zfi from rfl) zfi.eq_1
def zDd:=And.intro (show tyF 87=some zF6 from rfl) zF6.eq_1
def zHU:=And.intro (show tyF 91=some zF7 from rfl) zF7.eq_1
def zHV:=And.intro (show tyF 93=some zF8 from rfl) zF8.eq_1
def zEA:=And.intro (show tyF 95=some zfi from rfl) zfi.eq_1
def zHW:=And.intro (show tyF 97=some zF9 from rfl) zF9.eq_1
def zDe:=And.intro (show tyF 102=some zFT from rfl) zFT.eq_1
def zDf:=And.intro (show tyF 115=some zzN from rfl) zzN.eq_1
def zGf:=And.intro (show tyF 117=some zfi from rfl) zfi.eq_1
def zGg:=And.intro (show tyF 118=some zfi from rfl) zfi.eq_1
def zfd:=And.intro (show tyF 126=some zzO from rfl) zzO.eq_1
def zdk:=And.intro (show tyF 128=some zzP from rfl) zzP.eq_1
def zhY:=And.intro (show tyF 130=some zzQ from rfl) zzQ.eq_1
def zDg:=And.intro (show tyF 133=some zzR from rfl) zzR.eq_1
def zDh:=And.intro (show tyF 135=some zzS from rfl) zzS.eq_1
def zfv:=And.intro (show tyF 140=some zzT from rfl) zzT.eq_1
def zhZ:=And.intro (show tyF 144=some zzU from rfl) zzU.eq_1
def zz2:=And.intro (show tyF 147=some zzV from rfl) zzV.eq_1
def zDi:=And.intro (show tyF 161=some zfi from rfl) zfi.eq_1
def zfw:=And.intro (show tyF 169=some zzW from rfl) zzW.eq_1
def zjG:=And.intro (show tyF 172=some zfi from rfl) zfi.eq_1
def zwH:=And.intro (show tyF 198=some zfi from rfl) zfi.eq_1
def zDj:=And.intro (show tyF 213=some zzX from rfl) zzX.eq_1
def zh0:=And.intro (show tyF 215=some zfi from rfl) zfi.eq_1
def znd:=And.intro (show tyF 217=some zBi from rfl) zBi.eq_1
def zGh:=And.intro (show tyF 220=some zfi from rfl) zfi.eq_1
def zGi:=And.intro (show tyF 221=some zfi from rfl) zfi.eq_1
def zGj:=And.intro (show tyF 237=some zfi from rfl) zfi.eq_1
def zGk:=And.intro (show tyF 238=some zzY from rfl) zzY.eq_1
def zGl:=And.intro (show tyF 239=some zzZ from rfl) zzZ.eq_1
def tyS:=And.intro @zDa<|And.intro @zwE<|And.intro @zwF<|And.intro @zDb<|And.intro zJi<|And.intro zJj<|And.intro zJk<|And.intro zJl<|And.intro zJm<|And.intro zJn<|And.intro zGa<|zGb
def tq3:=And.intro tyS<|And.intro tx3<|And.intro tx4<|And.intro tx9<|And.intro zz0<|And.intro zGc<|And.intro zwG<|zyd
def tq8:=And.intro tyS<|And.intro tx3<|And.intro tx9<|And.intro zwG<|And.intro zp0<|And.intro zvr<|And.intro zgX<|And.intro zDc<|And.intro zye<|zz1
def tq9:=And.intro tyS<|And.intro tx3<|And.intro zz0<|And.intro zGc<|And.intro zwG<|And.intro zyd<|zvr
def zjH:=And.intro tyS<|And.intro tx3<|And.intro tx4<|And.intro tx9<|And.intro zGc<|And.intro zwG<|And.intro zp0<|And.intro zvr<|znc
def zgu:=And.intro tyS<|And.intro tx3<|And.intro tx5<|And.intro tx9<|And.intro zyd<|zrD
def zJs:=And.intro tyS<|And.intro tx3<|And.intro tx9<|And.intro zwG<|And.intro zp0<|zye
def zEB:=And.intro tyS<|And.intro tx3<|And.intro tx9<|zrD
def zEC:=And.intro tyS<|And.intro tx3<|And.intro tx4<|And.intro tx5<|And.intro zz0<|And.intro zyd<|zGd
def zED:=And.intro tyS<|And.intro tx3<|And.intro zyd<|zBj
def zGm:=And.intro tyS<|And.intro tx3<|And.intro tx9<|And.intro zwG<|And.intro zp0<|And.intro zye<|And.intro zrD<|And.intro zGe<|zDd
def zGn:=And.intro tyS<|And.intro tx3<|And.intro zwG<|zvr
def zrE:=And.intro tyS<|And.intro tx3<|And.intro tx4<|And.intro tx9<|And.intro zp0<|And.intro zp1<|And.intro zgX<|And.intro znc<|And.intro zsy<|And.intro zBj<|And.intro zz1<|And.intro zHU<|And.intro zHV<|And.intro zEA<|zHW
def zJt:=And.intro tyS<|And.intro zgX<|And.intro zBj<|zz1
def zEE:=And.intro tyS<|And.intro tx3<|And.intro zz0<|zGd
def zHX:=And.intro tyS<|And.intro tx3<|And.intro zyd<|And.intro zp1<|And.intro zgX<|And.intro znc<|zsy
def zEF:=And.intro tyS<|And.intro tx3<|And.intro tx9<|zrD
def zEG:=And.intro tyS<|And.intro tx3<|And.intro tx5<|And.intro tx9<|And.intro zz0<|zDe
def zyf:=And.intro tyS<|And.intro tx3<|And.intro tx9<|And.intro zp0<|And.intro zp1<|And.intro zgX<|And.intro znc<|zsy
def zEH:=And.intro tyS<|tx3
def zEI:=And.intro tyS<|And.intro tx3<|And.intro tx9<|zvr
def zjI:=And.intro tyS<|And.intro tx3<|And.intro tx4<|And.intro tx9<|And.intro zwG<|And.intro zp0<|And.intro zvr<|And.intro znc<|And.intro zDc<|And.intro zye<|And.intro zz1<|zrD
def zGo:=And.intro tyS<|And.intro tx3<|And.intro tx4<|And.intro zDc<|And.intro zye<|zz1
def zHY:=And.intro tyS<|And.intro tx3<|And.intro zz0<|zGd
def zhR:=And.intro tyS<|And.intro tx3<|And.intro tx4<|And.intro tx9<|And.intro zwG<|And.intro zp0<|And.intro zvr<|And.intro zDc<|And.intro zye<|And.intro zrD<|And.intro zGe<|zDd
def zDk:=And.intro tyS<|And.intro tx3<|And.intro tx4<|And.intro zp1<|And.intro zgX<|And.intro znc<|zsy
def zEJ:=And.intro tyS<|And.intro tx3<|And.intro zgX<|And.intro zEA<|zhY
def zGp:=And.intro tyS<|And.intro tx3<|zBj
def zGq:=And.intro tyS<|And.intro tx3<|And.intro tx4<|And.intro tx9<|And.intro zgX<|And.intro zdk<|zhY
def zoi:=And.intro tyS<|And.intro tx3<|And.intro tx9<|And.intro zyd<|And.intro zgX<|And.intro zhY<|And.intro zDg<|zDh
def zEK:=And.intro tyS<|And.intro tx3<|And.intro tx5<|And.intro tx9<|zz0
def zEL:=And.intro tyS<|And.intro tx3<|And.intro tx4<|And.intro tx9<|And.intro zp1<|And.intro zgX<|And.intro znc<|zsy
def zHZ:=And.intro tyS<|And.intro tx3<|And.intro tx9<|zgX
def zDl:=And.intro tyS<|And.intro tx3<|And.intro tx5<|And.intro tx9<|zrD
def zBk:=And.intro tyS<|And.intro tx3<|And.intro tx9<|zrD
def zyg:=And.intro tyS<|And.intro tx3<|And.intro tx4<|And.intro tx9<|And.intro zp0<|And.intro znc<|zhZ
def znf:=And.intro tyS<|And.intro tx3<|And.intro tx4<|And.intro tx9<|And.intro zp0<|And.intro zp1<|And.intro zgX<|And.intro znc<|And.intro zsy<|And.intro zBj<|And.intro zz1<|zz2
def ziN:=And.intro tyS<|And.intro tx3<|And.intro tx4<|And.intro tx9<|And.intro zvr<|zrD
def zyh:=And.intro tyS<|And.intro tx3<|And.intro zvr<|zDf
def zyi:=And.intro tyS<|And.intro tx3<|And.intro tx9<|And.intro zrD<|zDd
def zwI:=And.intro tyS<|And.intro tx3<|And.intro tx9<|And.intro zye<|And.intro zrD<|And.intro zJr<|zDd
def zsz:=And.intro tyS<|And.intro tx3<|And.intro tx4<|And.intro tx5<|And.intro tx9<|And.intro zp0<|And.intro znc<|And.intro zDc<|And.intro zye<|And.intro zz1<|And.intro zJq<|And.intro zGe<|zDd
def zh1:=And.intro tyS<|And.intro tx3<|And.intro tx4<|And.intro tx9<|And.intro zvr<|And.intro zrD<|And.intro zJp<|And.intro zDf<|And.intro zGf<|zGg
def zJu:=And.intro tyS<|And.intro tx3<|And.intro zgX<|znc
def zJv:=And.intro tyS<|And.intro tx3<|And.intro tx4<|And.intro tx9<|zsy
def zEM:=And.intro tyS<|And.intro tx3<|And.intro tx4<|And.intro zgX<|zDi
def zBl:=And.intro tyS<|And.intro tx3<|And.intro tx4<|And.intro tx9<|And.intro zgX<|And.intro zEA<|And.intro zdk<|zhY
def zGr:=And.intro tyS<|And.intro tx3<|And.intro tx4<|And.intro tx9<|And.intro zfd<|zdk
def zfT:=And.intro tyS<|And.intro tx3<|And.intro tx9<|And.intro zyd<|And.intro zBj<|And.intro zfd<|And.intro zdk<|And.intro zDg<|zDh
def zJw:=And.intro tyS<|And.intro tx3<|And.intro zgX<|znc
def zz3:=And.intro tyS<|And.intro tx3<|And.intro tx4<|And.intro tx5<|tx9
def zGs:=And.intro tyS<|And.intro tx3<|And.intro tx4<|And.intro tx9<|And.intro zgX<|And.intro zdk<|zhY
def zwJ:=And.intro tyS<|And.intro tx3<|And.intro tx9<|And.intro zgX<|And.intro zdk<|zhY
def zDm:=And.intro tyS<|And.intro tx3<|And.intro tx5<|And.intro tx9<|zrD
def zgk:=And.intro tyS<|And.intro tx3<|And.intro tx5<|And.intro tx9<|zDe
def zyj:=And.intro tyS<|And.intro tx3<|And.intro tx5<|And.intro tx9<|And.intro zp0<|And.intro zfv<|zfw
def ziO:=And.intro tyS<|And.intro tx3<|And.intro tx4<|And.intro tx9<|And.intro zp1<|And.intro zgX<|And.intro znc<|And.intro zsy<|And.intro zfv<|And.intro zhZ<|zjG
def zJx:=And.intro tyS<|And.intro tx3<|zsy
def zGt:=And.intro tyS<|And.intro tx3<|And.intro tx4<|And.intro tx9<|And.intro zp1<|And.intro zgX<|And.intro zdk<|zhY
def zEN:=And.intro tyS<|And.intro tx3<|And.intro tx4<|And.intro tx9<|And.intro zp1<|And.intro zgX<|And.intro zdk<|zhY
def zGu:=And.intro tyS<|And.intro tx2<|And.intro tx3<|And.intro tx9<|zHT
def zyk:=And.intro tyS<|And.intro tx3<|And.intro tx4<|And.intro tx9<|And.intro zp0<|And.intro znc<|zfv
def zGv:=And.intro tyS<|And.intro tx3<|And.intro zgX<|zDi
def zGw:=And.intro tyS<|And.intro tx3<|And.intro tx4<|And.intro tx5<|tx9
def zJy:=And.intro tyS<|And.intro tx3<|And.intro tx4<|And.intro tx9<|And.intro zgX<|And.intro zhY<|zwH
def zBm:=And.intro tyS<|And.intro tx3<|And.intro tx4<|And.intro zHU<|And.intro zHV<|zHW
def zsA:=And.intro tyS<|And.intro tx3<|And.intro tx4<|And.intro tx9<|And.intro zEA<|And.intro zfd<|zdk
def zGx:=And.intro tyS<|And.intro tx3<|And.intro zgX<|And.intro zdk<|zhY
def zJz:=And.intro tyS<|tx5
def zyl:=And.intro tyS<|And.intro tx3<|And.intro tx5<|tx9
def zJA:=And.intro tyS<|tx5
def zwK:=And.intro tyS<|And.intro tx3<|And.intro tx4<|And.intro tx9<|And.intro zfd<|zdk
def zGy:=And.intro tyS<|And.intro tx3<|And.intro tx9<|And.intro zfd<|zdk
def zlU:=And.intro tyS<|And.intro tx3<|And.intro tx9<|And.intro zfd<|zdk
def zGz:=And.intro tyS<|tx5
def zng:=And.intro tyS<|And.intro tx3<|And.intro tx4<|And.intro tx5<|And.intro tx9<|zfw
def zcE:=And.intro tyS<|And.intro tx3<|And.intro tx9<|And.intro zsy<|zjG
def zrF:=And.intro tyS<|And.intro tx3<|And.intro tx4<|And.intro tx9<|And.intro zhZ<|zjG
def zrG:=And.intro tyS<|And.intro tx3<|And.intro tx4<|And.intro zfv<|And.intro zhZ<|zfw
def zgH:=And.intro tyS<|And.intro tx4<|And.intro tx9<|And.intro zgX<|And.intro zhZ<|zjG
def ztI:=And.intro tyS<|And.intro tx3<|And.intro tx9<|And.intro zp1<|zsy
def zwL:=And.intro tyS<|And.intro tx3<|And.intro tx4<|And.intro tx9<|And.intro zp1<|And.intro zfd<|zdk
def zrH:=And.intro tyS<|And.intro tx3<|And.intro tx4<|And.intro tx9<|And.intro zp1<|And.intro zfd<|zdk
def zoK:=And.intro tyS<|And.intro tx3<|And.intro tx5<|And.intro tx9<|And.intro zp0<|And.intro zfv<|zfw
def zlV:=And.intro tyS<|And.intro tx3<|And.intro tx4<|And.intro zp1<|And.intro znc<|And.intro zfv<|And.intro zz2<|And.intro zh0<|And.intro znd<|And.intro zGh<|zGi
def zGA:=And.intro tyS<|And.intro tx3<|And.intro zgX<|And.intro zhY<|zwH
def zGB:=And.intro tyS<|tx5
def zDn:=And.intro tyS<|And.intro tx3<|And.intro tx5<|tx9
def zGC:=And.intro tyS<|tx9
def zGD:=And.intro tyS<|tx9
def zwM:=And.intro tyS<|And.intro tx3<|And.intro tx4<|And.intro tx9<|And.intro zfd<|And.intro zdk<|zwH
def zGE:=And.intro tyS<|And.intro tx3<|And.intro tx9<|And.intro zfd<|zdk
def zz4:=And.intro tyS<|And.intro tx3<|And.intro zfd<|zdk
def zGF:=And.intro tyS<|tx3
def zGG:=And.intro tyS<|tx3
def zDo:=And.intro tyS<|And.intro tx3<|And.intro tx9<|zdk
def zwN:=And.intro tyS<|And.intro tx3<|And.intro tx5<|tx9
def zGH:=And.intro tyS<|tx5
def zz5:=And.intro tyS<|And.intro tx3<|And.intro tx5<|tx9
def znh:=And.intro tyS<|And.intro tx3<|And.intro tx4<|And.intro tx9<|And.intro zfv<|And.intro zhZ<|And.intro zfw<|zjG
def zni:=And.intro tyS<|And.intro tx3<|And.intro tx4<|And.intro tx9<|And.intro zfv<|And.intro zhZ<|zfw
def zrI:=And.intro tyS<|And.intro tx3<|And.intro tx4<|And.intro tx9<|And.intro zhZ<|zjG
def zkQ:=And.intro tyS<|And.intro tx3<|And.intro tx4<|And.intro zfv<|And.intro zhZ<|And.intro zfw<|zjG
def znj:=And.intro tyS<|And.intro tx3<|And.intro tx4<|And.intro tx9<|And.intro zfv<|And.intro zhZ<|zfw
def zbd:=And.intro tyS<|And.intro tx3<|And.intro tx9<|And.intro zgX<|And.intro zdk<|And.intro zhY<|zjG
def zGI:=And.intro tyS<|And.intro tx3<|And.intro tx5<|tx9
def ztJ:=And.intro tyS<|And.intro tx3<|And.intro tx5<|And.intro tx9<|zfw
def zrJ:=And.intro tyS<|And.intro tx3<|And.intro tx4<|And.intro zJo<|And.intro znc<|zDj
def zfe:=And.intro tyS<|And.intro tx3<|And.intro tx9<|And.intro zp1<|And.intro zsy<|zh0
def zd6:=And.intro tyS<|And.intro tx3<|And.intro tx4<|And.intro tx9<|And.intro zgX<|And.intro znc<|And.intro zz2<|And.intro zh0<|And.intro zGj<|And.intro zGk<|zGl
def zz6:=And.intro tyS<|And.intro tx3<|And.intro zfd<|And.intro zdk<|zwH
def zGJ:=And.intro tyS<|tx5
def zGK:=And.intro tyS<|tx3
def zdL:=And.intro tyS<|And.intro tx3<|And.intro tx4<|And.intro tx9<|And.intro zfd<|And.intro zdk<|And.intro zfv<|And.intro zhZ<|And.intro zfw<|zjG
def zz7:=And.intro tyS<|And.intro tx3<|And.intro tx5<|And.intro tx9<|And.intro zHT<|zfw
def zDp:=And.intro tyS<|And.intro tx3<|And.intro tx5<|tx9
def zwO:=And.intro tyS<|And.intro tx3<|And.intro tx9<|And.intro zh0<|znd
def ztK:=And.intro tyS<|And.intro tx3<|And.intro tx4<|And.intro tx9<|And.intro zfv<|And.intro zfw<|And.intro zh0<|znd
def ztL:=And.intro tyS<|And.intro tx3<|And.intro zfv<|And.intro zfw<|And.intro zh0<|znd
def zz8:=And.intro tyS<|And.intro tx4<|And.intro tx9<|zh0
def zrK:=And.intro tyS<|And.intro tx4<|And.intro tx9<|And.intro zgX<|zh0
def zDq:=And.intro tyS<|And.intro tx3<|And.intro zfv<|And.intro zfw<|And.intro zDj<|znd
def zhb:=And.intro tyS<|And.intro tx3<|And.intro tx9<|And.intro zfd<|And.intro zdk<|And.intro zhZ<|zjG
def zGL:=And.intro tyS<|And.intro tx3<|tx9
def zGM:=And.intro tyS<|tx3
def zwP:=And.intro tyS<|And.intro tx3<|And.intro tx9<|And.intro zfv<|And.intro zfw<|znd
def zcj:=And.intro tyS<|And.intro tx3<|And.intro tx9<|And.intro zgX<|And.intro zdk<|And.intro zhY<|zh0
def zdC:=And.intro tyS<|And.intro tx3<|And.intro tx4<|And.intro tx9<|And.intro zfd<|And.intro zdk<|And.intro zfv<|And.intro zhZ<|And.intro zfw<|zjG
def zlW:=And.intro tyS<|And.intro tx3<|And.intro zfd<|And.intro zdk<|zh0
def zGN:=And.intro tyS<|tx9
def zlX:=And.intro tyS<|And.intro tx9<|And.intro zfd<|And.intro zdk<|zh0
def zwQ:=And.intro tyS<|And.intro tx3<|And.intro tx9<|And.intro zh0<|znd
def ztM:=And.intro tyS<|And.intro tx3<|tx9
def zd7:=And.intro tyS<|And.intro tx3<|And.intro tx9<|And.intro zfd<|And.intro zdk<|And.intro zfv<|And.intro zfw<|And.intro zh0<|znd
def zGO:=And.intro tyS<|tx3
def fi3:=FI.of Tryz.func3 rfl Tryz.ntmps3 Tryz.results3
def fi8:=FI.of Tryz.func8 rfl Tryz.ntmps8 Tryz.results8
def fi9:=FI.of Tryz.func9 rfl Tryz.ntmps9 Tryz.results9
def zDr:=FI.of Tryz.func10 rfl Tryz.ntmps10 Tryz.results10
def zBn:=FI.of Tryz.func11 rfl Tryz.ntmps11 Tryz.results11
def zJB:=FI.of Tryz.func12 rfl Tryz.ntmps12 Tryz.results12
def zEO:=FI.of Tryz.func15 rfl Tryz.ntmps15 Tryz.results15
def zH0:=FI.of Tryz.func16 rfl Tryz.ntmps16 Tryz.results16
def zH1:=FI.of Tryz.func17 rfl Tryz.ntmps17 Tryz.results17
def zGP:=FI.of Tryz.func20 rfl Tryz.ntmps20 Tryz.results20
def zJC:=FI.of Tryz.func21 rfl Tryz.ntmps21 Tryz.results21
def zJD:=FI.of Tryz.func22 rfl Tryz.ntmps22 Tryz.results22
def zJE:=FI.of Tryz.func23 rfl Tryz.ntmps23 Tryz.results23
def zJF:=FI.of Tryz.func24 rfl Tryz.ntmps24 Tryz.results24
def zJG:=FI.of Tryz.func25 rfl Tryz.ntmps25 Tryz.results25
def zEP:=FI.of Tryz.func26 rfl Tryz.ntmps26 Tryz.results26
def zH2:=FI.of Tryz.func27 rfl Tryz.ntmps27 Tryz.results27
def zH3:=FI.of Tryz.func28 rfl Tryz.ntmps28 Tryz.results28
def zEQ:=FI.of Tryz.func29 rfl Tryz.ntmps29 Tryz.results29
def zER:=FI.of Tryz.func30 rfl Tryz.ntmps30 Tryz.results30
def zz9:=FI.of Tryz.func31 rfl Tryz.ntmps31 Tryz.results31
def zJH:=FI.of Tryz.func32 rfl Tryz.ntmps32 Tryz.results32
def zJI:=FI.of Tryz.func33 rfl Tryz.ntmps33 Tryz.results33
def zH4:=FI.of Tryz.func41 rfl Tryz.ntmps41 Tryz.results41
def zH5:=FI.of Tryz.func42 rfl Tryz.ntmps42 Tryz.results42
def zJJ:=FI.of Tryz.func43 rfl Tryz.ntmps43 Tryz.results43
def zJK:=FI.of Tryz.func44 rfl Tryz.ntmps44 Tryz.results44
def zJL:=FI.of Tryz.func45 rfl Tryz.ntmps45 Tryz.results45
def zH6:=FI.of Tryz.func46 rfl Tryz.ntmps46 Tryz.results46
def zJM:=FI.of Tryz.func47 rfl Tryz.ntmps47 Tryz.results47
def zH7:=FI.of Tryz.func48 rfl Tryz.ntmps48 Tryz.results48
def zH8:=FI.of Tryz.func49 rfl Tryz.ntmps49 Tryz.results49
def zJN:=FI.of Tryz.func50 rfl Tryz.ntmps50 Tryz.results50
def zGQ:=FI.of Tryz.func51 rfl Tryz.ntmps51 Tryz.results51
def zES:=FI.of Tryz.func52 rfl Tryz.ntmps52 Tryz.results52
def zGR:=FI.of Tryz.func53 rfl Tryz.ntmps53 Tryz.results53
def zJO:=FI.of Tryz.func54 rfl Tryz.ntmps54 Tryz.results54
def zET:=FI.of Tryz.func58 rfl Tryz.ntmps58 Tryz.results58
def zEU:=FI.of Tryz.func60 rfl Tryz.ntmps60 Tryz.results60
def zGS:=FI.of Tryz.func61 rfl Tryz.ntmps61 Tryz.results61
def zH9:=FI.of Tryz.func62 rfl Tryz.ntmps62 Tryz.results62
def zJP:=FI.of Tryz.func63 rfl Tryz.ntmps63 Tryz.results63
def zJQ:=FI.of Tryz.func64 rfl Tryz.ntmps64 Tryz.results64
def zJR:=FI.of Tryz.func65 rfl Tryz.ntmps65 Tryz.results65
def zJS:=FI.of Tryz.func66 rfl Tryz.ntmps66 Tryz.results66
def zGT:=FI.of Tryz.func67 rfl Tryz.ntmps67 Tryz.results67
def zJT:=FI.of Tryz.func68 rfl Tryz.ntmps68 Tryz.results68
def znk:=FI.of Tryz.func69 rfl Tryz.ntmps69 Tryz.results69
def zJU:=FI.of Tryz.func70 rfl Tryz.ntmps70 Tryz.results70
def zJV:=FI.of Tryz.func71 rfl Tryz.ntmps71 Tryz.results71
def zJW:=FI.of Tryz.func72 rfl Tryz.ntmps72 Tryz.results72
def zJX:=FI.of Tryz.func73 rfl Tryz.ntmps73 Tryz.results73
def zJY:=FI.of Tryz.func74 rfl Tryz.ntmps74 Tryz.results74
def zGU:=FI.of Tryz.func75 rfl Tryz.ntmps75 Tryz.results75
def zJZ:=FI.of Tryz.func76 rfl Tryz.ntmps76 Tryz.results76
def zIa:=FI.of Tryz.func77 rfl Tryz.ntmps77 Tryz.results77
def zJ0:=FI.of Tryz.func78 rfl Tryz.ntmps78 Tryz.results78
def zJ1:=FI.of Tryz.func79 rfl Tryz.ntmps79 Tryz.results79
def zJ2:=FI.of Tryz.func80 rfl Tryz.ntmps80 Tryz.results80
def zGV:=FI.of Tryz.func88 rfl Tryz.ntmps88 Tryz.results88
def zEV:=FI.of Tryz.func90 rfl Tryz.ntmps90 Tryz.results90
def zJ3:=FI.of Tryz.func91 rfl Tryz.ntmps91 Tryz.results91
def zJ4:=FI.of Tryz.func92 rfl Tryz.ntmps92 Tryz.results92
def zJ5:=FI.of Tryz.func93 rfl Tryz.ntmps93 Tryz.results93
def zGW:=FI.of Tryz.func94 rfl Tryz.ntmps94 Tryz.results94
def zGX:=FI.of Tryz.func95 rfl Tryz.ntmps95 Tryz.results95
def zJ6:=FI.of Tryz.func96 rfl Tryz.ntmps96 Tryz.results96
def zJ7:=FI.of Tryz.func97 rfl Tryz.ntmps97 Tryz.results97
def zJ8:=FI.of Tryz.func98 rfl Tryz.ntmps98 Tryz.results98
def zJ9:=FI.of Tryz.func99 rfl Tryz.ntmps99 Tryz.results99
def zGY:=FI.of Tryz.func100 rfl Tryz.ntmps100 Tryz.results100
def zGZ:=FI.of Tryz.func101 rfl Tryz.ntmps101 Tryz.results101
def zlY:=FI.of Tryz.func102 rfl Tryz.ntmps102 Tryz.results102
def zG0:=FI.of Tryz.func103 rfl Tryz.ntmps103 Tryz.results103
def zG1:=FI.of Tryz.func104 rfl Tryz.ntmps104 Tryz.results104
def zgl:=FI.of Tryz.func105 rfl Tryz.ntmps105 Tryz.results105
def zAa:=FI.of Tryz.func106 rfl Tryz.ntmps106 Tryz.results106
def zDs:=FI.of Tryz.func107 rfl Tryz.ntmps107 Tryz.results107
def zwR:=FI.of Tryz.func108 rfl Tryz.ntmps108 Tryz.results108
def zG2:=FI.of Tryz.func109 rfl Tryz.ntmps109 Tryz.results109
def zG3:=FI.of Tryz.func110 rfl Tryz.ntmps110 Tryz.results110
def zDt:=FI.of Tryz.func111 rfl Tryz.ntmps111 Tryz.results111
def zG4:=FI.of Tryz.func123 rfl Tryz.ntmps123 Tryz.results123
def zG5:=FI.of Tryz.func125 rfl Tryz.ntmps125 Tryz.results125
def zG6:=FI.of Tryz.func126 rfl Tryz.ntmps126 Tryz.results126
def zG7:=FI.of Tryz.func127 rfl Tryz.ntmps127 Tryz.results127
def zG8:=FI.of Tryz.func128 rfl Tryz.ntmps128 Tryz.results128
def zG9:=FI.of Tryz.func129 rfl Tryz.ntmps129 Tryz.results129
def zHa:=FI.of Tryz.func130 rfl Tryz.ntmps130 Tryz.results130
def zHb:=FI.of Tryz.func131 rfl Tryz.ntmps131 Tryz.results131
def zHc:=FI.of Tryz.func132 rfl Tryz.ntmps132 Tryz.results132
def zHd:=FI.of Tryz.func133 rfl Tryz.ntmps133 Tryz.results133
def zHe:=FI.of Tryz.func134 rfl Tryz.ntmps134 Tryz.results134
def zDu:=FI.of Tryz.func135 rfl Tryz.ntmps135 Tryz.results135
def zHf:=FI.of Tryz.func136 rfl Tryz.ntmps136 Tryz.results136
def zHg:=FI.of Tryz.func137 rfl Tryz.ntmps137 Tryz.results137
def zHh:=FI.of Tryz.func138 rfl Tryz.ntmps138 Tryz.results138
def zDv:=FI.of Tryz.func139 rfl Tryz.ntmps139 Tryz.results139
def zDw:=FI.of Tryz.func140 rfl Tryz.ntmps140 Tryz.results140
def zAb:=FI.of Tryz.func141 rfl Tryz.ntmps141 Tryz.results141
def zAc:=FI.of Tryz.func142 rfl Tryz.ntmps142 Tryz.results142
def zDx:=FI.of Tryz.func143 rfl Tryz.ntmps143 Tryz.results143
def zc9:=FI.of Tryz.func144 rfl Tryz.ntmps144 Tryz.results144
def zHi:=FI.of Tryz.func159 rfl Tryz.ntmps159 Tryz.results159
def zHj:=FI.of Tryz.func160 rfl Tryz.ntmps160 Tryz.results160
def zHk:=FI.of Tryz.func162 rfl Tryz.ntmps162 Tryz.results162
def zDy:=FI.of Tryz.func163 rfl Tryz.ntmps163 Tryz.results163
def zHl:=FI.of Tryz.func164 rfl Tryz.ntmps164 Tryz.results164
def zHm:=FI.of Tryz.func165 rfl Tryz.ntmps165 Tryz.results165
def zHn:=FI.of Tryz.func166 rfl Tryz.ntmps166 Tryz.results166
def zoL:=FI.of Tryz.func167 rfl Tryz.ntmps167 Tryz.results167
def zHo:=FI.of Tryz.func180 rfl Tryz.ntmps180 Tryz.results180
def zHp:=FI.of Tryz.func181 rfl Tryz.ntmps181 Tryz.results181
def zDz:=FI.of Tryz.func182 rfl Tryz.ntmps182 Tryz.results182
def zDA:=FI.of Tryz.func183 rfl Tryz.ntmps183 Tryz.results183
def zDB:=FI.of Tryz.func184 rfl Tryz.ntmps184 Tryz.results184
def zDC:=FI.of Tryz.func185 rfl Tryz.ntmps185 Tryz.results185
def zDD:=FI.of Tryz.func186 rfl Tryz.ntmps186 Tryz.results186
def zHq:=FI.of Tryz.func187 rfl Tryz.ntmps187 Tryz.results187
def zoM:=FI.of Tryz.func188 rfl Tryz.ntmps188 Tryz.results188
def zHr:=FI.of Tryz.func189 rfl Tryz.ntmps189 Tryz.results189
def zHs:=FI.of Tryz.func190 rfl Tryz.ntmps190 Tryz.results190
def zHt:=FI.of Tryz.func196 rfl Tryz.ntmps196 Tryz.results196
def zda:=FI.of Tryz.func197 rfl Tryz.ntmps197 Tryz.results197
def zh2:=FI.of Tryz.func198 rfl Tryz.ntmps198 Tryz.results198
def zwS:=FI.of Tryz.func199 rfl Tryz.ntmps199 Tryz.results199
def zHu:=FI.of Tryz.func200 rfl Tryz.ntmps200 Tryz.results200
def zrL:=FI.of Tryz.func201 rfl Tryz.ntmps201 Tryz.results201
def zHv:=FI.of Tryz.func202 rfl Tryz.ntmps202 Tryz.results202
def zHw:=FI.of Tryz.func203 rfl Tryz.ntmps203 Tryz.results203
def zhc:=FI.of Tryz.func204 rfl Tryz.ntmps204 Tryz.results204
def zHx:=FI.of Tryz.func205 rfl Tryz.ntmps205 Tryz.results205
def ztN:=zaf 8 Tryz.func8 (by kernel_rfl)
def zAd:=zaf 9 Tryz.func9 (by kernel_rfl)
def zwT:=zaf 10 Tryz.func10 (by kernel_rfl)
def zp2:=zaf 11 Tryz.func11 (by kernel_rfl)
def zhd:=zaf 12 Tryz.func12 (by kernel_rfl)
def zaF:=zaf 15 Tryz.func15 (by kernel_rfl)
def zae:=zaf 16 Tryz.func16 (by kernel_rfl)
def zdT:=zaf 17 Tryz.func17 (by kernel_rfl)
def zp3:=zaf 20 Tryz.func20 (by kernel_rfl)
def zwU:=zaf 21 Tryz.func21 (by kernel_rfl)
def zp4:=zaf 22 Tryz.func22 (by kernel_rfl)
def zwV:=zaf 23 Tryz.func23 (by kernel_rfl)
def zwW:=zaf 24 Tryz.func24 (by kernel_rfl)
def zwX:=zaf 25 Tryz.func25 (by kernel_rfl)
def zeU:=zaf 26 Tryz.func26 (by kernel_rfl)
def zhe:=zaf 27 Tryz.func27 (by kernel_rfl)
def zp5:=zaf 28 Tryz.func28 (by kernel_rfl)
def zaI:=zaf 29 Tryz.func29 (by kernel_rfl)
def zbs:=zaf 30 Tryz.func30 (by kernel_rfl)
def zwY:=zaf 31 Tryz.func31 (by kernel_rfl)
def zwZ:=zaf 32 Tryz.func32 (by kernel_rfl)
def zp6:=zaf 33 Tryz.func33 (by kernel_rfl)
def zw0:=zaf 34 Tryz.func34 (by kernel_rfl)
def zlZ:=zaf 39 Tryz.func39 (by kernel_rfl)
def zfU:=zaf 40 Tryz.func40 (by kernel_rfl)
def zp7:=zaf 41 Tryz.func41 (by kernel_rfl)
def zl0:=zaf 42 Tryz.func42 (by kernel_rfl)
def zbH:=zaf 43 Tryz.func43 (by kernel_rfl)
def zw1:=zaf 44 Tryz.func44 (by kernel_rfl)
def zfV:=zaf 45 Tryz.func45 (by kernel_rfl)
def zeV:=zaf 46 Tryz.func46 (by kernel_rfl)
def zhf:=zaf 47 Tryz.func47 (by kernel_rfl)
def zhg:=zaf 48 Tryz.func48 (by kernel_rfl)
def zeq:=zaf 49 Tryz.func49 (by kernel_rfl)
def zfW:=zaf 50 Tryz.func50 (by kernel_rfl)
def ziP:=zaf 51 Tryz.func51 (by kernel_rfl)
def zl1:=zaf 52 Tryz.func52 (by kernel_rfl)
def zp8:=zaf 53 Tryz.func53 (by kernel_rfl)
def ziQ:=zaf 54 Tryz.func54 (by kernel_rfl)
def zbZ:=zaf 58 Tryz.func58 (by kernel_rfl)
def zbt:=zaf 60 Tryz.func60 (by kernel_rfl)
def zp9:=zaf 61 Tryz.func61 (by kernel_rfl)
def ziR:=zaf 62 Tryz.func62 (by kernel_rfl)
def ziS:=zaf 63 Tryz.func63 (by kernel_rfl)
def ziT:=zaf 64 Tryz.func64 (by kernel_rfl)
def zqa:=zaf 65 Tryz.func65 (by kernel_rfl)
def zfX:=zaf 66 Tryz.func66 (by kernel_rfl)
def zw2:=zaf 67 Tryz.func67 (by kernel_rfl)
def zl2:=zaf 68 Tryz.func68 (by kernel_rfl)
def zbg:=zaf 69 Tryz.func69 (by kernel_rfl)
def ziU:=zaf 70 Tryz.func70 (by kernel_rfl)
def zfY:=zaf 71 Tryz.func71 (by kernel_rfl)
def zfZ:=zaf 72 Tryz.func72 (by kernel_rfl)
def zhh:=zaf 73 Tryz.func73 (by kernel_rfl)
def ziV:=zaf 74 Tryz.func74 (by kernel_rfl)
def zbI:=zaf 75 Tryz.func75 (by kernel_rfl)
def ziW:=zaf 76 Tryz.func76 (by kernel_rfl)
def zl3:=zaf 77 Tryz.func77 (by kernel_rfl)
def ziX:=zaf 78 Tryz.func78 (by kernel_rfl)
def zcg:=zaf 79 Tryz.func79 (by kernel_rfl)
def zcO:=zaf 80 Tryz.func80 (by kernel_rfl)
def zdA:=zaf 88 Tryz.func88 (by kernel_rfl)
def zw3:=zaf 89 Tryz.func89 (by kernel_rfl)
def zl4:=zaf 90 Tryz.func90 (by kernel_rfl)
def zf0:=zaf 91 Tryz.func91 (by kernel_rfl)
def zhi:=zaf 92 Tryz.func92 (by kernel_rfl)
def zqb:=zaf 93 Tryz.func93 (by kernel_rfl)
def ziY:=zaf 94 Tryz.func94 (by kernel_rfl)
def zdU:=zaf 95 Tryz.func95 (by kernel_rfl)
def zf1:=zaf 96 Tryz.func96 (by kernel_rfl)
def zdb:=zaf 97 Tryz.func97 (by kernel_rfl)
def zqc:=zaf 98 Tryz.func98 (by kernel_rfl)
def zer:=zaf 99 Tryz.func99 (by kernel_rfl)
def zhj:=zaf 100 Tryz.func100 (by kernel_rfl)
def ztO:=zaf 101 Tryz.func101 (by kernel_rfl)
def zca:=zaf 102 Tryz.func102 (by kernel_rfl)
def zhk:=zaf 103 Tryz.func103 (by kernel_rfl)
def znl:=zaf 104 Tryz.func104 (by kernel_rfl)
def zhl:=zaf 105 Tryz.func105 (by kernel_rfl)
def zab:=zaf 106 Tryz.func106 (by kernel_rfl)
def zbN:=zaf 107 Tryz.func107 (by kernel_rfl)
def za6:=zaf 108 Tryz.func108 (by kernel_rfl)
def zhm:=zaf 109 Tryz.func109 (by kernel_rfl)
def zhn:=zaf 110 Tryz.func110 (by kernel_rfl)
def zeH:=zaf 111 Tryz.func111 (by kernel_rfl)
def zfx:=zaf 121 Tryz.func121 (by kernel_rfl)
def znm:=zaf 122 Tryz.func122 (by kernel_rfl)
def zho:=zaf 123 Tryz.func123 (by kernel_rfl)
def zjJ:=zaf 124 Tryz.func124 (by kernel_rfl)
def ztP:=zaf 125 Tryz.func125 (by kernel_rfl)
def zd8:=zaf 126 Tryz.func126 (by kernel_rfl)
def zfy:=zaf 127 Tryz.func127 (by kernel_rfl)
def ztQ:=zaf 128 Tryz.func128 (by kernel_rfl)
def znn:=zaf 129 Tryz.func129 (by kernel_rfl)
def zhp:=zaf 130 Tryz.func130 (by kernel_rfl)
def ztR:=zaf 131 Tryz.func131 (by kernel_rfl)
def zjK:=zaf 132 Tryz.func132 (by kernel_rfl)
def ztS:=zaf 133 Tryz.func133 (by kernel_rfl)
def zno:=zaf 134 Tryz.func134 (by kernel_rfl)
def zjL:=zaf 135 Tryz.func135 (by kernel_rfl)
def znp:=zaf 136 Tryz.func136 (by kernel_rfl)
def ztT:=zaf 137 Tryz.func137 (by kernel_rfl)
def znq:=zaf 138 Tryz.func138 (by kernel_rfl)
def zaH:=zaf 139 Tryz.func139 (by kernel_rfl)
def zan:=zaf 140 Tryz.func140 (by kernel_rfl)
def zac:=zaf 141 Tryz.func141 (by kernel_rfl)
def zcb:=zaf 142 Tryz.func142 (by kernel_rfl)
def zjM:=zaf 143 Tryz.func143 (by kernel_rfl)
def zjN:=zaf 144 Tryz.func144 (by kernel_rfl)
def ztU:=zaf 159 Tryz.func159 (by kernel_rfl)
def znr:=zaf 160 Tryz.func160 (by kernel_rfl)
def ztV:=zaf 161 Tryz.func161 (by kernel_rfl)
def zns:=zaf 162 Tryz.func162 (by kernel_rfl)
def znt:=zaf 163 Tryz.func163 (by kernel_rfl)
def zjO:=zaf 164 Tryz.func164 (by kernel_rfl)
def zeI:=zaf 165 Tryz.func165 (by kernel_rfl)
def ztW:=zaf 166 Tryz.func166 (by kernel_rfl)
def zam:=zaf 167 Tryz.func167 (by kernel_rfl)
def ztX:=zaf 179 Tryz.func179 (by kernel_rfl)
def ztY:=zaf 180 Tryz.func180 (by kernel_rfl)
def znu:=zaf 181 Tryz.func181 (by kernel_rfl)
def zaa:=zaf 182 Tryz.func182 (by kernel_rfl)
def zaG:=zaf 183 Tryz.func183 (by kernel_rfl)
def zcc:=zaf 184 Tryz.func184 (by kernel_rfl)
def zao:=zaf 185 Tryz.func185 (by kernel_rfl)
def zbl:=zaf 186 Tryz.func186 (by kernel_rfl)
def zdD:=zaf 187 Tryz.func187 (by kernel_rfl)
def zd9:=zaf 188 Tryz.func188 (by kernel_rfl)
def zhq:=zaf 189 Tryz.func189 (by kernel_rfl)
def zjP:=zaf 190 Tryz.func190 (by kernel_rfl)
def zhr:=zaf 196 Tryz.func196 (by kernel_rfl)
def znv:=zaf 197 Tryz.func197 (by kernel_rfl)
def zjQ:=zaf 198 Tryz.func198 (by kernel_rfl)
def zau:=zaf 199 Tryz.func199 (by kernel_rfl)
def zeJ:=zaf 200 Tryz.func200 (by kernel_rfl)
def zeK:=zaf 201 Tryz.func201 (by kernel_rfl)
def znw:=zaf 202 Tryz.func202 (by kernel_rfl)
def znx:=zaf 203 Tryz.func203 (by kernel_rfl)
def zny:=zaf 204 Tryz.func204 (by kernel_rfl)
def zjR:=zaf 205 Tryz.func205 (by kernel_rfl)
theorem zas {f:FuncId} {code:Code} (site:Nat→Nat) (nobj:Nat) {n:Nat} {rs:List ResultVar} (hF:FI Tryz.prog f code n rs) {args:List AVal} {res:AVal}
  (h:VC Tryz.prog (zb7 site nobj) 0 code ⟨args++List.replicate (n - args.length) .junk,List.replicate nobj none⟩ (RQ (zb7 site nobj) rs res)) (hargs:args.length≤n:=by simp) :
  AC Tryz.prog gl f args [] res []:=by
 obtain ⟨fn,hf,hb,rfl,hrs⟩:=hF
 obtain rfl:fn.results.toList=rs:=by rw [hrs]
 exact AC.of_vc (env:=zb7 site nobj) (zfc _ _) mixed hf hb hargs h
theorem zat {f:FuncId} {code:Code} (site:Nat→Nat) (nobj:Nat) {n:Nat} {rs:List ResultVar} (hF:FI Tryz.prog f code n rs) {args:List AVal} {objs:List (Option AObj)} {res:AVal} {objs':List (Option AObj)}
  (h:VC Tryz.prog (zb7 site nobj) objs.length code ⟨args++List.replicate (n - args.length) .junk,objs++List.replicate (nobj - objs.length) none⟩ (zax (zb7 site nobj) objs.length rs res objs')) (hargs:args.length≤n:=by simp) (hobjs:objs.length≤nobj:=by simp) :
  AC Tryz.prog gl f args objs res objs':=by
 obtain ⟨fn,hf,hb,rfl,hrs⟩:=hF
 obtain rfl:fn.results.toList=rs:=by rw [hrs]
 exact AC.of_body (env:=zb7 site nobj) (zfc _ _) hf hb hargs hobjs (VC.to (zfc _ _) mixed code h)
theorem zbv {f:FuncId} {code:Code} (site:Nat→Nat) (nobj:Nat) {n:Nat} {rs:List ResultVar} (hF:FI Tryz.prog f code n rs) {args:List AVal} {objs:List (Option AObj)} {res:AVal} {objs':List (Option AObj)}
  (h:VC Tryz.prog (zb7 site nobj) objs.length code ⟨args++List.replicate (n - args.length) .junk,objs++List.replicate (nobj - objs.length) none⟩ (zzI (zb7 site nobj) objs.length (zax (zb7 site nobj) objs.length rs res objs'))) (hargs:args.length≤n:=by simp) (hobjs:objs.length≤nobj:=by simp) :
  AC Tryz.prog gl f args objs res objs':=by
 obtain ⟨fn,hf,hb,rfl,hrs⟩:=hF
 obtain rfl:fn.results.toList=rs:=by rw [hrs]
 exact AC.of_body (env:=zb7 site nobj) (zfc _ _) hf hb hargs hobjs (SW.weakEnd (VC.to (zfc _ _) mixed code h))
theorem zbY {f:FuncId} {code:Code} (site:Nat→Nat) (nobj:Nat) {n:Nat} {rs:List ResultVar} (hF:FI Tryz.prog f code n rs) {args:List AVal} {objs:List (Option AObj)} {x:Value} {objs':List (Option AObj)}
  (h:VC Tryz.prog (zb7 site nobj) objs.length code ⟨args++List.replicate (n - args.length) .junk,objs++List.replicate (nobj - objs.length) none⟩ (zct objs.length x objs')) (hargs:args.length≤n:=by simp) (hobjs:objs.length≤nobj:=by simp) :
  AP Tryz.prog gl f args objs x objs':=by
 obtain ⟨fn,hf,hb,rfl,hrs⟩:=hF
 exact AP.of_body (env:=zb7 site nobj) (zfc _ _) hf hb hargs hobjs (VC.to (zfc _ _) mixed code h)
theorem zaK {site:Nat→Nat} {nobj pin:Nat} {σ:St} {Q:Exit→St→Prop} {ι:Type} {c:Code} {t:Tg (Code.loop c,Q)} (I:ι→St) (μ:ι→Nat) (i0:ι) (h0:zaY (zb7 site nobj) pin σ (I i0))
  (round:∀ i,VC Tryz.prog (zb7 site nobj) pin c (I i) (zg5 (NX (zb7 site nobj) pin I μ .mk (μ i)) Q)):LW Tryz.prog (zb7 site nobj) pin (.loop c) σ Q t:=
 LW.loop (zfc _ _) mixed I μ i0 h0 round
end Go.Proofs.YtfinhhblcdkpgaaGreatDoor
