/- The table of types of the program, held against the program. No condition. -/
import Derived.Test.YtfinhhblcdkpgaaGreatDoorProg
import Derived.KernelRfl
import Derived.Test.YtfinhhblcdkpgaaGreatDoorLib3
set_option maxRecDepth 100000
set_option maxHeartbeats 64000000
set_option linter.unusedSimpArgs false
set_option linter.unusedVariables false
set_option linter.defProp false
namespace Go.Proofs.YtfinhhblcdkpgaaGreatDoor
open Go Go.Abs
def ty2:Ty:={ size:=1,bytes:=8,zero:=some [.pv (.int .i64 0)],kind:=.int .i64 }
def ty4:Ty:={ size:=1,bytes:=1,zero:=some [.pv (.bool false)],kind:=.bool }
def ty5:Ty:={ size:=1,bytes:=1,zero:=some [.pv (.int .u8 0)],kind:=.int .u8 }
def ty9:Ty:={ size:=1,bytes:=16,zero:=some [.pv (.str [])],kind:=.string }
def zev:Ty:={ size:=1,bytes:=8,zero:=some [.pv .nilptr] }
def zyT:Ty:={ size:=1,bytes:=16,zero:=some [.pv (.err true)],kind:=.iface }
def zDr:Ty:={ size:=1,bytes:=24,zero:=some [.snil],eSize:=1,eBytes:=1,eZero:=true,kKind:=.int .u8,eZV:=some (false,[.int .u8 0]),kind:=.slice }
def zyU:Ty:={ size:=1,bytes:=24,zero:=some [.snil],eSize:=5,eBytes:=120,eZero:=true,eZV:=some (true,[.slice [],.slice [],.slice [],.slice [],.slice []]),kind:=.slice }
def zDs:Ty:={ size:=1,bytes:=24,zero:=some [.snil],eSize:=4,eBytes:=32,eZero:=true,eZV:=some (true,[.int .i64 0,.int .i64 0,.int .i64 0,.int .i64 0]),kind:=.slice }
def zDt:Ty:={ size:=4,bytes:=32,agg:=true,zero:=some [.pv (.int .i64 0),.pv (.int .i64 0),.pv (.int .i64 0),.pv (.int .i64 0)],fields:=[(0,1),(1,1),(2,1),(3,1)],kind:=.struct,eqs:=some [.int .i64,.int .i64,.int .i64,.int .i64] }
def zDu:Ty:={ size:=1,bytes:=24,zero:=some [.snil],eSize:=3,eBytes:=32,eZero:=true,eZV:=some (true,[.str [],.int .i64 0,.int .i64 0]),kind:=.slice }
def zDv:Ty:={ size:=1,bytes:=24,zero:=some [.snil],eSize:=18,eBytes:=232,eZero:=true,eZV:=some (true,[.int .i64 0,.str [],.int .i64 0,.int .i64 0,.int .i64 0,.int .i64 0,.str [],.int .i64 0,.int .i64 0,.slice [],.int .i64 0,.int .i64 0,.str [],.int .i64 0,.int .i64 0,.slice [],.slice [],.slice []]),kind:=.slice }
def zyV:Ty:={ size:=5,bytes:=120,agg:=true,zero:=some [.snil,.snil,.snil,.snil,.snil],fields:=[(0,1),(1,1),(2,1),(3,1),(4,1)],kind:=.struct }
def zDw:Ty:={ size:=3,bytes:=32,agg:=true,zero:=some [.pv (.str []),.pv (.int .i64 0),.pv (.int .i64 0)],fields:=[(0,1),(1,1),(2,1)],kind:=.struct,eqs:=some [.string,.int .i64,.int .i64] }
def zyW:Ty:={ size:=3,bytes:=40,agg:=true,zero:=some [.snil,.pv (.int .i64 0),.pv (.int .i64 0)],fields:=[(0,1),(1,1),(2,1)],kind:=.struct }
def zDx:Ty:={ size:=1,bytes:=24,zero:=some [.snil],eSize:=1,eBytes:=8,eZero:=true,kKind:=.int .i64,eZV:=some (false,[.int .i64 0]),kind:=.slice }
def zDy:Ty:={ size:=1,bytes:=24,zero:=some [.snil],eSize:=1,eBytes:=16,eZero:=true,kKind:=.string,eZV:=some (false,[.str []]),kind:=.slice }
def zDz:Ty:={ size:=15,bytes:=240,agg:=true,zero:=some [.pv (.str []),.pv (.str []),.pv (.str []),.pv (.str []),.pv (.str []),.pv (.str []),.pv (.str []),.pv (.str []),.pv (.str []),.pv (.str []),.pv (.str []),.pv (.str []),.pv (.str []),.pv (.str []),.pv (.str [])],eSize:=1,eBytes:=16,eZero:=true,kKind:=.string,kind:=.array 15 }
def zDA:Ty:={ size:=2,bytes:=32,agg:=true,zero:=some [.snil,.pv (.int .i64 0)],fields:=[(0,1),(1,1)],kind:=.struct }
def zDB:Ty:={ size:=2,bytes:=32,agg:=true,zero:=some [.pv .nilptr,.snil],fields:=[(0,1),(1,1)],kind:=.struct,bld:=some 5 }
def zDC:Ty:={ size:=9,bytes:=144,agg:=true,zero:=some [.pv (.str []),.pv (.str []),.pv (.str []),.pv (.str []),.pv (.str []),.pv (.str []),.pv (.str []),.pv (.str []),.pv (.str [])],eSize:=1,eBytes:=16,eZero:=true,kKind:=.string,kind:=.array 9 }
def zDD:Ty:={ size:=7,bytes:=104,agg:=true,zero:=some [.snil,.pv (.bool false),.pv (.int .i64 0),.snil,.pv (.int .i64 0),.pv (.int .i64 0),.snil],fields:=[(0,1),(1,1),(2,1),(3,3),(6,1)],kind:=.struct }
def zDE:Ty:={ size:=1,bytes:=8,zero:=some [.pv .nilmap],kKind:=.string,eZV:=some (true,[.int .i64 0,.int .i64 0]),kind:=.map }
def zDF:Ty:={ size:=2,bytes:=16,agg:=true,zero:=some [.pv (.int .i64 0),.pv (.int .i64 0)],fields:=[(0,1),(1,1)],kind:=.struct,eqs:=some [.int .i64,.int .i64] }
def zDG:Ty:={ size:=3,bytes:=16,agg:=true,zero:=some [.pv .nilmap,.pv (.bool false),.pv (.bool false)],fields:=[(0,1),(1,1),(2,1)],kind:=.struct }
def zxE:Ty:={ size:=1,bytes:=24,agg:=true,zero:=some [.snil],fields:=[(0,1)],kind:=.struct }
def zxF:Ty:={ size:=1,bytes:=24,zero:=some [.snil],eSize:=1,eBytes:=8,eZero:=true,eZV:=some (false,[.nilptr]),kind:=.slice }
def zxG:Ty:={ size:=1,bytes:=24,zero:=some [.snil],eSize:=6,eBytes:=72,eZero:=true,eZV:=some (true,[.int .i64 0,.int .i64 0,.str [],.int .i64 0,.int .i64 0,.slice []]),kind:=.slice }
def zxH:Ty:={ size:=6,bytes:=72,agg:=true,zero:=some [.pv (.int .i64 0),.pv (.int .i64 0),.pv (.str []),.pv (.int .i64 0),.pv (.int .i64 0),.snil],fields:=[(0,1),(1,1),(2,1),(3,1),(4,1),(5,1)],kind:=.struct }
def zxI:Ty:={ size:=18,bytes:=232,agg:=true,zero:=some [.pv (.int .i64 0),.pv (.str []),.pv (.int .i64 0),.pv (.int .i64 0),.pv (.int .i64 0),.pv (.int .i64 0),.pv (.str []),.pv (.int .i64 0),.pv (.int .i64 0),.snil,.pv (.int .i64 0),.pv (.int .i64 0),.pv (.str []),.pv (.int .i64 0),.pv (.int .i64 0),.snil,.snil,.snil],fields:=[(0,1),(1,1),(2,1),(3,1),(4,6),(10,6),(16,1),(17,1)],kind:=.struct }
def zxJ:Ty:={ size:=3,bytes:=48,agg:=true,zero:=some [.pv (.str []),.pv (.str []),.pv (.str [])],eSize:=1,eBytes:=16,eZero:=true,kKind:=.string,kind:=.array 3 }
def zxK:Ty:={ size:=2,bytes:=32,agg:=true,zero:=some [.pv (.str []),.pv (.str [])],eSize:=1,eBytes:=16,eZero:=true,kKind:=.string,kind:=.array 2 }
def zxL:Ty:={ size:=1,bytes:=24,zero:=some [.snil],eSize:=4,eBytes:=40,eZero:=true,eZV:=some (true,[.int .i64 0,.str [],.int .i64 0,.int .i64 0]),kind:=.slice }
def zxM:Ty:={ size:=4,bytes:=4,agg:=true,zero:=some [.pv (.bool false),.pv (.bool false),.pv (.bool false),.pv (.bool false)],eSize:=1,eBytes:=1,eZero:=true,kKind:=.bool,kind:=.array 4 }
def zxN:Ty:={ size:=4,bytes:=40,agg:=true,zero:=some [.pv (.int .i64 0),.pv (.str []),.pv (.int .i64 0),.pv (.int .i64 0)],fields:=[(0,1),(1,1),(2,1),(3,1)],kind:=.struct,eqs:=some [.int .i64,.string,.int .i64,.int .i64] }
def zxO:Ty:={ size:=1,bytes:=8,agg:=true,zero:=some [.pv (.int .i64 0)],fields:=[(0,1)],kind:=.struct,eqs:=some [.int .i64] }
def zxP:Ty:={ size:=4,bytes:=32,agg:=true,zero:=some [.pv .nilptr,.pv .nilptr,.pv .nilptr,.pv .nilptr],eSize:=1,eBytes:=8,eZero:=true,kind:=.array 4 }
def zxQ:Ty:={ size:=4,bytes:=64,agg:=true,zero:=some [.pv (.str []),.pv (.str []),.pv (.str []),.pv (.str [])],eSize:=1,eBytes:=16,eZero:=true,kKind:=.string,kind:=.array 4 }
def tyF:Nat→Option Ty
 |2=>some ty2
 |3=>some ty2
 |4=>some ty4
 |5=>some ty5
 |9=>some ty9
 |20=>some zyT
 |22=>some zDr
 |24=>some zyU
 |25=>some zDs
 |26=>some zev
 |29=>some ty2
 |41=>some zDt
 |42=>some zDu
 |43=>some zDv
 |45=>some zyV
 |48=>some zDw
 |50=>some zyU
 |52=>some zyW
 |57=>some zDx
 |59=>some zyV
 |70=>some zDy
 |72=>some zDz
 |74=>some zDA
 |77=>some zDB
 |79=>some zyT
 |82=>some zDC
 |85=>some zev
 |87=>some zDD
 |91=>some zDE
 |93=>some zDF
 |95=>some zev
 |97=>some zDG
 |113=>some zxE
 |115=>some zxF
 |117=>some zev
 |118=>some zev
 |126=>some zxG
 |128=>some zxH
 |130=>some zxI
 |133=>some zxJ
 |135=>some zxK
 |140=>some zxL
 |147=>some zxM
 |153=>some zev
 |161=>some zev
 |169=>some zxN
 |198=>some zev
 |213=>some zxO
 |215=>some zev
 |217=>some zyW
 |220=>some zev
 |221=>some zev
 |237=>some zev
 |238=>some zxP
 |239=>some zxQ
 |_=>none
def gl:Nat→Option (List PVal)
 |0=>some [.str [],.str [100,101,108,105,118,101,114],.str [116,105,99,107],.str [105,110,112,117,116],.str [100,114,111,112],.str [100,117,112,108,105,99,97,116,101],.str [114,101,115,101,110,100],.str [99,104,101,99,107,112,111,105,110,116],.str [102,108,117,115,104],.str [97,99,107],.str [99,114,97,115,104],.str [114,101,99,111,118,101,114],.str [114,101,115,116,111,114,101],.str [99,111,109,109,105,116],.str [99,111,108,108,101,99,116]]
 |1=>some [.str [],.str [105,110,100,101,112,101,110,100,101,110,116],.str [99,111,111,114,100,105,110,97,116,101,100],.str [105,110,100,101,120,101,100],.str [109,111,100,101,108,98,97,115,101,100],.str [112,101,115,115,105,109,105,115,116,105,99],.str [115,101,110,100,101,114,98,97,115,101,100],.str [111,112,116,105,109,105,115,116,105,99],.str [99,97,117,115,97,108]]
 |2=>some [.str [120],.str [121],.str [122]]
 |3=>some [.str [97],.str [98]]
 |4=>some [.int .u64 1,.int .u64 10,.int .u64 100,.int .u64 1000,.int .u64 10000,.int .u64 100000,.int .u64 1000000,.int .u64 10000000,.int .u64 100000000,.int .u64 1000000000,.int .u64 10000000000,.int .u64 100000000000,.int .u64 1000000000000,.int .u64 10000000000000,.int .u64 100000000000000,.int .u64 1000000000000000,.int .u64 10000000000000000,.int .u64 100000000000000000,.int .u64 1000000000000000000,.int .u64 10000000000000000000]
 |5=>some [.ani .i64]
 |10=>some [.err false]
 |11=>some [.err false]
 |_=>none
theorem zGJ:gl 0=some [.str [],.str [100,101,108,105,118,101,114],.str [116,105,99,107],.str [105,110,112,117,116],.str [100,114,111,112],.str [100,117,112,108,105,99,97,116,101],.str [114,101,115,101,110,100],.str [99,104,101,99,107,112,111,105,110,116],.str [102,108,117,115,104],.str [97,99,107],.str [99,114,97,115,104],.str [114,101,99,111,118,101,114],.str [114,101,115,116,111,114,101],.str [99,111,109,109,105,116],.str [99,111,108,108,101,99,116]]:=rfl
theorem zGK:gl 1=some [.str [],.str [105,110,100,101,112,101,110,100,101,110,116],.str [99,111,111,114,100,105,110,97,116,101,100],.str [105,110,100,101,120,101,100],.str [109,111,100,101,108,98,97,115,101,100],.str [112,101,115,115,105,109,105,115,116,105,99],.str [115,101,110,100,101,114,98,97,115,101,100],.str [111,112,116,105,109,105,115,116,105,99],.str [99,97,117,115,97,108]]:=rfl
theorem zGL:gl 2=some [.str [120],.str [121],.str [122]]:=rfl
theorem zGM:gl 3=some [.str [97],.str [98]]:=rfl
theorem zGN:gl 4=some [.int .u64 1,.int .u64 10,.int .u64 100,.int .u64 1000,.int .u64 10000,.int .u64 100000,.int .u64 1000000,.int .u64 10000000,.int .u64 100000000,.int .u64 1000000000,.int .u64 10000000000,.int .u64 100000000000,.int .u64 1000000000000,.int .u64 10000000000000,.int .u64 100000000000000,.int .u64 1000000000000000,.int .u64 10000000000000000,.int .u64 100000000000000000,.int .u64 1000000000000000000,.int .u64 10000000000000000000]:=rfl
theorem zGO:gl 5=some [.ani .i64]:=rfl
theorem zDH:gl 10=some [.err false]:=rfl
theorem zDI:gl 11=some [.err false]:=rfl
def zbJ (site:Nat→Nat) (nobj:Nat):Env:=⟨tyF,gl,site,nobj⟩
theorem zcv (site:Nat→Nat) (nobj:Nat):zaL Tryz.prog (zbJ site nobj):=by
 intro t ty h
 change tyF t=some ty at h
 unfold tyF at h
 split at h<;>first|(cases h;done)|(cases h;kernel_rfl)
theorem zaj (f : FuncId) {fn : Func} (hf : Tryz.prog.funcs[f]? = some fn) (hn : (fn.name == "runtime.NumGoroutine" || fn.body.isNone) = false) (vargs : Array Value) (w : World) : (callFunc f vargs).run Tryz.prog w = .ok (.enter f vargs) w := by
 simp only [Bool.or_eq_false_iff] at hn
 obtain ⟨h1,h2⟩:=hn
 unfold callFunc
 simp only [Sem.run_bind,run_program,Result.andThen,hf,h1,h2,Bool.false_eq_true,if_false,Sem.run_pure]
theorem mixed:Tryz.prog.follows .mixedOrders=true:=by kernel_rfl
theorem zAW (site:Nat→Nat) (nobj t:Nat):(zbJ site nobj).ty t=tyF t:=rfl
theorem zAX (site:Nat→Nat) (nobj t:Nat):(zbJ site nobj).gl t=gl t:=rfl
theorem zuI (site:Nat→Nat) (nobj t:Nat):(zbJ site nobj).site t=site t:=rfl
theorem zuJ (site:Nat→Nat) (nobj:Nat):(zbJ site nobj).nobj=nobj:=rfl
def tx2:=And.intro (show tyF 2=some ty2 from rfl) ty2.eq_1
def tx3:=And.intro (show tyF 3=some ty2 from rfl) ty2.eq_1
def tx4:=And.intro (show tyF 4=some ty4 from rfl) ty4.eq_1
def tx5:=And.intro (show tyF 5=some ty5 from rfl) ty5.eq_1
def tx9:=And.intro (show tyF 9=some ty9 from rfl) ty9.eq_1
def zGP:=And.intro (show tyF 20=some zyT from rfl) zyT.eq_1
def zxR:=And.intro (show tyF 22=some zDr from rfl) zDr.eq_1
def zDJ:=And.intro (show tyF 24=some zyU from rfl) zyU.eq_1
def zxS:=And.intro (show tyF 25=some zDs from rfl) zDs.eq_1
def zyX:=And.intro (show tyF 26=some zev from rfl) zev.eq_1
def ztr:=And.intro (show tyF 29=some ty2 from rfl) ty2.eq_1
def zv6:=And.intro (show tyF 41=some zDt from rfl) zDt.eq_1
def zyY:=And.intro (show tyF 42=some zDu from rfl) zDu.eq_1
def zi7:=And.intro (show tyF 43=some zDv from rfl) zDv.eq_1
def zpM:=And.intro (show tyF 45=some zyV from rfl) zyV.eq_1
def zyZ:=And.intro (show tyF 48=some zDw from rfl) zDw.eq_1
def zCi:=And.intro (show tyF 50=some zyU from rfl) zyU.eq_1
def zy0:=And.intro (show tyF 52=some zyW from rfl) zyW.eq_1
def zAY:=And.intro (show tyF 57=some zDx from rfl) zDx.eq_1
def zAZ:=And.intro (show tyF 59=some zyV from rfl) zyV.eq_1
def zpN:=And.intro (show tyF 70=some zDy from rfl) zDy.eq_1
def zFd:=And.intro (show tyF 72=some zDz from rfl) zDz.eq_1
def zDK:=And.intro (show tyF 74=some zDA from rfl) zDA.eq_1
def zFe:=And.intro (show tyF 77=some zDB from rfl) zDB.eq_1
def zFf:=And.intro (show tyF 79=some zyT from rfl) zyT.eq_1
def zFg:=And.intro (show tyF 82=some zDC from rfl) zDC.eq_1
def zDL:=And.intro (show tyF 85=some zev from rfl) zev.eq_1
def zA0:=And.intro (show tyF 87=some zDD from rfl) zDD.eq_1
def zFh:=And.intro (show tyF 91=some zDE from rfl) zDE.eq_1
def zFi:=And.intro (show tyF 93=some zDF from rfl) zDF.eq_1
def zCj:=And.intro (show tyF 95=some zev from rfl) zev.eq_1
def zFj:=And.intro (show tyF 97=some zDG from rfl) zDG.eq_1
def zA1:=And.intro (show tyF 113=some zxE from rfl) zxE.eq_1
def zxT:=And.intro (show tyF 115=some zxF from rfl) zxF.eq_1
def zA2:=And.intro (show tyF 117=some zev from rfl) zev.eq_1
def zA3:=And.intro (show tyF 118=some zev from rfl) zev.eq_1
def zi8:=And.intro (show tyF 126=some zxG from rfl) zxG.eq_1
def zf3:=And.intro (show tyF 128=some zxH from rfl) zxH.eq_1
def zkv:=And.intro (show tyF 130=some zxI from rfl) zxI.eq_1
def zA4:=And.intro (show tyF 133=some zxJ from rfl) zxJ.eq_1
def zA5:=And.intro (show tyF 135=some zxK from rfl) zxK.eq_1
def zlH:=And.intro (show tyF 140=some zxL from rfl) zxL.eq_1
def zA6:=And.intro (show tyF 147=some zxM from rfl) zxM.eq_1
def zlI:=And.intro (show tyF 153=some zev from rfl) zev.eq_1
def zuK:=And.intro (show tyF 161=some zev from rfl) zev.eq_1
def zlJ:=And.intro (show tyF 169=some zxN from rfl) zxN.eq_1
def zlK:=And.intro (show tyF 198=some zev from rfl) zev.eq_1
def zA7:=And.intro (show tyF 213=some zxO from rfl) zxO.eq_1
def zgB:=And.intro (show tyF 215=some zev from rfl) zev.eq_1
def zlL:=And.intro (show tyF 217=some zyW from rfl) zyW.eq_1
def zDM:=And.intro (show tyF 220=some zev from rfl) zev.eq_1
def zDN:=And.intro (show tyF 221=some zev from rfl) zev.eq_1
def zDO:=And.intro (show tyF 237=some zev from rfl) zev.eq_1
def zDP:=And.intro (show tyF 238=some zxP from rfl) zxP.eq_1
def zDQ:=And.intro (show tyF 239=some zxQ from rfl) zxQ.eq_1
def tyS:=And.intro @zAW<|And.intro @zuI<|And.intro @zuJ<|And.intro @zAX<|And.intro zGJ<|And.intro zGK<|And.intro zGL<|And.intro zGM<|And.intro zGN<|And.intro zGO<|And.intro zDH<|zDI
def tq7:=And.intro tyS<|And.intro tx3<|And.intro tx4<|And.intro tx9<|And.intro zxR<|And.intro zDJ<|And.intro zxS<|And.intro ztr<|And.intro zpM<|And.intro zCi<|And.intro zy0<|zAZ
def tq8:=And.intro tyS<|And.intro tx3<|And.intro tx9<|And.intro zxS<|And.intro ztr<|And.intro zv6<|And.intro zi7<|And.intro zCi<|And.intro zy0<|zAZ
def tq9:=And.intro tyS<|And.intro tx3<|And.intro zxR<|And.intro zDJ<|And.intro zxS<|And.intro zyX<|zv6
def zDR:=And.intro tyS<|And.intro tx3<|And.intro tx9<|zFd
def zCk:=And.intro tyS<|And.intro tx3<|And.intro tx4<|And.intro tx5<|And.intro zxR<|And.intro zyX<|zDK
def zCl:=And.intro tyS<|And.intro tx3<|And.intro zyX<|zAY
def zpO:=And.intro tyS<|And.intro tx3<|And.intro tx9<|And.intro zDJ<|And.intro zxS<|And.intro ztr<|And.intro zv6<|And.intro zpM<|And.intro zFe<|zFg
def zDS:=And.intro tyS<|And.intro tx3<|And.intro tx9<|And.intro zxS<|And.intro ztr<|And.intro zy0<|And.intro zpN<|And.intro zDL<|zA0
def zDT:=And.intro tyS<|And.intro tx3<|And.intro zxS<|zv6
def zpP:=And.intro tyS<|And.intro tx3<|And.intro tx4<|And.intro tx9<|And.intro ztr<|And.intro zyY<|And.intro zi7<|And.intro zpM<|And.intro zyZ<|And.intro zAY<|And.intro zAZ<|And.intro zFh<|And.intro zFi<|And.intro zCj<|zFj
def zGQ:=And.intro tyS<|And.intro zi7<|And.intro zAY<|zAZ
def zCm:=And.intro tyS<|And.intro tx3<|And.intro zxR<|zDK
def zFk:=And.intro tyS<|And.intro tx3<|And.intro zyX<|And.intro zyY<|And.intro zi7<|And.intro zpM<|zyZ
def zFl:=And.intro tyS<|And.intro tx3<|And.intro zxR<|zDK
def zDU:=And.intro tyS<|And.intro tx3<|And.intro tx9<|And.intro zxR<|And.intro ztr<|And.intro zpM<|zA1
def zhc:=And.intro tyS<|And.intro tx3<|And.intro tx9<|And.intro zv6<|And.intro zxT<|And.intro zA2<|zA3
def zgr:=And.intro tyS<|And.intro tx3<|And.intro tx4<|And.intro tx9<|And.intro zxS<|And.intro ztr<|And.intro zv6<|And.intro zCi<|And.intro zy0<|And.intro zpN<|And.intro zDL<|zA0
def zA8:=And.intro tyS<|And.intro tx3<|And.intro tx4<|And.intro zyY<|And.intro zi7<|And.intro zpM<|zyZ
def zCn:=And.intro tyS<|And.intro tx3<|And.intro zi7<|And.intro zCj<|zkv
def zDV:=And.intro tyS<|And.intro tx3<|zAY
def zDW:=And.intro tyS<|And.intro tx3<|And.intro tx4<|And.intro tx9<|And.intro zi7<|And.intro zf3<|zkv
def zmK:=And.intro tyS<|And.intro tx3<|And.intro tx9<|And.intro zyX<|And.intro zi7<|And.intro zkv<|And.intro zA4<|zA5
def zy1:=And.intro tyS<|And.intro tx3<|And.intro tx9<|And.intro zyY<|And.intro zi7<|And.intro zpM<|And.intro zyZ<|And.intro zpN<|zlI
def zv7:=And.intro tyS<|And.intro tx3<|And.intro zv6<|zxT
def zv8:=And.intro tyS<|And.intro tx3<|And.intro tx9<|And.intro zpN<|zA0
def zuL:=And.intro tyS<|And.intro tx3<|And.intro tx9<|And.intro zy0<|And.intro zpN<|And.intro zFg<|zA0
def zqt:=And.intro tyS<|And.intro tx3<|And.intro tx4<|And.intro tx5<|And.intro tx9<|And.intro ztr<|And.intro zpM<|And.intro zCi<|And.intro zy0<|And.intro zAZ<|And.intro zFe<|And.intro zDL<|zA0
def zgC:=And.intro tyS<|And.intro tx3<|And.intro tx4<|And.intro tx9<|And.intro zv6<|And.intro zpN<|And.intro zFd<|And.intro zxT<|And.intro zA2<|zA3
def zGR:=And.intro tyS<|And.intro tx3<|And.intro zi7<|zpM
def zGS:=And.intro tyS<|And.intro tx3<|And.intro tx4<|And.intro tx9<|zyZ
def zCo:=And.intro tyS<|And.intro tx3<|And.intro tx4<|And.intro zi7<|zuK
def zy2:=And.intro tyS<|And.intro tx3<|And.intro tx4<|And.intro tx9<|And.intro zi7<|And.intro zCj<|And.intro zf3<|zkv
def zDX:=And.intro tyS<|And.intro tx3<|And.intro tx4<|And.intro tx9<|And.intro zi8<|zf3
def ze2:=And.intro tyS<|And.intro tx3<|And.intro tx9<|And.intro zyX<|And.intro zAY<|And.intro zi8<|And.intro zf3<|And.intro zA4<|zA5
def zCp:=And.intro tyS<|And.intro tx3<|And.intro tx9<|And.intro zxR<|And.intro zpN<|zA1
def zCq:=And.intro tyS<|And.intro tx3<|And.intro zi7<|And.intro zpN<|zlI
def zDY:=And.intro tyS<|And.intro tx2<|And.intro tx3<|And.intro tx9<|zFf
def zv9:=And.intro tyS<|And.intro tx3<|And.intro tx4<|And.intro tx9<|And.intro ztr<|And.intro zpM<|zlH
def zDZ:=And.intro tyS<|And.intro tx3<|And.intro zi7<|zuK
def zD0:=And.intro tyS<|And.intro tx3<|And.intro tx4<|And.intro tx5<|tx9
def zGT:=And.intro tyS<|And.intro tx3<|And.intro tx4<|And.intro tx9<|And.intro zi7<|And.intro zkv<|zlK
def zy3:=And.intro tyS<|And.intro tx3<|And.intro tx4<|And.intro zFh<|And.intro zFi<|zFj
def zqu:=And.intro tyS<|And.intro tx3<|And.intro tx4<|And.intro tx9<|And.intro zCj<|And.intro zi8<|zf3
def zuM:=And.intro tyS<|And.intro tx3<|And.intro zi7<|And.intro zlI<|zuK
def znb:=And.intro tyS<|And.intro tx3<|And.intro tx5<|And.intro tx9<|And.intro ztr<|And.intro zlH<|zlJ
def zkw:=And.intro tyS<|And.intro tx3<|And.intro tx4<|And.intro zyY<|And.intro zpM<|And.intro zlH<|And.intro zA6<|And.intro zgB<|And.intro zlL<|And.intro zDM<|zDN
def zD1:=And.intro tyS<|And.intro tx3<|And.intro zi7<|And.intro zkv<|zlK
def zD2:=And.intro tyS<|tx5
def zA9:=And.intro tyS<|And.intro tx3<|And.intro tx5<|tx9
def zD3:=And.intro tyS<|tx9
def zD4:=And.intro tyS<|tx9
def zuN:=And.intro tyS<|And.intro tx3<|And.intro tx4<|And.intro tx9<|And.intro zi8<|And.intro zf3<|zlK
def zD5:=And.intro tyS<|And.intro tx3<|And.intro tx9<|And.intro zi8<|zf3
def zuO:=And.intro tyS<|And.intro tx3<|And.intro zpN<|zlI
def zi9:=And.intro tyS<|And.intro tx3<|And.intro tx9<|And.intro zpN<|And.intro zkv<|And.intro zlI<|And.intro zuK<|zlK
def zD6:=And.intro tyS<|And.intro tx3<|And.intro tx5<|tx9
def zrC:=And.intro tyS<|And.intro tx3<|And.intro tx5<|And.intro tx9<|zlJ
def zpQ:=And.intro tyS<|And.intro tx3<|And.intro tx4<|And.intro zGP<|And.intro zpM<|zA7
def zeq:=And.intro tyS<|And.intro tx3<|And.intro tx9<|And.intro zyY<|And.intro zyZ<|zgB
def zdo:=And.intro tyS<|And.intro tx3<|And.intro tx4<|And.intro tx9<|And.intro zi7<|And.intro zpM<|And.intro zA6<|And.intro zgB<|And.intro zDO<|And.intro zDP<|zDQ
def zxU:=And.intro tyS<|And.intro tx3<|And.intro zi8<|And.intro zf3<|zlK
def zD7:=And.intro tyS<|tx5
def zD8:=And.intro tyS<|tx3
def zpR:=And.intro tyS<|And.intro tx3<|And.intro zi7<|And.intro zpN<|And.intro zkv<|And.intro zlI<|zlK
def zer:=And.intro tyS<|And.intro tx3<|And.intro tx9<|And.intro zpN<|And.intro zi8<|And.intro zf3<|And.intro zlI<|zlK
def zxV:=And.intro tyS<|And.intro tx3<|And.intro tx5<|And.intro tx9<|And.intro zFf<|zlJ
def zBa:=And.intro tyS<|And.intro tx3<|And.intro tx5<|tx9
def zuP:=And.intro tyS<|And.intro tx3<|And.intro tx9<|And.intro zgB<|zlL
def zrD:=And.intro tyS<|And.intro tx3<|And.intro tx4<|And.intro tx9<|And.intro zlH<|And.intro zlJ<|And.intro zgB<|zlL
def zrE:=And.intro tyS<|And.intro tx3<|And.intro zlH<|And.intro zlJ<|And.intro zgB<|zlL
def zxW:=And.intro tyS<|And.intro tx4<|And.intro tx9<|zgB
def zpS:=And.intro tyS<|And.intro tx4<|And.intro tx9<|And.intro zi7<|zgB
def zBb:=And.intro tyS<|And.intro tx3<|And.intro zlH<|And.intro zlJ<|And.intro zA7<|zlL
def zD9:=And.intro tyS<|tx3
def zuQ:=And.intro tyS<|And.intro tx3<|And.intro zpN<|And.intro zf3<|And.intro zlI<|zlK
def zuR:=And.intro tyS<|And.intro tx3<|And.intro tx9<|And.intro zlH<|And.intro zlJ<|zlL
def zbY:=And.intro tyS<|And.intro tx3<|And.intro tx9<|And.intro zi7<|And.intro zf3<|And.intro zkv<|zgB
def zkx:=And.intro tyS<|And.intro tx3<|And.intro zi8<|And.intro zf3<|zgB
def zky:=And.intro tyS<|And.intro tx9<|And.intro zi8<|And.intro zf3<|zgB
def zuS:=And.intro tyS<|And.intro tx3<|And.intro tx9<|And.intro zgB<|zlL
def zrF:=And.intro tyS<|And.intro tx3<|tx9
def zdp:=And.intro tyS<|And.intro tx3<|And.intro tx9<|And.intro zi8<|And.intro zf3<|And.intro zlH<|And.intro zlJ<|And.intro zgB<|zlL
def zEa:=And.intro tyS<|tx3
def fi7:=FI.of Tryz.func7 rfl Tryz.ntmps7 Tryz.results7
def fi8:=FI.of Tryz.func8 rfl Tryz.ntmps8 Tryz.results8
def fi9:=FI.of Tryz.func9 rfl Tryz.ntmps9 Tryz.results9
def zEb:=FI.of Tryz.func14 rfl Tryz.ntmps14 Tryz.results14
def zFm:=FI.of Tryz.func16 rfl Tryz.ntmps16 Tryz.results16
def zFn:=FI.of Tryz.func17 rfl Tryz.ntmps17 Tryz.results17
def zy4:=FI.of Tryz.func19 rfl Tryz.ntmps19 Tryz.results19
def zEc:=FI.of Tryz.func20 rfl Tryz.ntmps20 Tryz.results20
def zGU:=FI.of Tryz.func21 rfl Tryz.ntmps21 Tryz.results21
def zGV:=FI.of Tryz.func22 rfl Tryz.ntmps22 Tryz.results22
def zGW:=FI.of Tryz.func23 rfl Tryz.ntmps23 Tryz.results23
def zGX:=FI.of Tryz.func24 rfl Tryz.ntmps24 Tryz.results24
def zGY:=FI.of Tryz.func25 rfl Tryz.ntmps25 Tryz.results25
def zGZ:=FI.of Tryz.func33 rfl Tryz.ntmps33 Tryz.results33
def zEd:=FI.of Tryz.func36 rfl Tryz.ntmps36 Tryz.results36
def zpT:=FI.of Tryz.func37 rfl Tryz.ntmps37 Tryz.results37
def zFo:=FI.of Tryz.func41 rfl Tryz.ntmps41 Tryz.results41
def zFp:=FI.of Tryz.func42 rfl Tryz.ntmps42 Tryz.results42
def zG0:=FI.of Tryz.func43 rfl Tryz.ntmps43 Tryz.results43
def zG1:=FI.of Tryz.func44 rfl Tryz.ntmps44 Tryz.results44
def zG2:=FI.of Tryz.func45 rfl Tryz.ntmps45 Tryz.results45
def zFq:=FI.of Tryz.func46 rfl Tryz.ntmps46 Tryz.results46
def zG3:=FI.of Tryz.func57 rfl Tryz.ntmps57 Tryz.results57
def zCr:=FI.of Tryz.func58 rfl Tryz.ntmps58 Tryz.results58
def zCs:=FI.of Tryz.func60 rfl Tryz.ntmps60 Tryz.results60
def zEe:=FI.of Tryz.func61 rfl Tryz.ntmps61 Tryz.results61
def zFr:=FI.of Tryz.func62 rfl Tryz.ntmps62 Tryz.results62
def zG4:=FI.of Tryz.func63 rfl Tryz.ntmps63 Tryz.results63
def zG5:=FI.of Tryz.func64 rfl Tryz.ntmps64 Tryz.results64
def zG6:=FI.of Tryz.func65 rfl Tryz.ntmps65 Tryz.results65
def zG7:=FI.of Tryz.func66 rfl Tryz.ntmps66 Tryz.results66
def zEf:=FI.of Tryz.func67 rfl Tryz.ntmps67 Tryz.results67
def zG8:=FI.of Tryz.func68 rfl Tryz.ntmps68 Tryz.results68
def zlM:=FI.of Tryz.func69 rfl Tryz.ntmps69 Tryz.results69
def zG9:=FI.of Tryz.func83 rfl Tryz.ntmps83 Tryz.results83
def zFs:=FI.of Tryz.func84 rfl Tryz.ntmps84 Tryz.results84
def zEg:=FI.of Tryz.func88 rfl Tryz.ntmps88 Tryz.results88
def zCt:=FI.of Tryz.func90 rfl Tryz.ntmps90 Tryz.results90
def zHa:=FI.of Tryz.func91 rfl Tryz.ntmps91 Tryz.results91
def zHb:=FI.of Tryz.func92 rfl Tryz.ntmps92 Tryz.results92
def zHc:=FI.of Tryz.func93 rfl Tryz.ntmps93 Tryz.results93
def zEh:=FI.of Tryz.func94 rfl Tryz.ntmps94 Tryz.results94
def zEi:=FI.of Tryz.func95 rfl Tryz.ntmps95 Tryz.results95
def zEj:=FI.of Tryz.func116 rfl Tryz.ntmps116 Tryz.results116
def zEk:=FI.of Tryz.func123 rfl Tryz.ntmps123 Tryz.results123
def zEl:=FI.of Tryz.func125 rfl Tryz.ntmps125 Tryz.results125
def zEm:=FI.of Tryz.func126 rfl Tryz.ntmps126 Tryz.results126
def zEn:=FI.of Tryz.func127 rfl Tryz.ntmps127 Tryz.results127
def zEo:=FI.of Tryz.func128 rfl Tryz.ntmps128 Tryz.results128
def zEp:=FI.of Tryz.func129 rfl Tryz.ntmps129 Tryz.results129
def zEq:=FI.of Tryz.func130 rfl Tryz.ntmps130 Tryz.results130
def zEr:=FI.of Tryz.func131 rfl Tryz.ntmps131 Tryz.results131
def zEs:=FI.of Tryz.func150 rfl Tryz.ntmps150 Tryz.results150
def zrG:=FI.of Tryz.func151 rfl Tryz.ntmps151 Tryz.results151
def zEt:=FI.of Tryz.func159 rfl Tryz.ntmps159 Tryz.results159
def zEu:=FI.of Tryz.func160 rfl Tryz.ntmps160 Tryz.results160
def zEv:=FI.of Tryz.func162 rfl Tryz.ntmps162 Tryz.results162
def zBc:=FI.of Tryz.func163 rfl Tryz.ntmps163 Tryz.results163
def zEw:=FI.of Tryz.func164 rfl Tryz.ntmps164 Tryz.results164
def zEx:=FI.of Tryz.func165 rfl Tryz.ntmps165 Tryz.results165
def zEy:=FI.of Tryz.func166 rfl Tryz.ntmps166 Tryz.results166
def zxX:=FI.of Tryz.func170 rfl Tryz.ntmps170 Tryz.results170
def zkz:=FI.of Tryz.func171 rfl Tryz.ntmps171 Tryz.results171
def zEz:=FI.of Tryz.func180 rfl Tryz.ntmps180 Tryz.results180
def zEA:=FI.of Tryz.func181 rfl Tryz.ntmps181 Tryz.results181
def zBd:=FI.of Tryz.func182 rfl Tryz.ntmps182 Tryz.results182
def zBe:=FI.of Tryz.func183 rfl Tryz.ntmps183 Tryz.results183
def zBf:=FI.of Tryz.func184 rfl Tryz.ntmps184 Tryz.results184
def zBg:=FI.of Tryz.func185 rfl Tryz.ntmps185 Tryz.results185
def zBh:=FI.of Tryz.func186 rfl Tryz.ntmps186 Tryz.results186
def zEB:=FI.of Tryz.func187 rfl Tryz.ntmps187 Tryz.results187
def zEC:=FI.of Tryz.func190 rfl Tryz.ntmps190 Tryz.results190
def zBi:=FI.of Tryz.func191 rfl Tryz.ntmps191 Tryz.results191
def zED:=FI.of Tryz.func196 rfl Tryz.ntmps196 Tryz.results196
def zcA:=FI.of Tryz.func197 rfl Tryz.ntmps197 Tryz.results197
def zuT:=FI.of Tryz.func199 rfl Tryz.ntmps199 Tryz.results199
def zpU:=FI.of Tryz.func201 rfl Tryz.ntmps201 Tryz.results201
def zEE:=FI.of Tryz.func202 rfl Tryz.ntmps202 Tryz.results202
def zEF:=FI.of Tryz.func203 rfl Tryz.ntmps203 Tryz.results203
def zf4:=FI.of Tryz.func204 rfl Tryz.ntmps204 Tryz.results204
def zEG:=FI.of Tryz.func205 rfl Tryz.ntmps205 Tryz.results205
def zrH:=zaj 8 Tryz.func8 (by kernel_rfl)
def zrI:=zaj 9 Tryz.func9 (by kernel_rfl)
def zb8:=zaj 14 Tryz.func14 (by kernel_rfl)
def zag:=zaj 16 Tryz.func16 (by kernel_rfl)
def zc9:=zaj 17 Tryz.func17 (by kernel_rfl)
def zoc:=zaj 19 Tryz.func19 (by kernel_rfl)
def zod:=zaj 20 Tryz.func20 (by kernel_rfl)
def zuU:=zaj 21 Tryz.func21 (by kernel_rfl)
def zkA:=zaj 22 Tryz.func22 (by kernel_rfl)
def zuV:=zaj 23 Tryz.func23 (by kernel_rfl)
def zuW:=zaj 24 Tryz.func24 (by kernel_rfl)
def zuX:=zaj 25 Tryz.func25 (by kernel_rfl)
def zoe:=zaj 33 Tryz.func33 (by kernel_rfl)
def zf5:=zaj 34 Tryz.func34 (by kernel_rfl)
def zbW:=zaj 35 Tryz.func35 (by kernel_rfl)
def zof:=zaj 36 Tryz.func36 (by kernel_rfl)
def zog:=zaj 37 Tryz.func37 (by kernel_rfl)
def zoh:=zaj 38 Tryz.func38 (by kernel_rfl)
def zhi:=zaj 39 Tryz.func39 (by kernel_rfl)
def ze3:=zaj 40 Tryz.func40 (by kernel_rfl)
def zoi:=zaj 41 Tryz.func41 (by kernel_rfl)
def ze4:=zaj 42 Tryz.func42 (by kernel_rfl)
def zbf:=zaj 43 Tryz.func43 (by kernel_rfl)
def zuY:=zaj 44 Tryz.func44 (by kernel_rfl)
def ze5:=zaj 45 Tryz.func45 (by kernel_rfl)
def zeb:=zaj 46 Tryz.func46 (by kernel_rfl)
def zoj:=zaj 57 Tryz.func57 (by kernel_rfl)
def zaH:=zaj 58 Tryz.func58 (by kernel_rfl)
def zba:=zaj 60 Tryz.func60 (by kernel_rfl)
def zok:=zaj 61 Tryz.func61 (by kernel_rfl)
def zhj:=zaj 62 Tryz.func62 (by kernel_rfl)
def zhk:=zaj 63 Tryz.func63 (by kernel_rfl)
def zhl:=zaj 64 Tryz.func64 (by kernel_rfl)
def zol:=zaj 65 Tryz.func65 (by kernel_rfl)
def ze6:=zaj 66 Tryz.func66 (by kernel_rfl)
def zuZ:=zaj 67 Tryz.func67 (by kernel_rfl)
def zkB:=zaj 68 Tryz.func68 (by kernel_rfl)
def zaZ:=zaj 69 Tryz.func69 (by kernel_rfl)
def zaq:=zaj 83 Tryz.func83 (by kernel_rfl)
def zhm:=zaj 84 Tryz.func84 (by kernel_rfl)
def zcT:=zaj 88 Tryz.func88 (by kernel_rfl)
def zu0:=zaj 89 Tryz.func89 (by kernel_rfl)
def zkC:=zaj 90 Tryz.func90 (by kernel_rfl)
def ze7:=zaj 91 Tryz.func91 (by kernel_rfl)
def zf6:=zaj 92 Tryz.func92 (by kernel_rfl)
def zom:=zaj 93 Tryz.func93 (by kernel_rfl)
def zhn:=zaj 94 Tryz.func94 (by kernel_rfl)
def zda:=zaj 95 Tryz.func95 (by kernel_rfl)
def zeI:=zaj 116 Tryz.func116 (by kernel_rfl)
def zeJ:=zaj 121 Tryz.func121 (by kernel_rfl)
def zlN:=zaj 122 Tryz.func122 (by kernel_rfl)
def zf7:=zaj 123 Tryz.func123 (by kernel_rfl)
def zh1:=zaj 124 Tryz.func124 (by kernel_rfl)
def zrJ:=zaj 125 Tryz.func125 (by kernel_rfl)
def zdq:=zaj 126 Tryz.func126 (by kernel_rfl)
def zeK:=zaj 127 Tryz.func127 (by kernel_rfl)
def zrK:=zaj 128 Tryz.func128 (by kernel_rfl)
def zlO:=zaj 129 Tryz.func129 (by kernel_rfl)
def zf8:=zaj 130 Tryz.func130 (by kernel_rfl)
def zrL:=zaj 131 Tryz.func131 (by kernel_rfl)
def zeL:=zaj 150 Tryz.func150 (by kernel_rfl)
def zrM:=zaj 151 Tryz.func151 (by kernel_rfl)
def zrN:=zaj 159 Tryz.func159 (by kernel_rfl)
def zlP:=zaj 160 Tryz.func160 (by kernel_rfl)
def zrO:=zaj 161 Tryz.func161 (by kernel_rfl)
def zlQ:=zaj 162 Tryz.func162 (by kernel_rfl)
def zlR:=zaj 163 Tryz.func163 (by kernel_rfl)
def zh2:=zaj 164 Tryz.func164 (by kernel_rfl)
def zdY:=zaj 165 Tryz.func165 (by kernel_rfl)
def zrP:=zaj 166 Tryz.func166 (by kernel_rfl)
def zrQ:=zaj 170 Tryz.func170 (by kernel_rfl)
def zbR:=zaj 171 Tryz.func171 (by kernel_rfl)
def zrR:=zaj 179 Tryz.func179 (by kernel_rfl)
def zrS:=zaj 180 Tryz.func180 (by kernel_rfl)
def zlS:=zaj 181 Tryz.func181 (by kernel_rfl)
def zaa:=zaj 182 Tryz.func182 (by kernel_rfl)
def zap:=zaj 183 Tryz.func183 (by kernel_rfl)
def zbS:=zaj 184 Tryz.func184 (by kernel_rfl)
def zah:=zaj 185 Tryz.func185 (by kernel_rfl)
def za7:=zaj 186 Tryz.func186 (by kernel_rfl)
def zcX:=zaj 187 Tryz.func187 (by kernel_rfl)
def zeM:=zaj 190 Tryz.func190 (by kernel_rfl)
def zh3:=zaj 191 Tryz.func191 (by kernel_rfl)
def zf9:=zaj 196 Tryz.func196 (by kernel_rfl)
def zlT:=zaj 197 Tryz.func197 (by kernel_rfl)
def zal:=zaj 199 Tryz.func199 (by kernel_rfl)
def zdZ:=zaj 201 Tryz.func201 (by kernel_rfl)
def zlU:=zaj 202 Tryz.func202 (by kernel_rfl)
def zlV:=zaj 203 Tryz.func203 (by kernel_rfl)
def zlW:=zaj 204 Tryz.func204 (by kernel_rfl)
def zh4:=zaj 205 Tryz.func205 (by kernel_rfl)
theorem zaK {f:FuncId} {code:Code} (site:Nat→Nat) (nobj:Nat) {n:Nat} {rs:List ResultVar} (hF:FI Tryz.prog f code n rs) {args:List AVal} {res:AVal}
  (h:VC Tryz.prog (zbJ site nobj) 0 code ⟨args++List.replicate (n - args.length) .junk,List.replicate nobj none⟩ (RQ (zbJ site nobj) rs res)) (hargs:args.length≤n:=by simp) :
  AC Tryz.prog gl f args [] res []:=by
 obtain ⟨fn,hf,hb,rfl,hrs⟩:=hF
 obtain rfl:fn.results.toList=rs:=by rw [hrs]
 exact AC.of_vc (env:=zbJ site nobj) (zcv _ _) mixed hf hb hargs h
theorem zax {f:FuncId} {code:Code} (site:Nat→Nat) (nobj:Nat) {n:Nat} {rs:List ResultVar} (hF:FI Tryz.prog f code n rs) {args:List AVal} {objs:List (Option AObj)} {res:AVal} {objs':List (Option AObj)}
  (h:VC Tryz.prog (zbJ site nobj) objs.length code ⟨args++List.replicate (n - args.length) .junk,objs++List.replicate (nobj - objs.length) none⟩ (zaI (zbJ site nobj) objs.length rs res objs')) (hargs:args.length≤n:=by simp) (hobjs:objs.length≤nobj:=by simp) :
  AC Tryz.prog gl f args objs res objs':=by
 obtain ⟨fn,hf,hb,rfl,hrs⟩:=hF
 obtain rfl:fn.results.toList=rs:=by rw [hrs]
 exact AC.of_body (env:=zbJ site nobj) (zcv _ _) hf hb hargs hobjs (VC.to (zcv _ _) mixed code h)
theorem zgD {f:FuncId} {code:Code} (site:Nat→Nat) (nobj:Nat) {n:Nat} {rs:List ResultVar} (hF:FI Tryz.prog f code n rs) {args:List AVal} {objs:List (Option AObj)} {res:AVal} {objs':List (Option AObj)}
  (h:VC Tryz.prog (zbJ site nobj) objs.length code ⟨args++List.replicate (n - args.length) .junk,objs++List.replicate (nobj - objs.length) none⟩ (zxy (zbJ site nobj) objs.length (zaI (zbJ site nobj) objs.length rs res objs'))) (hargs:args.length≤n:=by simp) (hobjs:objs.length≤nobj:=by simp) :
  AC Tryz.prog gl f args objs res objs':=by
 obtain ⟨fn,hf,hb,rfl,hrs⟩:=hF
 obtain rfl:fn.results.toList=rs:=by rw [hrs]
 exact AC.of_body (env:=zbJ site nobj) (zcv _ _) hf hb hargs hobjs (SW.weakEnd (VC.to (zcv _ _) mixed code h))
theorem zbv {f:FuncId} {code:Code} (site:Nat→Nat) (nobj:Nat) {n:Nat} {rs:List ResultVar} (hF:FI Tryz.prog f code n rs) {args:List AVal} {objs:List (Option AObj)} {x:Value} {objs':List (Option AObj)}
  (h:VC Tryz.prog (zbJ site nobj) objs.length code ⟨args++List.replicate (n - args.length) .junk,objs++List.replicate (nobj - objs.length) none⟩ (zb5 objs.length x objs')) (hargs:args.length≤n:=by simp) (hobjs:objs.length≤nobj:=by simp) :
  AP Tryz.prog gl f args objs x objs':=by
 obtain ⟨fn,hf,hb,rfl,hrs⟩:=hF
 exact AP.of_body (env:=zbJ site nobj) (zcv _ _) hf hb hargs hobjs (VC.to (zcv _ _) mixed code h)
theorem zbx {site:Nat→Nat} {nobj pin:Nat} {σ:St} {Q:Exit→St→Prop} {ι:Type} {c:Code} {t:Tg (Code.loop c,Q)} (I:ι→St) (μ:ι→Nat) (i0:ι) (h0:zbU (zbJ site nobj) pin σ (I i0))
  (round:∀ i,VC Tryz.prog (zbJ site nobj) pin c (I i) (zfY (NX (zbJ site nobj) pin I μ .mk (μ i)) Q)):LW Tryz.prog (zbJ site nobj) pin (.loop c) σ Q t:=
 LW.loop (zcv _ _) mixed I μ i0 h0 round
end Go.Proofs.YtfinhhblcdkpgaaGreatDoor
