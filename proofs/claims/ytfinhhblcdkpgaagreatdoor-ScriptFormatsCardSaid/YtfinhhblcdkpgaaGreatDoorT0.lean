/- The table of types of the program, held against the program. No condition. -/
import Derived.Test.YtfinhhblcdkpgaaGreatDoorProg
import Derived.KernelRfl
import Derived.Test.YtfinhhblcdkpgaaGreatDoorLib3
set_option maxRecDepth 100000
set_option maxHeartbeats 64000000
set_option linter.unusedSimpArgs false
set_option linter.unusedVariables false
set_option linter.defProp false
namespace Go.Proofs.YtfinhhblcdkpgaaGreatDoor
open Go Go.Abs
def ty2:Ty:={ size:=1,bytes:=8,zero:=some [.pv (.int .i64 0)],kind:=.int .i64 }
def ty4:Ty:={ size:=1,bytes:=1,zero:=some [.pv (.bool false)],kind:=.bool }
def ty5:Ty:={ size:=1,bytes:=1,zero:=some [.pv (.int .u8 0)],kind:=.int .u8 }
def ty9:Ty:={ size:=1,bytes:=16,zero:=some [.pv (.str [])],kind:=.string }
def zBG:Ty:={ size:=1,bytes:=8,zero:=some [.pv (.int .u64 0)],kind:=.int .u64 }
def zeg:Ty:={ size:=1,bytes:=8,zero:=some [.pv .nilptr] }
def zxq:Ty:={ size:=1,bytes:=16,zero:=some [.pv (.err true)],kind:=.iface }
def zBH:Ty:={ size:=1,bytes:=24,zero:=some [.snil],eSize:=1,eBytes:=1,eZero:=true,kKind:=.int .u8,eZV:=some (false,[.int .u8 0]),kind:=.slice }
def zxr:Ty:={ size:=1,bytes:=24,zero:=some [.snil],eSize:=5,eBytes:=120,eZero:=true,eZV:=some (true,[.slice [],.slice [],.slice [],.slice [],.slice []]),kind:=.slice }
def zBI:Ty:={ size:=1,bytes:=24,zero:=some [.snil],eSize:=4,eBytes:=32,eZero:=true,eZV:=some (true,[.int .i64 0,.int .i64 0,.int .i64 0,.int .i64 0]),kind:=.slice }
def zBJ:Ty:={ size:=4,bytes:=32,agg:=true,zero:=some [.pv (.int .i64 0),.pv (.int .i64 0),.pv (.int .i64 0),.pv (.int .i64 0)],fields:=[(0,1),(1,1),(2,1),(3,1)],kind:=.struct,eqs:=some [.int .i64,.int .i64,.int .i64,.int .i64] }
def zBK:Ty:={ size:=1,bytes:=24,zero:=some [.snil],eSize:=3,eBytes:=32,eZero:=true,eZV:=some (true,[.str [],.int .i64 0,.int .i64 0]),kind:=.slice }
def zBL:Ty:={ size:=1,bytes:=24,zero:=some [.snil],eSize:=18,eBytes:=232,eZero:=true,eZV:=some (true,[.int .i64 0,.str [],.int .i64 0,.int .i64 0,.int .i64 0,.int .i64 0,.str [],.int .i64 0,.int .i64 0,.slice [],.int .i64 0,.int .i64 0,.str [],.int .i64 0,.int .i64 0,.slice [],.slice [],.slice []]),kind:=.slice }
def zxs:Ty:={ size:=5,bytes:=120,agg:=true,zero:=some [.snil,.snil,.snil,.snil,.snil],fields:=[(0,1),(1,1),(2,1),(3,1),(4,1)],kind:=.struct }
def zBM:Ty:={ size:=3,bytes:=32,agg:=true,zero:=some [.pv (.str []),.pv (.int .i64 0),.pv (.int .i64 0)],fields:=[(0,1),(1,1),(2,1)],kind:=.struct,eqs:=some [.string,.int .i64,.int .i64] }
def zxt:Ty:={ size:=3,bytes:=40,agg:=true,zero:=some [.snil,.pv (.int .i64 0),.pv (.int .i64 0)],fields:=[(0,1),(1,1),(2,1)],kind:=.struct }
def zBN:Ty:={ size:=1,bytes:=24,zero:=some [.snil],eSize:=1,eBytes:=8,eZero:=true,kKind:=.int .i64,eZV:=some (false,[.int .i64 0]),kind:=.slice }
def zBO:Ty:={ size:=1,bytes:=24,zero:=some [.snil],eSize:=1,eBytes:=16,eZero:=true,kKind:=.string,eZV:=some (false,[.str []]),kind:=.slice }
def zBP:Ty:={ size:=15,bytes:=240,agg:=true,zero:=some [.pv (.str []),.pv (.str []),.pv (.str []),.pv (.str []),.pv (.str []),.pv (.str []),.pv (.str []),.pv (.str []),.pv (.str []),.pv (.str []),.pv (.str []),.pv (.str []),.pv (.str []),.pv (.str []),.pv (.str [])],eSize:=1,eBytes:=16,eZero:=true,kKind:=.string,kind:=.array 15 }
def zBQ:Ty:={ size:=2,bytes:=32,agg:=true,zero:=some [.snil,.pv (.int .i64 0)],fields:=[(0,1),(1,1)],kind:=.struct }
def zBR:Ty:={ size:=2,bytes:=32,agg:=true,zero:=some [.pv .nilptr,.snil],fields:=[(0,1),(1,1)],kind:=.struct,bld:=some 5 }
def zBS:Ty:={ size:=9,bytes:=144,agg:=true,zero:=some [.pv (.str []),.pv (.str []),.pv (.str []),.pv (.str []),.pv (.str []),.pv (.str []),.pv (.str []),.pv (.str []),.pv (.str [])],eSize:=1,eBytes:=16,eZero:=true,kKind:=.string,kind:=.array 9 }
def zBT:Ty:={ size:=7,bytes:=104,agg:=true,zero:=some [.snil,.pv (.bool false),.pv (.int .i64 0),.snil,.pv (.int .i64 0),.pv (.int .i64 0),.snil],fields:=[(0,1),(1,1),(2,1),(3,3),(6,1)],kind:=.struct }
def zBU:Ty:={ size:=1,bytes:=8,zero:=some [.pv .nilmap],kKind:=.string,eZV:=some (true,[.int .i64 0,.int .i64 0]),kind:=.map }
def zBV:Ty:={ size:=2,bytes:=16,agg:=true,zero:=some [.pv (.int .i64 0),.pv (.int .i64 0)],fields:=[(0,1),(1,1)],kind:=.struct,eqs:=some [.int .i64,.int .i64] }
def zBW:Ty:={ size:=3,bytes:=16,agg:=true,zero:=some [.pv .nilmap,.pv (.bool false),.pv (.bool false)],fields:=[(0,1),(1,1),(2,1)],kind:=.struct }
def zwi:Ty:={ size:=1,bytes:=24,agg:=true,zero:=some [.snil],fields:=[(0,1)],kind:=.struct }
def zwj:Ty:={ size:=1,bytes:=24,zero:=some [.snil],eSize:=1,eBytes:=8,eZero:=true,eZV:=some (false,[.nilptr]),kind:=.slice }
def zwk:Ty:={ size:=1,bytes:=24,zero:=some [.snil],eSize:=6,eBytes:=72,eZero:=true,eZV:=some (true,[.int .i64 0,.int .i64 0,.str [],.int .i64 0,.int .i64 0,.slice []]),kind:=.slice }
def zwl:Ty:={ size:=6,bytes:=72,agg:=true,zero:=some [.pv (.int .i64 0),.pv (.int .i64 0),.pv (.str []),.pv (.int .i64 0),.pv (.int .i64 0),.snil],fields:=[(0,1),(1,1),(2,1),(3,1),(4,1),(5,1)],kind:=.struct }
def zwm:Ty:={ size:=18,bytes:=232,agg:=true,zero:=some [.pv (.int .i64 0),.pv (.str []),.pv (.int .i64 0),.pv (.int .i64 0),.pv (.int .i64 0),.pv (.int .i64 0),.pv (.str []),.pv (.int .i64 0),.pv (.int .i64 0),.snil,.pv (.int .i64 0),.pv (.int .i64 0),.pv (.str []),.pv (.int .i64 0),.pv (.int .i64 0),.snil,.snil,.snil],fields:=[(0,1),(1,1),(2,1),(3,1),(4,6),(10,6),(16,1),(17,1)],kind:=.struct }
def zwn:Ty:={ size:=3,bytes:=48,agg:=true,zero:=some [.pv (.str []),.pv (.str []),.pv (.str [])],eSize:=1,eBytes:=16,eZero:=true,kKind:=.string,kind:=.array 3 }
def zwo:Ty:={ size:=2,bytes:=32,agg:=true,zero:=some [.pv (.str []),.pv (.str [])],eSize:=1,eBytes:=16,eZero:=true,kKind:=.string,kind:=.array 2 }
def zwp:Ty:={ size:=1,bytes:=24,zero:=some [.snil],eSize:=4,eBytes:=40,eZero:=true,eZV:=some (true,[.int .i64 0,.str [],.int .i64 0,.int .i64 0]),kind:=.slice }
def zwq:Ty:={ size:=4,bytes:=4,agg:=true,zero:=some [.pv (.bool false),.pv (.bool false),.pv (.bool false),.pv (.bool false)],eSize:=1,eBytes:=1,eZero:=true,kKind:=.bool,kind:=.array 4 }
def zwr:Ty:={ size:=4,bytes:=40,agg:=true,zero:=some [.pv (.int .i64 0),.pv (.str []),.pv (.int .i64 0),.pv (.int .i64 0)],fields:=[(0,1),(1,1),(2,1),(3,1)],kind:=.struct,eqs:=some [.int .i64,.string,.int .i64,.int .i64] }
def zws:Ty:={ size:=1,bytes:=8,agg:=true,zero:=some [.pv (.int .i64 0)],fields:=[(0,1)],kind:=.struct,eqs:=some [.int .i64] }
def zwt:Ty:={ size:=4,bytes:=32,agg:=true,zero:=some [.pv .nilptr,.pv .nilptr,.pv .nilptr,.pv .nilptr],eSize:=1,eBytes:=8,eZero:=true,kind:=.array 4 }
def zwu:Ty:={ size:=4,bytes:=64,agg:=true,zero:=some [.pv (.str []),.pv (.str []),.pv (.str []),.pv (.str [])],eSize:=1,eBytes:=16,eZero:=true,kKind:=.string,kind:=.array 4 }
def tyF:Nat→Option Ty
 |2=>some ty2
 |3=>some ty2
 |4=>some ty4
 |5=>some ty5
 |9=>some ty9
 |20=>some zxq
 |22=>some zBH
 |24=>some zxr
 |25=>some zBI
 |26=>some zeg
 |29=>some ty2
 |41=>some zBJ
 |42=>some zBK
 |43=>some zBL
 |45=>some zxs
 |48=>some zBM
 |50=>some zxr
 |52=>some zxt
 |57=>some zBN
 |59=>some zxs
 |70=>some zBO
 |72=>some zBP
 |74=>some zBQ
 |77=>some zBR
 |79=>some zxq
 |82=>some zBS
 |85=>some zeg
 |87=>some zBT
 |91=>some zBU
 |93=>some zBV
 |95=>some zeg
 |97=>some zBW
 |102=>some zBG
 |113=>some zwi
 |115=>some zwj
 |117=>some zeg
 |118=>some zeg
 |126=>some zwk
 |128=>some zwl
 |130=>some zwm
 |133=>some zwn
 |135=>some zwo
 |140=>some zwp
 |147=>some zwq
 |153=>some zeg
 |161=>some zeg
 |169=>some zwr
 |198=>some zeg
 |213=>some zws
 |215=>some zeg
 |217=>some zxt
 |220=>some zeg
 |221=>some zeg
 |237=>some zeg
 |238=>some zwt
 |239=>some zwu
 |_=>none
def gl:Nat→Option (List PVal)
 |0=>some [.str [],.str [100,101,108,105,118,101,114],.str [116,105,99,107],.str [105,110,112,117,116],.str [100,114,111,112],.str [100,117,112,108,105,99,97,116,101],.str [114,101,115,101,110,100],.str [99,104,101,99,107,112,111,105,110,116],.str [102,108,117,115,104],.str [97,99,107],.str [99,114,97,115,104],.str [114,101,99,111,118,101,114],.str [114,101,115,116,111,114,101],.str [99,111,109,109,105,116],.str [99,111,108,108,101,99,116]]
 |1=>some [.str [],.str [105,110,100,101,112,101,110,100,101,110,116],.str [99,111,111,114,100,105,110,97,116,101,100],.str [105,110,100,101,120,101,100],.str [109,111,100,101,108,98,97,115,101,100],.str [112,101,115,115,105,109,105,115,116,105,99],.str [115,101,110,100,101,114,98,97,115,101,100],.str [111,112,116,105,109,105,115,116,105,99],.str [99,97,117,115,97,108]]
 |2=>some [.str [120],.str [121],.str [122]]
 |3=>some [.str [97],.str [98]]
 |4=>some [.int .u64 1,.int .u64 10,.int .u64 100,.int .u64 1000,.int .u64 10000,.int .u64 100000,.int .u64 1000000,.int .u64 10000000,.int .u64 100000000,.int .u64 1000000000,.int .u64 10000000000,.int .u64 100000000000,.int .u64 1000000000000,.int .u64 10000000000000,.int .u64 100000000000000,.int .u64 1000000000000000,.int .u64 10000000000000000,.int .u64 100000000000000000,.int .u64 1000000000000000000,.int .u64 10000000000000000000]
 |5=>some [.ani .i64]
 |10=>some [.err false]
 |11=>some [.err false]
 |_=>none
theorem zEZ:gl 0=some [.str [],.str [100,101,108,105,118,101,114],.str [116,105,99,107],.str [105,110,112,117,116],.str [100,114,111,112],.str [100,117,112,108,105,99,97,116,101],.str [114,101,115,101,110,100],.str [99,104,101,99,107,112,111,105,110,116],.str [102,108,117,115,104],.str [97,99,107],.str [99,114,97,115,104],.str [114,101,99,111,118,101,114],.str [114,101,115,116,111,114,101],.str [99,111,109,109,105,116],.str [99,111,108,108,101,99,116]]:=rfl
theorem zE0:gl 1=some [.str [],.str [105,110,100,101,112,101,110,100,101,110,116],.str [99,111,111,114,100,105,110,97,116,101,100],.str [105,110,100,101,120,101,100],.str [109,111,100,101,108,98,97,115,101,100],.str [112,101,115,115,105,109,105,115,116,105,99],.str [115,101,110,100,101,114,98,97,115,101,100],.str [111,112,116,105,109,105,115,116,105,99],.str [99,97,117,115,97,108]]:=rfl
theorem zE1:gl 2=some [.str [120],.str [121],.str [122]]:=rfl
theorem zE2:gl 3=some [.str [97],.str [98]]:=rfl
theorem zE3:gl 4=some [.int .u64 1,.int .u64 10,.int .u64 100,.int .u64 1000,.int .u64 10000,.int .u64 100000,.int .u64 1000000,.int .u64 10000000,.int .u64 100000000,.int .u64 1000000000,.int .u64 10000000000,.int .u64 100000000000,.int .u64 1000000000000,.int .u64 10000000000000,.int .u64 100000000000000,.int .u64 1000000000000000,.int .u64 10000000000000000,.int .u64 100000000000000000,.int .u64 1000000000000000000,.int .u64 10000000000000000000]:=rfl
theorem zE4:gl 5=some [.ani .i64]:=rfl
theorem zBX:gl 10=some [.err false]:=rfl
theorem zBY:gl 11=some [.err false]:=rfl
def zbB (site:Nat→Nat) (nobj:Nat):Env:=⟨tyF,gl,site,nobj⟩
theorem zck (site:Nat→Nat) (nobj:Nat):zaO Tryz.prog (zbB site nobj):=by
 intro t ty h
 change tyF t=some ty at h
 unfold tyF at h
 split at h<;>first|(cases h;done)|(cases h;kernel_rfl)
theorem zag (f : FuncId) {fn : Func} (hf : Tryz.prog.funcs[f]? = some fn) (hn : (fn.name == "runtime.NumGoroutine" || fn.body.isNone) = false) (vargs : Array Value) (w : World) : (callFunc f vargs).run Tryz.prog w = .ok (.enter f vargs) w := by
 simp only [Bool.or_eq_false_iff] at hn
 obtain ⟨h1,h2⟩:=hn
 unfold callFunc
 simp only [Sem.run_bind,run_program,Result.andThen,hf,h1,h2,Bool.false_eq_true,if_false,Sem.run_pure]
theorem mixed:Tryz.prog.follows .mixedOrders=true:=by kernel_rfl
theorem zzl (site:Nat→Nat) (nobj t:Nat):(zbB site nobj).ty t=tyF t:=rfl
theorem zzm (site:Nat→Nat) (nobj t:Nat):(zbB site nobj).gl t=gl t:=rfl
theorem ztr (site:Nat→Nat) (nobj t:Nat):(zbB site nobj).site t=site t:=rfl
theorem zts (site:Nat→Nat) (nobj:Nat):(zbB site nobj).nobj=nobj:=rfl
def tx2:=And.intro (show tyF 2=some ty2 from rfl) ty2.eq_1
def tx3:=And.intro (show tyF 3=some ty2 from rfl) ty2.eq_1
def tx4:=And.intro (show tyF 4=some ty4 from rfl) ty4.eq_1
def tx5:=And.intro (show tyF 5=some ty5 from rfl) ty5.eq_1
def tx9:=And.intro (show tyF 9=some ty9 from rfl) ty9.eq_1
def zE5:=And.intro (show tyF 20=some zxq from rfl) zxq.eq_1
def ztt:=And.intro (show tyF 22=some zBH from rfl) zBH.eq_1
def zAm:=And.intro (show tyF 24=some zxr from rfl) zxr.eq_1
def zwv:=And.intro (show tyF 25=some zBI from rfl) zBI.eq_1
def zuN:=And.intro (show tyF 26=some zeg from rfl) zeg.eq_1
def zpC:=And.intro (show tyF 29=some ty2 from rfl) ty2.eq_1
def zsb:=And.intro (show tyF 41=some zBJ from rfl) zBJ.eq_1
def ztu:=And.intro (show tyF 42=some zBK from rfl) zBK.eq_1
def zgL:=And.intro (show tyF 43=some zBL from rfl) zBL.eq_1
def zle:=And.intro (show tyF 45=some zxs from rfl) zxs.eq_1
def ztv:=And.intro (show tyF 48=some zBM from rfl) zBM.eq_1
def zBZ:=And.intro (show tyF 50=some zxr from rfl) zxr.eq_1
def zzn:=And.intro (show tyF 52=some zxt from rfl) zxt.eq_1
def zB0:=And.intro (show tyF 57=some zBN from rfl) zBN.eq_1
def zB1:=And.intro (show tyF 59=some zxs from rfl) zxs.eq_1
def zl3:=And.intro (show tyF 70=some zBO from rfl) zBO.eq_1
def zDw:=And.intro (show tyF 72=some zBP from rfl) zBP.eq_1
def zB2:=And.intro (show tyF 74=some zBQ from rfl) zBQ.eq_1
def zDx:=And.intro (show tyF 77=some zBR from rfl) zBR.eq_1
def zDy:=And.intro (show tyF 79=some zxq from rfl) zxq.eq_1
def zDz:=And.intro (show tyF 82=some zBS from rfl) zBS.eq_1
def zB3:=And.intro (show tyF 85=some zeg from rfl) zeg.eq_1
def zzo:=And.intro (show tyF 87=some zBT from rfl) zBT.eq_1
def zDA:=And.intro (show tyF 91=some zBU from rfl) zBU.eq_1
def zDB:=And.intro (show tyF 93=some zBV from rfl) zBV.eq_1
def zAn:=And.intro (show tyF 95=some zeg from rfl) zeg.eq_1
def zDC:=And.intro (show tyF 97=some zBW from rfl) zBW.eq_1
def zB4:=And.intro (show tyF 102=some zBG from rfl) zBG.eq_1
def zzp:=And.intro (show tyF 113=some zwi from rfl) zwi.eq_1
def zww:=And.intro (show tyF 115=some zwj from rfl) zwj.eq_1
def zzq:=And.intro (show tyF 117=some zeg from rfl) zeg.eq_1
def zzr:=And.intro (show tyF 118=some zeg from rfl) zeg.eq_1
def zgq:=And.intro (show tyF 126=some zwk from rfl) zwk.eq_1
def zdG:=And.intro (show tyF 128=some zwl from rfl) zwl.eq_1
def zhV:=And.intro (show tyF 130=some zwm from rfl) zwm.eq_1
def zzs:=And.intro (show tyF 133=some zwn from rfl) zwn.eq_1
def zzt:=And.intro (show tyF 135=some zwo from rfl) zwo.eq_1
def zlf:=And.intro (show tyF 140=some zwp from rfl) zwp.eq_1
def zzu:=And.intro (show tyF 147=some zwq from rfl) zwq.eq_1
def zlg:=And.intro (show tyF 153=some zeg from rfl) zeg.eq_1
def ztw:=And.intro (show tyF 161=some zeg from rfl) zeg.eq_1
def zlh:=And.intro (show tyF 169=some zwr from rfl) zwr.eq_1
def zli:=And.intro (show tyF 198=some zeg from rfl) zeg.eq_1
def zzv:=And.intro (show tyF 213=some zws from rfl) zws.eq_1
def zgr:=And.intro (show tyF 215=some zeg from rfl) zeg.eq_1
def zlj:=And.intro (show tyF 217=some zxt from rfl) zxt.eq_1
def zB5:=And.intro (show tyF 220=some zeg from rfl) zeg.eq_1
def zB6:=And.intro (show tyF 221=some zeg from rfl) zeg.eq_1
def zB7:=And.intro (show tyF 237=some zeg from rfl) zeg.eq_1
def zB8:=And.intro (show tyF 238=some zwt from rfl) zwt.eq_1
def zB9:=And.intro (show tyF 239=some zwu from rfl) zwu.eq_1
def tyS:=And.intro @zzl<|And.intro @ztr<|And.intro @zts<|And.intro @zzm<|And.intro zEZ<|And.intro zE0<|And.intro zE1<|And.intro zE2<|And.intro zE3<|And.intro zE4<|And.intro zBX<|zBY
def tq5:=And.intro tyS<|And.intro tx3<|And.intro tx4<|And.intro tx9<|And.intro ztt<|And.intro zAm<|And.intro zwv<|And.intro zuN<|And.intro zpC<|And.intro zsb<|And.intro ztu<|And.intro zle<|ztv
def tq8:=And.intro tyS<|And.intro tx3<|And.intro tx9<|And.intro zwv<|And.intro zpC<|And.intro zsb<|And.intro zgL<|And.intro zBZ<|And.intro zzn<|zB1
def tq9:=And.intro tyS<|And.intro tx3<|And.intro ztt<|And.intro zAm<|And.intro zwv<|And.intro zuN<|zsb
def zhW:=And.intro tyS<|And.intro tx3<|And.intro tx4<|And.intro tx9<|And.intro zAm<|And.intro zwv<|And.intro zpC<|And.intro zsb<|zle
def zCa:=And.intro tyS<|And.intro tx3<|And.intro tx9<|zDw
def zAo:=And.intro tyS<|And.intro tx3<|And.intro tx9<|zl3
def zAp:=And.intro tyS<|And.intro tx3<|And.intro tx4<|And.intro tx5<|And.intro ztt<|And.intro zuN<|zB2
def zAq:=And.intro tyS<|And.intro tx3<|And.intro zuN<|zB0
def zAr:=And.intro tyS<|And.intro tx3<|And.intro tx9<|And.intro zuN<|zl3
def zo0:=And.intro tyS<|And.intro tx3<|And.intro tx9<|And.intro zAm<|And.intro zwv<|And.intro zpC<|And.intro zsb<|And.intro zle<|And.intro zDx<|zDz
def zCb:=And.intro tyS<|And.intro tx3<|And.intro tx9<|And.intro zwv<|And.intro zpC<|And.intro zzn<|And.intro zl3<|And.intro zB3<|zzo
def zo1:=And.intro tyS<|And.intro tx3<|And.intro tx4<|And.intro tx9<|And.intro zpC<|And.intro ztu<|And.intro zgL<|And.intro zle<|And.intro ztv<|And.intro zB0<|And.intro zB1<|And.intro zDA<|And.intro zDB<|And.intro zAn<|zDC
def zAs:=And.intro tyS<|And.intro tx3<|And.intro ztt<|zB2
def zDD:=And.intro tyS<|And.intro tx3<|And.intro zuN<|And.intro ztu<|And.intro zgL<|And.intro zle<|ztv
def zAt:=And.intro tyS<|And.intro tx3<|And.intro tx9<|zl3
def zAu:=And.intro tyS<|And.intro tx3<|And.intro tx5<|And.intro tx9<|And.intro ztt<|zB4
def zuO:=And.intro tyS<|And.intro tx3<|And.intro tx9<|And.intro zpC<|And.intro ztu<|And.intro zgL<|And.intro zle<|ztv
def zAv:=And.intro tyS<|tx3
def zAw:=And.intro tyS<|And.intro tx3<|And.intro tx9<|zsb
def zDE:=And.intro tyS<|And.intro tx3<|And.intro ztt<|zB2
def zCc:=And.intro tyS<|And.intro tx3<|And.intro tx9<|And.intro ztt<|And.intro zpC<|And.intro zle<|zzp
def zgZ:=And.intro tyS<|And.intro tx3<|And.intro tx9<|And.intro zsb<|And.intro zww<|And.intro zzq<|zzr
def zgk:=And.intro tyS<|And.intro tx3<|And.intro tx4<|And.intro tx9<|And.intro zwv<|And.intro zpC<|And.intro zsb<|And.intro zBZ<|And.intro zzn<|And.intro zl3<|And.intro zB3<|zzo
def zzw:=And.intro tyS<|And.intro tx3<|And.intro tx4<|And.intro ztu<|And.intro zgL<|And.intro zle<|ztv
def zAx:=And.intro tyS<|And.intro tx3<|And.intro zgL<|And.intro zAn<|zhV
def zl4:=And.intro tyS<|And.intro tx3<|And.intro tx9<|And.intro zuN<|And.intro zgL<|And.intro zhV<|And.intro zzs<|zzt
def zAy:=And.intro tyS<|And.intro tx3<|And.intro tx5<|And.intro tx9<|ztt
def zAz:=And.intro tyS<|And.intro tx3<|And.intro tx4<|And.intro tx9<|And.intro ztu<|And.intro zgL<|And.intro zle<|ztv
def zDF:=And.intro tyS<|And.intro tx3<|And.intro tx9<|zgL
def zxu:=And.intro tyS<|And.intro tx3<|And.intro tx9<|And.intro ztu<|And.intro zgL<|And.intro zle<|And.intro ztv<|And.intro zl3<|zlg
def zuP:=And.intro tyS<|And.intro tx3<|And.intro zsb<|zww
def zuQ:=And.intro tyS<|And.intro tx3<|And.intro tx9<|And.intro zl3<|zzo
def ztx:=And.intro tyS<|And.intro tx3<|And.intro tx9<|And.intro zzn<|And.intro zl3<|And.intro zDz<|zzo
def zpD:=And.intro tyS<|And.intro tx3<|And.intro tx4<|And.intro tx5<|And.intro tx9<|And.intro zpC<|And.intro zle<|And.intro zBZ<|And.intro zzn<|And.intro zB1<|And.intro zDx<|And.intro zB3<|zzo
def zgs:=And.intro tyS<|And.intro tx3<|And.intro tx4<|And.intro tx9<|And.intro zsb<|And.intro zl3<|And.intro zDw<|And.intro zww<|And.intro zzq<|zzr
def zE6:=And.intro tyS<|And.intro tx3<|And.intro zgL<|zle
def zE7:=And.intro tyS<|And.intro tx3<|And.intro tx4<|And.intro tx9<|ztv
def zAA:=And.intro tyS<|And.intro tx3<|And.intro tx4<|And.intro zgL<|ztw
def zxv:=And.intro tyS<|And.intro tx3<|And.intro tx4<|And.intro tx9<|And.intro zgL<|And.intro zAn<|And.intro zdG<|zhV
def zeP:=And.intro tyS<|And.intro tx3<|And.intro tx9<|And.intro zuN<|And.intro zB0<|And.intro zgq<|And.intro zdG<|And.intro zzs<|zzt
def zE8:=And.intro tyS<|And.intro tx3<|And.intro zgL<|zle
def zwx:=And.intro tyS<|And.intro tx3<|And.intro tx4<|And.intro tx5<|tx9
def zCd:=And.intro tyS<|And.intro tx3<|And.intro tx4<|And.intro tx9<|And.intro zgL<|And.intro zdG<|zhV
def zty:=And.intro tyS<|And.intro tx3<|And.intro tx9<|And.intro zgL<|And.intro zdG<|zhV
def zAB:=And.intro tyS<|And.intro tx3<|And.intro tx9<|And.intro ztt<|And.intro zl3<|zzp
def zAC:=And.intro tyS<|And.intro tx3<|And.intro zgL<|And.intro zl3<|zlg
def zCe:=And.intro tyS<|And.intro tx2<|And.intro tx3<|And.intro tx9<|zDy
def zuR:=And.intro tyS<|And.intro tx3<|And.intro tx4<|And.intro tx9<|And.intro zpC<|And.intro zle<|zlf
def zCf:=And.intro tyS<|And.intro tx3<|And.intro zgL<|ztw
def zCg:=And.intro tyS<|And.intro tx3<|And.intro tx4<|And.intro tx5<|tx9
def zE9:=And.intro tyS<|And.intro tx3<|And.intro tx4<|And.intro tx9<|And.intro zgL<|And.intro zhV<|zli
def zxw:=And.intro tyS<|And.intro tx3<|And.intro tx4<|And.intro zDA<|And.intro zDB<|zDC
def zpE:=And.intro tyS<|And.intro tx3<|And.intro tx4<|And.intro tx9<|And.intro zAn<|And.intro zgq<|zdG
def zCh:=And.intro tyS<|And.intro tx3<|And.intro zgL<|And.intro zdG<|zhV
def zFa:=And.intro tyS<|tx5
def zuS:=And.intro tyS<|And.intro tx3<|And.intro tx5<|tx9
def zFb:=And.intro tyS<|tx5
def ztz:=And.intro tyS<|And.intro tx3<|And.intro tx4<|And.intro tx9<|And.intro zgq<|zdG
def zCi:=And.intro tyS<|And.intro tx3<|And.intro tx9<|And.intro zgq<|zdG
def zj8:=And.intro tyS<|And.intro tx3<|And.intro tx9<|And.intro zgq<|zdG
def ztA:=And.intro tyS<|And.intro tx3<|And.intro zgL<|And.intro zlg<|ztw
def zmu:=And.intro tyS<|And.intro tx3<|And.intro tx5<|And.intro tx9<|And.intro zpC<|And.intro zlf<|zlh
def zj9:=And.intro tyS<|And.intro tx3<|And.intro tx4<|And.intro ztu<|And.intro zle<|And.intro zlf<|And.intro zzu<|And.intro zgr<|And.intro zlj<|And.intro zB5<|zB6
def zCj:=And.intro tyS<|And.intro tx3<|And.intro zgL<|And.intro zhV<|zli
def zCk:=And.intro tyS<|tx5
def zzx:=And.intro tyS<|And.intro tx3<|And.intro tx5<|tx9
def zCl:=And.intro tyS<|tx9
def zCm:=And.intro tyS<|tx9
def ztB:=And.intro tyS<|And.intro tx3<|And.intro tx4<|And.intro tx9<|And.intro zgq<|And.intro zdG<|zli
def zCn:=And.intro tyS<|And.intro tx3<|And.intro tx9<|And.intro zgq<|zdG
def zwy:=And.intro tyS<|And.intro tx3<|And.intro zgq<|zdG
def zCo:=And.intro tyS<|tx3
def zCp:=And.intro tyS<|tx3
def zzy:=And.intro tyS<|And.intro tx3<|And.intro tx9<|zdG
def ztC:=And.intro tyS<|And.intro tx3<|And.intro zl3<|zlg
def zi1:=And.intro tyS<|And.intro tx3<|And.intro tx9<|And.intro zl3<|And.intro zhV<|And.intro zlg<|And.intro ztw<|zli
def zCq:=And.intro tyS<|And.intro tx3<|And.intro tx5<|tx9
def zqL:=And.intro tyS<|And.intro tx3<|And.intro tx5<|And.intro tx9<|zlh
def zo2:=And.intro tyS<|And.intro tx3<|And.intro tx4<|And.intro zE5<|And.intro zle<|zzv
def zeb:=And.intro tyS<|And.intro tx3<|And.intro tx9<|And.intro ztu<|And.intro ztv<|zgr
def zdg:=And.intro tyS<|And.intro tx3<|And.intro tx4<|And.intro tx9<|And.intro zgL<|And.intro zle<|And.intro zzu<|And.intro zgr<|And.intro zB7<|And.intro zB8<|zB9
def zwz:=And.intro tyS<|And.intro tx3<|And.intro zgq<|And.intro zdG<|zli
def zCr:=And.intro tyS<|tx5
def zCs:=And.intro tyS<|tx3
def zo3:=And.intro tyS<|And.intro tx3<|And.intro zgL<|And.intro zl3<|And.intro zhV<|And.intro zlg<|zli
def zec:=And.intro tyS<|And.intro tx3<|And.intro tx9<|And.intro zl3<|And.intro zgq<|And.intro zdG<|And.intro zlg<|zli
def zwA:=And.intro tyS<|And.intro tx3<|And.intro tx5<|And.intro tx9<|And.intro zDy<|zlh
def zzz:=And.intro tyS<|And.intro tx3<|And.intro tx5<|tx9
def ztD:=And.intro tyS<|And.intro tx3<|And.intro tx9<|And.intro zgr<|zlj
def zqM:=And.intro tyS<|And.intro tx3<|And.intro tx4<|And.intro tx9<|And.intro zlf<|And.intro zlh<|And.intro zgr<|zlj
def zqN:=And.intro tyS<|And.intro tx3<|And.intro zlf<|And.intro zlh<|And.intro zgr<|zlj
def zwB:=And.intro tyS<|And.intro tx4<|And.intro tx9<|zgr
def zo4:=And.intro tyS<|And.intro tx4<|And.intro tx9<|And.intro zgL<|zgr
def zzA:=And.intro tyS<|And.intro tx3<|And.intro zlf<|And.intro zlh<|And.intro zzv<|zlj
def zCt:=And.intro tyS<|tx3
def ztE:=And.intro tyS<|And.intro tx3<|And.intro zl3<|And.intro zdG<|And.intro zlg<|zli
def ztF:=And.intro tyS<|And.intro tx3<|And.intro tx9<|And.intro zlf<|And.intro zlh<|zlj
def zbM:=And.intro tyS<|And.intro tx3<|And.intro tx9<|And.intro zgL<|And.intro zdG<|And.intro zhV<|zgr
def zka:=And.intro tyS<|And.intro tx3<|And.intro zgq<|And.intro zdG<|zgr
def zkb:=And.intro tyS<|And.intro tx9<|And.intro zgq<|And.intro zdG<|zgr
def ztG:=And.intro tyS<|And.intro tx3<|And.intro tx9<|And.intro zgr<|zlj
def zqO:=And.intro tyS<|And.intro tx3<|tx9
def zdh:=And.intro tyS<|And.intro tx3<|And.intro tx9<|And.intro zgq<|And.intro zdG<|And.intro zlf<|And.intro zlh<|And.intro zgr<|zlj
def zCu:=And.intro tyS<|tx3
def fi5:=FI.of Tryz.func5 rfl Tryz.ntmps5 Tryz.results5
def fi8:=FI.of Tryz.func8 rfl Tryz.ntmps8 Tryz.results8
def fi9:=FI.of Tryz.func9 rfl Tryz.ntmps9 Tryz.results9
def zzB:=FI.of Tryz.func10 rfl Tryz.ntmps10 Tryz.results10
def zCv:=FI.of Tryz.func14 rfl Tryz.ntmps14 Tryz.results14
def zAD:=FI.of Tryz.func15 rfl Tryz.ntmps15 Tryz.results15
def zDG:=FI.of Tryz.func16 rfl Tryz.ntmps16 Tryz.results16
def zDH:=FI.of Tryz.func17 rfl Tryz.ntmps17 Tryz.results17
def zDI:=FI.of Tryz.func18 rfl Tryz.ntmps18 Tryz.results18
def zxx:=FI.of Tryz.func19 rfl Tryz.ntmps19 Tryz.results19
def zCw:=FI.of Tryz.func20 rfl Tryz.ntmps20 Tryz.results20
def zFc:=FI.of Tryz.func22 rfl Tryz.ntmps22 Tryz.results22
def zFd:=FI.of Tryz.func24 rfl Tryz.ntmps24 Tryz.results24
def zFe:=FI.of Tryz.func25 rfl Tryz.ntmps25 Tryz.results25
def zAE:=FI.of Tryz.func26 rfl Tryz.ntmps26 Tryz.results26
def zDJ:=FI.of Tryz.func27 rfl Tryz.ntmps27 Tryz.results27
def zDK:=FI.of Tryz.func28 rfl Tryz.ntmps28 Tryz.results28
def zAF:=FI.of Tryz.func29 rfl Tryz.ntmps29 Tryz.results29
def zAG:=FI.of Tryz.func30 rfl Tryz.ntmps30 Tryz.results30
def zFf:=FI.of Tryz.func33 rfl Tryz.ntmps33 Tryz.results33
def zCx:=FI.of Tryz.func36 rfl Tryz.ntmps36 Tryz.results36
def zo5:=FI.of Tryz.func37 rfl Tryz.ntmps37 Tryz.results37
def zDL:=FI.of Tryz.func41 rfl Tryz.ntmps41 Tryz.results41
def zDM:=FI.of Tryz.func42 rfl Tryz.ntmps42 Tryz.results42
def zFg:=FI.of Tryz.func43 rfl Tryz.ntmps43 Tryz.results43
def zDN:=FI.of Tryz.func46 rfl Tryz.ntmps46 Tryz.results46
def zFh:=FI.of Tryz.func47 rfl Tryz.ntmps47 Tryz.results47
def zDO:=FI.of Tryz.func48 rfl Tryz.ntmps48 Tryz.results48
def zDP:=FI.of Tryz.func49 rfl Tryz.ntmps49 Tryz.results49
def zFi:=FI.of Tryz.func57 rfl Tryz.ntmps57 Tryz.results57
def zAH:=FI.of Tryz.func58 rfl Tryz.ntmps58 Tryz.results58
def zAI:=FI.of Tryz.func60 rfl Tryz.ntmps60 Tryz.results60
def zCy:=FI.of Tryz.func61 rfl Tryz.ntmps61 Tryz.results61
def zDQ:=FI.of Tryz.func62 rfl Tryz.ntmps62 Tryz.results62
def zFj:=FI.of Tryz.func63 rfl Tryz.ntmps63 Tryz.results63
def zFk:=FI.of Tryz.func64 rfl Tryz.ntmps64 Tryz.results64
def zFl:=FI.of Tryz.func65 rfl Tryz.ntmps65 Tryz.results65
def zFm:=FI.of Tryz.func66 rfl Tryz.ntmps66 Tryz.results66
def zCz:=FI.of Tryz.func67 rfl Tryz.ntmps67 Tryz.results67
def zlk:=FI.of Tryz.func69 rfl Tryz.ntmps69 Tryz.results69
def zFn:=FI.of Tryz.func70 rfl Tryz.ntmps70 Tryz.results70
def zFo:=FI.of Tryz.func71 rfl Tryz.ntmps71 Tryz.results71
def zFp:=FI.of Tryz.func72 rfl Tryz.ntmps72 Tryz.results72
def zFq:=FI.of Tryz.func73 rfl Tryz.ntmps73 Tryz.results73
def zFr:=FI.of Tryz.func83 rfl Tryz.ntmps83 Tryz.results83
def zDR:=FI.of Tryz.func84 rfl Tryz.ntmps84 Tryz.results84
def zCA:=FI.of Tryz.func88 rfl Tryz.ntmps88 Tryz.results88
def zAJ:=FI.of Tryz.func90 rfl Tryz.ntmps90 Tryz.results90
def zFs:=FI.of Tryz.func91 rfl Tryz.ntmps91 Tryz.results91
def zFt:=FI.of Tryz.func92 rfl Tryz.ntmps92 Tryz.results92
def zFu:=FI.of Tryz.func93 rfl Tryz.ntmps93 Tryz.results93
def zCB:=FI.of Tryz.func94 rfl Tryz.ntmps94 Tryz.results94
def zCC:=FI.of Tryz.func95 rfl Tryz.ntmps95 Tryz.results95
def zFv:=FI.of Tryz.func96 rfl Tryz.ntmps96 Tryz.results96
def zFw:=FI.of Tryz.func97 rfl Tryz.ntmps97 Tryz.results97
def zFx:=FI.of Tryz.func98 rfl Tryz.ntmps98 Tryz.results98
def zFy:=FI.of Tryz.func99 rfl Tryz.ntmps99 Tryz.results99
def zCD:=FI.of Tryz.func100 rfl Tryz.ntmps100 Tryz.results100
def zCE:=FI.of Tryz.func101 rfl Tryz.ntmps101 Tryz.results101
def zkc:=FI.of Tryz.func102 rfl Tryz.ntmps102 Tryz.results102
def zCF:=FI.of Tryz.func116 rfl Tryz.ntmps116 Tryz.results116
def zCG:=FI.of Tryz.func123 rfl Tryz.ntmps123 Tryz.results123
def zCH:=FI.of Tryz.func125 rfl Tryz.ntmps125 Tryz.results125
def zCI:=FI.of Tryz.func126 rfl Tryz.ntmps126 Tryz.results126
def zCJ:=FI.of Tryz.func127 rfl Tryz.ntmps127 Tryz.results127
def zCK:=FI.of Tryz.func128 rfl Tryz.ntmps128 Tryz.results128
def zCL:=FI.of Tryz.func129 rfl Tryz.ntmps129 Tryz.results129
def zCM:=FI.of Tryz.func130 rfl Tryz.ntmps130 Tryz.results130
def zCN:=FI.of Tryz.func131 rfl Tryz.ntmps131 Tryz.results131
def zCO:=FI.of Tryz.func132 rfl Tryz.ntmps132 Tryz.results132
def zCP:=FI.of Tryz.func133 rfl Tryz.ntmps133 Tryz.results133
def zCQ:=FI.of Tryz.func134 rfl Tryz.ntmps134 Tryz.results134
def zzC:=FI.of Tryz.func135 rfl Tryz.ntmps135 Tryz.results135
def zCR:=FI.of Tryz.func150 rfl Tryz.ntmps150 Tryz.results150
def zqP:=FI.of Tryz.func151 rfl Tryz.ntmps151 Tryz.results151
def zCS:=FI.of Tryz.func159 rfl Tryz.ntmps159 Tryz.results159
def zCT:=FI.of Tryz.func160 rfl Tryz.ntmps160 Tryz.results160
def zCU:=FI.of Tryz.func162 rfl Tryz.ntmps162 Tryz.results162
def zzD:=FI.of Tryz.func163 rfl Tryz.ntmps163 Tryz.results163
def zCV:=FI.of Tryz.func164 rfl Tryz.ntmps164 Tryz.results164
def zCW:=FI.of Tryz.func165 rfl Tryz.ntmps165 Tryz.results165
def zCX:=FI.of Tryz.func166 rfl Tryz.ntmps166 Tryz.results166
def zwC:=FI.of Tryz.func170 rfl Tryz.ntmps170 Tryz.results170
def zkd:=FI.of Tryz.func171 rfl Tryz.ntmps171 Tryz.results171
def zCY:=FI.of Tryz.func180 rfl Tryz.ntmps180 Tryz.results180
def zCZ:=FI.of Tryz.func181 rfl Tryz.ntmps181 Tryz.results181
def zzE:=FI.of Tryz.func182 rfl Tryz.ntmps182 Tryz.results182
def zzF:=FI.of Tryz.func183 rfl Tryz.ntmps183 Tryz.results183
def zzG:=FI.of Tryz.func184 rfl Tryz.ntmps184 Tryz.results184
def zzH:=FI.of Tryz.func185 rfl Tryz.ntmps185 Tryz.results185
def zzI:=FI.of Tryz.func186 rfl Tryz.ntmps186 Tryz.results186
def zC0:=FI.of Tryz.func187 rfl Tryz.ntmps187 Tryz.results187
def zC1:=FI.of Tryz.func190 rfl Tryz.ntmps190 Tryz.results190
def zzJ:=FI.of Tryz.func191 rfl Tryz.ntmps191 Tryz.results191
def zC2:=FI.of Tryz.func196 rfl Tryz.ntmps196 Tryz.results196
def zcp:=FI.of Tryz.func197 rfl Tryz.ntmps197 Tryz.results197
def ztH:=FI.of Tryz.func199 rfl Tryz.ntmps199 Tryz.results199
def zo6:=FI.of Tryz.func201 rfl Tryz.ntmps201 Tryz.results201
def zC3:=FI.of Tryz.func202 rfl Tryz.ntmps202 Tryz.results202
def zC4:=FI.of Tryz.func203 rfl Tryz.ntmps203 Tryz.results203
def zfS:=FI.of Tryz.func204 rfl Tryz.ntmps204 Tryz.results204
def zC5:=FI.of Tryz.func205 rfl Tryz.ntmps205 Tryz.results205
def zfq:=zag 8 Tryz.func8 (by kernel_rfl)
def zgt:=zag 9 Tryz.func9 (by kernel_rfl)
def zb8:=zag 10 Tryz.func10 (by kernel_rfl)
def zbV:=zag 14 Tryz.func14 (by kernel_rfl)
def zbf:=zag 15 Tryz.func15 (by kernel_rfl)
def zae:=zag 16 Tryz.func16 (by kernel_rfl)
def zcq:=zag 17 Tryz.func17 (by kernel_rfl)
def zke:=zag 18 Tryz.func18 (by kernel_rfl)
def zb9:=zag 19 Tryz.func19 (by kernel_rfl)
def ztI:=zag 20 Tryz.func20 (by kernel_rfl)
def zny:=zag 22 Tryz.func22 (by kernel_rfl)
def ztJ:=zag 24 Tryz.func24 (by kernel_rfl)
def ztK:=zag 25 Tryz.func25 (by kernel_rfl)
def zfT:=zag 26 Tryz.func26 (by kernel_rfl)
def zfU:=zag 27 Tryz.func27 (by kernel_rfl)
def znz:=zag 28 Tryz.func28 (by kernel_rfl)
def zbs:=zag 29 Tryz.func29 (by kernel_rfl)
def zg7:=zag 30 Tryz.func30 (by kernel_rfl)
def znA:=zag 33 Tryz.func33 (by kernel_rfl)
def zfV:=zag 34 Tryz.func34 (by kernel_rfl)
def zbL:=zag 35 Tryz.func35 (by kernel_rfl)
def znB:=zag 36 Tryz.func36 (by kernel_rfl)
def znC:=zag 37 Tryz.func37 (by kernel_rfl)
def znD:=zag 38 Tryz.func38 (by kernel_rfl)
def zg8:=zag 39 Tryz.func39 (by kernel_rfl)
def zeQ:=zag 40 Tryz.func40 (by kernel_rfl)
def znE:=zag 41 Tryz.func41 (by kernel_rfl)
def zeR:=zag 42 Tryz.func42 (by kernel_rfl)
def zbb:=zag 43 Tryz.func43 (by kernel_rfl)
def zdT:=zag 46 Tryz.func46 (by kernel_rfl)
def zfW:=zag 47 Tryz.func47 (by kernel_rfl)
def znF:=zag 48 Tryz.func48 (by kernel_rfl)
def zdw:=zag 49 Tryz.func49 (by kernel_rfl)
def znG:=zag 57 Tryz.func57 (by kernel_rfl)
def zaK:=zag 58 Tryz.func58 (by kernel_rfl)
def za5:=zag 60 Tryz.func60 (by kernel_rfl)
def znH:=zag 61 Tryz.func61 (by kernel_rfl)
def zg9:=zag 62 Tryz.func62 (by kernel_rfl)
def zha:=zag 63 Tryz.func63 (by kernel_rfl)
def zhb:=zag 64 Tryz.func64 (by kernel_rfl)
def znI:=zag 65 Tryz.func65 (by kernel_rfl)
def zeS:=zag 66 Tryz.func66 (by kernel_rfl)
def ztL:=zag 67 Tryz.func67 (by kernel_rfl)
def zaX:=zag 69 Tryz.func69 (by kernel_rfl)
def znJ:=zag 70 Tryz.func70 (by kernel_rfl)
def zkf:=zag 71 Tryz.func71 (by kernel_rfl)
def zeT:=zag 72 Tryz.func72 (by kernel_rfl)
def zfX:=zag 73 Tryz.func73 (by kernel_rfl)
def zav:=zag 83 Tryz.func83 (by kernel_rfl)
def zhc:=zag 84 Tryz.func84 (by kernel_rfl)
def zcL:=zag 88 Tryz.func88 (by kernel_rfl)
def ztM:=zag 89 Tryz.func89 (by kernel_rfl)
def zkg:=zag 90 Tryz.func90 (by kernel_rfl)
def zeU:=zag 91 Tryz.func91 (by kernel_rfl)
def zfY:=zag 92 Tryz.func92 (by kernel_rfl)
def znK:=zag 93 Tryz.func93 (by kernel_rfl)
def zhd:=zag 94 Tryz.func94 (by kernel_rfl)
def zc6:=zag 95 Tryz.func95 (by kernel_rfl)
def zeV:=zag 96 Tryz.func96 (by kernel_rfl)
def zhe:=zag 97 Tryz.func97 (by kernel_rfl)
def znL:=zag 98 Tryz.func98 (by kernel_rfl)
def ztN:=zag 99 Tryz.func99 (by kernel_rfl)
def zfZ:=zag 100 Tryz.func100 (by kernel_rfl)
def zqQ:=zag 101 Tryz.func101 (by kernel_rfl)
def zbG:=zag 102 Tryz.func102 (by kernel_rfl)
def zeu:=zag 116 Tryz.func116 (by kernel_rfl)
def zev:=zag 121 Tryz.func121 (by kernel_rfl)
def zll:=zag 122 Tryz.func122 (by kernel_rfl)
def zf0:=zag 123 Tryz.func123 (by kernel_rfl)
def zhX:=zag 124 Tryz.func124 (by kernel_rfl)
def zqR:=zag 125 Tryz.func125 (by kernel_rfl)
def zdi:=zag 126 Tryz.func126 (by kernel_rfl)
def zew:=zag 127 Tryz.func127 (by kernel_rfl)
def zqS:=zag 128 Tryz.func128 (by kernel_rfl)
def zlm:=zag 129 Tryz.func129 (by kernel_rfl)
def zf1:=zag 130 Tryz.func130 (by kernel_rfl)
def zqT:=zag 131 Tryz.func131 (by kernel_rfl)
def zhY:=zag 132 Tryz.func132 (by kernel_rfl)
def zqU:=zag 133 Tryz.func133 (by kernel_rfl)
def zln:=zag 134 Tryz.func134 (by kernel_rfl)
def zhZ:=zag 135 Tryz.func135 (by kernel_rfl)
def zex:=zag 150 Tryz.func150 (by kernel_rfl)
def zqV:=zag 151 Tryz.func151 (by kernel_rfl)
def zqW:=zag 159 Tryz.func159 (by kernel_rfl)
def zlo:=zag 160 Tryz.func160 (by kernel_rfl)
def zqX:=zag 161 Tryz.func161 (by kernel_rfl)
def zlp:=zag 162 Tryz.func162 (by kernel_rfl)
def zlq:=zag 163 Tryz.func163 (by kernel_rfl)
def zh0:=zag 164 Tryz.func164 (by kernel_rfl)
def zdH:=zag 165 Tryz.func165 (by kernel_rfl)
def zqY:=zag 166 Tryz.func166 (by kernel_rfl)
def zqZ:=zag 170 Tryz.func170 (by kernel_rfl)
def zbH:=zag 171 Tryz.func171 (by kernel_rfl)
def zq0:=zag 179 Tryz.func179 (by kernel_rfl)
def zq1:=zag 180 Tryz.func180 (by kernel_rfl)
def zlr:=zag 181 Tryz.func181 (by kernel_rfl)
def zaa:=zag 182 Tryz.func182 (by kernel_rfl)
def zau:=zag 183 Tryz.func183 (by kernel_rfl)
def zbI:=zag 184 Tryz.func184 (by kernel_rfl)
def zai:=zag 185 Tryz.func185 (by kernel_rfl)
def za3:=zag 186 Tryz.func186 (by kernel_rfl)
def zcN:=zag 187 Tryz.func187 (by kernel_rfl)
def zey:=zag 190 Tryz.func190 (by kernel_rfl)
def zh1:=zag 191 Tryz.func191 (by kernel_rfl)
def zf2:=zag 196 Tryz.func196 (by kernel_rfl)
def zls:=zag 197 Tryz.func197 (by kernel_rfl)
def zal:=zag 199 Tryz.func199 (by kernel_rfl)
def zdI:=zag 201 Tryz.func201 (by kernel_rfl)
def zlt:=zag 202 Tryz.func202 (by kernel_rfl)
def zlu:=zag 203 Tryz.func203 (by kernel_rfl)
def zlv:=zag 204 Tryz.func204 (by kernel_rfl)
def zh2:=zag 205 Tryz.func205 (by kernel_rfl)
theorem zam {f:FuncId} {code:Code} (site:Nat→Nat) (nobj:Nat) {n:Nat} {rs:List ResultVar} (hF:FI Tryz.prog f code n rs) {args:List AVal} {res:AVal}
  (h:VC Tryz.prog (zbB site nobj) 0 code ⟨args++List.replicate (n - args.length) .junk,List.replicate nobj none⟩ (RQ (zbB site nobj) rs res)) (hargs:args.length≤n:=by simp) :
  AC Tryz.prog gl f args [] res []:=by
 obtain ⟨fn,hf,hb,rfl,hrs⟩:=hF
 obtain rfl:fn.results.toList=rs:=by rw [hrs]
 exact AC.of_vc (env:=zbB site nobj) (zck _ _) mixed hf hb hargs h
theorem zay {f:FuncId} {code:Code} (site:Nat→Nat) (nobj:Nat) {n:Nat} {rs:List ResultVar} (hF:FI Tryz.prog f code n rs) {args:List AVal} {objs:List (Option AObj)} {res:AVal} {objs':List (Option AObj)}
  (h:VC Tryz.prog (zbB site nobj) objs.length code ⟨args++List.replicate (n - args.length) .junk,objs++List.replicate (nobj - objs.length) none⟩ (zaJ (zbB site nobj) objs.length rs res objs')) (hargs:args.length≤n:=by simp) (hobjs:objs.length≤nobj:=by simp) :
  AC Tryz.prog gl f args objs res objs':=by
 obtain ⟨fn,hf,hb,rfl,hrs⟩:=hF
 obtain rfl:fn.results.toList=rs:=by rw [hrs]
 exact AC.of_body (env:=zbB site nobj) (zck _ _) hf hb hargs hobjs (VC.to (zck _ _) mixed code h)
theorem zg0 {f:FuncId} {code:Code} (site:Nat→Nat) (nobj:Nat) {n:Nat} {rs:List ResultVar} (hF:FI Tryz.prog f code n rs) {args:List AVal} {objs:List (Option AObj)} {res:AVal} {objs':List (Option AObj)}
  (h:VC Tryz.prog (zbB site nobj) objs.length code ⟨args++List.replicate (n - args.length) .junk,objs++List.replicate (nobj - objs.length) none⟩ (zwc (zbB site nobj) objs.length (zaJ (zbB site nobj) objs.length rs res objs'))) (hargs:args.length≤n:=by simp) (hobjs:objs.length≤nobj:=by simp) :
  AC Tryz.prog gl f args objs res objs':=by
 obtain ⟨fn,hf,hb,rfl,hrs⟩:=hF
 obtain rfl:fn.results.toList=rs:=by rw [hrs]
 exact AC.of_body (env:=zbB site nobj) (zck _ _) hf hb hargs hobjs (SW.weakEnd (VC.to (zck _ _) mixed code h))
theorem zbr {f:FuncId} {code:Code} (site:Nat→Nat) (nobj:Nat) {n:Nat} {rs:List ResultVar} (hF:FI Tryz.prog f code n rs) {args:List AVal} {objs:List (Option AObj)} {x:Value} {objs':List (Option AObj)}
  (h:VC Tryz.prog (zbB site nobj) objs.length code ⟨args++List.replicate (n - args.length) .junk,objs++List.replicate (nobj - objs.length) none⟩ (zbT objs.length x objs')) (hargs:args.length≤n:=by simp) (hobjs:objs.length≤nobj:=by simp) :
  AP Tryz.prog gl f args objs x objs':=by
 obtain ⟨fn,hf,hb,rfl,hrs⟩:=hF
 exact AP.of_body (env:=zbB site nobj) (zck _ _) hf hb hargs hobjs (VC.to (zck _ _) mixed code h)
theorem za6 {site:Nat→Nat} {nobj pin:Nat} {σ:St} {Q:Exit→St→Prop} {ι:Type} {c:Code} {t:Tg (Code.loop c,Q)} (I:ι→St) (μ:ι→Nat) (i0:ι) (h0:zbK (zbB site nobj) pin σ (I i0))
  (round:∀ i,VC Tryz.prog (zbB site nobj) pin c (I i) (zfN (NX (zbB site nobj) pin I μ .mk (μ i)) Q)):LW Tryz.prog (zbB site nobj) pin (.loop c) σ Q t:=
 LW.loop (zck _ _) mixed I μ i0 h0 round
end Go.Proofs.YtfinhhblcdkpgaaGreatDoor
