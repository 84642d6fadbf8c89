/- The table of types of the program, held against the program. No condition. -/
import Derived.Test.YtfinhhblcdkpgaaGreatDoorProg
import Derived.KernelRfl
import Derived.Test.YtfinhhblcdkpgaaGreatDoorLib3
set_option maxRecDepth 100000
set_option maxHeartbeats 64000000
namespace Go.Proofs.YtfinhhblcdkpgaaGreatDoor
open Go Go.Abs
def ty2:Ty:={ size:=1,bytes:=8,zero:=some [.pv (.int .i64 0)],kind:=.int .i64 }
def ty4:Ty:={ size:=1,bytes:=1,zero:=some [.pv (.bool false)],kind:=.bool }
def ty5:Ty:={ size:=1,bytes:=1,zero:=some [.pv (.int .u8 0)],kind:=.int .u8 }
def ty9:Ty:={ size:=1,bytes:=16,zero:=some [.pv (.str [])],kind:=.string }
def zes:Ty:={ size:=1,bytes:=8,zero:=some [.pv .nilptr] }
def zyP:Ty:={ size:=1,bytes:=16,zero:=some [.pv (.err true)],kind:=.iface }
def zDd:Ty:={ size:=1,bytes:=24,zero:=some [.snil],eSize:=1,eBytes:=1,eZero:=true,kKind:=.int .u8,eZV:=some (false,[.int .u8 0]),kind:=.slice }
def zyQ:Ty:={ size:=1,bytes:=24,zero:=some [.snil],eSize:=5,eBytes:=120,eZero:=true,eZV:=some (true,[.slice [],.slice [],.slice [],.slice [],.slice []]),kind:=.slice }
def zDe:Ty:={ size:=1,bytes:=24,zero:=some [.snil],eSize:=4,eBytes:=32,eZero:=true,eZV:=some (true,[.int .i64 0,.int .i64 0,.int .i64 0,.int .i64 0]),kind:=.slice }
def zDf:Ty:={ size:=4,bytes:=32,agg:=true,zero:=some [.pv (.int .i64 0),.pv (.int .i64 0),.pv (.int .i64 0),.pv (.int .i64 0)],fields:=[(0,1),(1,1),(2,1),(3,1)],kind:=.struct,eqs:=some [.int .i64,.int .i64,.int .i64,.int .i64] }
def zDg:Ty:={ size:=1,bytes:=24,zero:=some [.snil],eSize:=3,eBytes:=32,eZero:=true,eZV:=some (true,[.str [],.int .i64 0,.int .i64 0]),kind:=.slice }
def zDh:Ty:={ size:=1,bytes:=24,zero:=some [.snil],eSize:=18,eBytes:=232,eZero:=true,eZV:=some (true,[.int .i64 0,.str [],.int .i64 0,.int .i64 0,.int .i64 0,.int .i64 0,.str [],.int .i64 0,.int .i64 0,.slice [],.int .i64 0,.int .i64 0,.str [],.int .i64 0,.int .i64 0,.slice [],.slice [],.slice []]),kind:=.slice }
def zyR:Ty:={ size:=5,bytes:=120,agg:=true,zero:=some [.snil,.snil,.snil,.snil,.snil],fields:=[(0,1),(1,1),(2,1),(3,1),(4,1)],kind:=.struct }
def zDi:Ty:={ size:=3,bytes:=32,agg:=true,zero:=some [.pv (.str []),.pv (.int .i64 0),.pv (.int .i64 0)],fields:=[(0,1),(1,1),(2,1)],kind:=.struct,eqs:=some [.string,.int .i64,.int .i64] }
def zyS:Ty:={ size:=3,bytes:=40,agg:=true,zero:=some [.snil,.pv (.int .i64 0),.pv (.int .i64 0)],fields:=[(0,1),(1,1),(2,1)],kind:=.struct }
def zDj:Ty:={ size:=1,bytes:=24,zero:=some [.snil],eSize:=1,eBytes:=8,eZero:=true,kKind:=.int .i64,eZV:=some (false,[.int .i64 0]),kind:=.slice }
def zDk:Ty:={ size:=1,bytes:=24,zero:=some [.snil],eSize:=1,eBytes:=16,eZero:=true,kKind:=.string,eZV:=some (false,[.str []]),kind:=.slice }
def zDl:Ty:={ size:=15,bytes:=240,agg:=true,zero:=some [.pv (.str []),.pv (.str []),.pv (.str []),.pv (.str []),.pv (.str []),.pv (.str []),.pv (.str []),.pv (.str []),.pv (.str []),.pv (.str []),.pv (.str []),.pv (.str []),.pv (.str []),.pv (.str []),.pv (.str [])],eSize:=1,eBytes:=16,eZero:=true,kKind:=.string,kind:=.array 15 }
def zDm:Ty:={ size:=2,bytes:=32,agg:=true,zero:=some [.snil,.pv (.int .i64 0)],fields:=[(0,1),(1,1)],kind:=.struct }
def zDn:Ty:={ size:=2,bytes:=32,agg:=true,zero:=some [.pv .nilptr,.snil],fields:=[(0,1),(1,1)],kind:=.struct,bld:=some 5 }
def zDo:Ty:={ size:=9,bytes:=144,agg:=true,zero:=some [.pv (.str []),.pv (.str []),.pv (.str []),.pv (.str []),.pv (.str []),.pv (.str []),.pv (.str []),.pv (.str []),.pv (.str [])],eSize:=1,eBytes:=16,eZero:=true,kKind:=.string,kind:=.array 9 }
def zDp:Ty:={ size:=7,bytes:=104,agg:=true,zero:=some [.snil,.pv (.bool false),.pv (.int .i64 0),.snil,.pv (.int .i64 0),.pv (.int .i64 0),.snil],fields:=[(0,1),(1,1),(2,1),(3,3),(6,1)],kind:=.struct }
def zDq:Ty:={ size:=1,bytes:=8,zero:=some [.pv .nilmap],kKind:=.string,eZV:=some (true,[.int .i64 0,.int .i64 0]),kind:=.map }
def zDr:Ty:={ size:=2,bytes:=16,agg:=true,zero:=some [.pv (.int .i64 0),.pv (.int .i64 0)],fields:=[(0,1),(1,1)],kind:=.struct,eqs:=some [.int .i64,.int .i64] }
def zDs:Ty:={ size:=3,bytes:=16,agg:=true,zero:=some [.pv .nilmap,.pv (.bool false),.pv (.bool false)],fields:=[(0,1),(1,1),(2,1)],kind:=.struct }
def zxA:Ty:={ size:=1,bytes:=24,agg:=true,zero:=some [.snil],fields:=[(0,1)],kind:=.struct }
def zxB:Ty:={ size:=1,bytes:=24,zero:=some [.snil],eSize:=1,eBytes:=8,eZero:=true,eZV:=some (false,[.nilptr]),kind:=.slice }
def zxC:Ty:={ size:=1,bytes:=24,zero:=some [.snil],eSize:=6,eBytes:=72,eZero:=true,eZV:=some (true,[.int .i64 0,.int .i64 0,.str [],.int .i64 0,.int .i64 0,.slice []]),kind:=.slice }
def zxD:Ty:={ size:=6,bytes:=72,agg:=true,zero:=some [.pv (.int .i64 0),.pv (.int .i64 0),.pv (.str []),.pv (.int .i64 0),.pv (.int .i64 0),.snil],fields:=[(0,1),(1,1),(2,1),(3,1),(4,1),(5,1)],kind:=.struct }
def zxE:Ty:={ size:=18,bytes:=232,agg:=true,zero:=some [.pv (.int .i64 0),.pv (.str []),.pv (.int .i64 0),.pv (.int .i64 0),.pv (.int .i64 0),.pv (.int .i64 0),.pv (.str []),.pv (.int .i64 0),.pv (.int .i64 0),.snil,.pv (.int .i64 0),.pv (.int .i64 0),.pv (.str []),.pv (.int .i64 0),.pv (.int .i64 0),.snil,.snil,.snil],fields:=[(0,1),(1,1),(2,1),(3,1),(4,6),(10,6),(16,1),(17,1)],kind:=.struct }
def zxF:Ty:={ size:=3,bytes:=48,agg:=true,zero:=some [.pv (.str []),.pv (.str []),.pv (.str [])],eSize:=1,eBytes:=16,eZero:=true,kKind:=.string,kind:=.array 3 }
def zxG:Ty:={ size:=2,bytes:=32,agg:=true,zero:=some [.pv (.str []),.pv (.str [])],eSize:=1,eBytes:=16,eZero:=true,kKind:=.string,kind:=.array 2 }
def zxH:Ty:={ size:=1,bytes:=24,zero:=some [.snil],eSize:=4,eBytes:=40,eZero:=true,eZV:=some (true,[.int .i64 0,.str [],.int .i64 0,.int .i64 0]),kind:=.slice }
def zxI:Ty:={ size:=4,bytes:=4,agg:=true,zero:=some [.pv (.bool false),.pv (.bool false),.pv (.bool false),.pv (.bool false)],eSize:=1,eBytes:=1,eZero:=true,kKind:=.bool,kind:=.array 4 }
def zxJ:Ty:={ size:=4,bytes:=40,agg:=true,zero:=some [.pv (.int .i64 0),.pv (.str []),.pv (.int .i64 0),.pv (.int .i64 0)],fields:=[(0,1),(1,1),(2,1),(3,1)],kind:=.struct,eqs:=some [.int .i64,.string,.int .i64,.int .i64] }
def zxK:Ty:={ size:=1,bytes:=8,agg:=true,zero:=some [.pv (.int .i64 0)],fields:=[(0,1)],kind:=.struct,eqs:=some [.int .i64] }
def zxL:Ty:={ size:=4,bytes:=32,agg:=true,zero:=some [.pv .nilptr,.pv .nilptr,.pv .nilptr,.pv .nilptr],eSize:=1,eBytes:=8,eZero:=true,kind:=.array 4 }
def zxM:Ty:={ size:=4,bytes:=64,agg:=true,zero:=some [.pv (.str []),.pv (.str []),.pv (.str []),.pv (.str [])],eSize:=1,eBytes:=16,eZero:=true,kKind:=.string,kind:=.array 4 }
def tyF:Nat→Option Ty
 |2=>some ty2
 |3=>some ty2
 |4=>some ty4
 |5=>some ty5
 |9=>some ty9
 |20=>some zyP
 |22=>some zDd
 |24=>some zyQ
 |25=>some zDe
 |26=>some zes
 |29=>some ty2
 |41=>some zDf
 |42=>some zDg
 |43=>some zDh
 |45=>some zyR
 |48=>some zDi
 |50=>some zyQ
 |52=>some zyS
 |57=>some zDj
 |59=>some zyR
 |70=>some zDk
 |72=>some zDl
 |74=>some zDm
 |77=>some zDn
 |79=>some zyP
 |82=>some zDo
 |85=>some zes
 |87=>some zDp
 |91=>some zDq
 |93=>some zDr
 |95=>some zes
 |97=>some zDs
 |113=>some zxA
 |115=>some zxB
 |117=>some zes
 |118=>some zes
 |126=>some zxC
 |128=>some zxD
 |130=>some zxE
 |133=>some zxF
 |135=>some zxG
 |140=>some zxH
 |147=>some zxI
 |153=>some zes
 |161=>some zes
 |169=>some zxJ
 |198=>some zes
 |213=>some zxK
 |215=>some zes
 |217=>some zyS
 |220=>some zes
 |221=>some zes
 |237=>some zes
 |238=>some zxL
 |239=>some zxM
 |_=>none
def gl:Nat→Option (List PVal)
 |0=>some [.str [],.str [100,101,108,105,118,101,114],.str [116,105,99,107],.str [105,110,112,117,116],.str [100,114,111,112],.str [100,117,112,108,105,99,97,116,101],.str [114,101,115,101,110,100],.str [99,104,101,99,107,112,111,105,110,116],.str [102,108,117,115,104],.str [97,99,107],.str [99,114,97,115,104],.str [114,101,99,111,118,101,114],.str [114,101,115,116,111,114,101],.str [99,111,109,109,105,116],.str [99,111,108,108,101,99,116]]
 |1=>some [.str [],.str [105,110,100,101,112,101,110,100,101,110,116],.str [99,111,111,114,100,105,110,97,116,101,100],.str [105,110,100,101,120,101,100],.str [109,111,100,101,108,98,97,115,101,100],.str [112,101,115,115,105,109,105,115,116,105,99],.str [115,101,110,100,101,114,98,97,115,101,100],.str [111,112,116,105,109,105,115,116,105,99],.str [99,97,117,115,97,108]]
 |2=>some [.str [120],.str [121],.str [122]]
 |3=>some [.str [97],.str [98]]
 |4=>some [.int .u64 1,.int .u64 10,.int .u64 100,.int .u64 1000,.int .u64 10000,.int .u64 100000,.int .u64 1000000,.int .u64 10000000,.int .u64 100000000,.int .u64 1000000000,.int .u64 10000000000,.int .u64 100000000000,.int .u64 1000000000000,.int .u64 10000000000000,.int .u64 100000000000000,.int .u64 1000000000000000,.int .u64 10000000000000000,.int .u64 100000000000000000,.int .u64 1000000000000000000,.int .u64 10000000000000000000]
 |5=>some [.ani .i64]
 |10=>some [.err false]
 |11=>some [.err false]
 |_=>none
theorem zGv:gl 0=some [.str [],.str [100,101,108,105,118,101,114],.str [116,105,99,107],.str [105,110,112,117,116],.str [100,114,111,112],.str [100,117,112,108,105,99,97,116,101],.str [114,101,115,101,110,100],.str [99,104,101,99,107,112,111,105,110,116],.str [102,108,117,115,104],.str [97,99,107],.str [99,114,97,115,104],.str [114,101,99,111,118,101,114],.str [114,101,115,116,111,114,101],.str [99,111,109,109,105,116],.str [99,111,108,108,101,99,116]]:=rfl
theorem zGw:gl 1=some [.str [],.str [105,110,100,101,112,101,110,100,101,110,116],.str [99,111,111,114,100,105,110,97,116,101,100],.str [105,110,100,101,120,101,100],.str [109,111,100,101,108,98,97,115,101,100],.str [112,101,115,115,105,109,105,115,116,105,99],.str [115,101,110,100,101,114,98,97,115,101,100],.str [111,112,116,105,109,105,115,116,105,99],.str [99,97,117,115,97,108]]:=rfl
theorem zGx:gl 2=some [.str [120],.str [121],.str [122]]:=rfl
theorem zGy:gl 3=some [.str [97],.str [98]]:=rfl
theorem zGz:gl 4=some [.int .u64 1,.int .u64 10,.int .u64 100,.int .u64 1000,.int .u64 10000,.int .u64 100000,.int .u64 1000000,.int .u64 10000000,.int .u64 100000000,.int .u64 1000000000,.int .u64 10000000000,.int .u64 100000000000,.int .u64 1000000000000,.int .u64 10000000000000,.int .u64 100000000000000,.int .u64 1000000000000000,.int .u64 10000000000000000,.int .u64 100000000000000000,.int .u64 1000000000000000000,.int .u64 10000000000000000000]:=rfl
theorem zGA:gl 5=some [.ani .i64]:=rfl
theorem zDt:gl 10=some [.err false]:=rfl
theorem zDu:gl 11=some [.err false]:=rfl
def zbI (site:Nat→Nat) (nobj:Nat):Env:=⟨tyF,gl,site,nobj⟩
theorem zct (site:Nat→Nat) (nobj:Nat):zaM Tryz.prog (zbI site nobj):=by
 intro t ty h
 change tyF t=some ty at h
 unfold tyF at h
 split at h<;>first|(cases h;done)|(cases h;kernel_rfl)
theorem zaj (f : FuncId) {fn : Func} (hf : Tryz.prog.funcs[f]? = some fn) (hn : (fn.name == "runtime.NumGoroutine" || fn.body.isNone) = false) (vargs : Array Value) (w : World) : (callFunc f vargs).run Tryz.prog w = .ok (.enter f vargs) w := by
 simp only [Bool.or_eq_false_iff] at hn
 obtain ⟨h1,h2⟩:=hn
 unfold callFunc
 simp only [Sem.run_bind,run_program,Result.andThen,hf,h1,h2,Bool.false_eq_true,if_false,Sem.run_pure]
theorem mixed:Tryz.prog.follows .mixedOrders=true:=by kernel_rfl
theorem zAK (site:Nat→Nat) (nobj t:Nat):(zbI site nobj).ty t=tyF t:=rfl
theorem zAL (site:Nat→Nat) (nobj t:Nat):(zbI site nobj).gl t=gl t:=rfl
theorem zuE (site:Nat→Nat) (nobj t:Nat):(zbI site nobj).site t=site t:=rfl
theorem zuF (site:Nat→Nat) (nobj:Nat):(zbI site nobj).nobj=nobj:=rfl
def tx2:=And.intro (show tyF 2=some ty2 from rfl) ty2.eq_1
def tx3:=And.intro (show tyF 3=some ty2 from rfl) ty2.eq_1
def tx4:=And.intro (show tyF 4=some ty4 from rfl) ty4.eq_1
def tx5:=And.intro (show tyF 5=some ty5 from rfl) ty5.eq_1
def tx9:=And.intro (show tyF 9=some ty9 from rfl) ty9.eq_1
def zGB:=And.intro (show tyF 20=some zyP from rfl) zyP.eq_1
def zxN:=And.intro (show tyF 22=some zDd from rfl) zDd.eq_1
def zDv:=And.intro (show tyF 24=some zyQ from rfl) zyQ.eq_1
def zxO:=And.intro (show tyF 25=some zDe from rfl) zDe.eq_1
def zyT:=And.intro (show tyF 26=some zes from rfl) zes.eq_1
def ztm:=And.intro (show tyF 29=some ty2 from rfl) ty2.eq_1
def zv2:=And.intro (show tyF 41=some zDf from rfl) zDf.eq_1
def zyU:=And.intro (show tyF 42=some zDg from rfl) zDg.eq_1
def zi7:=And.intro (show tyF 43=some zDh from rfl) zDh.eq_1
def zpG:=And.intro (show tyF 45=some zyR from rfl) zyR.eq_1
def zyV:=And.intro (show tyF 48=some zDi from rfl) zDi.eq_1
def zB5:=And.intro (show tyF 50=some zyQ from rfl) zyQ.eq_1
def zyW:=And.intro (show tyF 52=some zyS from rfl) zyS.eq_1
def zAM:=And.intro (show tyF 57=some zDj from rfl) zDj.eq_1
def zAN:=And.intro (show tyF 59=some zyR from rfl) zyR.eq_1
def zpH:=And.intro (show tyF 70=some zDk from rfl) zDk.eq_1
def zEZ:=And.intro (show tyF 72=some zDl from rfl) zDl.eq_1
def zDw:=And.intro (show tyF 74=some zDm from rfl) zDm.eq_1
def zE0:=And.intro (show tyF 77=some zDn from rfl) zDn.eq_1
def zE1:=And.intro (show tyF 79=some zyP from rfl) zyP.eq_1
def zE2:=And.intro (show tyF 82=some zDo from rfl) zDo.eq_1
def zDx:=And.intro (show tyF 85=some zes from rfl) zes.eq_1
def zAO:=And.intro (show tyF 87=some zDp from rfl) zDp.eq_1
def zE3:=And.intro (show tyF 91=some zDq from rfl) zDq.eq_1
def zE4:=And.intro (show tyF 93=some zDr from rfl) zDr.eq_1
def zB6:=And.intro (show tyF 95=some zes from rfl) zes.eq_1
def zE5:=And.intro (show tyF 97=some zDs from rfl) zDs.eq_1
def zAP:=And.intro (show tyF 113=some zxA from rfl) zxA.eq_1
def zxP:=And.intro (show tyF 115=some zxB from rfl) zxB.eq_1
def zAQ:=And.intro (show tyF 117=some zes from rfl) zes.eq_1
def zAR:=And.intro (show tyF 118=some zes from rfl) zes.eq_1
def zi8:=And.intro (show tyF 126=some zxC from rfl) zxC.eq_1
def zfZ:=And.intro (show tyF 128=some zxD from rfl) zxD.eq_1
def zkt:=And.intro (show tyF 130=some zxE from rfl) zxE.eq_1
def zAS:=And.intro (show tyF 133=some zxF from rfl) zxF.eq_1
def zAT:=And.intro (show tyF 135=some zxG from rfl) zxG.eq_1
def zlE:=And.intro (show tyF 140=some zxH from rfl) zxH.eq_1
def zAU:=And.intro (show tyF 147=some zxI from rfl) zxI.eq_1
def zlF:=And.intro (show tyF 153=some zes from rfl) zes.eq_1
def zuG:=And.intro (show tyF 161=some zes from rfl) zes.eq_1
def zlG:=And.intro (show tyF 169=some zxJ from rfl) zxJ.eq_1
def zlH:=And.intro (show tyF 198=some zes from rfl) zes.eq_1
def zAV:=And.intro (show tyF 213=some zxK from rfl) zxK.eq_1
def zgy:=And.intro (show tyF 215=some zes from rfl) zes.eq_1
def zlI:=And.intro (show tyF 217=some zyS from rfl) zyS.eq_1
def zDy:=And.intro (show tyF 220=some zes from rfl) zes.eq_1
def zDz:=And.intro (show tyF 221=some zes from rfl) zes.eq_1
def zDA:=And.intro (show tyF 237=some zes from rfl) zes.eq_1
def zDB:=And.intro (show tyF 238=some zxL from rfl) zxL.eq_1
def zDC:=And.intro (show tyF 239=some zxM from rfl) zxM.eq_1
def tyS:=And.intro @zAK<|And.intro @zuE<|And.intro @zuF<|And.intro @zAL<|And.intro zGv<|And.intro zGw<|And.intro zGx<|And.intro zGy<|And.intro zGz<|And.intro zGA<|And.intro zDt<|zDu
def tq7:=And.intro tyS<|And.intro tx3<|And.intro tx4<|And.intro tx9<|And.intro zxN<|And.intro zDv<|And.intro zxO<|And.intro ztm<|And.intro zpG<|And.intro zB5<|And.intro zyW<|zAN
def tq8:=And.intro tyS<|And.intro tx3<|And.intro tx9<|And.intro zxO<|And.intro ztm<|And.intro zv2<|And.intro zi7<|And.intro zB5<|And.intro zyW<|zAN
def tq9:=And.intro tyS<|And.intro tx3<|And.intro zxN<|And.intro zDv<|And.intro zxO<|And.intro zyT<|zv2
def zDD:=And.intro tyS<|And.intro tx3<|And.intro tx9<|zEZ
def zB7:=And.intro tyS<|And.intro tx3<|And.intro tx4<|And.intro tx5<|And.intro zxN<|And.intro zyT<|zDw
def zB8:=And.intro tyS<|And.intro tx3<|And.intro zyT<|zAM
def zpI:=And.intro tyS<|And.intro tx3<|And.intro tx9<|And.intro zDv<|And.intro zxO<|And.intro ztm<|And.intro zv2<|And.intro zpG<|And.intro zE0<|zE2
def zDE:=And.intro tyS<|And.intro tx3<|And.intro tx9<|And.intro zxO<|And.intro ztm<|And.intro zyW<|And.intro zpH<|And.intro zDx<|zAO
def zDF:=And.intro tyS<|And.intro tx3<|And.intro zxO<|zv2
def zpJ:=And.intro tyS<|And.intro tx3<|And.intro tx4<|And.intro tx9<|And.intro ztm<|And.intro zyU<|And.intro zi7<|And.intro zpG<|And.intro zyV<|And.intro zAM<|And.intro zAN<|And.intro zE3<|And.intro zE4<|And.intro zB6<|zE5
def zGC:=And.intro tyS<|And.intro zi7<|And.intro zAM<|zAN
def zB9:=And.intro tyS<|And.intro tx3<|And.intro zxN<|zDw
def zE6:=And.intro tyS<|And.intro tx3<|And.intro zyT<|And.intro zyU<|And.intro zi7<|And.intro zpG<|zyV
def zE7:=And.intro tyS<|And.intro tx3<|And.intro zxN<|zDw
def zDG:=And.intro tyS<|And.intro tx3<|And.intro tx9<|And.intro zxN<|And.intro ztm<|And.intro zpG<|zAP
def zhd:=And.intro tyS<|And.intro tx3<|And.intro tx9<|And.intro zv2<|And.intro zxP<|And.intro zAQ<|zAR
def zgo:=And.intro tyS<|And.intro tx3<|And.intro tx4<|And.intro tx9<|And.intro zxO<|And.intro ztm<|And.intro zv2<|And.intro zB5<|And.intro zyW<|And.intro zpH<|And.intro zDx<|zAO
def zAW:=And.intro tyS<|And.intro tx3<|And.intro tx4<|And.intro zyU<|And.intro zi7<|And.intro zpG<|zyV
def zCa:=And.intro tyS<|And.intro tx3<|And.intro zi7<|And.intro zB6<|zkt
def zDH:=And.intro tyS<|And.intro tx3<|zAM
def zDI:=And.intro tyS<|And.intro tx3<|And.intro tx4<|And.intro tx9<|And.intro zi7<|And.intro zfZ<|zkt
def zmH:=And.intro tyS<|And.intro tx3<|And.intro tx9<|And.intro zyT<|And.intro zi7<|And.intro zkt<|And.intro zAS<|zAT
def zyX:=And.intro tyS<|And.intro tx3<|And.intro tx9<|And.intro zyU<|And.intro zi7<|And.intro zpG<|And.intro zyV<|And.intro zpH<|zlF
def zv3:=And.intro tyS<|And.intro tx3<|And.intro zv2<|zxP
def zv4:=And.intro tyS<|And.intro tx3<|And.intro tx9<|And.intro zpH<|zAO
def zuH:=And.intro tyS<|And.intro tx3<|And.intro tx9<|And.intro zyW<|And.intro zpH<|And.intro zE2<|zAO
def zqn:=And.intro tyS<|And.intro tx3<|And.intro tx4<|And.intro tx5<|And.intro tx9<|And.intro ztm<|And.intro zpG<|And.intro zB5<|And.intro zyW<|And.intro zAN<|And.intro zE0<|And.intro zDx<|zAO
def zgz:=And.intro tyS<|And.intro tx3<|And.intro tx4<|And.intro tx9<|And.intro zv2<|And.intro zpH<|And.intro zEZ<|And.intro zxP<|And.intro zAQ<|zAR
def zGD:=And.intro tyS<|And.intro tx3<|And.intro zi7<|zpG
def zGE:=And.intro tyS<|And.intro tx3<|And.intro tx4<|And.intro tx9<|zyV
def zCb:=And.intro tyS<|And.intro tx3<|And.intro tx4<|And.intro zi7<|zuG
def zyY:=And.intro tyS<|And.intro tx3<|And.intro tx4<|And.intro tx9<|And.intro zi7<|And.intro zB6<|And.intro zfZ<|zkt
def zDJ:=And.intro tyS<|And.intro tx3<|And.intro tx4<|And.intro tx9<|And.intro zi8<|zfZ
def zeZ:=And.intro tyS<|And.intro tx3<|And.intro tx9<|And.intro zyT<|And.intro zAM<|And.intro zi8<|And.intro zfZ<|And.intro zAS<|zAT
def zCc:=And.intro tyS<|And.intro tx3<|And.intro tx9<|And.intro zxN<|And.intro zpH<|zAP
def zCd:=And.intro tyS<|And.intro tx3<|And.intro zi7<|And.intro zpH<|zlF
def zDK:=And.intro tyS<|And.intro tx2<|And.intro tx3<|And.intro tx9<|zE1
def zv5:=And.intro tyS<|And.intro tx3<|And.intro tx4<|And.intro tx9<|And.intro ztm<|And.intro zpG<|zlE
def zDL:=And.intro tyS<|And.intro tx3<|And.intro zi7<|zuG
def zDM:=And.intro tyS<|And.intro tx3<|And.intro tx4<|And.intro tx5<|tx9
def zGF:=And.intro tyS<|And.intro tx3<|And.intro tx4<|And.intro tx9<|And.intro zi7<|And.intro zkt<|zlH
def zyZ:=And.intro tyS<|And.intro tx3<|And.intro tx4<|And.intro zE3<|And.intro zE4<|zE5
def zqo:=And.intro tyS<|And.intro tx3<|And.intro tx4<|And.intro tx9<|And.intro zB6<|And.intro zi8<|zfZ
def zuI:=And.intro tyS<|And.intro tx3<|And.intro zi7<|And.intro zlF<|zuG
def zm6:=And.intro tyS<|And.intro tx3<|And.intro tx5<|And.intro tx9<|And.intro ztm<|And.intro zlE<|zlG
def zku:=And.intro tyS<|And.intro tx3<|And.intro tx4<|And.intro zyU<|And.intro zpG<|And.intro zlE<|And.intro zAU<|And.intro zgy<|And.intro zlI<|And.intro zDy<|zDz
def zDN:=And.intro tyS<|And.intro tx3<|And.intro zi7<|And.intro zkt<|zlH
def zDO:=And.intro tyS<|tx5
def zAX:=And.intro tyS<|And.intro tx3<|And.intro tx5<|tx9
def zDP:=And.intro tyS<|tx9
def zDQ:=And.intro tyS<|tx9
def zuJ:=And.intro tyS<|And.intro tx3<|And.intro tx4<|And.intro tx9<|And.intro zi8<|And.intro zfZ<|zlH
def zDR:=And.intro tyS<|And.intro tx3<|And.intro tx9<|And.intro zi8<|zfZ
def zuK:=And.intro tyS<|And.intro tx3<|And.intro zpH<|zlF
def zi9:=And.intro tyS<|And.intro tx3<|And.intro tx9<|And.intro zpH<|And.intro zkt<|And.intro zlF<|And.intro zuG<|zlH
def zDS:=And.intro tyS<|And.intro tx3<|And.intro tx5<|tx9
def zry:=And.intro tyS<|And.intro tx3<|And.intro tx5<|And.intro tx9<|zlG
def zpK:=And.intro tyS<|And.intro tx3<|And.intro tx4<|And.intro zGB<|And.intro zpG<|zAV
def zen:=And.intro tyS<|And.intro tx3<|And.intro tx9<|And.intro zyU<|And.intro zyV<|zgy
def zdn:=And.intro tyS<|And.intro tx3<|And.intro tx4<|And.intro tx9<|And.intro zi7<|And.intro zpG<|And.intro zAU<|And.intro zgy<|And.intro zDA<|And.intro zDB<|zDC
def zxQ:=And.intro tyS<|And.intro tx3<|And.intro zi8<|And.intro zfZ<|zlH
def zDT:=And.intro tyS<|tx5
def zDU:=And.intro tyS<|tx3
def zpL:=And.intro tyS<|And.intro tx3<|And.intro zi7<|And.intro zpH<|And.intro zkt<|And.intro zlF<|zlH
def zeo:=And.intro tyS<|And.intro tx3<|And.intro tx9<|And.intro zpH<|And.intro zi8<|And.intro zfZ<|And.intro zlF<|zlH
def zxR:=And.intro tyS<|And.intro tx3<|And.intro tx5<|And.intro tx9<|And.intro zE1<|zlG
def zAY:=And.intro tyS<|And.intro tx3<|And.intro tx5<|tx9
def zuL:=And.intro tyS<|And.intro tx3<|And.intro tx9<|And.intro zgy<|zlI
def zrz:=And.intro tyS<|And.intro tx3<|And.intro tx4<|And.intro tx9<|And.intro zlE<|And.intro zlG<|And.intro zgy<|zlI
def zrA:=And.intro tyS<|And.intro tx3<|And.intro zlE<|And.intro zlG<|And.intro zgy<|zlI
def zxS:=And.intro tyS<|And.intro tx4<|And.intro tx9<|zgy
def zpM:=And.intro tyS<|And.intro tx4<|And.intro tx9<|And.intro zi7<|zgy
def zAZ:=And.intro tyS<|And.intro tx3<|And.intro zlE<|And.intro zlG<|And.intro zAV<|zlI
def zDV:=And.intro tyS<|tx3
def zuM:=And.intro tyS<|And.intro tx3<|And.intro zpH<|And.intro zfZ<|And.intro zlF<|zlH
def zuN:=And.intro tyS<|And.intro tx3<|And.intro tx9<|And.intro zlE<|And.intro zlG<|zlI
def zbY:=And.intro tyS<|And.intro tx3<|And.intro tx9<|And.intro zi7<|And.intro zfZ<|And.intro zkt<|zgy
def zkv:=And.intro tyS<|And.intro tx3<|And.intro zi8<|And.intro zfZ<|zgy
def zkw:=And.intro tyS<|And.intro tx9<|And.intro zi8<|And.intro zfZ<|zgy
def zuO:=And.intro tyS<|And.intro tx3<|And.intro tx9<|And.intro zgy<|zlI
def zrB:=And.intro tyS<|And.intro tx3<|tx9
def zdo:=And.intro tyS<|And.intro tx3<|And.intro tx9<|And.intro zi8<|And.intro zfZ<|And.intro zlE<|And.intro zlG<|And.intro zgy<|zlI
def zDW:=And.intro tyS<|tx3
def fi7:=FI.of Tryz.func7 rfl Tryz.ntmps7 Tryz.results7
def fi8:=FI.of Tryz.func8 rfl Tryz.ntmps8 Tryz.results8
def fi9:=FI.of Tryz.func9 rfl Tryz.ntmps9 Tryz.results9
def zDX:=FI.of Tryz.func14 rfl Tryz.ntmps14 Tryz.results14
def zE8:=FI.of Tryz.func16 rfl Tryz.ntmps16 Tryz.results16
def zE9:=FI.of Tryz.func17 rfl Tryz.ntmps17 Tryz.results17
def zy0:=FI.of Tryz.func19 rfl Tryz.ntmps19 Tryz.results19
def zDY:=FI.of Tryz.func20 rfl Tryz.ntmps20 Tryz.results20
def zGG:=FI.of Tryz.func21 rfl Tryz.ntmps21 Tryz.results21
def zGH:=FI.of Tryz.func22 rfl Tryz.ntmps22 Tryz.results22
def zGI:=FI.of Tryz.func23 rfl Tryz.ntmps23 Tryz.results23
def zGJ:=FI.of Tryz.func24 rfl Tryz.ntmps24 Tryz.results24
def zGK:=FI.of Tryz.func25 rfl Tryz.ntmps25 Tryz.results25
def zGL:=FI.of Tryz.func33 rfl Tryz.ntmps33 Tryz.results33
def zDZ:=FI.of Tryz.func36 rfl Tryz.ntmps36 Tryz.results36
def zpN:=FI.of Tryz.func37 rfl Tryz.ntmps37 Tryz.results37
def zFa:=FI.of Tryz.func41 rfl Tryz.ntmps41 Tryz.results41
def zFb:=FI.of Tryz.func42 rfl Tryz.ntmps42 Tryz.results42
def zGM:=FI.of Tryz.func43 rfl Tryz.ntmps43 Tryz.results43
def zGN:=FI.of Tryz.func44 rfl Tryz.ntmps44 Tryz.results44
def zGO:=FI.of Tryz.func45 rfl Tryz.ntmps45 Tryz.results45
def zFc:=FI.of Tryz.func46 rfl Tryz.ntmps46 Tryz.results46
def zGP:=FI.of Tryz.func57 rfl Tryz.ntmps57 Tryz.results57
def zCe:=FI.of Tryz.func58 rfl Tryz.ntmps58 Tryz.results58
def zCf:=FI.of Tryz.func60 rfl Tryz.ntmps60 Tryz.results60
def zD0:=FI.of Tryz.func61 rfl Tryz.ntmps61 Tryz.results61
def zFd:=FI.of Tryz.func62 rfl Tryz.ntmps62 Tryz.results62
def zGQ:=FI.of Tryz.func63 rfl Tryz.ntmps63 Tryz.results63
def zGR:=FI.of Tryz.func64 rfl Tryz.ntmps64 Tryz.results64
def zGS:=FI.of Tryz.func65 rfl Tryz.ntmps65 Tryz.results65
def zGT:=FI.of Tryz.func66 rfl Tryz.ntmps66 Tryz.results66
def zD1:=FI.of Tryz.func67 rfl Tryz.ntmps67 Tryz.results67
def zGU:=FI.of Tryz.func68 rfl Tryz.ntmps68 Tryz.results68
def zlJ:=FI.of Tryz.func69 rfl Tryz.ntmps69 Tryz.results69
def zGV:=FI.of Tryz.func83 rfl Tryz.ntmps83 Tryz.results83
def zFe:=FI.of Tryz.func84 rfl Tryz.ntmps84 Tryz.results84
def zD2:=FI.of Tryz.func88 rfl Tryz.ntmps88 Tryz.results88
def zCg:=FI.of Tryz.func90 rfl Tryz.ntmps90 Tryz.results90
def zGW:=FI.of Tryz.func91 rfl Tryz.ntmps91 Tryz.results91
def zGX:=FI.of Tryz.func92 rfl Tryz.ntmps92 Tryz.results92
def zGY:=FI.of Tryz.func93 rfl Tryz.ntmps93 Tryz.results93
def zD3:=FI.of Tryz.func94 rfl Tryz.ntmps94 Tryz.results94
def zD4:=FI.of Tryz.func95 rfl Tryz.ntmps95 Tryz.results95
def zD5:=FI.of Tryz.func116 rfl Tryz.ntmps116 Tryz.results116
def zD6:=FI.of Tryz.func123 rfl Tryz.ntmps123 Tryz.results123
def zD7:=FI.of Tryz.func125 rfl Tryz.ntmps125 Tryz.results125
def zD8:=FI.of Tryz.func126 rfl Tryz.ntmps126 Tryz.results126
def zD9:=FI.of Tryz.func127 rfl Tryz.ntmps127 Tryz.results127
def zEa:=FI.of Tryz.func128 rfl Tryz.ntmps128 Tryz.results128
def zEb:=FI.of Tryz.func129 rfl Tryz.ntmps129 Tryz.results129
def zEc:=FI.of Tryz.func130 rfl Tryz.ntmps130 Tryz.results130
def zEd:=FI.of Tryz.func131 rfl Tryz.ntmps131 Tryz.results131
def zEe:=FI.of Tryz.func150 rfl Tryz.ntmps150 Tryz.results150
def zrC:=FI.of Tryz.func151 rfl Tryz.ntmps151 Tryz.results151
def zEf:=FI.of Tryz.func159 rfl Tryz.ntmps159 Tryz.results159
def zEg:=FI.of Tryz.func160 rfl Tryz.ntmps160 Tryz.results160
def zEh:=FI.of Tryz.func162 rfl Tryz.ntmps162 Tryz.results162
def zA0:=FI.of Tryz.func163 rfl Tryz.ntmps163 Tryz.results163
def zEi:=FI.of Tryz.func164 rfl Tryz.ntmps164 Tryz.results164
def zEj:=FI.of Tryz.func165 rfl Tryz.ntmps165 Tryz.results165
def zEk:=FI.of Tryz.func166 rfl Tryz.ntmps166 Tryz.results166
def zxT:=FI.of Tryz.func170 rfl Tryz.ntmps170 Tryz.results170
def zkx:=FI.of Tryz.func171 rfl Tryz.ntmps171 Tryz.results171
def zEl:=FI.of Tryz.func180 rfl Tryz.ntmps180 Tryz.results180
def zEm:=FI.of Tryz.func181 rfl Tryz.ntmps181 Tryz.results181
def zA1:=FI.of Tryz.func182 rfl Tryz.ntmps182 Tryz.results182
def zA2:=FI.of Tryz.func183 rfl Tryz.ntmps183 Tryz.results183
def zA3:=FI.of Tryz.func184 rfl Tryz.ntmps184 Tryz.results184
def zA4:=FI.of Tryz.func185 rfl Tryz.ntmps185 Tryz.results185
def zA5:=FI.of Tryz.func186 rfl Tryz.ntmps186 Tryz.results186
def zEn:=FI.of Tryz.func187 rfl Tryz.ntmps187 Tryz.results187
def zEo:=FI.of Tryz.func190 rfl Tryz.ntmps190 Tryz.results190
def zA6:=FI.of Tryz.func191 rfl Tryz.ntmps191 Tryz.results191
def zEp:=FI.of Tryz.func196 rfl Tryz.ntmps196 Tryz.results196
def zcz:=FI.of Tryz.func197 rfl Tryz.ntmps197 Tryz.results197
def zuP:=FI.of Tryz.func199 rfl Tryz.ntmps199 Tryz.results199
def zpO:=FI.of Tryz.func201 rfl Tryz.ntmps201 Tryz.results201
def zEq:=FI.of Tryz.func202 rfl Tryz.ntmps202 Tryz.results202
def zEr:=FI.of Tryz.func203 rfl Tryz.ntmps203 Tryz.results203
def zf0:=FI.of Tryz.func204 rfl Tryz.ntmps204 Tryz.results204
def zEs:=FI.of Tryz.func205 rfl Tryz.ntmps205 Tryz.results205
def zrD:=zaj 8 Tryz.func8 (by kernel_rfl)
def zrE:=zaj 9 Tryz.func9 (by kernel_rfl)
def zb7:=zaj 14 Tryz.func14 (by kernel_rfl)
def zag:=zaj 16 Tryz.func16 (by kernel_rfl)
def zc8:=zaj 17 Tryz.func17 (by kernel_rfl)
def zn4:=zaj 19 Tryz.func19 (by kernel_rfl)
def zn5:=zaj 20 Tryz.func20 (by kernel_rfl)
def zuQ:=zaj 21 Tryz.func21 (by kernel_rfl)
def zky:=zaj 22 Tryz.func22 (by kernel_rfl)
def zuR:=zaj 23 Tryz.func23 (by kernel_rfl)
def zuS:=zaj 24 Tryz.func24 (by kernel_rfl)
def zuT:=zaj 25 Tryz.func25 (by kernel_rfl)
def zn6:=zaj 33 Tryz.func33 (by kernel_rfl)
def zf1:=zaj 34 Tryz.func34 (by kernel_rfl)
def zbW:=zaj 35 Tryz.func35 (by kernel_rfl)
def zn7:=zaj 36 Tryz.func36 (by kernel_rfl)
def zn8:=zaj 37 Tryz.func37 (by kernel_rfl)
def zn9:=zaj 38 Tryz.func38 (by kernel_rfl)
def zhi:=zaj 39 Tryz.func39 (by kernel_rfl)
def ze0:=zaj 40 Tryz.func40 (by kernel_rfl)
def zoa:=zaj 41 Tryz.func41 (by kernel_rfl)
def ze1:=zaj 42 Tryz.func42 (by kernel_rfl)
def zbf:=zaj 43 Tryz.func43 (by kernel_rfl)
def zuU:=zaj 44 Tryz.func44 (by kernel_rfl)
def ze2:=zaj 45 Tryz.func45 (by kernel_rfl)
def zea:=zaj 46 Tryz.func46 (by kernel_rfl)
def zob:=zaj 57 Tryz.func57 (by kernel_rfl)
def zaG:=zaj 58 Tryz.func58 (by kernel_rfl)
def zba:=zaj 60 Tryz.func60 (by kernel_rfl)
def zoc:=zaj 61 Tryz.func61 (by kernel_rfl)
def zhj:=zaj 62 Tryz.func62 (by kernel_rfl)
def zhk:=zaj 63 Tryz.func63 (by kernel_rfl)
def zhl:=zaj 64 Tryz.func64 (by kernel_rfl)
def zod:=zaj 65 Tryz.func65 (by kernel_rfl)
def ze3:=zaj 66 Tryz.func66 (by kernel_rfl)
def zuV:=zaj 67 Tryz.func67 (by kernel_rfl)
def zkz:=zaj 68 Tryz.func68 (by kernel_rfl)
def zaZ:=zaj 69 Tryz.func69 (by kernel_rfl)
def zaq:=zaj 83 Tryz.func83 (by kernel_rfl)
def zhm:=zaj 84 Tryz.func84 (by kernel_rfl)
def zcS:=zaj 88 Tryz.func88 (by kernel_rfl)
def zuW:=zaj 89 Tryz.func89 (by kernel_rfl)
def zkA:=zaj 90 Tryz.func90 (by kernel_rfl)
def ze4:=zaj 91 Tryz.func91 (by kernel_rfl)
def zf2:=zaj 92 Tryz.func92 (by kernel_rfl)
def zoe:=zaj 93 Tryz.func93 (by kernel_rfl)
def zhn:=zaj 94 Tryz.func94 (by kernel_rfl)
def zc9:=zaj 95 Tryz.func95 (by kernel_rfl)
def zeD:=zaj 116 Tryz.func116 (by kernel_rfl)
def zeE:=zaj 121 Tryz.func121 (by kernel_rfl)
def zlK:=zaj 122 Tryz.func122 (by kernel_rfl)
def zf3:=zaj 123 Tryz.func123 (by kernel_rfl)
def zh0:=zaj 124 Tryz.func124 (by kernel_rfl)
def zrF:=zaj 125 Tryz.func125 (by kernel_rfl)
def zdp:=zaj 126 Tryz.func126 (by kernel_rfl)
def zeF:=zaj 127 Tryz.func127 (by kernel_rfl)
def zrG:=zaj 128 Tryz.func128 (by kernel_rfl)
def zlL:=zaj 129 Tryz.func129 (by kernel_rfl)
def zf4:=zaj 130 Tryz.func130 (by kernel_rfl)
def zrH:=zaj 131 Tryz.func131 (by kernel_rfl)
def zeG:=zaj 150 Tryz.func150 (by kernel_rfl)
def zrI:=zaj 151 Tryz.func151 (by kernel_rfl)
def zrJ:=zaj 159 Tryz.func159 (by kernel_rfl)
def zlM:=zaj 160 Tryz.func160 (by kernel_rfl)
def zrK:=zaj 161 Tryz.func161 (by kernel_rfl)
def zlN:=zaj 162 Tryz.func162 (by kernel_rfl)
def zlO:=zaj 163 Tryz.func163 (by kernel_rfl)
def zh1:=zaj 164 Tryz.func164 (by kernel_rfl)
def zdX:=zaj 165 Tryz.func165 (by kernel_rfl)
def zrL:=zaj 166 Tryz.func166 (by kernel_rfl)
def zrM:=zaj 170 Tryz.func170 (by kernel_rfl)
def zbQ:=zaj 171 Tryz.func171 (by kernel_rfl)
def zrN:=zaj 179 Tryz.func179 (by kernel_rfl)
def zrO:=zaj 180 Tryz.func180 (by kernel_rfl)
def zlP:=zaj 181 Tryz.func181 (by kernel_rfl)
def zaa:=zaj 182 Tryz.func182 (by kernel_rfl)
def zap:=zaj 183 Tryz.func183 (by kernel_rfl)
def zbR:=zaj 184 Tryz.func184 (by kernel_rfl)
def zah:=zaj 185 Tryz.func185 (by kernel_rfl)
def za7:=zaj 186 Tryz.func186 (by kernel_rfl)
def zcW:=zaj 187 Tryz.func187 (by kernel_rfl)
def zeH:=zaj 190 Tryz.func190 (by kernel_rfl)
def zh2:=zaj 191 Tryz.func191 (by kernel_rfl)
def zf5:=zaj 196 Tryz.func196 (by kernel_rfl)
def zlQ:=zaj 197 Tryz.func197 (by kernel_rfl)
def zak:=zaj 199 Tryz.func199 (by kernel_rfl)
def zdY:=zaj 201 Tryz.func201 (by kernel_rfl)
def zlR:=zaj 202 Tryz.func202 (by kernel_rfl)
def zlS:=zaj 203 Tryz.func203 (by kernel_rfl)
def zlT:=zaj 204 Tryz.func204 (by kernel_rfl)
def zh3:=zaj 205 Tryz.func205 (by kernel_rfl)
theorem zaK {f:FuncId} {code:Code} (site:Nat→Nat) (nobj:Nat) {n:Nat} {rs:List ResultVar} (hF:FI Tryz.prog f code n rs) {args:List AVal} {res:AVal}
  (h:VC Tryz.prog (zbI site nobj) 0 code ⟨args++List.replicate (n - args.length) .junk,List.replicate nobj none⟩ (RQ (zbI site nobj) rs res)) (hargs:args.length≤n:=by simp) :
  AC Tryz.prog gl f args [] res []:=by
 obtain ⟨fn,hf,hb,rfl,hrs⟩:=hF
 obtain rfl:fn.results.toList=rs:=by rw [hrs]
 exact AC.of_vc (env:=zbI site nobj) (zct _ _) mixed hf hb hargs h
theorem zax {f:FuncId} {code:Code} (site:Nat→Nat) (nobj:Nat) {n:Nat} {rs:List ResultVar} (hF:FI Tryz.prog f code n rs) {args:List AVal} {objs:List (Option AObj)} {res:AVal} {objs':List (Option AObj)}
  (h:VC Tryz.prog (zbI site nobj) objs.length code ⟨args++List.replicate (n - args.length) .junk,objs++List.replicate (nobj - objs.length) none⟩ (zaH (zbI site nobj) objs.length rs res objs')) (hargs:args.length≤n:=by simp) (hobjs:objs.length≤nobj:=by simp) :
  AC Tryz.prog gl f args objs res objs':=by
 obtain ⟨fn,hf,hb,rfl,hrs⟩:=hF
 obtain rfl:fn.results.toList=rs:=by rw [hrs]
 exact AC.of_body (env:=zbI site nobj) (zct _ _) hf hb hargs hobjs (VC.to (zct _ _) mixed code h)
theorem zgA {f:FuncId} {code:Code} (site:Nat→Nat) (nobj:Nat) {n:Nat} {rs:List ResultVar} (hF:FI Tryz.prog f code n rs) {args:List AVal} {objs:List (Option AObj)} {res:AVal} {objs':List (Option AObj)}
  (h:VC Tryz.prog (zbI site nobj) objs.length code ⟨args++List.replicate (n - args.length) .junk,objs++List.replicate (nobj - objs.length) none⟩ (zxu (zbI site nobj) objs.length (zaH (zbI site nobj) objs.length rs res objs'))) (hargs:args.length≤n:=by simp) (hobjs:objs.length≤nobj:=by simp) :
  AC Tryz.prog gl f args objs res objs':=by
 obtain ⟨fn,hf,hb,rfl,hrs⟩:=hF
 obtain rfl:fn.results.toList=rs:=by rw [hrs]
 exact AC.of_body (env:=zbI site nobj) (zct _ _) hf hb hargs hobjs (SW.weakEnd (VC.to (zct _ _) mixed code h))
theorem zbv {f:FuncId} {code:Code} (site:Nat→Nat) (nobj:Nat) {n:Nat} {rs:List ResultVar} (hF:FI Tryz.prog f code n rs) {args:List AVal} {objs:List (Option AObj)} {x:Value} {objs':List (Option AObj)}
  (h:VC Tryz.prog (zbI site nobj) objs.length code ⟨args++List.replicate (n - args.length) .junk,objs++List.replicate (nobj - objs.length) none⟩ (zb5 objs.length x objs')) (hargs:args.length≤n:=by simp) (hobjs:objs.length≤nobj:=by simp) :
  AP Tryz.prog gl f args objs x objs':=by
 obtain ⟨fn,hf,hb,rfl,hrs⟩:=hF
 exact AP.of_body (env:=zbI site nobj) (zct _ _) hf hb hargs hobjs (VC.to (zct _ _) mixed code h)
theorem zbw {site:Nat→Nat} {nobj pin:Nat} {σ:St} {Q:Exit→St→Prop} {ι:Type} {c:Code} {t:Tg (Code.loop c,Q)} (I:ι→St) (μ:ι→Nat) (i0:ι) (h0:zbT (zbI site nobj) pin σ (I i0))
  (round:∀ i,VC Tryz.prog (zbI site nobj) pin c (I i) (zfV (NX (zbI site nobj) pin I μ .mk (μ i)) Q)):LW Tryz.prog (zbI site nobj) pin (.loop c) σ Q t:=
 LW.loop (zct _ _) mixed I μ i0 h0 round
end Go.Proofs.YtfinhhblcdkpgaaGreatDoor
