/- The table of types of the program, held against the program. No condition. -/
import Derived.Test.YtlgilgaiibdgoaaProg
import Derived.KernelRfl
import Derived.Test.YtlgilgaiibdgoaaAbs22
set_option linter.unusedSimpArgs false
set_option linter.unusedVariables false
namespace Go.Proofs.Ytlgilgaiibdgoaa
open Go Go.Abs
def ty2 : Ty := { size := 1, bytes := 8, agg := false, zero := some [AVal.pv (PVal.int IntKind.i64 (0))], fields := [], eSize := 0, eBytes := 0, eZero := false, kKind := Kd.other, eZV := none, kind := Kd.int IntKind.i64 }
def ty3 : Ty := { size := 1, bytes := 8, agg := false, zero := some [AVal.pv (PVal.int IntKind.i64 (0))], fields := [], eSize := 0, eBytes := 0, eZero := false, kKind := Kd.other, eZV := none, kind := Kd.int IntKind.i64 }
def ty4 : Ty := { size := 1, bytes := 1, agg := false, zero := some [AVal.pv (PVal.bool false)], fields := [], eSize := 0, eBytes := 0, eZero := false, kKind := Kd.other, eZV := none, kind := Kd.bool }
def ty5 : Ty := { size := 1, bytes := 1, agg := false, zero := some [AVal.pv (PVal.int IntKind.u8 (0))], fields := [], eSize := 0, eBytes := 0, eZero := false, kKind := Kd.other, eZV := none, kind := Kd.int IntKind.u8 }
def ty6 : Ty := { size := 1, bytes := 1, agg := false, zero := some [AVal.pv (PVal.int IntKind.u8 (0))], fields := [], eSize := 0, eBytes := 0, eZero := false, kKind := Kd.other, eZV := none, kind := Kd.int IntKind.u8 }
def ty7 : Ty := { size := 4, bytes := 24, agg := true, zero := some [AVal.pv (PVal.int IntKind.i64 (0)), AVal.pv (PVal.int IntKind.i64 (0)), AVal.pv (PVal.bool false), AVal.pv (PVal.int IntKind.u8 (0))], fields := [(0, 1), (1, 1), (2, 1), (3, 1)], eSize := 0, eBytes := 0, eZero := false, kKind := Kd.other, eZV := none, kind := Kd.struct }
def ty8 : Ty := { size := 4, bytes := 24, agg := true, zero := some [AVal.pv (PVal.int IntKind.i64 (0)), AVal.pv (PVal.int IntKind.i64 (0)), AVal.pv (PVal.bool false), AVal.pv (PVal.int IntKind.u8 (0))], fields := [(0, 1), (1, 1), (2, 1), (3, 1)], eSize := 0, eBytes := 0, eZero := false, kKind := Kd.other, eZV := none, kind := Kd.struct }
def ty9 : Ty := { size := 1, bytes := 16, agg := false, zero := some [AVal.pv (PVal.str [])], fields := [], eSize := 0, eBytes := 0, eZero := false, kKind := Kd.other, eZV := none, kind := Kd.string }
def ty10 : Ty := { size := 1, bytes := 16, agg := false, zero := some [AVal.pv (PVal.str [])], fields := [], eSize := 0, eBytes := 0, eZero := false, kKind := Kd.other, eZV := none, kind := Kd.string }
def ty11 : Ty := { size := 1, bytes := 16, agg := false, zero := some [AVal.pv (PVal.str [])], fields := [], eSize := 0, eBytes := 0, eZero := false, kKind := Kd.other, eZV := none, kind := Kd.string }
def ty12 : Ty := { size := 1, bytes := 8, agg := false, zero := some [AVal.pv (PVal.int IntKind.u64 (0))], fields := [], eSize := 0, eBytes := 0, eZero := false, kKind := Kd.other, eZV := none, kind := Kd.int IntKind.u64 }
def ty13 : Ty := { size := 2, bytes := 24, agg := true, zero := some [AVal.pv (PVal.str []), AVal.pv (PVal.int IntKind.u64 (0))], fields := [(0, 1), (1, 1)], eSize := 0, eBytes := 0, eZero := false, kKind := Kd.other, eZV := none, kind := Kd.struct }
def ty14 : Ty := { size := 2, bytes := 24, agg := true, zero := some [AVal.pv (PVal.str []), AVal.pv (PVal.int IntKind.u64 (0))], fields := [(0, 1), (1, 1)], eSize := 0, eBytes := 0, eZero := false, kKind := Kd.other, eZV := none, kind := Kd.struct }
def ty15 : Ty := { size := 1, bytes := 8, agg := false, zero := some [AVal.pv PVal.nilptr], fields := [], eSize := 0, eBytes := 0, eZero := false, kKind := Kd.other, eZV := none, kind := Kd.other }
def ty16 : Ty := { size := 1, bytes := 8, agg := false, zero := some [AVal.pv PVal.nilptr], fields := [], eSize := 0, eBytes := 0, eZero := false, kKind := Kd.other, eZV := none, kind := Kd.other }
def ty17 : Ty := { size := 1, bytes := 8, agg := false, zero := some [AVal.pv PVal.nilptr], fields := [], eSize := 0, eBytes := 0, eZero := false, kKind := Kd.other, eZV := none, kind := Kd.other }
def ty18 : Ty := { size := 1, bytes := 8, agg := true, zero := some [AVal.pv PVal.nilptr], fields := [(0, 1)], eSize := 0, eBytes := 0, eZero := false, kKind := Kd.other, eZV := none, kind := Kd.struct }
def ty19 : Ty := { size := 1, bytes := 8, agg := true, zero := some [AVal.pv PVal.nilptr], fields := [(0, 1)], eSize := 0, eBytes := 0, eZero := false, kKind := Kd.other, eZV := none, kind := Kd.struct }
def ty21 : Ty := { size := 1, bytes := 4, agg := false, zero := some [AVal.pv (PVal.int IntKind.i32 (0))], fields := [], eSize := 0, eBytes := 0, eZero := false, kKind := Kd.other, eZV := none, kind := Kd.int IntKind.i32 }
def ty22 : Ty := { size := 1, bytes := 24, agg := false, zero := some [AVal.snil], fields := [], eSize := 3, eBytes := 32, eZero := true, kKind := Kd.other, eZV := none, kind := Kd.slice }
def ty24 : Ty := { size := 3, bytes := 32, agg := true, zero := some [AVal.pv (PVal.str []), AVal.pv (PVal.int IntKind.i64 (0)), AVal.pv (PVal.int IntKind.i64 (0))], fields := [(0, 1), (1, 1), (2, 1)], eSize := 0, eBytes := 0, eZero := false, kKind := Kd.other, eZV := none, kind := Kd.struct }
def ty25 : Ty := { size := 3, bytes := 32, agg := true, zero := some [AVal.pv (PVal.str []), AVal.pv (PVal.int IntKind.i64 (0)), AVal.pv (PVal.int IntKind.i64 (0))], fields := [(0, 1), (1, 1), (2, 1)], eSize := 0, eBytes := 0, eZero := false, kKind := Kd.other, eZV := none, kind := Kd.struct }
def ty30 : Ty := { size := 1, bytes := 24, agg := false, zero := some [AVal.snil], fields := [], eSize := 18, eBytes := 232, eZero := true, kKind := Kd.other, eZV := none, kind := Kd.slice }
def ty31 : Ty := { size := 5, bytes := 120, agg := true, zero := some [AVal.snil, AVal.snil, AVal.snil, AVal.snil, AVal.snil], fields := [(0, 1), (1, 1), (2, 1), (3, 1), (4, 1)], eSize := 0, eBytes := 0, eZero := false, kKind := Kd.other, eZV := none, kind := Kd.struct }
def ty32 : Ty := { size := 5, bytes := 120, agg := true, zero := some [AVal.snil, AVal.snil, AVal.snil, AVal.snil, AVal.snil], fields := [(0, 1), (1, 1), (2, 1), (3, 1), (4, 1)], eSize := 0, eBytes := 0, eZero := false, kKind := Kd.other, eZV := none, kind := Kd.struct }
def ty33 : Ty := { size := 1, bytes := 8, agg := false, zero := some [AVal.pv (PVal.int IntKind.i64 (0))], fields := [], eSize := 0, eBytes := 0, eZero := false, kKind := Kd.other, eZV := none, kind := Kd.int IntKind.i64 }
def ty34 : Ty := { size := 1, bytes := 24, agg := false, zero := some [AVal.snil], fields := [], eSize := 1, eBytes := 8, eZero := true, kKind := Kd.other, eZV := none, kind := Kd.slice }
def ty35 : Ty := { size := 5, bytes := 120, agg := true, zero := some [AVal.snil, AVal.snil, AVal.snil, AVal.snil, AVal.snil], fields := [(0, 1), (1, 1), (2, 1), (3, 1), (4, 1)], eSize := 0, eBytes := 0, eZero := false, kKind := Kd.other, eZV := none, kind := Kd.struct }
def ty36 : Ty := { size := 5, bytes := 120, agg := true, zero := some [AVal.snil, AVal.snil, AVal.snil, AVal.snil, AVal.snil], fields := [(0, 1), (1, 1), (2, 1), (3, 1), (4, 1)], eSize := 0, eBytes := 0, eZero := false, kKind := Kd.other, eZV := none, kind := Kd.struct }
def ty42 : Ty := { size := 1, bytes := 8, agg := false, zero := some [AVal.pv PVal.nilmap], fields := [], eSize := 0, eBytes := 0, eZero := false, kKind := Kd.string, eZV := some (true, [PVal.int IntKind.i64 (0), PVal.int IntKind.i64 (0)]), kind := Kd.map }
def ty43 : Ty := { size := 2, bytes := 16, agg := true, zero := some [AVal.pv (PVal.int IntKind.i64 (0)), AVal.pv (PVal.int IntKind.i64 (0))], fields := [(0, 1), (1, 1)], eSize := 0, eBytes := 0, eZero := false, kKind := Kd.other, eZV := none, kind := Kd.struct }
def ty44 : Ty := { size := 2, bytes := 16, agg := true, zero := some [AVal.pv (PVal.int IntKind.i64 (0)), AVal.pv (PVal.int IntKind.i64 (0))], fields := [(0, 1), (1, 1)], eSize := 0, eBytes := 0, eZero := false, kKind := Kd.other, eZV := none, kind := Kd.struct }
def ty46 : Ty := { size := 1, bytes := 8, agg := false, zero := some [AVal.pv PVal.nilptr], fields := [], eSize := 0, eBytes := 0, eZero := false, kKind := Kd.other, eZV := none, kind := Kd.other }
def ty47 : Ty := { size := 3, bytes := 16, agg := true, zero := some [AVal.pv PVal.nilmap, AVal.pv (PVal.bool false), AVal.pv (PVal.bool false)], fields := [(0, 1), (1, 1), (2, 1)], eSize := 0, eBytes := 0, eZero := false, kKind := Kd.other, eZV := none, kind := Kd.struct }
def ty48 : Ty := { size := 3, bytes := 16, agg := true, zero := some [AVal.pv PVal.nilmap, AVal.pv (PVal.bool false), AVal.pv (PVal.bool false)], fields := [(0, 1), (1, 1), (2, 1)], eSize := 0, eBytes := 0, eZero := false, kKind := Kd.other, eZV := none, kind := Kd.struct }
def ty53 : Ty := { size := 1, bytes := 24, agg := false, zero := some [AVal.snil], fields := [], eSize := 6, eBytes := 72, eZero := true, kKind := Kd.other, eZV := none, kind := Kd.slice }
def ty54 : Ty := { size := 6, bytes := 72, agg := true, zero := some [AVal.pv (PVal.int IntKind.i64 (0)), AVal.pv (PVal.int IntKind.i64 (0)), AVal.pv (PVal.str []), AVal.pv (PVal.int IntKind.i64 (0)), AVal.pv (PVal.int IntKind.i64 (0)), AVal.snil], fields := [(0, 1), (1, 1), (2, 1), (3, 1), (4, 1), (5, 1)], eSize := 0, eBytes := 0, eZero := false, kKind := Kd.other, eZV := none, kind := Kd.struct }
def ty55 : Ty := { size := 6, bytes := 72, agg := true, zero := some [AVal.pv (PVal.int IntKind.i64 (0)), AVal.pv (PVal.int IntKind.i64 (0)), AVal.pv (PVal.str []), AVal.pv (PVal.int IntKind.i64 (0)), AVal.pv (PVal.int IntKind.i64 (0)), AVal.snil], fields := [(0, 1), (1, 1), (2, 1), (3, 1), (4, 1), (5, 1)], eSize := 0, eBytes := 0, eZero := false, kKind := Kd.other, eZV := none, kind := Kd.struct }
def ty56 : Ty := { size := 18, bytes := 232, agg := true, zero := some [AVal.pv (PVal.int IntKind.i64 (0)), AVal.pv (PVal.str []), AVal.pv (PVal.int IntKind.i64 (0)), AVal.pv (PVal.int IntKind.i64 (0)), AVal.pv (PVal.int IntKind.i64 (0)), AVal.pv (PVal.int IntKind.i64 (0)), AVal.pv (PVal.str []), AVal.pv (PVal.int IntKind.i64 (0)), AVal.pv (PVal.int IntKind.i64 (0)), AVal.snil, AVal.pv (PVal.int IntKind.i64 (0)), AVal.pv (PVal.int IntKind.i64 (0)), AVal.pv (PVal.str []), AVal.pv (PVal.int IntKind.i64 (0)), AVal.pv (PVal.int IntKind.i64 (0)), AVal.snil, AVal.snil, AVal.snil], fields := [(0, 1), (1, 1), (2, 1), (3, 1), (4, 6), (10, 6), (16, 1), (17, 1)], eSize := 0, eBytes := 0, eZero := false, kKind := Kd.other, eZV := none, kind := Kd.struct }
def ty57 : Ty := { size := 18, bytes := 232, agg := true, zero := some [AVal.pv (PVal.int IntKind.i64 (0)), AVal.pv (PVal.str []), AVal.pv (PVal.int IntKind.i64 (0)), AVal.pv (PVal.int IntKind.i64 (0)), AVal.pv (PVal.int IntKind.i64 (0)), AVal.pv (PVal.int IntKind.i64 (0)), AVal.pv (PVal.str []), AVal.pv (PVal.int IntKind.i64 (0)), AVal.pv (PVal.int IntKind.i64 (0)), AVal.snil, AVal.pv (PVal.int IntKind.i64 (0)), AVal.pv (PVal.int IntKind.i64 (0)), AVal.pv (PVal.str []), AVal.pv (PVal.int IntKind.i64 (0)), AVal.pv (PVal.int IntKind.i64 (0)), AVal.snil, AVal.snil, AVal.snil], fields := [(0, 1), (1, 1), (2, 1), (3, 1), (4, 6), (10, 6), (16, 1), (17, 1)], eSize := 0, eBytes := 0, eZero := false, kKind := Kd.other, eZV := none, kind := Kd.struct }
def ty62 : Ty := { size := 1, bytes := 8, agg := false, zero := some [AVal.pv PVal.nilptr], fields := [], eSize := 0, eBytes := 0, eZero := false, kKind := Kd.other, eZV := none, kind := Kd.other }
def ty71 : Ty := { size := 1, bytes := 8, agg := false, zero := some [AVal.pv PVal.nilptr], fields := [], eSize := 0, eBytes := 0, eZero := false, kKind := Kd.other, eZV := none, kind := Kd.other }
def ty75 : Ty := { size := 4, bytes := 40, agg := true, zero := some [AVal.pv PVal.nilptr, AVal.pv PVal.nilptr, AVal.pv PVal.nilptr, AVal.pv (PVal.str [])], fields := [(0, 1), (1, 1), (2, 1), (3, 1)], eSize := 0, eBytes := 0, eZero := false, kKind := Kd.other, eZV := none, kind := Kd.struct }
def ty76 : Ty := { size := 4, bytes := 40, agg := true, zero := some [AVal.pv PVal.nilptr, AVal.pv PVal.nilptr, AVal.pv PVal.nilptr, AVal.pv (PVal.str [])], fields := [(0, 1), (1, 1), (2, 1), (3, 1)], eSize := 0, eBytes := 0, eZero := false, kKind := Kd.other, eZV := none, kind := Kd.struct }
def ty77 : Ty := { size := 0, bytes := 0, agg := true, zero := some [], fields := [], eSize := 1, eBytes := 8, eZero := true, kKind := Kd.other, eZV := none, kind := Kd.array 0 }
def ty78 : Ty := { size := 0, bytes := 0, agg := true, zero := some [], fields := [(0, 0)], eSize := 0, eBytes := 0, eZero := false, kKind := Kd.other, eZV := none, kind := Kd.struct }
def ty79 : Ty := { size := 0, bytes := 0, agg := true, zero := some [], fields := [(0, 0)], eSize := 0, eBytes := 0, eZero := false, kKind := Kd.other, eZV := none, kind := Kd.struct }
def ty81 : Ty := { size := 1, bytes := 4, agg := false, zero := some [AVal.pv (PVal.int IntKind.u32 (0))], fields := [], eSize := 0, eBytes := 0, eZero := false, kKind := Kd.other, eZV := none, kind := Kd.int IntKind.u32 }
def ty82 : Ty := { size := 1, bytes := 1, agg := false, zero := some [AVal.pv (PVal.int IntKind.u8 (0))], fields := [], eSize := 0, eBytes := 0, eZero := false, kKind := Kd.other, eZV := none, kind := Kd.int IntKind.u8 }
def ty83 : Ty := { size := 1, bytes := 1, agg := false, zero := some [AVal.pv (PVal.int IntKind.u8 (0))], fields := [], eSize := 0, eBytes := 0, eZero := false, kKind := Kd.other, eZV := none, kind := Kd.int IntKind.u8 }
def ty85 : Ty := { size := 1, bytes := 8, agg := false, zero := some [AVal.pv PVal.nilptr], fields := [], eSize := 0, eBytes := 0, eZero := false, kKind := Kd.other, eZV := none, kind := Kd.other }
def ty86 : Ty := { size := 1, bytes := 4, agg := false, zero := some [AVal.pv (PVal.int IntKind.i32 (0))], fields := [], eSize := 0, eBytes := 0, eZero := false, kKind := Kd.other, eZV := none, kind := Kd.int IntKind.i32 }
def ty87 : Ty := { size := 1, bytes := 4, agg := false, zero := some [AVal.pv (PVal.int IntKind.i32 (0))], fields := [], eSize := 0, eBytes := 0, eZero := false, kKind := Kd.other, eZV := none, kind := Kd.int IntKind.i32 }
def ty90 : Ty := { size := 1, bytes := 8, agg := false, zero := some [AVal.pv PVal.nilptr], fields := [], eSize := 0, eBytes := 0, eZero := false, kKind := Kd.other, eZV := none, kind := Kd.other }
def tyF : Nat → Option Ty
  | 2 => some ty2
  | 3 => some ty3
  | 4 => some ty4
  | 5 => some ty5
  | 6 => some ty6
  | 7 => some ty7
  | 8 => some ty8
  | 9 => some ty9
  | 10 => some ty10
  | 11 => some ty11
  | 12 => some ty12
  | 13 => some ty13
  | 14 => some ty14
  | 15 => some ty15
  | 16 => some ty16
  | 17 => some ty17
  | 18 => some ty18
  | 19 => some ty19
  | 21 => some ty21
  | 22 => some ty22
  | 24 => some ty24
  | 25 => some ty25
  | 30 => some ty30
  | 31 => some ty31
  | 32 => some ty32
  | 33 => some ty33
  | 34 => some ty34
  | 35 => some ty35
  | 36 => some ty36
  | 42 => some ty42
  | 43 => some ty43
  | 44 => some ty44
  | 46 => some ty46
  | 47 => some ty47
  | 48 => some ty48
  | 53 => some ty53
  | 54 => some ty54
  | 55 => some ty55
  | 56 => some ty56
  | 57 => some ty57
  | 62 => some ty62
  | 71 => some ty71
  | 75 => some ty75
  | 76 => some ty76
  | 77 => some ty77
  | 78 => some ty78
  | 79 => some ty79
  | 81 => some ty81
  | 82 => some ty82
  | 83 => some ty83
  | 85 => some ty85
  | 86 => some ty86
  | 87 => some ty87
  | 90 => some ty90
  | _ => none

def gl : Nat → Option (List PVal) := fun _ => none
def envOf (site : Nat → Nat) (nobj : Nat) : Env := ⟨tyF, gl, site, nobj⟩
set_option maxRecDepth 100000 in
theorem envOK (site : Nat → Nat) (nobj : Nat) : EnvOK Try.prog (envOf site nobj) := by
  intro t ty h
  change tyF t = some ty at h
  unfold tyF at h
  split at h <;> first | (cases h; done) | (cases h; kernel_rfl)
theorem enters (f : FuncId) {fn : Func} (hf : Try.prog.funcs[f]? = some fn) (hn : (fn.name == "runtime.NumGoroutine" || fn.body.isNone) = false) (vargs : Array Value) (w : World) : (callFunc f vargs).run Try.prog w = .ok (.enter f vargs) w := by
  simp only [Bool.or_eq_false_iff] at hn
  obtain ⟨h1, h2⟩ := hn
  unfold callFunc
  simp only [Sem.run_bind, run_program, Result.andThen, hf, h1, h2, Bool.false_eq_true, if_false, Sem.run_pure]
theorem mixed : Try.prog.follows .mixedOrders = true := by kernel_rfl
theorem env_ty (site : Nat → Nat) (nobj t : Nat) : (envOf site nobj).ty t = tyF t := rfl
theorem env_gl (site : Nat → Nat) (nobj t : Nat) : (envOf site nobj).gl t = gl t := rfl
theorem env_site (site : Nat → Nat) (nobj t : Nat) : (envOf site nobj).site t = site t := rfl
theorem env_nobj (site : Nat → Nat) (nobj : Nat) : (envOf site nobj).nobj = nobj := rfl
theorem tyF_2 : tyF 2 = some ty2 := rfl
theorem tyF_3 : tyF 3 = some ty3 := rfl
theorem tyF_4 : tyF 4 = some ty4 := rfl
theorem tyF_5 : tyF 5 = some ty5 := rfl
theorem tyF_6 : tyF 6 = some ty6 := rfl
theorem tyF_7 : tyF 7 = some ty7 := rfl
theorem tyF_8 : tyF 8 = some ty8 := rfl
theorem tyF_9 : tyF 9 = some ty9 := rfl
theorem tyF_10 : tyF 10 = some ty10 := rfl
theorem tyF_11 : tyF 11 = some ty11 := rfl
theorem tyF_12 : tyF 12 = some ty12 := rfl
theorem tyF_13 : tyF 13 = some ty13 := rfl
theorem tyF_14 : tyF 14 = some ty14 := rfl
theorem tyF_15 : tyF 15 = some ty15 := rfl
theorem tyF_16 : tyF 16 = some ty16 := rfl
theorem tyF_17 : tyF 17 = some ty17 := rfl
theorem tyF_18 : tyF 18 = some ty18 := rfl
theorem tyF_19 : tyF 19 = some ty19 := rfl
theorem tyF_21 : tyF 21 = some ty21 := rfl
theorem tyF_22 : tyF 22 = some ty22 := rfl
theorem tyF_24 : tyF 24 = some ty24 := rfl
theorem tyF_25 : tyF 25 = some ty25 := rfl
theorem tyF_30 : tyF 30 = some ty30 := rfl
theorem tyF_31 : tyF 31 = some ty31 := rfl
theorem tyF_32 : tyF 32 = some ty32 := rfl
theorem tyF_33 : tyF 33 = some ty33 := rfl
theorem tyF_34 : tyF 34 = some ty34 := rfl
theorem tyF_35 : tyF 35 = some ty35 := rfl
theorem tyF_36 : tyF 36 = some ty36 := rfl
theorem tyF_42 : tyF 42 = some ty42 := rfl
theorem tyF_43 : tyF 43 = some ty43 := rfl
theorem tyF_44 : tyF 44 = some ty44 := rfl
theorem tyF_46 : tyF 46 = some ty46 := rfl
theorem tyF_47 : tyF 47 = some ty47 := rfl
theorem tyF_48 : tyF 48 = some ty48 := rfl
theorem tyF_53 : tyF 53 = some ty53 := rfl
theorem tyF_54 : tyF 54 = some ty54 := rfl
theorem tyF_55 : tyF 55 = some ty55 := rfl
theorem tyF_56 : tyF 56 = some ty56 := rfl
theorem tyF_57 : tyF 57 = some ty57 := rfl
theorem tyF_62 : tyF 62 = some ty62 := rfl
theorem tyF_71 : tyF 71 = some ty71 := rfl
theorem tyF_75 : tyF 75 = some ty75 := rfl
theorem tyF_76 : tyF 76 = some ty76 := rfl
theorem tyF_77 : tyF 77 = some ty77 := rfl
theorem tyF_78 : tyF 78 = some ty78 := rfl
theorem tyF_79 : tyF 79 = some ty79 := rfl
theorem tyF_81 : tyF 81 = some ty81 := rfl
theorem tyF_82 : tyF 82 = some ty82 := rfl
theorem tyF_83 : tyF 83 = some ty83 := rfl
theorem tyF_85 : tyF 85 = some ty85 := rfl
theorem tyF_86 : tyF 86 = some ty86 := rfl
theorem tyF_87 : tyF 87 = some ty87 := rfl
theorem tyF_90 : tyF 90 = some ty90 := rfl
theorem enters3 (vargs : Array Value) (w : World) : (callFunc 3 vargs).run Try.prog w = .ok (.enter 3 vargs) w := enters 3 Try.func3 (by kernel_rfl) vargs w
theorem enters4 (vargs : Array Value) (w : World) : (callFunc 4 vargs).run Try.prog w = .ok (.enter 4 vargs) w := enters 4 Try.func4 (by kernel_rfl) vargs w
theorem enters5 (vargs : Array Value) (w : World) : (callFunc 5 vargs).run Try.prog w = .ok (.enter 5 vargs) w := enters 5 Try.func5 (by kernel_rfl) vargs w
theorem enters6 (vargs : Array Value) (w : World) : (callFunc 6 vargs).run Try.prog w = .ok (.enter 6 vargs) w := enters 6 Try.func6 (by kernel_rfl) vargs w
theorem enters7 (vargs : Array Value) (w : World) : (callFunc 7 vargs).run Try.prog w = .ok (.enter 7 vargs) w := enters 7 Try.func7 (by kernel_rfl) vargs w
theorem enters8 (vargs : Array Value) (w : World) : (callFunc 8 vargs).run Try.prog w = .ok (.enter 8 vargs) w := enters 8 Try.func8 (by kernel_rfl) vargs w
theorem enters9 (vargs : Array Value) (w : World) : (callFunc 9 vargs).run Try.prog w = .ok (.enter 9 vargs) w := enters 9 Try.func9 (by kernel_rfl) vargs w
theorem enters10 (vargs : Array Value) (w : World) : (callFunc 10 vargs).run Try.prog w = .ok (.enter 10 vargs) w := enters 10 Try.func10 (by kernel_rfl) vargs w
theorem enters11 (vargs : Array Value) (w : World) : (callFunc 11 vargs).run Try.prog w = .ok (.enter 11 vargs) w := enters 11 Try.func11 (by kernel_rfl) vargs w
theorem enters12 (vargs : Array Value) (w : World) : (callFunc 12 vargs).run Try.prog w = .ok (.enter 12 vargs) w := enters 12 Try.func12 (by kernel_rfl) vargs w
theorem enters13 (vargs : Array Value) (w : World) : (callFunc 13 vargs).run Try.prog w = .ok (.enter 13 vargs) w := enters 13 Try.func13 (by kernel_rfl) vargs w
theorem enters14 (vargs : Array Value) (w : World) : (callFunc 14 vargs).run Try.prog w = .ok (.enter 14 vargs) w := enters 14 Try.func14 (by kernel_rfl) vargs w
theorem enters15 (vargs : Array Value) (w : World) : (callFunc 15 vargs).run Try.prog w = .ok (.enter 15 vargs) w := enters 15 Try.func15 (by kernel_rfl) vargs w
theorem enters16 (vargs : Array Value) (w : World) : (callFunc 16 vargs).run Try.prog w = .ok (.enter 16 vargs) w := enters 16 Try.func16 (by kernel_rfl) vargs w
theorem enters17 (vargs : Array Value) (w : World) : (callFunc 17 vargs).run Try.prog w = .ok (.enter 17 vargs) w := enters 17 Try.func17 (by kernel_rfl) vargs w
theorem enters18 (vargs : Array Value) (w : World) : (callFunc 18 vargs).run Try.prog w = .ok (.enter 18 vargs) w := enters 18 Try.func18 (by kernel_rfl) vargs w
theorem enters19 (vargs : Array Value) (w : World) : (callFunc 19 vargs).run Try.prog w = .ok (.enter 19 vargs) w := enters 19 Try.func19 (by kernel_rfl) vargs w
theorem enters20 (vargs : Array Value) (w : World) : (callFunc 20 vargs).run Try.prog w = .ok (.enter 20 vargs) w := enters 20 Try.func20 (by kernel_rfl) vargs w
theorem enters21 (vargs : Array Value) (w : World) : (callFunc 21 vargs).run Try.prog w = .ok (.enter 21 vargs) w := enters 21 Try.func21 (by kernel_rfl) vargs w
theorem enters22 (vargs : Array Value) (w : World) : (callFunc 22 vargs).run Try.prog w = .ok (.enter 22 vargs) w := enters 22 Try.func22 (by kernel_rfl) vargs w
theorem enters23 (vargs : Array Value) (w : World) : (callFunc 23 vargs).run Try.prog w = .ok (.enter 23 vargs) w := enters 23 Try.func23 (by kernel_rfl) vargs w
theorem enters24 (vargs : Array Value) (w : World) : (callFunc 24 vargs).run Try.prog w = .ok (.enter 24 vargs) w := enters 24 Try.func24 (by kernel_rfl) vargs w
theorem enters25 (vargs : Array Value) (w : World) : (callFunc 25 vargs).run Try.prog w = .ok (.enter 25 vargs) w := enters 25 Try.func25 (by kernel_rfl) vargs w
theorem enters26 (vargs : Array Value) (w : World) : (callFunc 26 vargs).run Try.prog w = .ok (.enter 26 vargs) w := enters 26 Try.func26 (by kernel_rfl) vargs w
theorem enters27 (vargs : Array Value) (w : World) : (callFunc 27 vargs).run Try.prog w = .ok (.enter 27 vargs) w := enters 27 Try.func27 (by kernel_rfl) vargs w
theorem enters28 (vargs : Array Value) (w : World) : (callFunc 28 vargs).run Try.prog w = .ok (.enter 28 vargs) w := enters 28 Try.func28 (by kernel_rfl) vargs w
theorem enters29 (vargs : Array Value) (w : World) : (callFunc 29 vargs).run Try.prog w = .ok (.enter 29 vargs) w := enters 29 Try.func29 (by kernel_rfl) vargs w
theorem enters30 (vargs : Array Value) (w : World) : (callFunc 30 vargs).run Try.prog w = .ok (.enter 30 vargs) w := enters 30 Try.func30 (by kernel_rfl) vargs w
theorem enters31 (vargs : Array Value) (w : World) : (callFunc 31 vargs).run Try.prog w = .ok (.enter 31 vargs) w := enters 31 Try.func31 (by kernel_rfl) vargs w


theorem body_ac {f : FuncId} {fn : Func} {code : Code} (site : Nat → Nat) (nobj : Nat) (hf : Try.prog.funcs[f]? = some fn) (hb : fn.body = some code) {n : Nat} (hn : fn.ntmps = n) {rs : List ResultVar} (hrs : fn.results.toList = rs) {args : List AVal} {objs : List (Option AObj)} {res : AVal} {objs' : List (Option AObj)}
    (hargs : args.length ≤ n) (hobjs : objs.length ≤ nobj)
    (h : ∀ Q : Exit → St → Prop, (∀ e σ, retQ (envOf site nobj) objs.length rs res objs' e σ → Q e σ) → SW Try.prog (envOf site nobj) objs.length code ⟨args ++ List.replicate (n - args.length) .junk, objs ++ List.replicate (nobj - objs.length) none⟩ Q) :
    AC Try.prog gl f args objs res objs' := by
  subst hn hrs
  exact AC.of_body (env := envOf site nobj) (envOK _ _) hf hb hargs hobjs (h _ fun _ _ h => h)
end Go.Proofs.Ytlgilgaiibdgoaa
