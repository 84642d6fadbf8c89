/- The table of types of the program, held against the program. No condition. -/
import Derived.Test.YtfldnpkacelniaaDoorProg
import Derived.KernelRfl
import Derived.Test.YtfldnpkacelniaaDoorLib2
set_option linter.unusedSimpArgs false
set_option linter.unusedVariables false
set_option linter.defProp false
namespace Go.Proofs.YtfldnpkacelniaaDoor
open Go Go.Abs
def ty2 : Ty := { size := 1, bytes := 8, agg := false, zero := some [AVal.pv (PVal.int IntKind.i64 (0))], fields := [], eSize := 0, eBytes := 0, eZero := false, kKind := Kd.other, eZV := none, kind := Kd.int IntKind.i64 }
def ty3 : Ty := { size := 1, bytes := 8, agg := false, zero := some [AVal.pv (PVal.int IntKind.i64 (0))], fields := [], eSize := 0, eBytes := 0, eZero := false, kKind := Kd.other, eZV := none, kind := Kd.int IntKind.i64 }
def ty4 : Ty := { size := 1, bytes := 1, agg := false, zero := some [AVal.pv (PVal.bool false)], fields := [], eSize := 0, eBytes := 0, eZero := false, kKind := Kd.other, eZV := none, kind := Kd.bool }
def ty5 : Ty := { size := 1, bytes := 1, agg := false, zero := some [AVal.pv (PVal.int IntKind.u8 (0))], fields := [], eSize := 0, eBytes := 0, eZero := false, kKind := Kd.other, eZV := none, kind := Kd.int IntKind.u8 }
def ty6 : Ty := { size := 1, bytes := 1, agg := false, zero := some [AVal.pv (PVal.int IntKind.u8 (0))], fields := [], eSize := 0, eBytes := 0, eZero := false, kKind := Kd.other, eZV := none, kind := Kd.int IntKind.u8 }
def ty7 : Ty := { size := 4, bytes := 24, agg := true, zero := some [AVal.pv (PVal.int IntKind.i64 (0)), AVal.pv (PVal.int IntKind.i64 (0)), AVal.pv (PVal.bool false), AVal.pv (PVal.int IntKind.u8 (0))], fields := [(0, 1), (1, 1), (2, 1), (3, 1)], eSize := 0, eBytes := 0, eZero := false, kKind := Kd.other, eZV := none, kind := Kd.struct }
def ty8 : Ty := { size := 4, bytes := 24, agg := true, zero := some [AVal.pv (PVal.int IntKind.i64 (0)), AVal.pv (PVal.int IntKind.i64 (0)), AVal.pv (PVal.bool false), AVal.pv (PVal.int IntKind.u8 (0))], fields := [(0, 1), (1, 1), (2, 1), (3, 1)], eSize := 0, eBytes := 0, eZero := false, kKind := Kd.other, eZV := none, kind := Kd.struct }
def ty9 : Ty := { size := 1, bytes := 16, agg := false, zero := some [AVal.pv (PVal.str [])], fields := [], eSize := 0, eBytes := 0, eZero := false, kKind := Kd.other, eZV := none, kind := Kd.string }
def ty10 : Ty := { size := 1, bytes := 16, agg := false, zero := some [AVal.pv (PVal.str [])], fields := [], eSize := 0, eBytes := 0, eZero := false, kKind := Kd.other, eZV := none, kind := Kd.string }
def ty11 : Ty := { size := 1, bytes := 16, agg := false, zero := some [AVal.pv (PVal.str [])], fields := [], eSize := 0, eBytes := 0, eZero := false, kKind := Kd.other, eZV := none, kind := Kd.string }
def ty12 : Ty := { size := 1, bytes := 8, agg := false, zero := some [AVal.pv (PVal.int IntKind.u64 (0))], fields := [], eSize := 0, eBytes := 0, eZero := false, kKind := Kd.other, eZV := none, kind := Kd.int IntKind.u64 }
def ty13 : Ty := { size := 2, bytes := 24, agg := true, zero := some [AVal.pv (PVal.str []), AVal.pv (PVal.int IntKind.u64 (0))], fields := [(0, 1), (1, 1)], eSize := 0, eBytes := 0, eZero := false, kKind := Kd.other, eZV := none, kind := Kd.struct }
def ty14 : Ty := { size := 2, bytes := 24, agg := true, zero := some [AVal.pv (PVal.str []), AVal.pv (PVal.int IntKind.u64 (0))], fields := [(0, 1), (1, 1)], eSize := 0, eBytes := 0, eZero := false, kKind := Kd.other, eZV := none, kind := Kd.struct }
def ty15 : Ty := { size := 1, bytes := 8, agg := false, zero := some [AVal.pv PVal.nilptr], fields := [], eSize := 0, eBytes := 0, eZero := false, kKind := Kd.other, eZV := none, kind := Kd.other }
def ty16 : Ty := { size := 1, bytes := 8, agg := false, zero := some [AVal.pv PVal.nilptr], fields := [], eSize := 0, eBytes := 0, eZero := false, kKind := Kd.other, eZV := none, kind := Kd.other }
def ty17 : Ty := { size := 1, bytes := 8, agg := false, zero := some [AVal.pv PVal.nilptr], fields := [], eSize := 0, eBytes := 0, eZero := false, kKind := Kd.other, eZV := none, kind := Kd.other }
def ty18 : Ty := { size := 1, bytes := 8, agg := true, zero := some [AVal.pv PVal.nilptr], fields := [(0, 1)], eSize := 0, eBytes := 0, eZero := false, kKind := Kd.other, eZV := none, kind := Kd.struct }
def ty19 : Ty := { size := 1, bytes := 8, agg := true, zero := some [AVal.pv PVal.nilptr], fields := [(0, 1)], eSize := 0, eBytes := 0, eZero := false, kKind := Kd.other, eZV := none, kind := Kd.struct }
def ty20 : Ty := { size := 1, bytes := 16, agg := false, zero := some [AVal.pv (PVal.err true)], fields := [], eSize := 0, eBytes := 0, eZero := false, kKind := Kd.other, eZV := none, kind := Kd.iface }
def ty21 : Ty := { size := 1, bytes := 4, agg := false, zero := some [AVal.pv (PVal.int IntKind.i32 (0))], fields := [], eSize := 0, eBytes := 0, eZero := false, kKind := Kd.other, eZV := none, kind := Kd.int IntKind.i32 }
def ty23 : Ty := { size := 1, bytes := 24, agg := false, zero := some [AVal.snil], fields := [], eSize := 4, eBytes := 40, eZero := true, kKind := Kd.other, eZV := some (true, [PVal.int IntKind.i64 (0), PVal.str [], PVal.int IntKind.i64 (0), PVal.int IntKind.i64 (0)]), kind := Kd.slice }
def ty24 : Ty := { size := 1, bytes := 8, agg := false, zero := some [AVal.pv (PVal.int IntKind.i64 (0))], fields := [], eSize := 0, eBytes := 0, eZero := false, kKind := Kd.other, eZV := none, kind := Kd.int IntKind.i64 }
def ty30 : Ty := { size := 4, bytes := 40, agg := true, zero := some [AVal.pv (PVal.int IntKind.i64 (0)), AVal.pv (PVal.str []), AVal.pv (PVal.int IntKind.i64 (0)), AVal.pv (PVal.int IntKind.i64 (0))], fields := [(0, 1), (1, 1), (2, 1), (3, 1)], eSize := 0, eBytes := 0, eZero := false, kKind := Kd.other, eZV := none, kind := Kd.struct }
def ty31 : Ty := { size := 4, bytes := 40, agg := true, zero := some [AVal.pv (PVal.int IntKind.i64 (0)), AVal.pv (PVal.str []), AVal.pv (PVal.int IntKind.i64 (0)), AVal.pv (PVal.int IntKind.i64 (0))], fields := [(0, 1), (1, 1), (2, 1), (3, 1)], eSize := 0, eBytes := 0, eZero := false, kKind := Kd.other, eZV := none, kind := Kd.struct }
def ty32 : Ty := { size := 1, bytes := 24, agg := false, zero := some [AVal.snil], fields := [], eSize := 1, eBytes := 16, eZero := true, kKind := Kd.string, eZV := some (false, [PVal.str []]), kind := Kd.slice }
def ty36 : Ty := { size := 1, bytes := 24, agg := false, zero := some [AVal.snil], fields := [], eSize := 1, eBytes := 1, eZero := true, kKind := Kd.int IntKind.u8, eZV := some (false, [PVal.int IntKind.u8 (0)]), kind := Kd.slice }
def ty37 : Ty := { size := 1, bytes := 8, agg := false, zero := some [AVal.pv PVal.nilptr], fields := [], eSize := 0, eBytes := 0, eZero := false, kKind := Kd.other, eZV := none, kind := Kd.other }
def ty48 : Ty := { size := 2, bytes := 32, agg := true, zero := some [AVal.snil, AVal.pv (PVal.int IntKind.i64 (0))], fields := [(0, 1), (1, 1)], eSize := 0, eBytes := 0, eZero := false, kKind := Kd.other, eZV := none, kind := Kd.struct }
def ty49 : Ty := { size := 2, bytes := 32, agg := true, zero := some [AVal.snil, AVal.pv (PVal.int IntKind.i64 (0))], fields := [(0, 1), (1, 1)], eSize := 0, eBytes := 0, eZero := false, kKind := Kd.other, eZV := none, kind := Kd.struct }
def ty54 : Ty := { size := 1, bytes := 8, agg := false, zero := some [AVal.pv PVal.nilptr], fields := [], eSize := 0, eBytes := 0, eZero := false, kKind := Kd.other, eZV := none, kind := Kd.other }
def ty55 : Ty := { size := 2, bytes := 32, agg := true, zero := some [AVal.pv PVal.nilptr, AVal.snil], fields := [(0, 1), (1, 1)], eSize := 0, eBytes := 0, eZero := false, kKind := Kd.other, eZV := none, kind := Kd.struct }
def ty56 : Ty := { size := 2, bytes := 32, agg := true, zero := some [AVal.pv PVal.nilptr, AVal.snil], fields := [(0, 1), (1, 1)], eSize := 0, eBytes := 0, eZero := false, kKind := Kd.other, eZV := none, kind := Kd.struct }
def ty58 : Ty := { size := 1, bytes := 16, agg := false, zero := some [AVal.pv (PVal.err true)], fields := [], eSize := 0, eBytes := 0, eZero := false, kKind := Kd.other, eZV := none, kind := Kd.iface }
def ty59 : Ty := { size := 1, bytes := 16, agg := false, zero := some [AVal.pv (PVal.err true)], fields := [], eSize := 0, eBytes := 0, eZero := false, kKind := Kd.other, eZV := none, kind := Kd.iface }
def ty66 : Ty := { size := 1, bytes := 8, agg := false, zero := some [AVal.pv PVal.nilptr], fields := [], eSize := 0, eBytes := 0, eZero := false, kKind := Kd.other, eZV := none, kind := Kd.other }
def ty68 : Ty := { size := 24, bytes := 24, agg := true, zero := some [AVal.pv (PVal.int IntKind.u8 (0)), AVal.pv (PVal.int IntKind.u8 (0)), AVal.pv (PVal.int IntKind.u8 (0)), AVal.pv (PVal.int IntKind.u8 (0)), AVal.pv (PVal.int IntKind.u8 (0)), AVal.pv (PVal.int IntKind.u8 (0)), AVal.pv (PVal.int IntKind.u8 (0)), AVal.pv (PVal.int IntKind.u8 (0)), AVal.pv (PVal.int IntKind.u8 (0)), AVal.pv (PVal.int IntKind.u8 (0)), AVal.pv (PVal.int IntKind.u8 (0)), AVal.pv (PVal.int IntKind.u8 (0)), AVal.pv (PVal.int IntKind.u8 (0)), AVal.pv (PVal.int IntKind.u8 (0)), AVal.pv (PVal.int IntKind.u8 (0)), AVal.pv (PVal.int IntKind.u8 (0)), AVal.pv (PVal.int IntKind.u8 (0)), AVal.pv (PVal.int IntKind.u8 (0)), AVal.pv (PVal.int IntKind.u8 (0)), AVal.pv (PVal.int IntKind.u8 (0)), AVal.pv (PVal.int IntKind.u8 (0)), AVal.pv (PVal.int IntKind.u8 (0)), AVal.pv (PVal.int IntKind.u8 (0)), AVal.pv (PVal.int IntKind.u8 (0))], fields := [], eSize := 1, eBytes := 1, eZero := true, kKind := Kd.other, eZV := none, kind := Kd.array 24 }
def ty69 : Ty := { size := 1, bytes := 8, agg := false, zero := some [AVal.pv (PVal.int IntKind.u64 (0))], fields := [], eSize := 0, eBytes := 0, eZero := false, kKind := Kd.other, eZV := none, kind := Kd.int IntKind.u64 }
def ty74 : Ty := { size := 1, bytes := 8, agg := false, zero := some [AVal.pv PVal.nilptr], fields := [], eSize := 0, eBytes := 0, eZero := false, kKind := Kd.other, eZV := none, kind := Kd.other }
def ty77 : Ty := { size := 1, bytes := 8, agg := false, zero := some [AVal.pv (PVal.int IntKind.i64 (0))], fields := [], eSize := 0, eBytes := 0, eZero := false, kKind := Kd.other, eZV := none, kind := Kd.int IntKind.i64 }
def ty80 : Ty := { size := 1, bytes := 8, agg := false, zero := some [AVal.pv (PVal.int IntKind.u64 (0))], fields := [], eSize := 0, eBytes := 0, eZero := false, kKind := Kd.other, eZV := none, kind := Kd.int IntKind.u64 }
def ty81 : Ty := { size := 1, bytes := 8, agg := false, zero := some [AVal.pv PVal.nilptr], fields := [], eSize := 0, eBytes := 0, eZero := false, kKind := Kd.other, eZV := none, kind := Kd.other }
def ty85 : Ty := { size := 20, bytes := 160, agg := true, zero := some [AVal.pv (PVal.int IntKind.u64 (0)), AVal.pv (PVal.int IntKind.u64 (0)), AVal.pv (PVal.int IntKind.u64 (0)), AVal.pv (PVal.int IntKind.u64 (0)), AVal.pv (PVal.int IntKind.u64 (0)), AVal.pv (PVal.int IntKind.u64 (0)), AVal.pv (PVal.int IntKind.u64 (0)), AVal.pv (PVal.int IntKind.u64 (0)), AVal.pv (PVal.int IntKind.u64 (0)), AVal.pv (PVal.int IntKind.u64 (0)), AVal.pv (PVal.int IntKind.u64 (0)), AVal.pv (PVal.int IntKind.u64 (0)), AVal.pv (PVal.int IntKind.u64 (0)), AVal.pv (PVal.int IntKind.u64 (0)), AVal.pv (PVal.int IntKind.u64 (0)), AVal.pv (PVal.int IntKind.u64 (0)), AVal.pv (PVal.int IntKind.u64 (0)), AVal.pv (PVal.int IntKind.u64 (0)), AVal.pv (PVal.int IntKind.u64 (0)), AVal.pv (PVal.int IntKind.u64 (0))], fields := [], eSize := 1, eBytes := 8, eZero := true, kKind := Kd.other, eZV := none, kind := Kd.array 20 }
def ty86 : Ty := { size := 1, bytes := 4, agg := false, zero := some [AVal.pv (PVal.int IntKind.u32 (0))], fields := [], eSize := 0, eBytes := 0, eZero := false, kKind := Kd.other, eZV := none, kind := Kd.int IntKind.u32 }
def ty87 : Ty := { size := 65, bytes := 65, agg := true, zero := some [AVal.pv (PVal.int IntKind.u8 (0)), AVal.pv (PVal.int IntKind.u8 (0)), AVal.pv (PVal.int IntKind.u8 (0)), AVal.pv (PVal.int IntKind.u8 (0)), AVal.pv (PVal.int IntKind.u8 (0)), AVal.pv (PVal.int IntKind.u8 (0)), AVal.pv (PVal.int IntKind.u8 (0)), AVal.pv (PVal.int IntKind.u8 (0)), AVal.pv (PVal.int IntKind.u8 (0)), AVal.pv (PVal.int IntKind.u8 (0)), AVal.pv (PVal.int IntKind.u8 (0)), AVal.pv (PVal.int IntKind.u8 (0)), AVal.pv (PVal.int IntKind.u8 (0)), AVal.pv (PVal.int IntKind.u8 (0)), AVal.pv (PVal.int IntKind.u8 (0)), AVal.pv (PVal.int IntKind.u8 (0)), AVal.pv (PVal.int IntKind.u8 (0)), AVal.pv (PVal.int IntKind.u8 (0)), AVal.pv (PVal.int IntKind.u8 (0)), AVal.pv (PVal.int IntKind.u8 (0)), AVal.pv (PVal.int IntKind.u8 (0)), AVal.pv (PVal.int IntKind.u8 (0)), AVal.pv (PVal.int IntKind.u8 (0)), AVal.pv (PVal.int IntKind.u8 (0)), AVal.pv (PVal.int IntKind.u8 (0)), AVal.pv (PVal.int IntKind.u8 (0)), AVal.pv (PVal.int IntKind.u8 (0)), AVal.pv (PVal.int IntKind.u8 (0)), AVal.pv (PVal.int IntKind.u8 (0)), AVal.pv (PVal.int IntKind.u8 (0)), AVal.pv (PVal.int IntKind.u8 (0)), AVal.pv (PVal.int IntKind.u8 (0)), AVal.pv (PVal.int IntKind.u8 (0)), AVal.pv (PVal.int IntKind.u8 (0)), AVal.pv (PVal.int IntKind.u8 (0)), AVal.pv (PVal.int IntKind.u8 (0)), AVal.pv (PVal.int IntKind.u8 (0)), AVal.pv (PVal.int IntKind.u8 (0)), AVal.pv (PVal.int IntKind.u8 (0)), AVal.pv (PVal.int IntKind.u8 (0)), AVal.pv (PVal.int IntKind.u8 (0)), AVal.pv (PVal.int IntKind.u8 (0)), AVal.pv (PVal.int IntKind.u8 (0)), AVal.pv (PVal.int IntKind.u8 (0)), AVal.pv (PVal.int IntKind.u8 (0)), AVal.pv (PVal.int IntKind.u8 (0)), AVal.pv (PVal.int IntKind.u8 (0)), AVal.pv (PVal.int IntKind.u8 (0)), AVal.pv (PVal.int IntKind.u8 (0)), AVal.pv (PVal.int IntKind.u8 (0)), AVal.pv (PVal.int IntKind.u8 (0)), AVal.pv (PVal.int IntKind.u8 (0)), AVal.pv (PVal.int IntKind.u8 (0)), AVal.pv (PVal.int IntKind.u8 (0)), AVal.pv (PVal.int IntKind.u8 (0)), AVal.pv (PVal.int IntKind.u8 (0)), AVal.pv (PVal.int IntKind.u8 (0)), AVal.pv (PVal.int IntKind.u8 (0)), AVal.pv (PVal.int IntKind.u8 (0)), AVal.pv (PVal.int IntKind.u8 (0)), AVal.pv (PVal.int IntKind.u8 (0)), AVal.pv (PVal.int IntKind.u8 (0)), AVal.pv (PVal.int IntKind.u8 (0)), AVal.pv (PVal.int IntKind.u8 (0)), AVal.pv (PVal.int IntKind.u8 (0))], fields := [], eSize := 1, eBytes := 1, eZero := true, kKind := Kd.other, eZV := none, kind := Kd.array 65 }
def ty92 : Ty := { size := 3, bytes := 48, agg := true, zero := some [AVal.pv (PVal.str []), AVal.pv (PVal.str []), AVal.pv (PVal.err true)], fields := [(0, 1), (1, 1), (2, 1)], eSize := 0, eBytes := 0, eZero := false, kKind := Kd.other, eZV := none, kind := Kd.struct }
def ty93 : Ty := { size := 3, bytes := 48, agg := true, zero := some [AVal.pv (PVal.str []), AVal.pv (PVal.str []), AVal.pv (PVal.err true)], fields := [(0, 1), (1, 1), (2, 1)], eSize := 0, eBytes := 0, eZero := false, kKind := Kd.other, eZV := none, kind := Kd.struct }
def ty96 : Ty := { size := 1, bytes := 8, agg := false, zero := some [AVal.pv PVal.nilptr], fields := [], eSize := 0, eBytes := 0, eZero := false, kKind := Kd.other, eZV := none, kind := Kd.other }
def ty97 : Ty := { size := 1, bytes := 16, agg := true, zero := some [AVal.pv (PVal.str [])], fields := [(0, 1)], eSize := 0, eBytes := 0, eZero := false, kKind := Kd.other, eZV := none, kind := Kd.struct }
def ty98 : Ty := { size := 1, bytes := 16, agg := true, zero := some [AVal.pv (PVal.str [])], fields := [(0, 1)], eSize := 0, eBytes := 0, eZero := false, kKind := Kd.other, eZV := none, kind := Kd.struct }
def ty99 : Ty := { size := 32, bytes := 32, agg := true, zero := some [AVal.pv (PVal.int IntKind.u8 (0)), AVal.pv (PVal.int IntKind.u8 (0)), AVal.pv (PVal.int IntKind.u8 (0)), AVal.pv (PVal.int IntKind.u8 (0)), AVal.pv (PVal.int IntKind.u8 (0)), AVal.pv (PVal.int IntKind.u8 (0)), AVal.pv (PVal.int IntKind.u8 (0)), AVal.pv (PVal.int IntKind.u8 (0)), AVal.pv (PVal.int IntKind.u8 (0)), AVal.pv (PVal.int IntKind.u8 (0)), AVal.pv (PVal.int IntKind.u8 (0)), AVal.pv (PVal.int IntKind.u8 (0)), AVal.pv (PVal.int IntKind.u8 (0)), AVal.pv (PVal.int IntKind.u8 (0)), AVal.pv (PVal.int IntKind.u8 (0)), AVal.pv (PVal.int IntKind.u8 (0)), AVal.pv (PVal.int IntKind.u8 (0)), AVal.pv (PVal.int IntKind.u8 (0)), AVal.pv (PVal.int IntKind.u8 (0)), AVal.pv (PVal.int IntKind.u8 (0)), AVal.pv (PVal.int IntKind.u8 (0)), AVal.pv (PVal.int IntKind.u8 (0)), AVal.pv (PVal.int IntKind.u8 (0)), AVal.pv (PVal.int IntKind.u8 (0)), AVal.pv (PVal.int IntKind.u8 (0)), AVal.pv (PVal.int IntKind.u8 (0)), AVal.pv (PVal.int IntKind.u8 (0)), AVal.pv (PVal.int IntKind.u8 (0)), AVal.pv (PVal.int IntKind.u8 (0)), AVal.pv (PVal.int IntKind.u8 (0)), AVal.pv (PVal.int IntKind.u8 (0)), AVal.pv (PVal.int IntKind.u8 (0))], fields := [], eSize := 1, eBytes := 1, eZero := true, kKind := Kd.other, eZV := none, kind := Kd.array 32 }
def ty100 : Ty := { size := 64, bytes := 64, agg := true, zero := some [AVal.pv (PVal.int IntKind.u8 (0)), AVal.pv (PVal.int IntKind.u8 (0)), AVal.pv (PVal.int IntKind.u8 (0)), AVal.pv (PVal.int IntKind.u8 (0)), AVal.pv (PVal.int IntKind.u8 (0)), AVal.pv (PVal.int IntKind.u8 (0)), AVal.pv (PVal.int IntKind.u8 (0)), AVal.pv (PVal.int IntKind.u8 (0)), AVal.pv (PVal.int IntKind.u8 (0)), AVal.pv (PVal.int IntKind.u8 (0)), AVal.pv (PVal.int IntKind.u8 (0)), AVal.pv (PVal.int IntKind.u8 (0)), AVal.pv (PVal.int IntKind.u8 (0)), AVal.pv (PVal.int IntKind.u8 (0)), AVal.pv (PVal.int IntKind.u8 (0)), AVal.pv (PVal.int IntKind.u8 (0)), AVal.pv (PVal.int IntKind.u8 (0)), AVal.pv (PVal.int IntKind.u8 (0)), AVal.pv (PVal.int IntKind.u8 (0)), AVal.pv (PVal.int IntKind.u8 (0)), AVal.pv (PVal.int IntKind.u8 (0)), AVal.pv (PVal.int IntKind.u8 (0)), AVal.pv (PVal.int IntKind.u8 (0)), AVal.pv (PVal.int IntKind.u8 (0)), AVal.pv (PVal.int IntKind.u8 (0)), AVal.pv (PVal.int IntKind.u8 (0)), AVal.pv (PVal.int IntKind.u8 (0)), AVal.pv (PVal.int IntKind.u8 (0)), AVal.pv (PVal.int IntKind.u8 (0)), AVal.pv (PVal.int IntKind.u8 (0)), AVal.pv (PVal.int IntKind.u8 (0)), AVal.pv (PVal.int IntKind.u8 (0)), AVal.pv (PVal.int IntKind.u8 (0)), AVal.pv (PVal.int IntKind.u8 (0)), AVal.pv (PVal.int IntKind.u8 (0)), AVal.pv (PVal.int IntKind.u8 (0)), AVal.pv (PVal.int IntKind.u8 (0)), AVal.pv (PVal.int IntKind.u8 (0)), AVal.pv (PVal.int IntKind.u8 (0)), AVal.pv (PVal.int IntKind.u8 (0)), AVal.pv (PVal.int IntKind.u8 (0)), AVal.pv (PVal.int IntKind.u8 (0)), AVal.pv (PVal.int IntKind.u8 (0)), AVal.pv (PVal.int IntKind.u8 (0)), AVal.pv (PVal.int IntKind.u8 (0)), AVal.pv (PVal.int IntKind.u8 (0)), AVal.pv (PVal.int IntKind.u8 (0)), AVal.pv (PVal.int IntKind.u8 (0)), AVal.pv (PVal.int IntKind.u8 (0)), AVal.pv (PVal.int IntKind.u8 (0)), AVal.pv (PVal.int IntKind.u8 (0)), AVal.pv (PVal.int IntKind.u8 (0)), AVal.pv (PVal.int IntKind.u8 (0)), AVal.pv (PVal.int IntKind.u8 (0)), AVal.pv (PVal.int IntKind.u8 (0)), AVal.pv (PVal.int IntKind.u8 (0)), AVal.pv (PVal.int IntKind.u8 (0)), AVal.pv (PVal.int IntKind.u8 (0)), AVal.pv (PVal.int IntKind.u8 (0)), AVal.pv (PVal.int IntKind.u8 (0)), AVal.pv (PVal.int IntKind.u8 (0)), AVal.pv (PVal.int IntKind.u8 (0)), AVal.pv (PVal.int IntKind.u8 (0)), AVal.pv (PVal.int IntKind.u8 (0))], fields := [], eSize := 1, eBytes := 1, eZero := true, kKind := Kd.other, eZV := none, kind := Kd.array 64 }
def ty101 : Ty := { size := 4, bytes := 40, agg := true, zero := some [AVal.pv PVal.nilptr, AVal.pv PVal.nilptr, AVal.pv PVal.nilptr, AVal.pv (PVal.str [])], fields := [(0, 1), (1, 1), (2, 1), (3, 1)], eSize := 0, eBytes := 0, eZero := false, kKind := Kd.other, eZV := none, kind := Kd.struct }
def ty102 : Ty := { size := 4, bytes := 40, agg := true, zero := some [AVal.pv PVal.nilptr, AVal.pv PVal.nilptr, AVal.pv PVal.nilptr, AVal.pv (PVal.str [])], fields := [(0, 1), (1, 1), (2, 1), (3, 1)], eSize := 0, eBytes := 0, eZero := false, kKind := Kd.other, eZV := none, kind := Kd.struct }
def ty103 : Ty := { size := 0, bytes := 0, agg := true, zero := some [], fields := [], eSize := 1, eBytes := 8, eZero := true, kKind := Kd.other, eZV := none, kind := Kd.array 0 }
def ty104 : Ty := { size := 0, bytes := 0, agg := true, zero := some [], fields := [(0, 0)], eSize := 0, eBytes := 0, eZero := false, kKind := Kd.other, eZV := none, kind := Kd.struct }
def ty105 : Ty := { size := 0, bytes := 0, agg := true, zero := some [], fields := [(0, 0)], eSize := 0, eBytes := 0, eZero := false, kKind := Kd.other, eZV := none, kind := Kd.struct }
def ty107 : Ty := { size := 1, bytes := 1, agg := false, zero := some [AVal.pv (PVal.int IntKind.u8 (0))], fields := [], eSize := 0, eBytes := 0, eZero := false, kKind := Kd.other, eZV := none, kind := Kd.int IntKind.u8 }
def ty108 : Ty := { size := 1, bytes := 1, agg := false, zero := some [AVal.pv (PVal.int IntKind.u8 (0))], fields := [], eSize := 0, eBytes := 0, eZero := false, kKind := Kd.other, eZV := none, kind := Kd.int IntKind.u8 }
def ty110 : Ty := { size := 1, bytes := 4, agg := false, zero := some [AVal.pv (PVal.int IntKind.i32 (0))], fields := [], eSize := 0, eBytes := 0, eZero := false, kKind := Kd.other, eZV := none, kind := Kd.int IntKind.i32 }
def ty111 : Ty := { size := 1, bytes := 4, agg := false, zero := some [AVal.pv (PVal.int IntKind.i32 (0))], fields := [], eSize := 0, eBytes := 0, eZero := false, kKind := Kd.other, eZV := none, kind := Kd.int IntKind.i32 }
def tyF : Nat → Option Ty
  | 2 => some ty2
  | 3 => some ty3
  | 4 => some ty4
  | 5 => some ty5
  | 6 => some ty6
  | 7 => some ty7
  | 8 => some ty8
  | 9 => some ty9
  | 10 => some ty10
  | 11 => some ty11
  | 12 => some ty12
  | 13 => some ty13
  | 14 => some ty14
  | 15 => some ty15
  | 16 => some ty16
  | 17 => some ty17
  | 18 => some ty18
  | 19 => some ty19
  | 20 => some ty20
  | 21 => some ty21
  | 23 => some ty23
  | 24 => some ty24
  | 30 => some ty30
  | 31 => some ty31
  | 32 => some ty32
  | 36 => some ty36
  | 37 => some ty37
  | 48 => some ty48
  | 49 => some ty49
  | 54 => some ty54
  | 55 => some ty55
  | 56 => some ty56
  | 58 => some ty58
  | 59 => some ty59
  | 66 => some ty66
  | 68 => some ty68
  | 69 => some ty69
  | 74 => some ty74
  | 77 => some ty77
  | 80 => some ty80
  | 81 => some ty81
  | 85 => some ty85
  | 86 => some ty86
  | 87 => some ty87
  | 92 => some ty92
  | 93 => some ty93
  | 96 => some ty96
  | 97 => some ty97
  | 98 => some ty98
  | 99 => some ty99
  | 100 => some ty100
  | 101 => some ty101
  | 102 => some ty102
  | 103 => some ty103
  | 104 => some ty104
  | 105 => some ty105
  | 107 => some ty107
  | 108 => some ty108
  | 110 => some ty110
  | 111 => some ty111
  | _ => none

def gl : Nat → Option (List PVal)
  | 1 => some [.int .u64 1, .int .u64 10, .int .u64 100, .int .u64 1000, .int .u64 10000, .int .u64 100000, .int .u64 1000000, .int .u64 10000000, .int .u64 100000000, .int .u64 1000000000, .int .u64 10000000000, .int .u64 100000000000, .int .u64 1000000000000, .int .u64 10000000000000, .int .u64 100000000000000, .int .u64 1000000000000000, .int .u64 10000000000000000, .int .u64 100000000000000000, .int .u64 1000000000000000000, .int .u64 10000000000000000000]
  | 3 => some [.err false]
  | _ => none
theorem gl_1 : gl 1 = some [.int .u64 1, .int .u64 10, .int .u64 100, .int .u64 1000, .int .u64 10000, .int .u64 100000, .int .u64 1000000, .int .u64 10000000, .int .u64 100000000, .int .u64 1000000000, .int .u64 10000000000, .int .u64 100000000000, .int .u64 1000000000000, .int .u64 10000000000000, .int .u64 100000000000000, .int .u64 1000000000000000, .int .u64 10000000000000000, .int .u64 100000000000000000, .int .u64 1000000000000000000, .int .u64 10000000000000000000] := rfl
theorem gl_3 : gl 3 = some [.err false] := rfl
def envOf (site : Nat → Nat) (nobj : Nat) : Env := ⟨tyF, gl, site, nobj⟩
set_option maxRecDepth 100000 in
theorem envOK (site : Nat → Nat) (nobj : Nat) : EnvOK Tryd.prog (envOf site nobj) := by
  intro t ty h
  change tyF t = some ty at h
  unfold tyF at h
  split at h <;> first | (cases h; done) | (cases h; kernel_rfl)
theorem enters (f : FuncId) {fn : Func} (hf : Tryd.prog.funcs[f]? = some fn) (hn : (fn.name == "runtime.NumGoroutine" || fn.body.isNone) = false) (vargs : Array Value) (w : World) : (callFunc f vargs).run Tryd.prog w = .ok (.enter f vargs) w := by
  simp only [Bool.or_eq_false_iff] at hn
  obtain ⟨h1, h2⟩ := hn
  unfold callFunc
  simp only [Sem.run_bind, run_program, Result.andThen, hf, h1, h2, Bool.false_eq_true, if_false, Sem.run_pure]
theorem mixed : Tryd.prog.follows .mixedOrders = true := by kernel_rfl
theorem env_ty (site : Nat → Nat) (nobj t : Nat) : (envOf site nobj).ty t = tyF t := rfl
theorem env_gl (site : Nat → Nat) (nobj t : Nat) : (envOf site nobj).gl t = gl t := rfl
theorem env_site (site : Nat → Nat) (nobj t : Nat) : (envOf site nobj).site t = site t := rfl
theorem env_nobj (site : Nat → Nat) (nobj : Nat) : (envOf site nobj).nobj = nobj := rfl
theorem tyX2 : tyF 2 = some { size := 1, bytes := 8, agg := false, zero := some [AVal.pv (PVal.int IntKind.i64 (0))], fields := [], eSize := 0, eBytes := 0, eZero := false, kKind := Kd.other, eZV := none, kind := Kd.int IntKind.i64 } := rfl
theorem tyX3 : tyF 3 = some { size := 1, bytes := 8, agg := false, zero := some [AVal.pv (PVal.int IntKind.i64 (0))], fields := [], eSize := 0, eBytes := 0, eZero := false, kKind := Kd.other, eZV := none, kind := Kd.int IntKind.i64 } := rfl
theorem tyX4 : tyF 4 = some { size := 1, bytes := 1, agg := false, zero := some [AVal.pv (PVal.bool false)], fields := [], eSize := 0, eBytes := 0, eZero := false, kKind := Kd.other, eZV := none, kind := Kd.bool } := rfl
theorem tyX5 : tyF 5 = some { size := 1, bytes := 1, agg := false, zero := some [AVal.pv (PVal.int IntKind.u8 (0))], fields := [], eSize := 0, eBytes := 0, eZero := false, kKind := Kd.other, eZV := none, kind := Kd.int IntKind.u8 } := rfl
theorem tyX6 : tyF 6 = some { size := 1, bytes := 1, agg := false, zero := some [AVal.pv (PVal.int IntKind.u8 (0))], fields := [], eSize := 0, eBytes := 0, eZero := false, kKind := Kd.other, eZV := none, kind := Kd.int IntKind.u8 } := rfl
theorem tyX7 : tyF 7 = some { size := 4, bytes := 24, agg := true, zero := some [AVal.pv (PVal.int IntKind.i64 (0)), AVal.pv (PVal.int IntKind.i64 (0)), AVal.pv (PVal.bool false), AVal.pv (PVal.int IntKind.u8 (0))], fields := [(0, 1), (1, 1), (2, 1), (3, 1)], eSize := 0, eBytes := 0, eZero := false, kKind := Kd.other, eZV := none, kind := Kd.struct } := rfl
theorem tyX8 : tyF 8 = some { size := 4, bytes := 24, agg := true, zero := some [AVal.pv (PVal.int IntKind.i64 (0)), AVal.pv (PVal.int IntKind.i64 (0)), AVal.pv (PVal.bool false), AVal.pv (PVal.int IntKind.u8 (0))], fields := [(0, 1), (1, 1), (2, 1), (3, 1)], eSize := 0, eBytes := 0, eZero := false, kKind := Kd.other, eZV := none, kind := Kd.struct } := rfl
theorem tyX9 : tyF 9 = some { size := 1, bytes := 16, agg := false, zero := some [AVal.pv (PVal.str [])], fields := [], eSize := 0, eBytes := 0, eZero := false, kKind := Kd.other, eZV := none, kind := Kd.string } := rfl
theorem tyX10 : tyF 10 = some { size := 1, bytes := 16, agg := false, zero := some [AVal.pv (PVal.str [])], fields := [], eSize := 0, eBytes := 0, eZero := false, kKind := Kd.other, eZV := none, kind := Kd.string } := rfl
theorem tyX11 : tyF 11 = some { size := 1, bytes := 16, agg := false, zero := some [AVal.pv (PVal.str [])], fields := [], eSize := 0, eBytes := 0, eZero := false, kKind := Kd.other, eZV := none, kind := Kd.string } := rfl
theorem tyX12 : tyF 12 = some { size := 1, bytes := 8, agg := false, zero := some [AVal.pv (PVal.int IntKind.u64 (0))], fields := [], eSize := 0, eBytes := 0, eZero := false, kKind := Kd.other, eZV := none, kind := Kd.int IntKind.u64 } := rfl
theorem tyX13 : tyF 13 = some { size := 2, bytes := 24, agg := true, zero := some [AVal.pv (PVal.str []), AVal.pv (PVal.int IntKind.u64 (0))], fields := [(0, 1), (1, 1)], eSize := 0, eBytes := 0, eZero := false, kKind := Kd.other, eZV := none, kind := Kd.struct } := rfl
theorem tyX14 : tyF 14 = some { size := 2, bytes := 24, agg := true, zero := some [AVal.pv (PVal.str []), AVal.pv (PVal.int IntKind.u64 (0))], fields := [(0, 1), (1, 1)], eSize := 0, eBytes := 0, eZero := false, kKind := Kd.other, eZV := none, kind := Kd.struct } := rfl
theorem tyX15 : tyF 15 = some { size := 1, bytes := 8, agg := false, zero := some [AVal.pv PVal.nilptr], fields := [], eSize := 0, eBytes := 0, eZero := false, kKind := Kd.other, eZV := none, kind := Kd.other } := rfl
theorem tyX16 : tyF 16 = some { size := 1, bytes := 8, agg := false, zero := some [AVal.pv PVal.nilptr], fields := [], eSize := 0, eBytes := 0, eZero := false, kKind := Kd.other, eZV := none, kind := Kd.other } := rfl
theorem tyX17 : tyF 17 = some { size := 1, bytes := 8, agg := false, zero := some [AVal.pv PVal.nilptr], fields := [], eSize := 0, eBytes := 0, eZero := false, kKind := Kd.other, eZV := none, kind := Kd.other } := rfl
theorem tyX18 : tyF 18 = some { size := 1, bytes := 8, agg := true, zero := some [AVal.pv PVal.nilptr], fields := [(0, 1)], eSize := 0, eBytes := 0, eZero := false, kKind := Kd.other, eZV := none, kind := Kd.struct } := rfl
theorem tyX19 : tyF 19 = some { size := 1, bytes := 8, agg := true, zero := some [AVal.pv PVal.nilptr], fields := [(0, 1)], eSize := 0, eBytes := 0, eZero := false, kKind := Kd.other, eZV := none, kind := Kd.struct } := rfl
theorem tyX20 : tyF 20 = some { size := 1, bytes := 16, agg := false, zero := some [AVal.pv (PVal.err true)], fields := [], eSize := 0, eBytes := 0, eZero := false, kKind := Kd.other, eZV := none, kind := Kd.iface } := rfl
theorem tyX21 : tyF 21 = some { size := 1, bytes := 4, agg := false, zero := some [AVal.pv (PVal.int IntKind.i32 (0))], fields := [], eSize := 0, eBytes := 0, eZero := false, kKind := Kd.other, eZV := none, kind := Kd.int IntKind.i32 } := rfl
theorem tyX23 : tyF 23 = some { size := 1, bytes := 24, agg := false, zero := some [AVal.snil], fields := [], eSize := 4, eBytes := 40, eZero := true, kKind := Kd.other, eZV := some (true, [PVal.int IntKind.i64 (0), PVal.str [], PVal.int IntKind.i64 (0), PVal.int IntKind.i64 (0)]), kind := Kd.slice } := rfl
theorem tyX24 : tyF 24 = some { size := 1, bytes := 8, agg := false, zero := some [AVal.pv (PVal.int IntKind.i64 (0))], fields := [], eSize := 0, eBytes := 0, eZero := false, kKind := Kd.other, eZV := none, kind := Kd.int IntKind.i64 } := rfl
theorem tyX30 : tyF 30 = some { size := 4, bytes := 40, agg := true, zero := some [AVal.pv (PVal.int IntKind.i64 (0)), AVal.pv (PVal.str []), AVal.pv (PVal.int IntKind.i64 (0)), AVal.pv (PVal.int IntKind.i64 (0))], fields := [(0, 1), (1, 1), (2, 1), (3, 1)], eSize := 0, eBytes := 0, eZero := false, kKind := Kd.other, eZV := none, kind := Kd.struct } := rfl
theorem tyX31 : tyF 31 = some { size := 4, bytes := 40, agg := true, zero := some [AVal.pv (PVal.int IntKind.i64 (0)), AVal.pv (PVal.str []), AVal.pv (PVal.int IntKind.i64 (0)), AVal.pv (PVal.int IntKind.i64 (0))], fields := [(0, 1), (1, 1), (2, 1), (3, 1)], eSize := 0, eBytes := 0, eZero := false, kKind := Kd.other, eZV := none, kind := Kd.struct } := rfl
theorem tyX32 : tyF 32 = some { size := 1, bytes := 24, agg := false, zero := some [AVal.snil], fields := [], eSize := 1, eBytes := 16, eZero := true, kKind := Kd.string, eZV := some (false, [PVal.str []]), kind := Kd.slice } := rfl
theorem tyX36 : tyF 36 = some { size := 1, bytes := 24, agg := false, zero := some [AVal.snil], fields := [], eSize := 1, eBytes := 1, eZero := true, kKind := Kd.int IntKind.u8, eZV := some (false, [PVal.int IntKind.u8 (0)]), kind := Kd.slice } := rfl
theorem tyX37 : tyF 37 = some { size := 1, bytes := 8, agg := false, zero := some [AVal.pv PVal.nilptr], fields := [], eSize := 0, eBytes := 0, eZero := false, kKind := Kd.other, eZV := none, kind := Kd.other } := rfl
theorem tyX48 : tyF 48 = some { size := 2, bytes := 32, agg := true, zero := some [AVal.snil, AVal.pv (PVal.int IntKind.i64 (0))], fields := [(0, 1), (1, 1)], eSize := 0, eBytes := 0, eZero := false, kKind := Kd.other, eZV := none, kind := Kd.struct } := rfl
theorem tyX49 : tyF 49 = some { size := 2, bytes := 32, agg := true, zero := some [AVal.snil, AVal.pv (PVal.int IntKind.i64 (0))], fields := [(0, 1), (1, 1)], eSize := 0, eBytes := 0, eZero := false, kKind := Kd.other, eZV := none, kind := Kd.struct } := rfl
theorem tyX54 : tyF 54 = some { size := 1, bytes := 8, agg := false, zero := some [AVal.pv PVal.nilptr], fields := [], eSize := 0, eBytes := 0, eZero := false, kKind := Kd.other, eZV := none, kind := Kd.other } := rfl
theorem tyX55 : tyF 55 = some { size := 2, bytes := 32, agg := true, zero := some [AVal.pv PVal.nilptr, AVal.snil], fields := [(0, 1), (1, 1)], eSize := 0, eBytes := 0, eZero := false, kKind := Kd.other, eZV := none, kind := Kd.struct } := rfl
theorem tyX56 : tyF 56 = some { size := 2, bytes := 32, agg := true, zero := some [AVal.pv PVal.nilptr, AVal.snil], fields := [(0, 1), (1, 1)], eSize := 0, eBytes := 0, eZero := false, kKind := Kd.other, eZV := none, kind := Kd.struct } := rfl
theorem tyX58 : tyF 58 = some { size := 1, bytes := 16, agg := false, zero := some [AVal.pv (PVal.err true)], fields := [], eSize := 0, eBytes := 0, eZero := false, kKind := Kd.other, eZV := none, kind := Kd.iface } := rfl
theorem tyX59 : tyF 59 = some { size := 1, bytes := 16, agg := false, zero := some [AVal.pv (PVal.err true)], fields := [], eSize := 0, eBytes := 0, eZero := false, kKind := Kd.other, eZV := none, kind := Kd.iface } := rfl
theorem tyX66 : tyF 66 = some { size := 1, bytes := 8, agg := false, zero := some [AVal.pv PVal.nilptr], fields := [], eSize := 0, eBytes := 0, eZero := false, kKind := Kd.other, eZV := none, kind := Kd.other } := rfl
theorem tyX68 : tyF 68 = some { size := 24, bytes := 24, agg := true, zero := some [AVal.pv (PVal.int IntKind.u8 (0)), AVal.pv (PVal.int IntKind.u8 (0)), AVal.pv (PVal.int IntKind.u8 (0)), AVal.pv (PVal.int IntKind.u8 (0)), AVal.pv (PVal.int IntKind.u8 (0)), AVal.pv (PVal.int IntKind.u8 (0)), AVal.pv (PVal.int IntKind.u8 (0)), AVal.pv (PVal.int IntKind.u8 (0)), AVal.pv (PVal.int IntKind.u8 (0)), AVal.pv (PVal.int IntKind.u8 (0)), AVal.pv (PVal.int IntKind.u8 (0)), AVal.pv (PVal.int IntKind.u8 (0)), AVal.pv (PVal.int IntKind.u8 (0)), AVal.pv (PVal.int IntKind.u8 (0)), AVal.pv (PVal.int IntKind.u8 (0)), AVal.pv (PVal.int IntKind.u8 (0)), AVal.pv (PVal.int IntKind.u8 (0)), AVal.pv (PVal.int IntKind.u8 (0)), AVal.pv (PVal.int IntKind.u8 (0)), AVal.pv (PVal.int IntKind.u8 (0)), AVal.pv (PVal.int IntKind.u8 (0)), AVal.pv (PVal.int IntKind.u8 (0)), AVal.pv (PVal.int IntKind.u8 (0)), AVal.pv (PVal.int IntKind.u8 (0))], fields := [], eSize := 1, eBytes := 1, eZero := true, kKind := Kd.other, eZV := none, kind := Kd.array 24 } := rfl
theorem tyX69 : tyF 69 = some { size := 1, bytes := 8, agg := false, zero := some [AVal.pv (PVal.int IntKind.u64 (0))], fields := [], eSize := 0, eBytes := 0, eZero := false, kKind := Kd.other, eZV := none, kind := Kd.int IntKind.u64 } := rfl
theorem tyX74 : tyF 74 = some { size := 1, bytes := 8, agg := false, zero := some [AVal.pv PVal.nilptr], fields := [], eSize := 0, eBytes := 0, eZero := false, kKind := Kd.other, eZV := none, kind := Kd.other } := rfl
theorem tyX77 : tyF 77 = some { size := 1, bytes := 8, agg := false, zero := some [AVal.pv (PVal.int IntKind.i64 (0))], fields := [], eSize := 0, eBytes := 0, eZero := false, kKind := Kd.other, eZV := none, kind := Kd.int IntKind.i64 } := rfl
theorem tyX80 : tyF 80 = some { size := 1, bytes := 8, agg := false, zero := some [AVal.pv (PVal.int IntKind.u64 (0))], fields := [], eSize := 0, eBytes := 0, eZero := false, kKind := Kd.other, eZV := none, kind := Kd.int IntKind.u64 } := rfl
theorem tyX81 : tyF 81 = some { size := 1, bytes := 8, agg := false, zero := some [AVal.pv PVal.nilptr], fields := [], eSize := 0, eBytes := 0, eZero := false, kKind := Kd.other, eZV := none, kind := Kd.other } := rfl
theorem tyX85 : tyF 85 = some { size := 20, bytes := 160, agg := true, zero := some [AVal.pv (PVal.int IntKind.u64 (0)), AVal.pv (PVal.int IntKind.u64 (0)), AVal.pv (PVal.int IntKind.u64 (0)), AVal.pv (PVal.int IntKind.u64 (0)), AVal.pv (PVal.int IntKind.u64 (0)), AVal.pv (PVal.int IntKind.u64 (0)), AVal.pv (PVal.int IntKind.u64 (0)), AVal.pv (PVal.int IntKind.u64 (0)), AVal.pv (PVal.int IntKind.u64 (0)), AVal.pv (PVal.int IntKind.u64 (0)), AVal.pv (PVal.int IntKind.u64 (0)), AVal.pv (PVal.int IntKind.u64 (0)), AVal.pv (PVal.int IntKind.u64 (0)), AVal.pv (PVal.int IntKind.u64 (0)), AVal.pv (PVal.int IntKind.u64 (0)), AVal.pv (PVal.int IntKind.u64 (0)), AVal.pv (PVal.int IntKind.u64 (0)), AVal.pv (PVal.int IntKind.u64 (0)), AVal.pv (PVal.int IntKind.u64 (0)), AVal.pv (PVal.int IntKind.u64 (0))], fields := [], eSize := 1, eBytes := 8, eZero := true, kKind := Kd.other, eZV := none, kind := Kd.array 20 } := rfl
theorem tyX86 : tyF 86 = some { size := 1, bytes := 4, agg := false, zero := some [AVal.pv (PVal.int IntKind.u32 (0))], fields := [], eSize := 0, eBytes := 0, eZero := false, kKind := Kd.other, eZV := none, kind := Kd.int IntKind.u32 } := rfl
theorem tyX87 : tyF 87 = some { size := 65, bytes := 65, agg := true, zero := some [AVal.pv (PVal.int IntKind.u8 (0)), AVal.pv (PVal.int IntKind.u8 (0)), AVal.pv (PVal.int IntKind.u8 (0)), AVal.pv (PVal.int IntKind.u8 (0)), AVal.pv (PVal.int IntKind.u8 (0)), AVal.pv (PVal.int IntKind.u8 (0)), AVal.pv (PVal.int IntKind.u8 (0)), AVal.pv (PVal.int IntKind.u8 (0)), AVal.pv (PVal.int IntKind.u8 (0)), AVal.pv (PVal.int IntKind.u8 (0)), AVal.pv (PVal.int IntKind.u8 (0)), AVal.pv (PVal.int IntKind.u8 (0)), AVal.pv (PVal.int IntKind.u8 (0)), AVal.pv (PVal.int IntKind.u8 (0)), AVal.pv (PVal.int IntKind.u8 (0)), AVal.pv (PVal.int IntKind.u8 (0)), AVal.pv (PVal.int IntKind.u8 (0)), AVal.pv (PVal.int IntKind.u8 (0)), AVal.pv (PVal.int IntKind.u8 (0)), AVal.pv (PVal.int IntKind.u8 (0)), AVal.pv (PVal.int IntKind.u8 (0)), AVal.pv (PVal.int IntKind.u8 (0)), AVal.pv (PVal.int IntKind.u8 (0)), AVal.pv (PVal.int IntKind.u8 (0)), AVal.pv (PVal.int IntKind.u8 (0)), AVal.pv (PVal.int IntKind.u8 (0)), AVal.pv (PVal.int IntKind.u8 (0)), AVal.pv (PVal.int IntKind.u8 (0)), AVal.pv (PVal.int IntKind.u8 (0)), AVal.pv (PVal.int IntKind.u8 (0)), AVal.pv (PVal.int IntKind.u8 (0)), AVal.pv (PVal.int IntKind.u8 (0)), AVal.pv (PVal.int IntKind.u8 (0)), AVal.pv (PVal.int IntKind.u8 (0)), AVal.pv (PVal.int IntKind.u8 (0)), AVal.pv (PVal.int IntKind.u8 (0)), AVal.pv (PVal.int IntKind.u8 (0)), AVal.pv (PVal.int IntKind.u8 (0)), AVal.pv (PVal.int IntKind.u8 (0)), AVal.pv (PVal.int IntKind.u8 (0)), AVal.pv (PVal.int IntKind.u8 (0)), AVal.pv (PVal.int IntKind.u8 (0)), AVal.pv (PVal.int IntKind.u8 (0)), AVal.pv (PVal.int IntKind.u8 (0)), AVal.pv (PVal.int IntKind.u8 (0)), AVal.pv (PVal.int IntKind.u8 (0)), AVal.pv (PVal.int IntKind.u8 (0)), AVal.pv (PVal.int IntKind.u8 (0)), AVal.pv (PVal.int IntKind.u8 (0)), AVal.pv (PVal.int IntKind.u8 (0)), AVal.pv (PVal.int IntKind.u8 (0)), AVal.pv (PVal.int IntKind.u8 (0)), AVal.pv (PVal.int IntKind.u8 (0)), AVal.pv (PVal.int IntKind.u8 (0)), AVal.pv (PVal.int IntKind.u8 (0)), AVal.pv (PVal.int IntKind.u8 (0)), AVal.pv (PVal.int IntKind.u8 (0)), AVal.pv (PVal.int IntKind.u8 (0)), AVal.pv (PVal.int IntKind.u8 (0)), AVal.pv (PVal.int IntKind.u8 (0)), AVal.pv (PVal.int IntKind.u8 (0)), AVal.pv (PVal.int IntKind.u8 (0)), AVal.pv (PVal.int IntKind.u8 (0)), AVal.pv (PVal.int IntKind.u8 (0)), AVal.pv (PVal.int IntKind.u8 (0))], fields := [], eSize := 1, eBytes := 1, eZero := true, kKind := Kd.other, eZV := none, kind := Kd.array 65 } := rfl
theorem tyX92 : tyF 92 = some { size := 3, bytes := 48, agg := true, zero := some [AVal.pv (PVal.str []), AVal.pv (PVal.str []), AVal.pv (PVal.err true)], fields := [(0, 1), (1, 1), (2, 1)], eSize := 0, eBytes := 0, eZero := false, kKind := Kd.other, eZV := none, kind := Kd.struct } := rfl
theorem tyX93 : tyF 93 = some { size := 3, bytes := 48, agg := true, zero := some [AVal.pv (PVal.str []), AVal.pv (PVal.str []), AVal.pv (PVal.err true)], fields := [(0, 1), (1, 1), (2, 1)], eSize := 0, eBytes := 0, eZero := false, kKind := Kd.other, eZV := none, kind := Kd.struct } := rfl
theorem tyX96 : tyF 96 = some { size := 1, bytes := 8, agg := false, zero := some [AVal.pv PVal.nilptr], fields := [], eSize := 0, eBytes := 0, eZero := false, kKind := Kd.other, eZV := none, kind := Kd.other } := rfl
theorem tyX97 : tyF 97 = some { size := 1, bytes := 16, agg := true, zero := some [AVal.pv (PVal.str [])], fields := [(0, 1)], eSize := 0, eBytes := 0, eZero := false, kKind := Kd.other, eZV := none, kind := Kd.struct } := rfl
theorem tyX98 : tyF 98 = some { size := 1, bytes := 16, agg := true, zero := some [AVal.pv (PVal.str [])], fields := [(0, 1)], eSize := 0, eBytes := 0, eZero := false, kKind := Kd.other, eZV := none, kind := Kd.struct } := rfl
theorem tyX99 : tyF 99 = some { size := 32, bytes := 32, agg := true, zero := some [AVal.pv (PVal.int IntKind.u8 (0)), AVal.pv (PVal.int IntKind.u8 (0)), AVal.pv (PVal.int IntKind.u8 (0)), AVal.pv (PVal.int IntKind.u8 (0)), AVal.pv (PVal.int IntKind.u8 (0)), AVal.pv (PVal.int IntKind.u8 (0)), AVal.pv (PVal.int IntKind.u8 (0)), AVal.pv (PVal.int IntKind.u8 (0)), AVal.pv (PVal.int IntKind.u8 (0)), AVal.pv (PVal.int IntKind.u8 (0)), AVal.pv (PVal.int IntKind.u8 (0)), AVal.pv (PVal.int IntKind.u8 (0)), AVal.pv (PVal.int IntKind.u8 (0)), AVal.pv (PVal.int IntKind.u8 (0)), AVal.pv (PVal.int IntKind.u8 (0)), AVal.pv (PVal.int IntKind.u8 (0)), AVal.pv (PVal.int IntKind.u8 (0)), AVal.pv (PVal.int IntKind.u8 (0)), AVal.pv (PVal.int IntKind.u8 (0)), AVal.pv (PVal.int IntKind.u8 (0)), AVal.pv (PVal.int IntKind.u8 (0)), AVal.pv (PVal.int IntKind.u8 (0)), AVal.pv (PVal.int IntKind.u8 (0)), AVal.pv (PVal.int IntKind.u8 (0)), AVal.pv (PVal.int IntKind.u8 (0)), AVal.pv (PVal.int IntKind.u8 (0)), AVal.pv (PVal.int IntKind.u8 (0)), AVal.pv (PVal.int IntKind.u8 (0)), AVal.pv (PVal.int IntKind.u8 (0)), AVal.pv (PVal.int IntKind.u8 (0)), AVal.pv (PVal.int IntKind.u8 (0)), AVal.pv (PVal.int IntKind.u8 (0))], fields := [], eSize := 1, eBytes := 1, eZero := true, kKind := Kd.other, eZV := none, kind := Kd.array 32 } := rfl
theorem tyX100 : tyF 100 = some { size := 64, bytes := 64, agg := true, zero := some [AVal.pv (PVal.int IntKind.u8 (0)), AVal.pv (PVal.int IntKind.u8 (0)), AVal.pv (PVal.int IntKind.u8 (0)), AVal.pv (PVal.int IntKind.u8 (0)), AVal.pv (PVal.int IntKind.u8 (0)), AVal.pv (PVal.int IntKind.u8 (0)), AVal.pv (PVal.int IntKind.u8 (0)), AVal.pv (PVal.int IntKind.u8 (0)), AVal.pv (PVal.int IntKind.u8 (0)), AVal.pv (PVal.int IntKind.u8 (0)), AVal.pv (PVal.int IntKind.u8 (0)), AVal.pv (PVal.int IntKind.u8 (0)), AVal.pv (PVal.int IntKind.u8 (0)), AVal.pv (PVal.int IntKind.u8 (0)), AVal.pv (PVal.int IntKind.u8 (0)), AVal.pv (PVal.int IntKind.u8 (0)), AVal.pv (PVal.int IntKind.u8 (0)), AVal.pv (PVal.int IntKind.u8 (0)), AVal.pv (PVal.int IntKind.u8 (0)), AVal.pv (PVal.int IntKind.u8 (0)), AVal.pv (PVal.int IntKind.u8 (0)), AVal.pv (PVal.int IntKind.u8 (0)), AVal.pv (PVal.int IntKind.u8 (0)), AVal.pv (PVal.int IntKind.u8 (0)), AVal.pv (PVal.int IntKind.u8 (0)), AVal.pv (PVal.int IntKind.u8 (0)), AVal.pv (PVal.int IntKind.u8 (0)), AVal.pv (PVal.int IntKind.u8 (0)), AVal.pv (PVal.int IntKind.u8 (0)), AVal.pv (PVal.int IntKind.u8 (0)), AVal.pv (PVal.int IntKind.u8 (0)), AVal.pv (PVal.int IntKind.u8 (0)), AVal.pv (PVal.int IntKind.u8 (0)), AVal.pv (PVal.int IntKind.u8 (0)), AVal.pv (PVal.int IntKind.u8 (0)), AVal.pv (PVal.int IntKind.u8 (0)), AVal.pv (PVal.int IntKind.u8 (0)), AVal.pv (PVal.int IntKind.u8 (0)), AVal.pv (PVal.int IntKind.u8 (0)), AVal.pv (PVal.int IntKind.u8 (0)), AVal.pv (PVal.int IntKind.u8 (0)), AVal.pv (PVal.int IntKind.u8 (0)), AVal.pv (PVal.int IntKind.u8 (0)), AVal.pv (PVal.int IntKind.u8 (0)), AVal.pv (PVal.int IntKind.u8 (0)), AVal.pv (PVal.int IntKind.u8 (0)), AVal.pv (PVal.int IntKind.u8 (0)), AVal.pv (PVal.int IntKind.u8 (0)), AVal.pv (PVal.int IntKind.u8 (0)), AVal.pv (PVal.int IntKind.u8 (0)), AVal.pv (PVal.int IntKind.u8 (0)), AVal.pv (PVal.int IntKind.u8 (0)), AVal.pv (PVal.int IntKind.u8 (0)), AVal.pv (PVal.int IntKind.u8 (0)), AVal.pv (PVal.int IntKind.u8 (0)), AVal.pv (PVal.int IntKind.u8 (0)), AVal.pv (PVal.int IntKind.u8 (0)), AVal.pv (PVal.int IntKind.u8 (0)), AVal.pv (PVal.int IntKind.u8 (0)), AVal.pv (PVal.int IntKind.u8 (0)), AVal.pv (PVal.int IntKind.u8 (0)), AVal.pv (PVal.int IntKind.u8 (0)), AVal.pv (PVal.int IntKind.u8 (0)), AVal.pv (PVal.int IntKind.u8 (0))], fields := [], eSize := 1, eBytes := 1, eZero := true, kKind := Kd.other, eZV := none, kind := Kd.array 64 } := rfl
theorem tyX101 : tyF 101 = some { size := 4, bytes := 40, agg := true, zero := some [AVal.pv PVal.nilptr, AVal.pv PVal.nilptr, AVal.pv PVal.nilptr, AVal.pv (PVal.str [])], fields := [(0, 1), (1, 1), (2, 1), (3, 1)], eSize := 0, eBytes := 0, eZero := false, kKind := Kd.other, eZV := none, kind := Kd.struct } := rfl
theorem tyX102 : tyF 102 = some { size := 4, bytes := 40, agg := true, zero := some [AVal.pv PVal.nilptr, AVal.pv PVal.nilptr, AVal.pv PVal.nilptr, AVal.pv (PVal.str [])], fields := [(0, 1), (1, 1), (2, 1), (3, 1)], eSize := 0, eBytes := 0, eZero := false, kKind := Kd.other, eZV := none, kind := Kd.struct } := rfl
theorem tyX103 : tyF 103 = some { size := 0, bytes := 0, agg := true, zero := some [], fields := [], eSize := 1, eBytes := 8, eZero := true, kKind := Kd.other, eZV := none, kind := Kd.array 0 } := rfl
theorem tyX104 : tyF 104 = some { size := 0, bytes := 0, agg := true, zero := some [], fields := [(0, 0)], eSize := 0, eBytes := 0, eZero := false, kKind := Kd.other, eZV := none, kind := Kd.struct } := rfl
theorem tyX105 : tyF 105 = some { size := 0, bytes := 0, agg := true, zero := some [], fields := [(0, 0)], eSize := 0, eBytes := 0, eZero := false, kKind := Kd.other, eZV := none, kind := Kd.struct } := rfl
theorem tyX107 : tyF 107 = some { size := 1, bytes := 1, agg := false, zero := some [AVal.pv (PVal.int IntKind.u8 (0))], fields := [], eSize := 0, eBytes := 0, eZero := false, kKind := Kd.other, eZV := none, kind := Kd.int IntKind.u8 } := rfl
theorem tyX108 : tyF 108 = some { size := 1, bytes := 1, agg := false, zero := some [AVal.pv (PVal.int IntKind.u8 (0))], fields := [], eSize := 0, eBytes := 0, eZero := false, kKind := Kd.other, eZV := none, kind := Kd.int IntKind.u8 } := rfl
theorem tyX110 : tyF 110 = some { size := 1, bytes := 4, agg := false, zero := some [AVal.pv (PVal.int IntKind.i32 (0))], fields := [], eSize := 0, eBytes := 0, eZero := false, kKind := Kd.other, eZV := none, kind := Kd.int IntKind.i32 } := rfl
theorem tyX111 : tyF 111 = some { size := 1, bytes := 4, agg := false, zero := some [AVal.pv (PVal.int IntKind.i32 (0))], fields := [], eSize := 0, eBytes := 0, eZero := false, kKind := Kd.other, eZV := none, kind := Kd.int IntKind.i32 } := rfl
def tyS := And.intro @env_ty <| And.intro @env_site <| And.intro @env_nobj <| And.intro @env_gl <| And.intro gl_1 <| gl_3
theorem enters3 (vargs : Array Value) (w : World) : (callFunc 3 vargs).run Tryd.prog w = .ok (.enter 3 vargs) w := enters 3 Tryd.func3 (by kernel_rfl) vargs w
theorem enters4 (vargs : Array Value) (w : World) : (callFunc 4 vargs).run Tryd.prog w = .ok (.enter 4 vargs) w := enters 4 Tryd.func4 (by kernel_rfl) vargs w
theorem enters5 (vargs : Array Value) (w : World) : (callFunc 5 vargs).run Tryd.prog w = .ok (.enter 5 vargs) w := enters 5 Tryd.func5 (by kernel_rfl) vargs w
theorem enters6 (vargs : Array Value) (w : World) : (callFunc 6 vargs).run Tryd.prog w = .ok (.enter 6 vargs) w := enters 6 Tryd.func6 (by kernel_rfl) vargs w
theorem enters7 (vargs : Array Value) (w : World) : (callFunc 7 vargs).run Tryd.prog w = .ok (.enter 7 vargs) w := enters 7 Tryd.func7 (by kernel_rfl) vargs w
theorem enters8 (vargs : Array Value) (w : World) : (callFunc 8 vargs).run Tryd.prog w = .ok (.enter 8 vargs) w := enters 8 Tryd.func8 (by kernel_rfl) vargs w
theorem enters9 (vargs : Array Value) (w : World) : (callFunc 9 vargs).run Tryd.prog w = .ok (.enter 9 vargs) w := enters 9 Tryd.func9 (by kernel_rfl) vargs w
theorem enters10 (vargs : Array Value) (w : World) : (callFunc 10 vargs).run Tryd.prog w = .ok (.enter 10 vargs) w := enters 10 Tryd.func10 (by kernel_rfl) vargs w
theorem enters11 (vargs : Array Value) (w : World) : (callFunc 11 vargs).run Tryd.prog w = .ok (.enter 11 vargs) w := enters 11 Tryd.func11 (by kernel_rfl) vargs w
theorem enters12 (vargs : Array Value) (w : World) : (callFunc 12 vargs).run Tryd.prog w = .ok (.enter 12 vargs) w := enters 12 Tryd.func12 (by kernel_rfl) vargs w
theorem enters13 (vargs : Array Value) (w : World) : (callFunc 13 vargs).run Tryd.prog w = .ok (.enter 13 vargs) w := enters 13 Tryd.func13 (by kernel_rfl) vargs w
theorem enters14 (vargs : Array Value) (w : World) : (callFunc 14 vargs).run Tryd.prog w = .ok (.enter 14 vargs) w := enters 14 Tryd.func14 (by kernel_rfl) vargs w
theorem enters15 (vargs : Array Value) (w : World) : (callFunc 15 vargs).run Tryd.prog w = .ok (.enter 15 vargs) w := enters 15 Tryd.func15 (by kernel_rfl) vargs w
theorem enters16 (vargs : Array Value) (w : World) : (callFunc 16 vargs).run Tryd.prog w = .ok (.enter 16 vargs) w := enters 16 Tryd.func16 (by kernel_rfl) vargs w
theorem enters17 (vargs : Array Value) (w : World) : (callFunc 17 vargs).run Tryd.prog w = .ok (.enter 17 vargs) w := enters 17 Tryd.func17 (by kernel_rfl) vargs w
theorem enters18 (vargs : Array Value) (w : World) : (callFunc 18 vargs).run Tryd.prog w = .ok (.enter 18 vargs) w := enters 18 Tryd.func18 (by kernel_rfl) vargs w
theorem enters19 (vargs : Array Value) (w : World) : (callFunc 19 vargs).run Tryd.prog w = .ok (.enter 19 vargs) w := enters 19 Tryd.func19 (by kernel_rfl) vargs w
theorem enters20 (vargs : Array Value) (w : World) : (callFunc 20 vargs).run Tryd.prog w = .ok (.enter 20 vargs) w := enters 20 Tryd.func20 (by kernel_rfl) vargs w
theorem enters21 (vargs : Array Value) (w : World) : (callFunc 21 vargs).run Tryd.prog w = .ok (.enter 21 vargs) w := enters 21 Tryd.func21 (by kernel_rfl) vargs w
theorem enters22 (vargs : Array Value) (w : World) : (callFunc 22 vargs).run Tryd.prog w = .ok (.enter 22 vargs) w := enters 22 Tryd.func22 (by kernel_rfl) vargs w
theorem enters23 (vargs : Array Value) (w : World) : (callFunc 23 vargs).run Tryd.prog w = .ok (.enter 23 vargs) w := enters 23 Tryd.func23 (by kernel_rfl) vargs w
theorem enters24 (vargs : Array Value) (w : World) : (callFunc 24 vargs).run Tryd.prog w = .ok (.enter 24 vargs) w := enters 24 Tryd.func24 (by kernel_rfl) vargs w
theorem enters25 (vargs : Array Value) (w : World) : (callFunc 25 vargs).run Tryd.prog w = .ok (.enter 25 vargs) w := enters 25 Tryd.func25 (by kernel_rfl) vargs w
theorem enters26 (vargs : Array Value) (w : World) : (callFunc 26 vargs).run Tryd.prog w = .ok (.enter 26 vargs) w := enters 26 Tryd.func26 (by kernel_rfl) vargs w
theorem enters27 (vargs : Array Value) (w : World) : (callFunc 27 vargs).run Tryd.prog w = .ok (.enter 27 vargs) w := enters 27 Tryd.func27 (by kernel_rfl) vargs w
theorem enters28 (vargs : Array Value) (w : World) : (callFunc 28 vargs).run Tryd.prog w = .ok (.enter 28 vargs) w := enters 28 Tryd.func28 (by kernel_rfl) vargs w
theorem enters29 (vargs : Array Value) (w : World) : (callFunc 29 vargs).run Tryd.prog w = .ok (.enter 29 vargs) w := enters 29 Tryd.func29 (by kernel_rfl) vargs w
theorem enters30 (vargs : Array Value) (w : World) : (callFunc 30 vargs).run Tryd.prog w = .ok (.enter 30 vargs) w := enters 30 Tryd.func30 (by kernel_rfl) vargs w
theorem enters31 (vargs : Array Value) (w : World) : (callFunc 31 vargs).run Tryd.prog w = .ok (.enter 31 vargs) w := enters 31 Tryd.func31 (by kernel_rfl) vargs w
theorem enters32 (vargs : Array Value) (w : World) : (callFunc 32 vargs).run Tryd.prog w = .ok (.enter 32 vargs) w := enters 32 Tryd.func32 (by kernel_rfl) vargs w
theorem enters33 (vargs : Array Value) (w : World) : (callFunc 33 vargs).run Tryd.prog w = .ok (.enter 33 vargs) w := enters 33 Tryd.func33 (by kernel_rfl) vargs w
theorem enters34 (vargs : Array Value) (w : World) : (callFunc 34 vargs).run Tryd.prog w = .ok (.enter 34 vargs) w := enters 34 Tryd.func34 (by kernel_rfl) vargs w
theorem enters35 (vargs : Array Value) (w : World) : (callFunc 35 vargs).run Tryd.prog w = .ok (.enter 35 vargs) w := enters 35 Tryd.func35 (by kernel_rfl) vargs w
theorem enters36 (vargs : Array Value) (w : World) : (callFunc 36 vargs).run Tryd.prog w = .ok (.enter 36 vargs) w := enters 36 Tryd.func36 (by kernel_rfl) vargs w
theorem enters37 (vargs : Array Value) (w : World) : (callFunc 37 vargs).run Tryd.prog w = .ok (.enter 37 vargs) w := enters 37 Tryd.func37 (by kernel_rfl) vargs w
theorem enters38 (vargs : Array Value) (w : World) : (callFunc 38 vargs).run Tryd.prog w = .ok (.enter 38 vargs) w := enters 38 Tryd.func38 (by kernel_rfl) vargs w
theorem enters39 (vargs : Array Value) (w : World) : (callFunc 39 vargs).run Tryd.prog w = .ok (.enter 39 vargs) w := enters 39 Tryd.func39 (by kernel_rfl) vargs w
theorem enters40 (vargs : Array Value) (w : World) : (callFunc 40 vargs).run Tryd.prog w = .ok (.enter 40 vargs) w := enters 40 Tryd.func40 (by kernel_rfl) vargs w
theorem enters41 (vargs : Array Value) (w : World) : (callFunc 41 vargs).run Tryd.prog w = .ok (.enter 41 vargs) w := enters 41 Tryd.func41 (by kernel_rfl) vargs w
theorem enters42 (vargs : Array Value) (w : World) : (callFunc 42 vargs).run Tryd.prog w = .ok (.enter 42 vargs) w := enters 42 Tryd.func42 (by kernel_rfl) vargs w
theorem enters43 (vargs : Array Value) (w : World) : (callFunc 43 vargs).run Tryd.prog w = .ok (.enter 43 vargs) w := enters 43 Tryd.func43 (by kernel_rfl) vargs w
theorem enters44 (vargs : Array Value) (w : World) : (callFunc 44 vargs).run Tryd.prog w = .ok (.enter 44 vargs) w := enters 44 Tryd.func44 (by kernel_rfl) vargs w
theorem enters45 (vargs : Array Value) (w : World) : (callFunc 45 vargs).run Tryd.prog w = .ok (.enter 45 vargs) w := enters 45 Tryd.func45 (by kernel_rfl) vargs w
theorem enters46 (vargs : Array Value) (w : World) : (callFunc 46 vargs).run Tryd.prog w = .ok (.enter 46 vargs) w := enters 46 Tryd.func46 (by kernel_rfl) vargs w
theorem enters47 (vargs : Array Value) (w : World) : (callFunc 47 vargs).run Tryd.prog w = .ok (.enter 47 vargs) w := enters 47 Tryd.func47 (by kernel_rfl) vargs w
theorem enters48 (vargs : Array Value) (w : World) : (callFunc 48 vargs).run Tryd.prog w = .ok (.enter 48 vargs) w := enters 48 Tryd.func48 (by kernel_rfl) vargs w
theorem enters49 (vargs : Array Value) (w : World) : (callFunc 49 vargs).run Tryd.prog w = .ok (.enter 49 vargs) w := enters 49 Tryd.func49 (by kernel_rfl) vargs w
theorem enters50 (vargs : Array Value) (w : World) : (callFunc 50 vargs).run Tryd.prog w = .ok (.enter 50 vargs) w := enters 50 Tryd.func50 (by kernel_rfl) vargs w
theorem enters51 (vargs : Array Value) (w : World) : (callFunc 51 vargs).run Tryd.prog w = .ok (.enter 51 vargs) w := enters 51 Tryd.func51 (by kernel_rfl) vargs w
theorem enters52 (vargs : Array Value) (w : World) : (callFunc 52 vargs).run Tryd.prog w = .ok (.enter 52 vargs) w := enters 52 Tryd.func52 (by kernel_rfl) vargs w
theorem enters54 (vargs : Array Value) (w : World) : (callFunc 54 vargs).run Tryd.prog w = .ok (.enter 54 vargs) w := enters 54 Tryd.func54 (by kernel_rfl) vargs w
theorem enters55 (vargs : Array Value) (w : World) : (callFunc 55 vargs).run Tryd.prog w = .ok (.enter 55 vargs) w := enters 55 Tryd.func55 (by kernel_rfl) vargs w
theorem enters56 (vargs : Array Value) (w : World) : (callFunc 56 vargs).run Tryd.prog w = .ok (.enter 56 vargs) w := enters 56 Tryd.func56 (by kernel_rfl) vargs w
theorem enters57 (vargs : Array Value) (w : World) : (callFunc 57 vargs).run Tryd.prog w = .ok (.enter 57 vargs) w := enters 57 Tryd.func57 (by kernel_rfl) vargs w
theorem enters58 (vargs : Array Value) (w : World) : (callFunc 58 vargs).run Tryd.prog w = .ok (.enter 58 vargs) w := enters 58 Tryd.func58 (by kernel_rfl) vargs w
theorem enters59 (vargs : Array Value) (w : World) : (callFunc 59 vargs).run Tryd.prog w = .ok (.enter 59 vargs) w := enters 59 Tryd.func59 (by kernel_rfl) vargs w
theorem enters62 (vargs : Array Value) (w : World) : (callFunc 62 vargs).run Tryd.prog w = .ok (.enter 62 vargs) w := enters 62 Tryd.func62 (by kernel_rfl) vargs w
theorem enters63 (vargs : Array Value) (w : World) : (callFunc 63 vargs).run Tryd.prog w = .ok (.enter 63 vargs) w := enters 63 Tryd.func63 (by kernel_rfl) vargs w
theorem enters64 (vargs : Array Value) (w : World) : (callFunc 64 vargs).run Tryd.prog w = .ok (.enter 64 vargs) w := enters 64 Tryd.func64 (by kernel_rfl) vargs w
theorem enters65 (vargs : Array Value) (w : World) : (callFunc 65 vargs).run Tryd.prog w = .ok (.enter 65 vargs) w := enters 65 Tryd.func65 (by kernel_rfl) vargs w
theorem enters66 (vargs : Array Value) (w : World) : (callFunc 66 vargs).run Tryd.prog w = .ok (.enter 66 vargs) w := enters 66 Tryd.func66 (by kernel_rfl) vargs w
theorem enters67 (vargs : Array Value) (w : World) : (callFunc 67 vargs).run Tryd.prog w = .ok (.enter 67 vargs) w := enters 67 Tryd.func67 (by kernel_rfl) vargs w
theorem enters68 (vargs : Array Value) (w : World) : (callFunc 68 vargs).run Tryd.prog w = .ok (.enter 68 vargs) w := enters 68 Tryd.func68 (by kernel_rfl) vargs w
theorem enters69 (vargs : Array Value) (w : World) : (callFunc 69 vargs).run Tryd.prog w = .ok (.enter 69 vargs) w := enters 69 Tryd.func69 (by kernel_rfl) vargs w
theorem enters70 (vargs : Array Value) (w : World) : (callFunc 70 vargs).run Tryd.prog w = .ok (.enter 70 vargs) w := enters 70 Tryd.func70 (by kernel_rfl) vargs w
theorem enters71 (vargs : Array Value) (w : World) : (callFunc 71 vargs).run Tryd.prog w = .ok (.enter 71 vargs) w := enters 71 Tryd.func71 (by kernel_rfl) vargs w
theorem enters72 (vargs : Array Value) (w : World) : (callFunc 72 vargs).run Tryd.prog w = .ok (.enter 72 vargs) w := enters 72 Tryd.func72 (by kernel_rfl) vargs w
theorem enters73 (vargs : Array Value) (w : World) : (callFunc 73 vargs).run Tryd.prog w = .ok (.enter 73 vargs) w := enters 73 Tryd.func73 (by kernel_rfl) vargs w
theorem enters74 (vargs : Array Value) (w : World) : (callFunc 74 vargs).run Tryd.prog w = .ok (.enter 74 vargs) w := enters 74 Tryd.func74 (by kernel_rfl) vargs w
theorem enters75 (vargs : Array Value) (w : World) : (callFunc 75 vargs).run Tryd.prog w = .ok (.enter 75 vargs) w := enters 75 Tryd.func75 (by kernel_rfl) vargs w
theorem enters76 (vargs : Array Value) (w : World) : (callFunc 76 vargs).run Tryd.prog w = .ok (.enter 76 vargs) w := enters 76 Tryd.func76 (by kernel_rfl) vargs w
theorem enters77 (vargs : Array Value) (w : World) : (callFunc 77 vargs).run Tryd.prog w = .ok (.enter 77 vargs) w := enters 77 Tryd.func77 (by kernel_rfl) vargs w
theorem enters107 (vargs : Array Value) (w : World) : (callFunc 107 vargs).run Tryd.prog w = .ok (.enter 107 vargs) w := enters 107 Tryd.func107 (by kernel_rfl) vargs w


theorem body_ac {f : FuncId} {fn : Func} {code : Code} (site : Nat → Nat) (nobj : Nat) (hf : Tryd.prog.funcs[f]? = some fn) (hb : fn.body = some code) {n : Nat} (hn : fn.ntmps = n) {rs : List ResultVar} (hrs : fn.results.toList = rs) {args : List AVal} {objs : List (Option AObj)} {res : AVal} {objs' : List (Option AObj)}
    (hargs : args.length ≤ n) (hobjs : objs.length ≤ nobj)
    (h : ∀ Q : Exit → St → Prop, (∀ e σ, retQ (envOf site nobj) objs.length rs res objs' e σ → Q e σ) → SW Tryd.prog (envOf site nobj) objs.length code ⟨args ++ List.replicate (n - args.length) .junk, objs ++ List.replicate (nobj - objs.length) none⟩ Q) :
    AC Tryd.prog gl f args objs res objs' := by
  subst hn hrs
  exact AC.of_body (env := envOf site nobj) (envOK _ _) hf hb hargs hobjs (h _ fun _ _ h => h)
theorem body0 {f : FuncId} {fn : Func} {code : Code} (site : Nat → Nat) (nobj : Nat) (hf : Tryd.prog.funcs[f]? = some fn) (hb : fn.body = some code) {n : Nat} (hn : fn.ntmps = n) {rs : List ResultVar} (hrs : fn.results.toList = rs) {args : List AVal} {res : AVal}
    (hargs : args.length ≤ n)
    (h : VC Tryd.prog (envOf site nobj) 0 code ⟨args ++ List.replicate (n - args.length) .junk, List.replicate nobj none⟩ (RQ (envOf site nobj) rs res)) :
    AC Tryd.prog gl f args [] res [] := by
  subst hn hrs
  exact AC.of_vc (env := envOf site nobj) (envOK _ _) mixed hf hb hargs h
theorem loopV {site : Nat → Nat} {nobj pin : Nat} {σ : St} {Q : Exit → St → Prop} {ι : Type} {c : Code} {t : Tg (Code.loop c, Q)} (I : ι → St) (μ : ι → Nat) (i0 : ι) (h0 : Weak (envOf site nobj) pin σ (I i0))
    (round : ∀ i, VC Tryd.prog (envOf site nobj) pin c (I i) (thenQ (NX (envOf site nobj) pin I μ .mk (μ i)) Q)) : LW Tryd.prog (envOf site nobj) pin (.loop c) σ Q t :=
  LW.loop (envOK _ _) mixed I μ i0 h0 round
end Go.Proofs.YtfldnpkacelniaaDoor
