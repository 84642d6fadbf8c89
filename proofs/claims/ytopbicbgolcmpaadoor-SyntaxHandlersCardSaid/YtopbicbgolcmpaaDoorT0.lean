/- The table of types of the program, held against the program. No condition. -/
import Derived.Test.YtopbicbgolcmpaaDoorProg
import Derived.KernelRfl
import Derived.Test.YtopbicbgolcmpaaDoorLib3
set_option linter.unusedSimpArgs false
set_option linter.unusedVariables false
set_option linter.defProp false
namespace Go.Proofs.YtopbicbgolcmpaaDoor
open Go Go.Abs
def ty2 : Ty := { size := 1, bytes := 8, agg := false, zero := some [AVal.pv (PVal.int IntKind.i64 (0))], fields := [], eSize := 0, eBytes := 0, eZero := false, kKind := Kd.other, eZV := none, kind := Kd.int IntKind.i64, eqs := none }
def ty3 : Ty := { size := 1, bytes := 8, agg := false, zero := some [AVal.pv (PVal.int IntKind.i64 (0))], fields := [], eSize := 0, eBytes := 0, eZero := false, kKind := Kd.other, eZV := none, kind := Kd.int IntKind.i64, eqs := none }
def ty4 : Ty := { size := 1, bytes := 1, agg := false, zero := some [AVal.pv (PVal.bool false)], fields := [], eSize := 0, eBytes := 0, eZero := false, kKind := Kd.other, eZV := none, kind := Kd.bool, eqs := none }
def ty5 : Ty := { size := 1, bytes := 1, agg := false, zero := some [AVal.pv (PVal.int IntKind.u8 (0))], fields := [], eSize := 0, eBytes := 0, eZero := false, kKind := Kd.other, eZV := none, kind := Kd.int IntKind.u8, eqs := none }
def ty6 : Ty := { size := 1, bytes := 1, agg := false, zero := some [AVal.pv (PVal.int IntKind.u8 (0))], fields := [], eSize := 0, eBytes := 0, eZero := false, kKind := Kd.other, eZV := none, kind := Kd.int IntKind.u8, eqs := none }
def ty7 : Ty := { size := 4, bytes := 24, agg := true, zero := some [AVal.pv (PVal.int IntKind.i64 (0)), AVal.pv (PVal.int IntKind.i64 (0)), AVal.pv (PVal.bool false), AVal.pv (PVal.int IntKind.u8 (0))], fields := [(0, 1), (1, 1), (2, 1), (3, 1)], eSize := 0, eBytes := 0, eZero := false, kKind := Kd.other, eZV := none, kind := Kd.struct, eqs := some [Kd.int IntKind.i64, Kd.int IntKind.i64, Kd.bool, Kd.int IntKind.u8] }
def ty8 : Ty := { size := 4, bytes := 24, agg := true, zero := some [AVal.pv (PVal.int IntKind.i64 (0)), AVal.pv (PVal.int IntKind.i64 (0)), AVal.pv (PVal.bool false), AVal.pv (PVal.int IntKind.u8 (0))], fields := [(0, 1), (1, 1), (2, 1), (3, 1)], eSize := 0, eBytes := 0, eZero := false, kKind := Kd.other, eZV := none, kind := Kd.struct, eqs := some [Kd.int IntKind.i64, Kd.int IntKind.i64, Kd.bool, Kd.int IntKind.u8] }
def ty9 : Ty := { size := 1, bytes := 16, agg := false, zero := some [AVal.pv (PVal.str [])], fields := [], eSize := 0, eBytes := 0, eZero := false, kKind := Kd.other, eZV := none, kind := Kd.string, eqs := none }
def ty10 : Ty := { size := 1, bytes := 16, agg := false, zero := some [AVal.pv (PVal.str [])], fields := [], eSize := 0, eBytes := 0, eZero := false, kKind := Kd.other, eZV := none, kind := Kd.string, eqs := none }
def ty11 : Ty := { size := 1, bytes := 16, agg := false, zero := some [AVal.pv (PVal.str [])], fields := [], eSize := 0, eBytes := 0, eZero := false, kKind := Kd.other, eZV := none, kind := Kd.string, eqs := none }
def ty12 : Ty := { size := 1, bytes := 8, agg := false, zero := some [AVal.pv (PVal.int IntKind.u64 (0))], fields := [], eSize := 0, eBytes := 0, eZero := false, kKind := Kd.other, eZV := none, kind := Kd.int IntKind.u64, eqs := none }
def ty13 : Ty := { size := 2, bytes := 24, agg := true, zero := some [AVal.pv (PVal.str []), AVal.pv (PVal.int IntKind.u64 (0))], fields := [(0, 1), (1, 1)], eSize := 0, eBytes := 0, eZero := false, kKind := Kd.other, eZV := none, kind := Kd.struct, eqs := none }
def ty14 : Ty := { size := 2, bytes := 24, agg := true, zero := some [AVal.pv (PVal.str []), AVal.pv (PVal.int IntKind.u64 (0))], fields := [(0, 1), (1, 1)], eSize := 0, eBytes := 0, eZero := false, kKind := Kd.other, eZV := none, kind := Kd.struct, eqs := none }
def ty15 : Ty := { size := 1, bytes := 8, agg := false, zero := some [AVal.pv PVal.nilptr], fields := [], eSize := 0, eBytes := 0, eZero := false, kKind := Kd.other, eZV := none, kind := Kd.other, eqs := none }
def ty16 : Ty := { size := 1, bytes := 8, agg := false, zero := some [AVal.pv PVal.nilptr], fields := [], eSize := 0, eBytes := 0, eZero := false, kKind := Kd.other, eZV := none, kind := Kd.other, eqs := none }
def ty17 : Ty := { size := 1, bytes := 8, agg := false, zero := some [AVal.pv PVal.nilptr], fields := [], eSize := 0, eBytes := 0, eZero := false, kKind := Kd.other, eZV := none, kind := Kd.other, eqs := none }
def ty18 : Ty := { size := 1, bytes := 8, agg := true, zero := some [AVal.pv PVal.nilptr], fields := [(0, 1)], eSize := 0, eBytes := 0, eZero := false, kKind := Kd.other, eZV := none, kind := Kd.struct, eqs := none }
def ty19 : Ty := { size := 1, bytes := 8, agg := true, zero := some [AVal.pv PVal.nilptr], fields := [(0, 1)], eSize := 0, eBytes := 0, eZero := false, kKind := Kd.other, eZV := none, kind := Kd.struct, eqs := none }
def ty20 : Ty := { size := 1, bytes := 16, agg := false, zero := some [AVal.pv (PVal.err true)], fields := [], eSize := 0, eBytes := 0, eZero := false, kKind := Kd.other, eZV := none, kind := Kd.iface, eqs := none }
def ty21 : Ty := { size := 1, bytes := 4, agg := false, zero := some [AVal.pv (PVal.int IntKind.i32 (0))], fields := [], eSize := 0, eBytes := 0, eZero := false, kKind := Kd.other, eZV := none, kind := Kd.int IntKind.i32, eqs := none }
def ty23 : Ty := { size := 1, bytes := 24, agg := false, zero := some [AVal.snil], fields := [], eSize := 1, eBytes := 16, eZero := true, kKind := Kd.string, eZV := some (false, [PVal.str []]), kind := Kd.slice, eqs := none }
def ty24 : Ty := { size := 1, bytes := 24, agg := false, zero := some [AVal.snil], fields := [], eSize := 1, eBytes := 8, eZero := true, kKind := Kd.int IntKind.i64, eZV := some (false, [PVal.int IntKind.i64 (0)]), kind := Kd.slice, eqs := none }
def ty25 : Ty := { size := 1, bytes := 24, agg := false, zero := some [AVal.snil], fields := [], eSize := 3, eBytes := 32, eZero := true, kKind := Kd.other, eZV := some (true, [PVal.str [], PVal.int IntKind.i64 (0), PVal.int IntKind.i64 (0)]), kind := Kd.slice, eqs := none }
def ty26 : Ty := { size := 1, bytes := 24, agg := false, zero := some [AVal.snil], fields := [], eSize := 18, eBytes := 232, eZero := true, kKind := Kd.other, eZV := some (true, [PVal.int IntKind.i64 (0), PVal.str [], PVal.int IntKind.i64 (0), PVal.int IntKind.i64 (0), PVal.int IntKind.i64 (0), PVal.int IntKind.i64 (0), PVal.str [], PVal.int IntKind.i64 (0), PVal.int IntKind.i64 (0), PVal.slice [], PVal.int IntKind.i64 (0), PVal.int IntKind.i64 (0), PVal.str [], PVal.int IntKind.i64 (0), PVal.int IntKind.i64 (0), PVal.slice [], PVal.slice [], PVal.slice []]), kind := Kd.slice, eqs := none }
def ty27 : Ty := { size := 5, bytes := 120, agg := true, zero := some [AVal.snil, AVal.snil, AVal.snil, AVal.snil, AVal.snil], fields := [(0, 1), (1, 1), (2, 1), (3, 1), (4, 1)], eSize := 0, eBytes := 0, eZero := false, kKind := Kd.other, eZV := none, kind := Kd.struct, eqs := none }
def ty28 : Ty := { size := 5, bytes := 120, agg := true, zero := some [AVal.snil, AVal.snil, AVal.snil, AVal.snil, AVal.snil], fields := [(0, 1), (1, 1), (2, 1), (3, 1), (4, 1)], eSize := 0, eBytes := 0, eZero := false, kKind := Kd.other, eZV := none, kind := Kd.struct, eqs := none }
def ty29 : Ty := { size := 1, bytes := 8, agg := false, zero := some [AVal.pv (PVal.int IntKind.i64 (0))], fields := [], eSize := 0, eBytes := 0, eZero := false, kKind := Kd.other, eZV := none, kind := Kd.int IntKind.i64, eqs := none }
def ty32 : Ty := { size := 1, bytes := 24, agg := false, zero := some [AVal.snil], fields := [], eSize := 6, eBytes := 72, eZero := true, kKind := Kd.other, eZV := some (true, [PVal.int IntKind.i64 (0), PVal.int IntKind.i64 (0), PVal.str [], PVal.int IntKind.i64 (0), PVal.int IntKind.i64 (0), PVal.slice []]), kind := Kd.slice, eqs := none }
def ty33 : Ty := { size := 6, bytes := 72, agg := true, zero := some [AVal.pv (PVal.int IntKind.i64 (0)), AVal.pv (PVal.int IntKind.i64 (0)), AVal.pv (PVal.str []), AVal.pv (PVal.int IntKind.i64 (0)), AVal.pv (PVal.int IntKind.i64 (0)), AVal.snil], fields := [(0, 1), (1, 1), (2, 1), (3, 1), (4, 1), (5, 1)], eSize := 0, eBytes := 0, eZero := false, kKind := Kd.other, eZV := none, kind := Kd.struct, eqs := none }
def ty34 : Ty := { size := 6, bytes := 72, agg := true, zero := some [AVal.pv (PVal.int IntKind.i64 (0)), AVal.pv (PVal.int IntKind.i64 (0)), AVal.pv (PVal.str []), AVal.pv (PVal.int IntKind.i64 (0)), AVal.pv (PVal.int IntKind.i64 (0)), AVal.snil], fields := [(0, 1), (1, 1), (2, 1), (3, 1), (4, 1), (5, 1)], eSize := 0, eBytes := 0, eZero := false, kKind := Kd.other, eZV := none, kind := Kd.struct, eqs := none }
def ty35 : Ty := { size := 18, bytes := 232, agg := true, zero := some [AVal.pv (PVal.int IntKind.i64 (0)), AVal.pv (PVal.str []), AVal.pv (PVal.int IntKind.i64 (0)), AVal.pv (PVal.int IntKind.i64 (0)), AVal.pv (PVal.int IntKind.i64 (0)), AVal.pv (PVal.int IntKind.i64 (0)), AVal.pv (PVal.str []), AVal.pv (PVal.int IntKind.i64 (0)), AVal.pv (PVal.int IntKind.i64 (0)), AVal.snil, AVal.pv (PVal.int IntKind.i64 (0)), AVal.pv (PVal.int IntKind.i64 (0)), AVal.pv (PVal.str []), AVal.pv (PVal.int IntKind.i64 (0)), AVal.pv (PVal.int IntKind.i64 (0)), AVal.snil, AVal.snil, AVal.snil], fields := [(0, 1), (1, 1), (2, 1), (3, 1), (4, 6), (10, 6), (16, 1), (17, 1)], eSize := 0, eBytes := 0, eZero := false, kKind := Kd.other, eZV := none, kind := Kd.struct, eqs := none }
def ty36 : Ty := { size := 18, bytes := 232, agg := true, zero := some [AVal.pv (PVal.int IntKind.i64 (0)), AVal.pv (PVal.str []), AVal.pv (PVal.int IntKind.i64 (0)), AVal.pv (PVal.int IntKind.i64 (0)), AVal.pv (PVal.int IntKind.i64 (0)), AVal.pv (PVal.int IntKind.i64 (0)), AVal.pv (PVal.str []), AVal.pv (PVal.int IntKind.i64 (0)), AVal.pv (PVal.int IntKind.i64 (0)), AVal.snil, AVal.pv (PVal.int IntKind.i64 (0)), AVal.pv (PVal.int IntKind.i64 (0)), AVal.pv (PVal.str []), AVal.pv (PVal.int IntKind.i64 (0)), AVal.pv (PVal.int IntKind.i64 (0)), AVal.snil, AVal.snil, AVal.snil], fields := [(0, 1), (1, 1), (2, 1), (3, 1), (4, 6), (10, 6), (16, 1), (17, 1)], eSize := 0, eBytes := 0, eZero := false, kKind := Kd.other, eZV := none, kind := Kd.struct, eqs := none }
def ty40 : Ty := { size := 1, bytes := 24, agg := false, zero := some [AVal.snil], fields := [], eSize := 1, eBytes := 1, eZero := true, kKind := Kd.int IntKind.u8, eZV := some (false, [PVal.int IntKind.u8 (0)]), kind := Kd.slice, eqs := none }
def ty41 : Ty := { size := 1, bytes := 8, agg := false, zero := some [AVal.pv PVal.nilptr], fields := [], eSize := 0, eBytes := 0, eZero := false, kKind := Kd.other, eZV := none, kind := Kd.other, eqs := none }
def ty48 : Ty := { size := 1, bytes := 24, agg := false, zero := some [AVal.snil], fields := [], eSize := 5, eBytes := 120, eZero := true, kKind := Kd.other, eZV := some (true, [PVal.slice [], PVal.slice [], PVal.slice [], PVal.slice [], PVal.slice []]), kind := Kd.slice, eqs := none }
def ty50 : Ty := { size := 1, bytes := 24, agg := false, zero := some [AVal.snil], fields := [], eSize := 4, eBytes := 40, eZero := true, kKind := Kd.other, eZV := some (true, [PVal.int IntKind.i64 (0), PVal.str [], PVal.int IntKind.i64 (0), PVal.int IntKind.i64 (0)]), kind := Kd.slice, eqs := none }
def ty55 : Ty := { size := 3, bytes := 32, agg := true, zero := some [AVal.pv (PVal.str []), AVal.pv (PVal.int IntKind.i64 (0)), AVal.pv (PVal.int IntKind.i64 (0))], fields := [(0, 1), (1, 1), (2, 1)], eSize := 0, eBytes := 0, eZero := false, kKind := Kd.other, eZV := none, kind := Kd.struct, eqs := some [Kd.string, Kd.int IntKind.i64, Kd.int IntKind.i64] }
def ty56 : Ty := { size := 3, bytes := 32, agg := true, zero := some [AVal.pv (PVal.str []), AVal.pv (PVal.int IntKind.i64 (0)), AVal.pv (PVal.int IntKind.i64 (0))], fields := [(0, 1), (1, 1), (2, 1)], eSize := 0, eBytes := 0, eZero := false, kKind := Kd.other, eZV := none, kind := Kd.struct, eqs := some [Kd.string, Kd.int IntKind.i64, Kd.int IntKind.i64] }
def ty59 : Ty := { size := 2, bytes := 32, agg := true, zero := some [AVal.snil, AVal.pv (PVal.int IntKind.i64 (0))], fields := [(0, 1), (1, 1)], eSize := 0, eBytes := 0, eZero := false, kKind := Kd.other, eZV := none, kind := Kd.struct, eqs := none }
def ty60 : Ty := { size := 2, bytes := 32, agg := true, zero := some [AVal.snil, AVal.pv (PVal.int IntKind.i64 (0))], fields := [(0, 1), (1, 1)], eSize := 0, eBytes := 0, eZero := false, kKind := Kd.other, eZV := none, kind := Kd.struct, eqs := none }
def ty63 : Ty := { size := 1, bytes := 24, agg := true, zero := some [AVal.snil], fields := [(0, 1)], eSize := 0, eBytes := 0, eZero := false, kKind := Kd.other, eZV := none, kind := Kd.struct, eqs := none }
def ty64 : Ty := { size := 1, bytes := 24, agg := true, zero := some [AVal.snil], fields := [(0, 1)], eSize := 0, eBytes := 0, eZero := false, kKind := Kd.other, eZV := none, kind := Kd.struct, eqs := none }
def ty66 : Ty := { size := 3, bytes := 48, agg := true, zero := some [AVal.pv (PVal.str []), AVal.pv (PVal.str []), AVal.pv (PVal.str [])], fields := [], eSize := 1, eBytes := 16, eZero := true, kKind := Kd.string, eZV := none, kind := Kd.array 3, eqs := none }
def ty68 : Ty := { size := 2, bytes := 32, agg := true, zero := some [AVal.pv (PVal.str []), AVal.pv (PVal.str [])], fields := [], eSize := 1, eBytes := 16, eZero := true, kKind := Kd.string, eZV := none, kind := Kd.array 2, eqs := none }
def ty70 : Ty := { size := 4, bytes := 40, agg := true, zero := some [AVal.pv (PVal.int IntKind.i64 (0)), AVal.pv (PVal.str []), AVal.pv (PVal.int IntKind.i64 (0)), AVal.pv (PVal.int IntKind.i64 (0))], fields := [(0, 1), (1, 1), (2, 1), (3, 1)], eSize := 0, eBytes := 0, eZero := false, kKind := Kd.other, eZV := none, kind := Kd.struct, eqs := some [Kd.int IntKind.i64, Kd.string, Kd.int IntKind.i64, Kd.int IntKind.i64] }
def ty71 : Ty := { size := 4, bytes := 40, agg := true, zero := some [AVal.pv (PVal.int IntKind.i64 (0)), AVal.pv (PVal.str []), AVal.pv (PVal.int IntKind.i64 (0)), AVal.pv (PVal.int IntKind.i64 (0))], fields := [(0, 1), (1, 1), (2, 1), (3, 1)], eSize := 0, eBytes := 0, eZero := false, kKind := Kd.other, eZV := none, kind := Kd.struct, eqs := some [Kd.int IntKind.i64, Kd.string, Kd.int IntKind.i64, Kd.int IntKind.i64] }
def ty74 : Ty := { size := 1, bytes := 8, agg := true, zero := some [AVal.pv (PVal.int IntKind.i64 (0))], fields := [(0, 1)], eSize := 0, eBytes := 0, eZero := false, kKind := Kd.other, eZV := none, kind := Kd.struct, eqs := some [Kd.int IntKind.i64] }
def ty75 : Ty := { size := 1, bytes := 8, agg := true, zero := some [AVal.pv (PVal.int IntKind.i64 (0))], fields := [(0, 1)], eSize := 0, eBytes := 0, eZero := false, kKind := Kd.other, eZV := none, kind := Kd.struct, eqs := some [Kd.int IntKind.i64] }
def ty77 : Ty := { size := 1, bytes := 8, agg := false, zero := some [AVal.pv PVal.nilptr], fields := [], eSize := 0, eBytes := 0, eZero := false, kKind := Kd.other, eZV := none, kind := Kd.other, eqs := none }
def ty78 : Ty := { size := 3, bytes := 40, agg := true, zero := some [AVal.snil, AVal.pv (PVal.int IntKind.i64 (0)), AVal.pv (PVal.int IntKind.i64 (0))], fields := [(0, 1), (1, 1), (2, 1)], eSize := 0, eBytes := 0, eZero := false, kKind := Kd.other, eZV := none, kind := Kd.struct, eqs := none }
def ty79 : Ty := { size := 3, bytes := 40, agg := true, zero := some [AVal.snil, AVal.pv (PVal.int IntKind.i64 (0)), AVal.pv (PVal.int IntKind.i64 (0))], fields := [(0, 1), (1, 1), (2, 1)], eSize := 0, eBytes := 0, eZero := false, kKind := Kd.other, eZV := none, kind := Kd.struct, eqs := none }
def ty81 : Ty := { size := 4, bytes := 4, agg := true, zero := some [AVal.pv (PVal.bool false), AVal.pv (PVal.bool false), AVal.pv (PVal.bool false), AVal.pv (PVal.bool false)], fields := [], eSize := 1, eBytes := 1, eZero := true, kKind := Kd.bool, eZV := none, kind := Kd.array 4, eqs := none }
def ty83 : Ty := { size := 1, bytes := 8, agg := false, zero := some [AVal.pv PVal.nilptr], fields := [], eSize := 0, eBytes := 0, eZero := false, kKind := Kd.other, eZV := none, kind := Kd.other, eqs := none }
def ty84 : Ty := { size := 1, bytes := 8, agg := false, zero := some [AVal.pv PVal.nilptr], fields := [], eSize := 0, eBytes := 0, eZero := false, kKind := Kd.other, eZV := none, kind := Kd.other, eqs := none }
def ty87 : Ty := { size := 1, bytes := 8, agg := false, zero := some [AVal.pv PVal.nilptr], fields := [], eSize := 0, eBytes := 0, eZero := false, kKind := Kd.other, eZV := none, kind := Kd.other, eqs := none }
def ty90 : Ty := { size := 1, bytes := 8, agg := false, zero := some [AVal.pv PVal.nilptr], fields := [], eSize := 0, eBytes := 0, eZero := false, kKind := Kd.other, eZV := none, kind := Kd.other, eqs := none }
def ty99 : Ty := { size := 1, bytes := 8, agg := false, zero := some [AVal.pv PVal.nilptr], fields := [], eSize := 0, eBytes := 0, eZero := false, kKind := Kd.other, eZV := none, kind := Kd.other, eqs := none }
def ty100 : Ty := { size := 4, bytes := 32, agg := true, zero := some [AVal.pv PVal.nilptr, AVal.pv PVal.nilptr, AVal.pv PVal.nilptr, AVal.pv PVal.nilptr], fields := [], eSize := 1, eBytes := 8, eZero := true, kKind := Kd.other, eZV := none, kind := Kd.array 4, eqs := none }
def ty101 : Ty := { size := 4, bytes := 64, agg := true, zero := some [AVal.pv (PVal.str []), AVal.pv (PVal.str []), AVal.pv (PVal.str []), AVal.pv (PVal.str [])], fields := [], eSize := 1, eBytes := 16, eZero := true, kKind := Kd.string, eZV := none, kind := Kd.array 4, eqs := none }
def ty104 : Ty := { size := 1, bytes := 8, agg := false, zero := some [AVal.pv PVal.nilptr], fields := [], eSize := 0, eBytes := 0, eZero := false, kKind := Kd.other, eZV := none, kind := Kd.other, eqs := none }
def ty107 : Ty := { size := 1, bytes := 16, agg := false, zero := some [AVal.pv (PVal.err true)], fields := [], eSize := 0, eBytes := 0, eZero := false, kKind := Kd.other, eZV := none, kind := Kd.iface, eqs := none }
def ty108 : Ty := { size := 1, bytes := 16, agg := false, zero := some [AVal.pv (PVal.err true)], fields := [], eSize := 0, eBytes := 0, eZero := false, kKind := Kd.other, eZV := none, kind := Kd.iface, eqs := none }
def ty118 : Ty := { size := 24, bytes := 24, agg := true, zero := some [AVal.pv (PVal.int IntKind.u8 (0)), AVal.pv (PVal.int IntKind.u8 (0)), AVal.pv (PVal.int IntKind.u8 (0)), AVal.pv (PVal.int IntKind.u8 (0)), AVal.pv (PVal.int IntKind.u8 (0)), AVal.pv (PVal.int IntKind.u8 (0)), AVal.pv (PVal.int IntKind.u8 (0)), AVal.pv (PVal.int IntKind.u8 (0)), AVal.pv (PVal.int IntKind.u8 (0)), AVal.pv (PVal.int IntKind.u8 (0)), AVal.pv (PVal.int IntKind.u8 (0)), AVal.pv (PVal.int IntKind.u8 (0)), AVal.pv (PVal.int IntKind.u8 (0)), AVal.pv (PVal.int IntKind.u8 (0)), AVal.pv (PVal.int IntKind.u8 (0)), AVal.pv (PVal.int IntKind.u8 (0)), AVal.pv (PVal.int IntKind.u8 (0)), AVal.pv (PVal.int IntKind.u8 (0)), AVal.pv (PVal.int IntKind.u8 (0)), AVal.pv (PVal.int IntKind.u8 (0)), AVal.pv (PVal.int IntKind.u8 (0)), AVal.pv (PVal.int IntKind.u8 (0)), AVal.pv (PVal.int IntKind.u8 (0)), AVal.pv (PVal.int IntKind.u8 (0))], fields := [], eSize := 1, eBytes := 1, eZero := true, kKind := Kd.int IntKind.u8, eZV := none, kind := Kd.array 24, eqs := none }
def ty119 : Ty := { size := 1, bytes := 8, agg := false, zero := some [AVal.pv (PVal.int IntKind.u64 (0))], fields := [], eSize := 0, eBytes := 0, eZero := false, kKind := Kd.other, eZV := none, kind := Kd.int IntKind.u64, eqs := none }
def ty125 : Ty := { size := 1, bytes := 8, agg := false, zero := some [AVal.pv (PVal.int IntKind.i64 (0))], fields := [], eSize := 0, eBytes := 0, eZero := false, kKind := Kd.other, eZV := none, kind := Kd.int IntKind.i64, eqs := none }
def ty128 : Ty := { size := 1, bytes := 8, agg := false, zero := some [AVal.pv (PVal.int IntKind.u64 (0))], fields := [], eSize := 0, eBytes := 0, eZero := false, kKind := Kd.other, eZV := none, kind := Kd.int IntKind.u64, eqs := none }
def ty129 : Ty := { size := 1, bytes := 8, agg := false, zero := some [AVal.pv PVal.nilptr], fields := [], eSize := 0, eBytes := 0, eZero := false, kKind := Kd.other, eZV := none, kind := Kd.other, eqs := none }
def ty136 : Ty := { size := 20, bytes := 160, agg := true, zero := some [AVal.pv (PVal.int IntKind.u64 (0)), AVal.pv (PVal.int IntKind.u64 (0)), AVal.pv (PVal.int IntKind.u64 (0)), AVal.pv (PVal.int IntKind.u64 (0)), AVal.pv (PVal.int IntKind.u64 (0)), AVal.pv (PVal.int IntKind.u64 (0)), AVal.pv (PVal.int IntKind.u64 (0)), AVal.pv (PVal.int IntKind.u64 (0)), AVal.pv (PVal.int IntKind.u64 (0)), AVal.pv (PVal.int IntKind.u64 (0)), AVal.pv (PVal.int IntKind.u64 (0)), AVal.pv (PVal.int IntKind.u64 (0)), AVal.pv (PVal.int IntKind.u64 (0)), AVal.pv (PVal.int IntKind.u64 (0)), AVal.pv (PVal.int IntKind.u64 (0)), AVal.pv (PVal.int IntKind.u64 (0)), AVal.pv (PVal.int IntKind.u64 (0)), AVal.pv (PVal.int IntKind.u64 (0)), AVal.pv (PVal.int IntKind.u64 (0)), AVal.pv (PVal.int IntKind.u64 (0))], fields := [], eSize := 1, eBytes := 8, eZero := true, kKind := Kd.int IntKind.u64, eZV := none, kind := Kd.array 20, eqs := none }
def ty137 : Ty := { size := 1, bytes := 4, agg := false, zero := some [AVal.pv (PVal.int IntKind.u32 (0))], fields := [], eSize := 0, eBytes := 0, eZero := false, kKind := Kd.other, eZV := none, kind := Kd.int IntKind.u32, eqs := none }
def ty138 : Ty := { size := 65, bytes := 65, agg := true, zero := some [AVal.pv (PVal.int IntKind.u8 (0)), AVal.pv (PVal.int IntKind.u8 (0)), AVal.pv (PVal.int IntKind.u8 (0)), AVal.pv (PVal.int IntKind.u8 (0)), AVal.pv (PVal.int IntKind.u8 (0)), AVal.pv (PVal.int IntKind.u8 (0)), AVal.pv (PVal.int IntKind.u8 (0)), AVal.pv (PVal.int IntKind.u8 (0)), AVal.pv (PVal.int IntKind.u8 (0)), AVal.pv (PVal.int IntKind.u8 (0)), AVal.pv (PVal.int IntKind.u8 (0)), AVal.pv (PVal.int IntKind.u8 (0)), AVal.pv (PVal.int IntKind.u8 (0)), AVal.pv (PVal.int IntKind.u8 (0)), AVal.pv (PVal.int IntKind.u8 (0)), AVal.pv (PVal.int IntKind.u8 (0)), AVal.pv (PVal.int IntKind.u8 (0)), AVal.pv (PVal.int IntKind.u8 (0)), AVal.pv (PVal.int IntKind.u8 (0)), AVal.pv (PVal.int IntKind.u8 (0)), AVal.pv (PVal.int IntKind.u8 (0)), AVal.pv (PVal.int IntKind.u8 (0)), AVal.pv (PVal.int IntKind.u8 (0)), AVal.pv (PVal.int IntKind.u8 (0)), AVal.pv (PVal.int IntKind.u8 (0)), AVal.pv (PVal.int IntKind.u8 (0)), AVal.pv (PVal.int IntKind.u8 (0)), AVal.pv (PVal.int IntKind.u8 (0)), AVal.pv (PVal.int IntKind.u8 (0)), AVal.pv (PVal.int IntKind.u8 (0)), AVal.pv (PVal.int IntKind.u8 (0)), AVal.pv (PVal.int IntKind.u8 (0)), AVal.pv (PVal.int IntKind.u8 (0)), AVal.pv (PVal.int IntKind.u8 (0)), AVal.pv (PVal.int IntKind.u8 (0)), AVal.pv (PVal.int IntKind.u8 (0)), AVal.pv (PVal.int IntKind.u8 (0)), AVal.pv (PVal.int IntKind.u8 (0)), AVal.pv (PVal.int IntKind.u8 (0)), AVal.pv (PVal.int IntKind.u8 (0)), AVal.pv (PVal.int IntKind.u8 (0)), AVal.pv (PVal.int IntKind.u8 (0)), AVal.pv (PVal.int IntKind.u8 (0)), AVal.pv (PVal.int IntKind.u8 (0)), AVal.pv (PVal.int IntKind.u8 (0)), AVal.pv (PVal.int IntKind.u8 (0)), AVal.pv (PVal.int IntKind.u8 (0)), AVal.pv (PVal.int IntKind.u8 (0)), AVal.pv (PVal.int IntKind.u8 (0)), AVal.pv (PVal.int IntKind.u8 (0)), AVal.pv (PVal.int IntKind.u8 (0)), AVal.pv (PVal.int IntKind.u8 (0)), AVal.pv (PVal.int IntKind.u8 (0)), AVal.pv (PVal.int IntKind.u8 (0)), AVal.pv (PVal.int IntKind.u8 (0)), AVal.pv (PVal.int IntKind.u8 (0)), AVal.pv (PVal.int IntKind.u8 (0)), AVal.pv (PVal.int IntKind.u8 (0)), AVal.pv (PVal.int IntKind.u8 (0)), AVal.pv (PVal.int IntKind.u8 (0)), AVal.pv (PVal.int IntKind.u8 (0)), AVal.pv (PVal.int IntKind.u8 (0)), AVal.pv (PVal.int IntKind.u8 (0)), AVal.pv (PVal.int IntKind.u8 (0)), AVal.pv (PVal.int IntKind.u8 (0))], fields := [], eSize := 1, eBytes := 1, eZero := true, kKind := Kd.int IntKind.u8, eZV := none, kind := Kd.array 65, eqs := none }
def ty143 : Ty := { size := 3, bytes := 48, agg := true, zero := some [AVal.pv (PVal.str []), AVal.pv (PVal.str []), AVal.pv (PVal.err true)], fields := [(0, 1), (1, 1), (2, 1)], eSize := 0, eBytes := 0, eZero := false, kKind := Kd.other, eZV := none, kind := Kd.struct, eqs := none }
def ty144 : Ty := { size := 3, bytes := 48, agg := true, zero := some [AVal.pv (PVal.str []), AVal.pv (PVal.str []), AVal.pv (PVal.err true)], fields := [(0, 1), (1, 1), (2, 1)], eSize := 0, eBytes := 0, eZero := false, kKind := Kd.other, eZV := none, kind := Kd.struct, eqs := none }
def ty147 : Ty := { size := 1, bytes := 8, agg := false, zero := some [AVal.pv PVal.nilptr], fields := [], eSize := 0, eBytes := 0, eZero := false, kKind := Kd.other, eZV := none, kind := Kd.other, eqs := none }
def ty148 : Ty := { size := 1, bytes := 8, agg := false, zero := some [AVal.pv PVal.nilptr], fields := [], eSize := 0, eBytes := 0, eZero := false, kKind := Kd.other, eZV := none, kind := Kd.other, eqs := none }
def ty149 : Ty := { size := 1, bytes := 16, agg := true, zero := some [AVal.pv (PVal.str [])], fields := [(0, 1)], eSize := 0, eBytes := 0, eZero := false, kKind := Kd.other, eZV := none, kind := Kd.struct, eqs := some [Kd.string] }
def ty150 : Ty := { size := 1, bytes := 16, agg := true, zero := some [AVal.pv (PVal.str [])], fields := [(0, 1)], eSize := 0, eBytes := 0, eZero := false, kKind := Kd.other, eZV := none, kind := Kd.struct, eqs := some [Kd.string] }
def ty151 : Ty := { size := 32, bytes := 32, agg := true, zero := some [AVal.pv (PVal.int IntKind.u8 (0)), AVal.pv (PVal.int IntKind.u8 (0)), AVal.pv (PVal.int IntKind.u8 (0)), AVal.pv (PVal.int IntKind.u8 (0)), AVal.pv (PVal.int IntKind.u8 (0)), AVal.pv (PVal.int IntKind.u8 (0)), AVal.pv (PVal.int IntKind.u8 (0)), AVal.pv (PVal.int IntKind.u8 (0)), AVal.pv (PVal.int IntKind.u8 (0)), AVal.pv (PVal.int IntKind.u8 (0)), AVal.pv (PVal.int IntKind.u8 (0)), AVal.pv (PVal.int IntKind.u8 (0)), AVal.pv (PVal.int IntKind.u8 (0)), AVal.pv (PVal.int IntKind.u8 (0)), AVal.pv (PVal.int IntKind.u8 (0)), AVal.pv (PVal.int IntKind.u8 (0)), AVal.pv (PVal.int IntKind.u8 (0)), AVal.pv (PVal.int IntKind.u8 (0)), AVal.pv (PVal.int IntKind.u8 (0)), AVal.pv (PVal.int IntKind.u8 (0)), AVal.pv (PVal.int IntKind.u8 (0)), AVal.pv (PVal.int IntKind.u8 (0)), AVal.pv (PVal.int IntKind.u8 (0)), AVal.pv (PVal.int IntKind.u8 (0)), AVal.pv (PVal.int IntKind.u8 (0)), AVal.pv (PVal.int IntKind.u8 (0)), AVal.pv (PVal.int IntKind.u8 (0)), AVal.pv (PVal.int IntKind.u8 (0)), AVal.pv (PVal.int IntKind.u8 (0)), AVal.pv (PVal.int IntKind.u8 (0)), AVal.pv (PVal.int IntKind.u8 (0)), AVal.pv (PVal.int IntKind.u8 (0))], fields := [], eSize := 1, eBytes := 1, eZero := true, kKind := Kd.int IntKind.u8, eZV := none, kind := Kd.array 32, eqs := none }
def ty152 : Ty := { size := 64, bytes := 64, agg := true, zero := some [AVal.pv (PVal.int IntKind.u8 (0)), AVal.pv (PVal.int IntKind.u8 (0)), AVal.pv (PVal.int IntKind.u8 (0)), AVal.pv (PVal.int IntKind.u8 (0)), AVal.pv (PVal.int IntKind.u8 (0)), AVal.pv (PVal.int IntKind.u8 (0)), AVal.pv (PVal.int IntKind.u8 (0)), AVal.pv (PVal.int IntKind.u8 (0)), AVal.pv (PVal.int IntKind.u8 (0)), AVal.pv (PVal.int IntKind.u8 (0)), AVal.pv (PVal.int IntKind.u8 (0)), AVal.pv (PVal.int IntKind.u8 (0)), AVal.pv (PVal.int IntKind.u8 (0)), AVal.pv (PVal.int IntKind.u8 (0)), AVal.pv (PVal.int IntKind.u8 (0)), AVal.pv (PVal.int IntKind.u8 (0)), AVal.pv (PVal.int IntKind.u8 (0)), AVal.pv (PVal.int IntKind.u8 (0)), AVal.pv (PVal.int IntKind.u8 (0)), AVal.pv (PVal.int IntKind.u8 (0)), AVal.pv (PVal.int IntKind.u8 (0)), AVal.pv (PVal.int IntKind.u8 (0)), AVal.pv (PVal.int IntKind.u8 (0)), AVal.pv (PVal.int IntKind.u8 (0)), AVal.pv (PVal.int IntKind.u8 (0)), AVal.pv (PVal.int IntKind.u8 (0)), AVal.pv (PVal.int IntKind.u8 (0)), AVal.pv (PVal.int IntKind.u8 (0)), AVal.pv (PVal.int IntKind.u8 (0)), AVal.pv (PVal.int IntKind.u8 (0)), AVal.pv (PVal.int IntKind.u8 (0)), AVal.pv (PVal.int IntKind.u8 (0)), AVal.pv (PVal.int IntKind.u8 (0)), AVal.pv (PVal.int IntKind.u8 (0)), AVal.pv (PVal.int IntKind.u8 (0)), AVal.pv (PVal.int IntKind.u8 (0)), AVal.pv (PVal.int IntKind.u8 (0)), AVal.pv (PVal.int IntKind.u8 (0)), AVal.pv (PVal.int IntKind.u8 (0)), AVal.pv (PVal.int IntKind.u8 (0)), AVal.pv (PVal.int IntKind.u8 (0)), AVal.pv (PVal.int IntKind.u8 (0)), AVal.pv (PVal.int IntKind.u8 (0)), AVal.pv (PVal.int IntKind.u8 (0)), AVal.pv (PVal.int IntKind.u8 (0)), AVal.pv (PVal.int IntKind.u8 (0)), AVal.pv (PVal.int IntKind.u8 (0)), AVal.pv (PVal.int IntKind.u8 (0)), AVal.pv (PVal.int IntKind.u8 (0)), AVal.pv (PVal.int IntKind.u8 (0)), AVal.pv (PVal.int IntKind.u8 (0)), AVal.pv (PVal.int IntKind.u8 (0)), AVal.pv (PVal.int IntKind.u8 (0)), AVal.pv (PVal.int IntKind.u8 (0)), AVal.pv (PVal.int IntKind.u8 (0)), AVal.pv (PVal.int IntKind.u8 (0)), AVal.pv (PVal.int IntKind.u8 (0)), AVal.pv (PVal.int IntKind.u8 (0)), AVal.pv (PVal.int IntKind.u8 (0)), AVal.pv (PVal.int IntKind.u8 (0)), AVal.pv (PVal.int IntKind.u8 (0)), AVal.pv (PVal.int IntKind.u8 (0)), AVal.pv (PVal.int IntKind.u8 (0)), AVal.pv (PVal.int IntKind.u8 (0))], fields := [], eSize := 1, eBytes := 1, eZero := true, kKind := Kd.int IntKind.u8, eZV := none, kind := Kd.array 64, eqs := none }
def ty153 : Ty := { size := 4, bytes := 40, agg := true, zero := some [AVal.pv PVal.nilptr, AVal.pv PVal.nilptr, AVal.pv PVal.nilptr, AVal.pv (PVal.str [])], fields := [(0, 1), (1, 1), (2, 1), (3, 1)], eSize := 0, eBytes := 0, eZero := false, kKind := Kd.other, eZV := none, kind := Kd.struct, eqs := none }
def ty154 : Ty := { size := 4, bytes := 40, agg := true, zero := some [AVal.pv PVal.nilptr, AVal.pv PVal.nilptr, AVal.pv PVal.nilptr, AVal.pv (PVal.str [])], fields := [(0, 1), (1, 1), (2, 1), (3, 1)], eSize := 0, eBytes := 0, eZero := false, kKind := Kd.other, eZV := none, kind := Kd.struct, eqs := none }
def ty155 : Ty := { size := 0, bytes := 0, agg := true, zero := some [], fields := [], eSize := 1, eBytes := 8, eZero := true, kKind := Kd.other, eZV := none, kind := Kd.array 0, eqs := none }
def ty156 : Ty := { size := 0, bytes := 0, agg := true, zero := some [], fields := [(0, 0)], eSize := 0, eBytes := 0, eZero := false, kKind := Kd.other, eZV := none, kind := Kd.struct, eqs := none }
def ty157 : Ty := { size := 0, bytes := 0, agg := true, zero := some [], fields := [(0, 0)], eSize := 0, eBytes := 0, eZero := false, kKind := Kd.other, eZV := none, kind := Kd.struct, eqs := none }
def ty158 : Ty := { size := 1, bytes := 1, agg := false, zero := some [AVal.pv (PVal.int IntKind.u8 (0))], fields := [], eSize := 0, eBytes := 0, eZero := false, kKind := Kd.other, eZV := none, kind := Kd.int IntKind.u8, eqs := none }
def ty159 : Ty := { size := 1, bytes := 1, agg := false, zero := some [AVal.pv (PVal.int IntKind.u8 (0))], fields := [], eSize := 0, eBytes := 0, eZero := false, kKind := Kd.other, eZV := none, kind := Kd.int IntKind.u8, eqs := none }
def ty161 : Ty := { size := 1, bytes := 4, agg := false, zero := some [AVal.pv (PVal.int IntKind.i32 (0))], fields := [], eSize := 0, eBytes := 0, eZero := false, kKind := Kd.other, eZV := none, kind := Kd.int IntKind.i32, eqs := none }
def ty162 : Ty := { size := 1, bytes := 4, agg := false, zero := some [AVal.pv (PVal.int IntKind.i32 (0))], fields := [], eSize := 0, eBytes := 0, eZero := false, kKind := Kd.other, eZV := none, kind := Kd.int IntKind.i32, eqs := none }
def ty165 : Ty := { size := 1, bytes := 8, agg := false, zero := some [AVal.pv PVal.nilptr], fields := [], eSize := 0, eBytes := 0, eZero := false, kKind := Kd.other, eZV := none, kind := Kd.other, eqs := none }
def tyF : Nat → Option Ty
  | 2 => some ty2
  | 3 => some ty3
  | 4 => some ty4
  | 5 => some ty5
  | 6 => some ty6
  | 7 => some ty7
  | 8 => some ty8
  | 9 => some ty9
  | 10 => some ty10
  | 11 => some ty11
  | 12 => some ty12
  | 13 => some ty13
  | 14 => some ty14
  | 15 => some ty15
  | 16 => some ty16
  | 17 => some ty17
  | 18 => some ty18
  | 19 => some ty19
  | 20 => some ty20
  | 21 => some ty21
  | 23 => some ty23
  | 24 => some ty24
  | 25 => some ty25
  | 26 => some ty26
  | 27 => some ty27
  | 28 => some ty28
  | 29 => some ty29
  | 32 => some ty32
  | 33 => some ty33
  | 34 => some ty34
  | 35 => some ty35
  | 36 => some ty36
  | 40 => some ty40
  | 41 => some ty41
  | 48 => some ty48
  | 50 => some ty50
  | 55 => some ty55
  | 56 => some ty56
  | 59 => some ty59
  | 60 => some ty60
  | 63 => some ty63
  | 64 => some ty64
  | 66 => some ty66
  | 68 => some ty68
  | 70 => some ty70
  | 71 => some ty71
  | 74 => some ty74
  | 75 => some ty75
  | 77 => some ty77
  | 78 => some ty78
  | 79 => some ty79
  | 81 => some ty81
  | 83 => some ty83
  | 84 => some ty84
  | 87 => some ty87
  | 90 => some ty90
  | 99 => some ty99
  | 100 => some ty100
  | 101 => some ty101
  | 104 => some ty104
  | 107 => some ty107
  | 108 => some ty108
  | 118 => some ty118
  | 119 => some ty119
  | 125 => some ty125
  | 128 => some ty128
  | 129 => some ty129
  | 136 => some ty136
  | 137 => some ty137
  | 138 => some ty138
  | 143 => some ty143
  | 144 => some ty144
  | 147 => some ty147
  | 148 => some ty148
  | 149 => some ty149
  | 150 => some ty150
  | 151 => some ty151
  | 152 => some ty152
  | 153 => some ty153
  | 154 => some ty154
  | 155 => some ty155
  | 156 => some ty156
  | 157 => some ty157
  | 158 => some ty158
  | 159 => some ty159
  | 161 => some ty161
  | 162 => some ty162
  | 165 => some ty165
  | _ => none
def gl : Nat → Option (List PVal)
  | 0 => some [.str [120], .str [121], .str [122]]
  | 1 => some [.str [97], .str [98]]
  | 3 => some [.int .u64 1, .int .u64 10, .int .u64 100, .int .u64 1000, .int .u64 10000, .int .u64 100000, .int .u64 1000000, .int .u64 10000000, .int .u64 100000000, .int .u64 1000000000, .int .u64 10000000000, .int .u64 100000000000, .int .u64 1000000000000, .int .u64 10000000000000, .int .u64 100000000000000, .int .u64 1000000000000000, .int .u64 10000000000000000, .int .u64 100000000000000000, .int .u64 1000000000000000000, .int .u64 10000000000000000000]
  | 5 => some [.err false]
  | _ => none
theorem gl_0 : gl 0 = some [.str [120], .str [121], .str [122]] := rfl
theorem gl_1 : gl 1 = some [.str [97], .str [98]] := rfl
theorem gl_3 : gl 3 = some [.int .u64 1, .int .u64 10, .int .u64 100, .int .u64 1000, .int .u64 10000, .int .u64 100000, .int .u64 1000000, .int .u64 10000000, .int .u64 100000000, .int .u64 1000000000, .int .u64 10000000000, .int .u64 100000000000, .int .u64 1000000000000, .int .u64 10000000000000, .int .u64 100000000000000, .int .u64 1000000000000000, .int .u64 10000000000000000, .int .u64 100000000000000000, .int .u64 1000000000000000000, .int .u64 10000000000000000000] := rfl
theorem gl_5 : gl 5 = some [.err false] := rfl
def envOf (site : Nat → Nat) (nobj : Nat) : Env := ⟨tyF, gl, site, nobj⟩
set_option maxRecDepth 100000 in
theorem envOK (site : Nat → Nat) (nobj : Nat) : EnvOK Tryd.prog (envOf site nobj) := by
  intro t ty h
  change tyF t = some ty at h
  unfold tyF at h
  split at h <;> first | (cases h; done) | (cases h; kernel_rfl)
theorem enters (f : FuncId) {fn : Func} (hf : Tryd.prog.funcs[f]? = some fn) (hn : (fn.name == "runtime.NumGoroutine" || fn.body.isNone) = false) (vargs : Array Value) (w : World) : (callFunc f vargs).run Tryd.prog w = .ok (.enter f vargs) w := by
  simp only [Bool.or_eq_false_iff] at hn
  obtain ⟨h1, h2⟩ := hn
  unfold callFunc
  simp only [Sem.run_bind, run_program, Result.andThen, hf, h1, h2, Bool.false_eq_true, if_false, Sem.run_pure]
theorem mixed : Tryd.prog.follows .mixedOrders = true := by kernel_rfl
theorem env_ty (site : Nat → Nat) (nobj t : Nat) : (envOf site nobj).ty t = tyF t := rfl
theorem env_gl (site : Nat → Nat) (nobj t : Nat) : (envOf site nobj).gl t = gl t := rfl
theorem env_site (site : Nat → Nat) (nobj t : Nat) : (envOf site nobj).site t = site t := rfl
theorem env_nobj (site : Nat → Nat) (nobj : Nat) : (envOf site nobj).nobj = nobj := rfl
theorem tyX3 : tyF 3 = some ty3 := rfl
theorem tyD3 : ty3 = { size := 1, bytes := 8, agg := false, zero := some [AVal.pv (PVal.int IntKind.i64 (0))], fields := [], eSize := 0, eBytes := 0, eZero := false, kKind := Kd.other, eZV := none, kind := Kd.int IntKind.i64, eqs := none } := rfl
theorem tyX4 : tyF 4 = some ty4 := rfl
theorem tyD4 : ty4 = { size := 1, bytes := 1, agg := false, zero := some [AVal.pv (PVal.bool false)], fields := [], eSize := 0, eBytes := 0, eZero := false, kKind := Kd.other, eZV := none, kind := Kd.bool, eqs := none } := rfl
theorem tyX5 : tyF 5 = some ty5 := rfl
theorem tyD5 : ty5 = { size := 1, bytes := 1, agg := false, zero := some [AVal.pv (PVal.int IntKind.u8 (0))], fields := [], eSize := 0, eBytes := 0, eZero := false, kKind := Kd.other, eZV := none, kind := Kd.int IntKind.u8, eqs := none } := rfl
theorem tyX9 : tyF 9 = some ty9 := rfl
theorem tyD9 : ty9 = { size := 1, bytes := 16, agg := false, zero := some [AVal.pv (PVal.str [])], fields := [], eSize := 0, eBytes := 0, eZero := false, kKind := Kd.other, eZV := none, kind := Kd.string, eqs := none } := rfl
theorem tyX20 : tyF 20 = some ty20 := rfl
theorem tyD20 : ty20 = { size := 1, bytes := 16, agg := false, zero := some [AVal.pv (PVal.err true)], fields := [], eSize := 0, eBytes := 0, eZero := false, kKind := Kd.other, eZV := none, kind := Kd.iface, eqs := none } := rfl
theorem tyX23 : tyF 23 = some ty23 := rfl
theorem tyD23 : ty23 = { size := 1, bytes := 24, agg := false, zero := some [AVal.snil], fields := [], eSize := 1, eBytes := 16, eZero := true, kKind := Kd.string, eZV := some (false, [PVal.str []]), kind := Kd.slice, eqs := none } := rfl
theorem tyX24 : tyF 24 = some ty24 := rfl
theorem tyD24 : ty24 = { size := 1, bytes := 24, agg := false, zero := some [AVal.snil], fields := [], eSize := 1, eBytes := 8, eZero := true, kKind := Kd.int IntKind.i64, eZV := some (false, [PVal.int IntKind.i64 (0)]), kind := Kd.slice, eqs := none } := rfl
theorem tyX25 : tyF 25 = some ty25 := rfl
theorem tyD25 : ty25 = { size := 1, bytes := 24, agg := false, zero := some [AVal.snil], fields := [], eSize := 3, eBytes := 32, eZero := true, kKind := Kd.other, eZV := some (true, [PVal.str [], PVal.int IntKind.i64 (0), PVal.int IntKind.i64 (0)]), kind := Kd.slice, eqs := none } := rfl
theorem tyX26 : tyF 26 = some ty26 := rfl
theorem tyD26 : ty26 = { size := 1, bytes := 24, agg := false, zero := some [AVal.snil], fields := [], eSize := 18, eBytes := 232, eZero := true, kKind := Kd.other, eZV := some (true, [PVal.int IntKind.i64 (0), PVal.str [], PVal.int IntKind.i64 (0), PVal.int IntKind.i64 (0), PVal.int IntKind.i64 (0), PVal.int IntKind.i64 (0), PVal.str [], PVal.int IntKind.i64 (0), PVal.int IntKind.i64 (0), PVal.slice [], PVal.int IntKind.i64 (0), PVal.int IntKind.i64 (0), PVal.str [], PVal.int IntKind.i64 (0), PVal.int IntKind.i64 (0), PVal.slice [], PVal.slice [], PVal.slice []]), kind := Kd.slice, eqs := none } := rfl
theorem tyX28 : tyF 28 = some ty28 := rfl
theorem tyD28 : ty28 = { size := 5, bytes := 120, agg := true, zero := some [AVal.snil, AVal.snil, AVal.snil, AVal.snil, AVal.snil], fields := [(0, 1), (1, 1), (2, 1), (3, 1), (4, 1)], eSize := 0, eBytes := 0, eZero := false, kKind := Kd.other, eZV := none, kind := Kd.struct, eqs := none } := rfl
theorem tyX29 : tyF 29 = some ty29 := rfl
theorem tyD29 : ty29 = { size := 1, bytes := 8, agg := false, zero := some [AVal.pv (PVal.int IntKind.i64 (0))], fields := [], eSize := 0, eBytes := 0, eZero := false, kKind := Kd.other, eZV := none, kind := Kd.int IntKind.i64, eqs := none } := rfl
theorem tyX32 : tyF 32 = some ty32 := rfl
theorem tyD32 : ty32 = { size := 1, bytes := 24, agg := false, zero := some [AVal.snil], fields := [], eSize := 6, eBytes := 72, eZero := true, kKind := Kd.other, eZV := some (true, [PVal.int IntKind.i64 (0), PVal.int IntKind.i64 (0), PVal.str [], PVal.int IntKind.i64 (0), PVal.int IntKind.i64 (0), PVal.slice []]), kind := Kd.slice, eqs := none } := rfl
theorem tyX34 : tyF 34 = some ty34 := rfl
theorem tyD34 : ty34 = { size := 6, bytes := 72, agg := true, zero := some [AVal.pv (PVal.int IntKind.i64 (0)), AVal.pv (PVal.int IntKind.i64 (0)), AVal.pv (PVal.str []), AVal.pv (PVal.int IntKind.i64 (0)), AVal.pv (PVal.int IntKind.i64 (0)), AVal.snil], fields := [(0, 1), (1, 1), (2, 1), (3, 1), (4, 1), (5, 1)], eSize := 0, eBytes := 0, eZero := false, kKind := Kd.other, eZV := none, kind := Kd.struct, eqs := none } := rfl
theorem tyX36 : tyF 36 = some ty36 := rfl
theorem tyD36 : ty36 = { size := 18, bytes := 232, agg := true, zero := some [AVal.pv (PVal.int IntKind.i64 (0)), AVal.pv (PVal.str []), AVal.pv (PVal.int IntKind.i64 (0)), AVal.pv (PVal.int IntKind.i64 (0)), AVal.pv (PVal.int IntKind.i64 (0)), AVal.pv (PVal.int IntKind.i64 (0)), AVal.pv (PVal.str []), AVal.pv (PVal.int IntKind.i64 (0)), AVal.pv (PVal.int IntKind.i64 (0)), AVal.snil, AVal.pv (PVal.int IntKind.i64 (0)), AVal.pv (PVal.int IntKind.i64 (0)), AVal.pv (PVal.str []), AVal.pv (PVal.int IntKind.i64 (0)), AVal.pv (PVal.int IntKind.i64 (0)), AVal.snil, AVal.snil, AVal.snil], fields := [(0, 1), (1, 1), (2, 1), (3, 1), (4, 6), (10, 6), (16, 1), (17, 1)], eSize := 0, eBytes := 0, eZero := false, kKind := Kd.other, eZV := none, kind := Kd.struct, eqs := none } := rfl
theorem tyX40 : tyF 40 = some ty40 := rfl
theorem tyD40 : ty40 = { size := 1, bytes := 24, agg := false, zero := some [AVal.snil], fields := [], eSize := 1, eBytes := 1, eZero := true, kKind := Kd.int IntKind.u8, eZV := some (false, [PVal.int IntKind.u8 (0)]), kind := Kd.slice, eqs := none } := rfl
theorem tyX41 : tyF 41 = some ty41 := rfl
theorem tyD41 : ty41 = { size := 1, bytes := 8, agg := false, zero := some [AVal.pv PVal.nilptr], fields := [], eSize := 0, eBytes := 0, eZero := false, kKind := Kd.other, eZV := none, kind := Kd.other, eqs := none } := rfl
theorem tyX48 : tyF 48 = some ty48 := rfl
theorem tyD48 : ty48 = { size := 1, bytes := 24, agg := false, zero := some [AVal.snil], fields := [], eSize := 5, eBytes := 120, eZero := true, kKind := Kd.other, eZV := some (true, [PVal.slice [], PVal.slice [], PVal.slice [], PVal.slice [], PVal.slice []]), kind := Kd.slice, eqs := none } := rfl
theorem tyX50 : tyF 50 = some ty50 := rfl
theorem tyD50 : ty50 = { size := 1, bytes := 24, agg := false, zero := some [AVal.snil], fields := [], eSize := 4, eBytes := 40, eZero := true, kKind := Kd.other, eZV := some (true, [PVal.int IntKind.i64 (0), PVal.str [], PVal.int IntKind.i64 (0), PVal.int IntKind.i64 (0)]), kind := Kd.slice, eqs := none } := rfl
theorem tyX56 : tyF 56 = some ty56 := rfl
theorem tyD56 : ty56 = { size := 3, bytes := 32, agg := true, zero := some [AVal.pv (PVal.str []), AVal.pv (PVal.int IntKind.i64 (0)), AVal.pv (PVal.int IntKind.i64 (0))], fields := [(0, 1), (1, 1), (2, 1)], eSize := 0, eBytes := 0, eZero := false, kKind := Kd.other, eZV := none, kind := Kd.struct, eqs := some [Kd.string, Kd.int IntKind.i64, Kd.int IntKind.i64] } := rfl
theorem tyX60 : tyF 60 = some ty60 := rfl
theorem tyD60 : ty60 = { size := 2, bytes := 32, agg := true, zero := some [AVal.snil, AVal.pv (PVal.int IntKind.i64 (0))], fields := [(0, 1), (1, 1)], eSize := 0, eBytes := 0, eZero := false, kKind := Kd.other, eZV := none, kind := Kd.struct, eqs := none } := rfl
theorem tyX64 : tyF 64 = some ty64 := rfl
theorem tyD64 : ty64 = { size := 1, bytes := 24, agg := true, zero := some [AVal.snil], fields := [(0, 1)], eSize := 0, eBytes := 0, eZero := false, kKind := Kd.other, eZV := none, kind := Kd.struct, eqs := none } := rfl
theorem tyX66 : tyF 66 = some ty66 := rfl
theorem tyD66 : ty66 = { size := 3, bytes := 48, agg := true, zero := some [AVal.pv (PVal.str []), AVal.pv (PVal.str []), AVal.pv (PVal.str [])], fields := [], eSize := 1, eBytes := 16, eZero := true, kKind := Kd.string, eZV := none, kind := Kd.array 3, eqs := none } := rfl
theorem tyX68 : tyF 68 = some ty68 := rfl
theorem tyD68 : ty68 = { size := 2, bytes := 32, agg := true, zero := some [AVal.pv (PVal.str []), AVal.pv (PVal.str [])], fields := [], eSize := 1, eBytes := 16, eZero := true, kKind := Kd.string, eZV := none, kind := Kd.array 2, eqs := none } := rfl
theorem tyX71 : tyF 71 = some ty71 := rfl
theorem tyD71 : ty71 = { size := 4, bytes := 40, agg := true, zero := some [AVal.pv (PVal.int IntKind.i64 (0)), AVal.pv (PVal.str []), AVal.pv (PVal.int IntKind.i64 (0)), AVal.pv (PVal.int IntKind.i64 (0))], fields := [(0, 1), (1, 1), (2, 1), (3, 1)], eSize := 0, eBytes := 0, eZero := false, kKind := Kd.other, eZV := none, kind := Kd.struct, eqs := some [Kd.int IntKind.i64, Kd.string, Kd.int IntKind.i64, Kd.int IntKind.i64] } := rfl
theorem tyX75 : tyF 75 = some ty75 := rfl
theorem tyD75 : ty75 = { size := 1, bytes := 8, agg := true, zero := some [AVal.pv (PVal.int IntKind.i64 (0))], fields := [(0, 1)], eSize := 0, eBytes := 0, eZero := false, kKind := Kd.other, eZV := none, kind := Kd.struct, eqs := some [Kd.int IntKind.i64] } := rfl
theorem tyX77 : tyF 77 = some ty77 := rfl
theorem tyD77 : ty77 = { size := 1, bytes := 8, agg := false, zero := some [AVal.pv PVal.nilptr], fields := [], eSize := 0, eBytes := 0, eZero := false, kKind := Kd.other, eZV := none, kind := Kd.other, eqs := none } := rfl
theorem tyX79 : tyF 79 = some ty79 := rfl
theorem tyD79 : ty79 = { size := 3, bytes := 40, agg := true, zero := some [AVal.snil, AVal.pv (PVal.int IntKind.i64 (0)), AVal.pv (PVal.int IntKind.i64 (0))], fields := [(0, 1), (1, 1), (2, 1)], eSize := 0, eBytes := 0, eZero := false, kKind := Kd.other, eZV := none, kind := Kd.struct, eqs := none } := rfl
theorem tyX81 : tyF 81 = some ty81 := rfl
theorem tyD81 : ty81 = { size := 4, bytes := 4, agg := true, zero := some [AVal.pv (PVal.bool false), AVal.pv (PVal.bool false), AVal.pv (PVal.bool false), AVal.pv (PVal.bool false)], fields := [], eSize := 1, eBytes := 1, eZero := true, kKind := Kd.bool, eZV := none, kind := Kd.array 4, eqs := none } := rfl
theorem tyX83 : tyF 83 = some ty83 := rfl
theorem tyD83 : ty83 = { size := 1, bytes := 8, agg := false, zero := some [AVal.pv PVal.nilptr], fields := [], eSize := 0, eBytes := 0, eZero := false, kKind := Kd.other, eZV := none, kind := Kd.other, eqs := none } := rfl
theorem tyX84 : tyF 84 = some ty84 := rfl
theorem tyD84 : ty84 = { size := 1, bytes := 8, agg := false, zero := some [AVal.pv PVal.nilptr], fields := [], eSize := 0, eBytes := 0, eZero := false, kKind := Kd.other, eZV := none, kind := Kd.other, eqs := none } := rfl
theorem tyX87 : tyF 87 = some ty87 := rfl
theorem tyD87 : ty87 = { size := 1, bytes := 8, agg := false, zero := some [AVal.pv PVal.nilptr], fields := [], eSize := 0, eBytes := 0, eZero := false, kKind := Kd.other, eZV := none, kind := Kd.other, eqs := none } := rfl
theorem tyX90 : tyF 90 = some ty90 := rfl
theorem tyD90 : ty90 = { size := 1, bytes := 8, agg := false, zero := some [AVal.pv PVal.nilptr], fields := [], eSize := 0, eBytes := 0, eZero := false, kKind := Kd.other, eZV := none, kind := Kd.other, eqs := none } := rfl
theorem tyX99 : tyF 99 = some ty99 := rfl
theorem tyD99 : ty99 = { size := 1, bytes := 8, agg := false, zero := some [AVal.pv PVal.nilptr], fields := [], eSize := 0, eBytes := 0, eZero := false, kKind := Kd.other, eZV := none, kind := Kd.other, eqs := none } := rfl
theorem tyX100 : tyF 100 = some ty100 := rfl
theorem tyD100 : ty100 = { size := 4, bytes := 32, agg := true, zero := some [AVal.pv PVal.nilptr, AVal.pv PVal.nilptr, AVal.pv PVal.nilptr, AVal.pv PVal.nilptr], fields := [], eSize := 1, eBytes := 8, eZero := true, kKind := Kd.other, eZV := none, kind := Kd.array 4, eqs := none } := rfl
theorem tyX101 : tyF 101 = some ty101 := rfl
theorem tyD101 : ty101 = { size := 4, bytes := 64, agg := true, zero := some [AVal.pv (PVal.str []), AVal.pv (PVal.str []), AVal.pv (PVal.str []), AVal.pv (PVal.str [])], fields := [], eSize := 1, eBytes := 16, eZero := true, kKind := Kd.string, eZV := none, kind := Kd.array 4, eqs := none } := rfl
theorem tyX104 : tyF 104 = some ty104 := rfl
theorem tyD104 : ty104 = { size := 1, bytes := 8, agg := false, zero := some [AVal.pv PVal.nilptr], fields := [], eSize := 0, eBytes := 0, eZero := false, kKind := Kd.other, eZV := none, kind := Kd.other, eqs := none } := rfl
theorem tyX108 : tyF 108 = some ty108 := rfl
theorem tyD108 : ty108 = { size := 1, bytes := 16, agg := false, zero := some [AVal.pv (PVal.err true)], fields := [], eSize := 0, eBytes := 0, eZero := false, kKind := Kd.other, eZV := none, kind := Kd.iface, eqs := none } := rfl
def tyS := And.intro @env_ty <| And.intro @env_site <| And.intro @env_nobj <| And.intro @env_gl <| And.intro gl_0 <| And.intro gl_1 <| And.intro gl_3 <| gl_5
def tq6 := And.intro tyS <| And.intro tyX3 <| And.intro tyD3 <| And.intro tyX4 <| And.intro tyD4 <| And.intro tyX5 <| And.intro tyD5 <| And.intro tyX9 <| And.intro tyD9 <| And.intro tyX23 <| And.intro tyD23 <| And.intro tyX26 <| And.intro tyD26 <| And.intro tyX28 <| And.intro tyD28 <| And.intro tyX29 <| And.intro tyD29 <| And.intro tyX40 <| And.intro tyD40 <| And.intro tyX41 <| And.intro tyD41 <| And.intro tyX48 <| tyD48
def tq7 := And.intro tyS <| And.intro tyX3 <| And.intro tyD3 <| And.intro tyX9 <| And.intro tyD9 <| And.intro tyX26 <| And.intro tyD26 <| And.intro tyX28 <| And.intro tyD28 <| And.intro tyX29 <| And.intro tyD29 <| And.intro tyX34 <| And.intro tyD34 <| And.intro tyX36 <| tyD36
def tq8 := And.intro tyS <| And.intro tyX3 <| And.intro tyD3 <| And.intro tyX4 <| And.intro tyD4 <| And.intro tyX9 <| And.intro tyD9 <| And.intro tyX28 <| And.intro tyD28 <| And.intro tyX29 <| And.intro tyD29 <| And.intro tyX50 <| tyD50
def tq9 := And.intro tyS <| And.intro tyX3 <| And.intro tyD3 <| And.intro tyX25 <| And.intro tyD25 <| And.intro tyX26 <| And.intro tyD26 <| And.intro tyX28 <| And.intro tyD28 <| And.intro tyX56 <| tyD56
def tq10 := And.intro tyS <| And.intro tyX3 <| And.intro tyD3 <| And.intro tyX26 <| And.intro tyD26 <| And.intro tyX28 <| tyD28
def tq11 := And.intro tyS <| And.intro tyX3 <| And.intro tyD3 <| And.intro tyX40 <| And.intro tyD40 <| And.intro tyX60 <| tyD60
def tq13 := And.intro tyS <| And.intro tyX3 <| And.intro tyD3 <| And.intro tyX9 <| And.intro tyD9 <| And.intro tyX28 <| And.intro tyD28 <| And.intro tyX29 <| And.intro tyD29 <| And.intro tyX40 <| And.intro tyD40 <| And.intro tyX64 <| tyD64
def tq14 := And.intro tyS <| And.intro tyX3 <| And.intro tyD3 <| And.intro tyX9 <| And.intro tyD9 <| And.intro tyX26 <| And.intro tyD26 <| And.intro tyX36 <| And.intro tyD36 <| And.intro tyX41 <| And.intro tyD41 <| And.intro tyX66 <| And.intro tyD66 <| And.intro tyX68 <| tyD68
def tq15 := And.intro tyS <| And.intro tyX3 <| And.intro tyD3 <| And.intro tyX5 <| And.intro tyD5 <| And.intro tyX9 <| And.intro tyD9 <| And.intro tyX29 <| And.intro tyD29 <| And.intro tyX50 <| And.intro tyD50 <| And.intro tyX71 <| tyD71
def tq16 := And.intro tyS <| And.intro tyX3 <| And.intro tyD3 <| And.intro tyX4 <| And.intro tyD4 <| And.intro tyX25 <| And.intro tyD25 <| And.intro tyX28 <| And.intro tyD28 <| And.intro tyX50 <| And.intro tyD50 <| And.intro tyX77 <| And.intro tyD77 <| And.intro tyX79 <| And.intro tyD79 <| And.intro tyX81 <| And.intro tyD81 <| And.intro tyX83 <| And.intro tyD83 <| And.intro tyX84 <| tyD84
def tq17 := And.intro tyS <| And.intro tyX3 <| And.intro tyD3 <| And.intro tyX4 <| And.intro tyD4 <| And.intro tyX9 <| And.intro tyD9 <| And.intro tyX26 <| And.intro tyD26 <| And.intro tyX34 <| And.intro tyD34 <| And.intro tyX36 <| tyD36
def tq18 := And.intro tyS <| And.intro tyX3 <| And.intro tyD3 <| And.intro tyX26 <| And.intro tyD26 <| And.intro tyX87 <| tyD87
def tq19 := And.intro tyS <| And.intro tyX3 <| And.intro tyD3 <| And.intro tyX4 <| And.intro tyD4 <| And.intro tyX5 <| And.intro tyD5 <| And.intro tyX40 <| And.intro tyD40 <| And.intro tyX41 <| And.intro tyD41 <| And.intro tyX60 <| tyD60
def tq20 := And.intro tyS <| And.intro tyX3 <| And.intro tyD3 <| And.intro tyX4 <| And.intro tyD4 <| And.intro tyX25 <| And.intro tyD25 <| And.intro tyX26 <| And.intro tyD26 <| And.intro tyX28 <| And.intro tyD28 <| And.intro tyX56 <| tyD56
def tq21 := And.intro tyS <| And.intro tyX3 <| And.intro tyD3 <| And.intro tyX9 <| And.intro tyD9 <| And.intro tyX23 <| And.intro tyD23 <| And.intro tyX25 <| And.intro tyD25 <| And.intro tyX26 <| And.intro tyD26 <| And.intro tyX28 <| And.intro tyD28 <| And.intro tyX56 <| And.intro tyD56 <| And.intro tyX90 <| tyD90
def tq22 := And.intro tyS <| And.intro tyX3 <| And.intro tyD3 <| And.intro tyX9 <| And.intro tyD9 <| And.intro tyX24 <| And.intro tyD24 <| And.intro tyX32 <| And.intro tyD32 <| And.intro tyX34 <| And.intro tyD34 <| And.intro tyX41 <| And.intro tyD41 <| And.intro tyX66 <| And.intro tyD66 <| And.intro tyX68 <| tyD68
def tq23 := And.intro tyS <| And.intro tyX3 <| And.intro tyD3 <| And.intro tyX5 <| And.intro tyD5 <| And.intro tyX9 <| tyD9
def tq24 := And.intro tyS <| And.intro tyX3 <| And.intro tyD3 <| And.intro tyX5 <| And.intro tyD5 <| And.intro tyX9 <| And.intro tyD9 <| And.intro tyX71 <| tyD71
def tq25 := And.intro tyS <| And.intro tyX3 <| And.intro tyD3 <| And.intro tyX4 <| And.intro tyD4 <| And.intro tyX20 <| And.intro tyD20 <| And.intro tyX28 <| And.intro tyD28 <| And.intro tyX75 <| tyD75
def tq26 := And.intro tyS <| And.intro tyX3 <| And.intro tyD3 <| And.intro tyX9 <| And.intro tyD9 <| And.intro tyX25 <| And.intro tyD25 <| And.intro tyX56 <| And.intro tyD56 <| And.intro tyX77 <| tyD77
def tq27 := And.intro tyS <| And.intro tyX3 <| And.intro tyD3 <| And.intro tyX4 <| And.intro tyD4 <| And.intro tyX9 <| And.intro tyD9 <| And.intro tyX26 <| And.intro tyD26 <| And.intro tyX28 <| And.intro tyD28 <| And.intro tyX77 <| And.intro tyD77 <| And.intro tyX81 <| And.intro tyD81 <| And.intro tyX99 <| And.intro tyD99 <| And.intro tyX100 <| And.intro tyD100 <| And.intro tyX101 <| tyD101
def tq28 := And.intro tyS <| And.intro tyX3 <| And.intro tyD3 <| And.intro tyX4 <| And.intro tyD4 <| And.intro tyX9 <| And.intro tyD9 <| And.intro tyX32 <| And.intro tyD32 <| And.intro tyX34 <| tyD34
def tq29 := And.intro tyS <| And.intro tyX3 <| And.intro tyD3 <| And.intro tyX26 <| And.intro tyD26 <| And.intro tyX36 <| And.intro tyD36 <| And.intro tyX104 <| tyD104
def tq30 := And.intro tyS <| And.intro tyX3 <| And.intro tyD3 <| And.intro tyX40 <| And.intro tyD40 <| And.intro tyX60 <| tyD60
def tq31 := And.intro tyS <| And.intro tyX3 <| And.intro tyD3 <| And.intro tyX4 <| And.intro tyD4 <| And.intro tyX9 <| And.intro tyD9 <| And.intro tyX56 <| tyD56
def tq32 := And.intro tyS <| And.intro tyX3 <| And.intro tyD3 <| And.intro tyX4 <| And.intro tyD4 <| And.intro tyX26 <| And.intro tyD26 <| And.intro tyX87 <| tyD87
def tq33 := And.intro tyS <| And.intro tyX3 <| And.intro tyD3 <| And.intro tyX9 <| And.intro tyD9 <| And.intro tyX23 <| And.intro tyD23 <| And.intro tyX40 <| And.intro tyD40 <| And.intro tyX64 <| tyD64
def tq35 := And.intro tyS <| And.intro tyX3 <| And.intro tyD3 <| And.intro tyX23 <| And.intro tyD23 <| And.intro tyX26 <| And.intro tyD26 <| And.intro tyX90 <| tyD90
def tq37 := And.intro tyS <| And.intro tyX5 <| tyD5
def tq38 := And.intro tyS <| And.intro tyX3 <| And.intro tyD3 <| And.intro tyX5 <| And.intro tyD5 <| And.intro tyX9 <| tyD9
def tq39 := And.intro tyS <| And.intro tyX5 <| tyD5
def tq40 := And.intro tyS <| And.intro tyX3 <| And.intro tyD3 <| And.intro tyX5 <| And.intro tyD5 <| And.intro tyX9 <| And.intro tyD9 <| And.intro tyX71 <| And.intro tyD71 <| And.intro tyX108 <| tyD108
def tq41 := And.intro tyS <| And.intro tyX3 <| And.intro tyD3 <| And.intro tyX5 <| And.intro tyD5 <| And.intro tyX9 <| tyD9
def tq42 := And.intro tyS <| And.intro tyX3 <| And.intro tyD3 <| And.intro tyX9 <| And.intro tyD9 <| And.intro tyX77 <| And.intro tyD77 <| And.intro tyX79 <| tyD79
def tq43 := And.intro tyS <| And.intro tyX3 <| And.intro tyD3 <| And.intro tyX4 <| And.intro tyD4 <| And.intro tyX9 <| And.intro tyD9 <| And.intro tyX50 <| And.intro tyD50 <| And.intro tyX71 <| And.intro tyD71 <| And.intro tyX77 <| And.intro tyD77 <| And.intro tyX79 <| tyD79
def tq44 := And.intro tyS <| And.intro tyX3 <| And.intro tyD3 <| And.intro tyX50 <| And.intro tyD50 <| And.intro tyX71 <| And.intro tyD71 <| And.intro tyX77 <| And.intro tyD77 <| And.intro tyX79 <| tyD79
def tq45 := And.intro tyS <| And.intro tyX4 <| And.intro tyD4 <| And.intro tyX9 <| And.intro tyD9 <| And.intro tyX77 <| tyD77
def tq46 := And.intro tyS <| And.intro tyX4 <| And.intro tyD4 <| And.intro tyX9 <| And.intro tyD9 <| And.intro tyX26 <| And.intro tyD26 <| And.intro tyX77 <| tyD77
def tq47 := And.intro tyS <| And.intro tyX3 <| And.intro tyD3 <| And.intro tyX50 <| And.intro tyD50 <| And.intro tyX71 <| And.intro tyD71 <| And.intro tyX75 <| And.intro tyD75 <| And.intro tyX79 <| tyD79
def tq48 := And.intro tyS <| And.intro tyX3 <| And.intro tyD3 <| And.intro tyX32 <| And.intro tyD32 <| And.intro tyX34 <| And.intro tyD34 <| And.intro tyX104 <| tyD104
def tq49 := And.intro tyS <| And.intro tyX3 <| And.intro tyD3 <| And.intro tyX4 <| And.intro tyD4 <| And.intro tyX5 <| And.intro tyD5 <| And.intro tyX9 <| tyD9
def tq50 := And.intro tyS <| And.intro tyX3 <| And.intro tyD3 <| And.intro tyX4 <| And.intro tyD4 <| And.intro tyX9 <| And.intro tyD9 <| And.intro tyX26 <| And.intro tyD26 <| And.intro tyX36 <| And.intro tyD36 <| And.intro tyX104 <| tyD104
def tq52 := And.intro tyS <| And.intro tyX3 <| And.intro tyD3 <| And.intro tyX26 <| And.intro tyD26 <| And.intro tyX87 <| And.intro tyD87 <| And.intro tyX90 <| tyD90
def tq55 := And.intro tyS <| And.intro tyX3 <| And.intro tyD3 <| And.intro tyX9 <| And.intro tyD9 <| And.intro tyX50 <| And.intro tyD50 <| And.intro tyX71 <| And.intro tyD71 <| And.intro tyX79 <| tyD79
def tq56 := And.intro tyS <| And.intro tyX3 <| And.intro tyD3 <| And.intro tyX9 <| And.intro tyD9 <| And.intro tyX26 <| And.intro tyD26 <| And.intro tyX34 <| And.intro tyD34 <| And.intro tyX36 <| And.intro tyD36 <| And.intro tyX77 <| tyD77
def tq57 := And.intro tyS <| And.intro tyX9 <| tyD9
def tq58 := And.intro tyS <| And.intro tyX9 <| tyD9
def tq59 := And.intro tyS <| And.intro tyX3 <| And.intro tyD3 <| And.intro tyX4 <| And.intro tyD4 <| And.intro tyX9 <| And.intro tyD9 <| And.intro tyX32 <| And.intro tyD32 <| And.intro tyX34 <| And.intro tyD34 <| And.intro tyX104 <| tyD104
def tq60 := And.intro tyS <| And.intro tyX3 <| And.intro tyD3 <| And.intro tyX9 <| And.intro tyD9 <| And.intro tyX32 <| And.intro tyD32 <| And.intro tyX34 <| tyD34
def tq62 := And.intro tyS <| And.intro tyX3 <| And.intro tyD3 <| And.intro tyX23 <| And.intro tyD23 <| And.intro tyX90 <| tyD90
def tq63 := And.intro tyS <| And.intro tyX3 <| And.intro tyD3 <| And.intro tyX9 <| And.intro tyD9 <| And.intro tyX23 <| And.intro tyD23 <| And.intro tyX36 <| And.intro tyD36 <| And.intro tyX87 <| And.intro tyD87 <| And.intro tyX90 <| And.intro tyD90 <| And.intro tyX104 <| tyD104
def tq67 := And.intro tyS <| And.intro tyX3 <| And.intro tyD3 <| And.intro tyX32 <| And.intro tyD32 <| And.intro tyX34 <| And.intro tyD34 <| And.intro tyX77 <| tyD77
def tq68 := And.intro tyS <| And.intro tyX3 <| tyD3
def tq73 := And.intro tyS <| And.intro tyX3 <| And.intro tyD3 <| And.intro tyX23 <| And.intro tyD23 <| And.intro tyX26 <| And.intro tyD26 <| And.intro tyX36 <| And.intro tyD36 <| And.intro tyX90 <| And.intro tyD90 <| And.intro tyX104 <| tyD104
def tq74 := And.intro tyS <| And.intro tyX3 <| And.intro tyD3 <| And.intro tyX9 <| And.intro tyD9 <| And.intro tyX23 <| And.intro tyD23 <| And.intro tyX32 <| And.intro tyD32 <| And.intro tyX34 <| And.intro tyD34 <| And.intro tyX90 <| And.intro tyD90 <| And.intro tyX104 <| tyD104
def tq80 := And.intro tyS <| And.intro tyX9 <| And.intro tyD9 <| And.intro tyX32 <| And.intro tyD32 <| And.intro tyX34 <| And.intro tyD34 <| And.intro tyX77 <| tyD77
def tq81 := And.intro tyS <| And.intro tyX3 <| And.intro tyD3 <| And.intro tyX9 <| And.intro tyD9 <| And.intro tyX77 <| And.intro tyD77 <| And.intro tyX79 <| tyD79
def tq82 := And.intro tyS <| And.intro tyX3 <| And.intro tyD3 <| And.intro tyX9 <| tyD9
def tq88 := And.intro tyS <| And.intro tyX3 <| tyD3
def tq89 := And.intro tyS <| And.intro tyX3 <| And.intro tyD3 <| And.intro tyX23 <| And.intro tyD23 <| And.intro tyX34 <| And.intro tyD34 <| And.intro tyX90 <| And.intro tyD90 <| And.intro tyX104 <| tyD104
def tq94 := And.intro tyS <| And.intro tyX3 <| And.intro tyD3 <| And.intro tyX9 <| And.intro tyD9 <| And.intro tyX32 <| And.intro tyD32 <| And.intro tyX34 <| And.intro tyD34 <| And.intro tyX50 <| And.intro tyD50 <| And.intro tyX71 <| And.intro tyD71 <| And.intro tyX77 <| And.intro tyD77 <| And.intro tyX79 <| tyD79
def tq95 := And.intro tyS <| And.intro tyX3 <| tyD3
theorem enters7 (vargs : Array Value) (w : World) : (callFunc 7 vargs).run Tryd.prog w = .ok (.enter 7 vargs) w := enters 7 Tryd.func7 (by kernel_rfl) vargs w
theorem enters8 (vargs : Array Value) (w : World) : (callFunc 8 vargs).run Tryd.prog w = .ok (.enter 8 vargs) w := enters 8 Tryd.func8 (by kernel_rfl) vargs w
theorem enters9 (vargs : Array Value) (w : World) : (callFunc 9 vargs).run Tryd.prog w = .ok (.enter 9 vargs) w := enters 9 Tryd.func9 (by kernel_rfl) vargs w
theorem enters10 (vargs : Array Value) (w : World) : (callFunc 10 vargs).run Tryd.prog w = .ok (.enter 10 vargs) w := enters 10 Tryd.func10 (by kernel_rfl) vargs w
theorem enters11 (vargs : Array Value) (w : World) : (callFunc 11 vargs).run Tryd.prog w = .ok (.enter 11 vargs) w := enters 11 Tryd.func11 (by kernel_rfl) vargs w
theorem enters13 (vargs : Array Value) (w : World) : (callFunc 13 vargs).run Tryd.prog w = .ok (.enter 13 vargs) w := enters 13 Tryd.func13 (by kernel_rfl) vargs w
theorem enters14 (vargs : Array Value) (w : World) : (callFunc 14 vargs).run Tryd.prog w = .ok (.enter 14 vargs) w := enters 14 Tryd.func14 (by kernel_rfl) vargs w
theorem enters15 (vargs : Array Value) (w : World) : (callFunc 15 vargs).run Tryd.prog w = .ok (.enter 15 vargs) w := enters 15 Tryd.func15 (by kernel_rfl) vargs w
theorem enters16 (vargs : Array Value) (w : World) : (callFunc 16 vargs).run Tryd.prog w = .ok (.enter 16 vargs) w := enters 16 Tryd.func16 (by kernel_rfl) vargs w
theorem enters17 (vargs : Array Value) (w : World) : (callFunc 17 vargs).run Tryd.prog w = .ok (.enter 17 vargs) w := enters 17 Tryd.func17 (by kernel_rfl) vargs w
theorem enters18 (vargs : Array Value) (w : World) : (callFunc 18 vargs).run Tryd.prog w = .ok (.enter 18 vargs) w := enters 18 Tryd.func18 (by kernel_rfl) vargs w
theorem enters19 (vargs : Array Value) (w : World) : (callFunc 19 vargs).run Tryd.prog w = .ok (.enter 19 vargs) w := enters 19 Tryd.func19 (by kernel_rfl) vargs w
theorem enters20 (vargs : Array Value) (w : World) : (callFunc 20 vargs).run Tryd.prog w = .ok (.enter 20 vargs) w := enters 20 Tryd.func20 (by kernel_rfl) vargs w
theorem enters21 (vargs : Array Value) (w : World) : (callFunc 21 vargs).run Tryd.prog w = .ok (.enter 21 vargs) w := enters 21 Tryd.func21 (by kernel_rfl) vargs w
theorem enters22 (vargs : Array Value) (w : World) : (callFunc 22 vargs).run Tryd.prog w = .ok (.enter 22 vargs) w := enters 22 Tryd.func22 (by kernel_rfl) vargs w
theorem enters23 (vargs : Array Value) (w : World) : (callFunc 23 vargs).run Tryd.prog w = .ok (.enter 23 vargs) w := enters 23 Tryd.func23 (by kernel_rfl) vargs w
theorem enters24 (vargs : Array Value) (w : World) : (callFunc 24 vargs).run Tryd.prog w = .ok (.enter 24 vargs) w := enters 24 Tryd.func24 (by kernel_rfl) vargs w
theorem enters25 (vargs : Array Value) (w : World) : (callFunc 25 vargs).run Tryd.prog w = .ok (.enter 25 vargs) w := enters 25 Tryd.func25 (by kernel_rfl) vargs w
theorem enters26 (vargs : Array Value) (w : World) : (callFunc 26 vargs).run Tryd.prog w = .ok (.enter 26 vargs) w := enters 26 Tryd.func26 (by kernel_rfl) vargs w
theorem enters27 (vargs : Array Value) (w : World) : (callFunc 27 vargs).run Tryd.prog w = .ok (.enter 27 vargs) w := enters 27 Tryd.func27 (by kernel_rfl) vargs w
theorem enters28 (vargs : Array Value) (w : World) : (callFunc 28 vargs).run Tryd.prog w = .ok (.enter 28 vargs) w := enters 28 Tryd.func28 (by kernel_rfl) vargs w
theorem enters29 (vargs : Array Value) (w : World) : (callFunc 29 vargs).run Tryd.prog w = .ok (.enter 29 vargs) w := enters 29 Tryd.func29 (by kernel_rfl) vargs w
theorem enters30 (vargs : Array Value) (w : World) : (callFunc 30 vargs).run Tryd.prog w = .ok (.enter 30 vargs) w := enters 30 Tryd.func30 (by kernel_rfl) vargs w
theorem enters31 (vargs : Array Value) (w : World) : (callFunc 31 vargs).run Tryd.prog w = .ok (.enter 31 vargs) w := enters 31 Tryd.func31 (by kernel_rfl) vargs w
theorem enters32 (vargs : Array Value) (w : World) : (callFunc 32 vargs).run Tryd.prog w = .ok (.enter 32 vargs) w := enters 32 Tryd.func32 (by kernel_rfl) vargs w
theorem enters33 (vargs : Array Value) (w : World) : (callFunc 33 vargs).run Tryd.prog w = .ok (.enter 33 vargs) w := enters 33 Tryd.func33 (by kernel_rfl) vargs w
theorem enters34 (vargs : Array Value) (w : World) : (callFunc 34 vargs).run Tryd.prog w = .ok (.enter 34 vargs) w := enters 34 Tryd.func34 (by kernel_rfl) vargs w
theorem enters35 (vargs : Array Value) (w : World) : (callFunc 35 vargs).run Tryd.prog w = .ok (.enter 35 vargs) w := enters 35 Tryd.func35 (by kernel_rfl) vargs w
theorem enters36 (vargs : Array Value) (w : World) : (callFunc 36 vargs).run Tryd.prog w = .ok (.enter 36 vargs) w := enters 36 Tryd.func36 (by kernel_rfl) vargs w
theorem enters37 (vargs : Array Value) (w : World) : (callFunc 37 vargs).run Tryd.prog w = .ok (.enter 37 vargs) w := enters 37 Tryd.func37 (by kernel_rfl) vargs w
theorem enters38 (vargs : Array Value) (w : World) : (callFunc 38 vargs).run Tryd.prog w = .ok (.enter 38 vargs) w := enters 38 Tryd.func38 (by kernel_rfl) vargs w
theorem enters39 (vargs : Array Value) (w : World) : (callFunc 39 vargs).run Tryd.prog w = .ok (.enter 39 vargs) w := enters 39 Tryd.func39 (by kernel_rfl) vargs w
theorem enters40 (vargs : Array Value) (w : World) : (callFunc 40 vargs).run Tryd.prog w = .ok (.enter 40 vargs) w := enters 40 Tryd.func40 (by kernel_rfl) vargs w
theorem enters41 (vargs : Array Value) (w : World) : (callFunc 41 vargs).run Tryd.prog w = .ok (.enter 41 vargs) w := enters 41 Tryd.func41 (by kernel_rfl) vargs w
theorem enters42 (vargs : Array Value) (w : World) : (callFunc 42 vargs).run Tryd.prog w = .ok (.enter 42 vargs) w := enters 42 Tryd.func42 (by kernel_rfl) vargs w
theorem enters43 (vargs : Array Value) (w : World) : (callFunc 43 vargs).run Tryd.prog w = .ok (.enter 43 vargs) w := enters 43 Tryd.func43 (by kernel_rfl) vargs w
theorem enters44 (vargs : Array Value) (w : World) : (callFunc 44 vargs).run Tryd.prog w = .ok (.enter 44 vargs) w := enters 44 Tryd.func44 (by kernel_rfl) vargs w
theorem enters45 (vargs : Array Value) (w : World) : (callFunc 45 vargs).run Tryd.prog w = .ok (.enter 45 vargs) w := enters 45 Tryd.func45 (by kernel_rfl) vargs w
theorem enters46 (vargs : Array Value) (w : World) : (callFunc 46 vargs).run Tryd.prog w = .ok (.enter 46 vargs) w := enters 46 Tryd.func46 (by kernel_rfl) vargs w
theorem enters47 (vargs : Array Value) (w : World) : (callFunc 47 vargs).run Tryd.prog w = .ok (.enter 47 vargs) w := enters 47 Tryd.func47 (by kernel_rfl) vargs w
theorem enters48 (vargs : Array Value) (w : World) : (callFunc 48 vargs).run Tryd.prog w = .ok (.enter 48 vargs) w := enters 48 Tryd.func48 (by kernel_rfl) vargs w
theorem enters49 (vargs : Array Value) (w : World) : (callFunc 49 vargs).run Tryd.prog w = .ok (.enter 49 vargs) w := enters 49 Tryd.func49 (by kernel_rfl) vargs w
theorem enters50 (vargs : Array Value) (w : World) : (callFunc 50 vargs).run Tryd.prog w = .ok (.enter 50 vargs) w := enters 50 Tryd.func50 (by kernel_rfl) vargs w
theorem enters52 (vargs : Array Value) (w : World) : (callFunc 52 vargs).run Tryd.prog w = .ok (.enter 52 vargs) w := enters 52 Tryd.func52 (by kernel_rfl) vargs w
theorem enters54 (vargs : Array Value) (w : World) : (callFunc 54 vargs).run Tryd.prog w = .ok (.enter 54 vargs) w := enters 54 Tryd.func54 (by kernel_rfl) vargs w
theorem enters55 (vargs : Array Value) (w : World) : (callFunc 55 vargs).run Tryd.prog w = .ok (.enter 55 vargs) w := enters 55 Tryd.func55 (by kernel_rfl) vargs w
theorem enters56 (vargs : Array Value) (w : World) : (callFunc 56 vargs).run Tryd.prog w = .ok (.enter 56 vargs) w := enters 56 Tryd.func56 (by kernel_rfl) vargs w
theorem enters57 (vargs : Array Value) (w : World) : (callFunc 57 vargs).run Tryd.prog w = .ok (.enter 57 vargs) w := enters 57 Tryd.func57 (by kernel_rfl) vargs w
theorem enters58 (vargs : Array Value) (w : World) : (callFunc 58 vargs).run Tryd.prog w = .ok (.enter 58 vargs) w := enters 58 Tryd.func58 (by kernel_rfl) vargs w
theorem enters59 (vargs : Array Value) (w : World) : (callFunc 59 vargs).run Tryd.prog w = .ok (.enter 59 vargs) w := enters 59 Tryd.func59 (by kernel_rfl) vargs w
theorem enters60 (vargs : Array Value) (w : World) : (callFunc 60 vargs).run Tryd.prog w = .ok (.enter 60 vargs) w := enters 60 Tryd.func60 (by kernel_rfl) vargs w
theorem enters62 (vargs : Array Value) (w : World) : (callFunc 62 vargs).run Tryd.prog w = .ok (.enter 62 vargs) w := enters 62 Tryd.func62 (by kernel_rfl) vargs w
theorem enters63 (vargs : Array Value) (w : World) : (callFunc 63 vargs).run Tryd.prog w = .ok (.enter 63 vargs) w := enters 63 Tryd.func63 (by kernel_rfl) vargs w
theorem enters67 (vargs : Array Value) (w : World) : (callFunc 67 vargs).run Tryd.prog w = .ok (.enter 67 vargs) w := enters 67 Tryd.func67 (by kernel_rfl) vargs w
theorem enters68 (vargs : Array Value) (w : World) : (callFunc 68 vargs).run Tryd.prog w = .ok (.enter 68 vargs) w := enters 68 Tryd.func68 (by kernel_rfl) vargs w
theorem enters73 (vargs : Array Value) (w : World) : (callFunc 73 vargs).run Tryd.prog w = .ok (.enter 73 vargs) w := enters 73 Tryd.func73 (by kernel_rfl) vargs w
theorem enters74 (vargs : Array Value) (w : World) : (callFunc 74 vargs).run Tryd.prog w = .ok (.enter 74 vargs) w := enters 74 Tryd.func74 (by kernel_rfl) vargs w
theorem enters80 (vargs : Array Value) (w : World) : (callFunc 80 vargs).run Tryd.prog w = .ok (.enter 80 vargs) w := enters 80 Tryd.func80 (by kernel_rfl) vargs w
theorem enters81 (vargs : Array Value) (w : World) : (callFunc 81 vargs).run Tryd.prog w = .ok (.enter 81 vargs) w := enters 81 Tryd.func81 (by kernel_rfl) vargs w
theorem enters82 (vargs : Array Value) (w : World) : (callFunc 82 vargs).run Tryd.prog w = .ok (.enter 82 vargs) w := enters 82 Tryd.func82 (by kernel_rfl) vargs w
theorem enters88 (vargs : Array Value) (w : World) : (callFunc 88 vargs).run Tryd.prog w = .ok (.enter 88 vargs) w := enters 88 Tryd.func88 (by kernel_rfl) vargs w
theorem enters89 (vargs : Array Value) (w : World) : (callFunc 89 vargs).run Tryd.prog w = .ok (.enter 89 vargs) w := enters 89 Tryd.func89 (by kernel_rfl) vargs w
theorem enters94 (vargs : Array Value) (w : World) : (callFunc 94 vargs).run Tryd.prog w = .ok (.enter 94 vargs) w := enters 94 Tryd.func94 (by kernel_rfl) vargs w
theorem enters95 (vargs : Array Value) (w : World) : (callFunc 95 vargs).run Tryd.prog w = .ok (.enter 95 vargs) w := enters 95 Tryd.func95 (by kernel_rfl) vargs w
theorem body0 {f : FuncId} {fn : Func} {code : Code} (site : Nat → Nat) (nobj : Nat) (hf : Tryd.prog.funcs[f]? = some fn) (hb : fn.body = some code) {n : Nat} (hn : fn.ntmps = n) {rs : List ResultVar} (hrs : fn.results.toList = rs) {args : List AVal} {res : AVal}
    (hargs : args.length ≤ n)
    (h : VC Tryd.prog (envOf site nobj) 0 code ⟨args ++ List.replicate (n - args.length) .junk, List.replicate nobj none⟩ (RQ (envOf site nobj) rs res)) :
    AC Tryd.prog gl f args [] res [] := by
  subst hn hrs
  exact AC.of_vc (env := envOf site nobj) (envOK _ _) mixed hf hb hargs h
theorem bodyO {f : FuncId} {fn : Func} {code : Code} (site : Nat → Nat) (nobj : Nat) (hf : Tryd.prog.funcs[f]? = some fn) (hb : fn.body = some code) {n : Nat} (hn : fn.ntmps = n) {rs : List ResultVar} (hrs : fn.results.toList = rs) {args : List AVal} {objs : List (Option AObj)} {res : AVal} {objs' : List (Option AObj)}
    (hargs : args.length ≤ n) (hobjs : objs.length ≤ nobj)
    (h : VC Tryd.prog (envOf site nobj) objs.length code ⟨args ++ List.replicate (n - args.length) .junk, objs ++ List.replicate (nobj - objs.length) none⟩ (retQ (envOf site nobj) objs.length rs res objs')) :
    AC Tryd.prog gl f args objs res objs' := by
  subst hn hrs
  exact AC.of_body (env := envOf site nobj) (envOK _ _) hf hb hargs hobjs (VC.to (envOK _ _) mixed code h)
theorem bodyW {f : FuncId} {fn : Func} {code : Code} (site : Nat → Nat) (nobj : Nat) (hf : Tryd.prog.funcs[f]? = some fn) (hb : fn.body = some code) {n : Nat} (hn : fn.ntmps = n) {rs : List ResultVar} (hrs : fn.results.toList = rs) {args : List AVal} {objs : List (Option AObj)} {res : AVal} {objs' : List (Option AObj)}
    (hargs : args.length ≤ n) (hobjs : objs.length ≤ nobj)
    (h : VC Tryd.prog (envOf site nobj) objs.length code ⟨args ++ List.replicate (n - args.length) .junk, objs ++ List.replicate (nobj - objs.length) none⟩ (weakQ (envOf site nobj) objs.length (retQ (envOf site nobj) objs.length rs res objs'))) :
    AC Tryd.prog gl f args objs res objs' := by
  subst hn hrs
  exact AC.of_body (env := envOf site nobj) (envOK _ _) hf hb hargs hobjs (SW.weakEnd (VC.to (envOK _ _) mixed code h))
theorem bodyP {f : FuncId} {fn : Func} {code : Code} (site : Nat → Nat) (nobj : Nat) (hf : Tryd.prog.funcs[f]? = some fn) (hb : fn.body = some code) {n : Nat} (hn : fn.ntmps = n) {args : List AVal} {objs : List (Option AObj)} {x : Value} {objs' : List (Option AObj)}
    (hargs : args.length ≤ n) (hobjs : objs.length ≤ nobj)
    (h : VC Tryd.prog (envOf site nobj) objs.length code ⟨args ++ List.replicate (n - args.length) .junk, objs ++ List.replicate (nobj - objs.length) none⟩ (panQ objs.length x objs')) :
    AP Tryd.prog gl f args objs x objs' := by
  subst hn
  exact AP.of_body (env := envOf site nobj) (envOK _ _) hf hb hargs hobjs (VC.to (envOK _ _) mixed code h)
theorem loopV {site : Nat → Nat} {nobj pin : Nat} {σ : St} {Q : Exit → St → Prop} {ι : Type} {c : Code} {t : Tg (Code.loop c, Q)} (I : ι → St) (μ : ι → Nat) (i0 : ι) (h0 : Weak (envOf site nobj) pin σ (I i0))
    (round : ∀ i, VC Tryd.prog (envOf site nobj) pin c (I i) (thenQ (NX (envOf site nobj) pin I μ .mk (μ i)) Q)) : LW Tryd.prog (envOf site nobj) pin (.loop c) σ Q t :=
  LW.loop (envOK _ _) mixed I μ i0 h0 round
end Go.Proofs.YtopbicbgolcmpaaDoor
