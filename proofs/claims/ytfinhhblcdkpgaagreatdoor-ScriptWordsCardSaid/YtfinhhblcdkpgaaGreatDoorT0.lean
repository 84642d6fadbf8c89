/- The table of types of the program, held against the program. No condition. -/
import Derived.Test.YtfinhhblcdkpgaaGreatDoorProg
import Derived.KernelRfl
import Derived.Test.YtfinhhblcdkpgaaGreatDoorLib3
set_option linter.unusedSimpArgs false
set_option linter.unusedVariables false
set_option linter.defProp false
namespace Go.Proofs.YtfinhhblcdkpgaaGreatDoor
open Go Go.Abs
def ty2 : Ty := { size := 1, bytes := 8, agg := false, zero := some [AVal.pv (PVal.int IntKind.i64 (0))], fields := [], eSize := 0, eBytes := 0, eZero := false, kKind := Kd.other, eZV := none, kind := Kd.int IntKind.i64, eqs := none }
def ty3 : Ty := { size := 1, bytes := 8, agg := false, zero := some [AVal.pv (PVal.int IntKind.i64 (0))], fields := [], eSize := 0, eBytes := 0, eZero := false, kKind := Kd.other, eZV := none, kind := Kd.int IntKind.i64, eqs := none }
def ty4 : Ty := { size := 1, bytes := 1, agg := false, zero := some [AVal.pv (PVal.bool false)], fields := [], eSize := 0, eBytes := 0, eZero := false, kKind := Kd.other, eZV := none, kind := Kd.bool, eqs := none }
def ty5 : Ty := { size := 1, bytes := 1, agg := false, zero := some [AVal.pv (PVal.int IntKind.u8 (0))], fields := [], eSize := 0, eBytes := 0, eZero := false, kKind := Kd.other, eZV := none, kind := Kd.int IntKind.u8, eqs := none }
def ty6 : Ty := { size := 1, bytes := 1, agg := false, zero := some [AVal.pv (PVal.int IntKind.u8 (0))], fields := [], eSize := 0, eBytes := 0, eZero := false, kKind := Kd.other, eZV := none, kind := Kd.int IntKind.u8, eqs := none }
def ty7 : Ty := { size := 4, bytes := 24, agg := true, zero := some [AVal.pv (PVal.int IntKind.i64 (0)), AVal.pv (PVal.int IntKind.i64 (0)), AVal.pv (PVal.bool false), AVal.pv (PVal.int IntKind.u8 (0))], fields := [(0, 1), (1, 1), (2, 1), (3, 1)], eSize := 0, eBytes := 0, eZero := false, kKind := Kd.other, eZV := none, kind := Kd.struct, eqs := some [Kd.int IntKind.i64, Kd.int IntKind.i64, Kd.bool, Kd.int IntKind.u8] }
def ty8 : Ty := { size := 4, bytes := 24, agg := true, zero := some [AVal.pv (PVal.int IntKind.i64 (0)), AVal.pv (PVal.int IntKind.i64 (0)), AVal.pv (PVal.bool false), AVal.pv (PVal.int IntKind.u8 (0))], fields := [(0, 1), (1, 1), (2, 1), (3, 1)], eSize := 0, eBytes := 0, eZero := false, kKind := Kd.other, eZV := none, kind := Kd.struct, eqs := some [Kd.int IntKind.i64, Kd.int IntKind.i64, Kd.bool, Kd.int IntKind.u8] }
def ty9 : Ty := { size := 1, bytes := 16, agg := false, zero := some [AVal.pv (PVal.str [])], fields := [], eSize := 0, eBytes := 0, eZero := false, kKind := Kd.other, eZV := none, kind := Kd.string, eqs := none }
def ty10 : Ty := { size := 1, bytes := 16, agg := false, zero := some [AVal.pv (PVal.str [])], fields := [], eSize := 0, eBytes := 0, eZero := false, kKind := Kd.other, eZV := none, kind := Kd.string, eqs := none }
def ty11 : Ty := { size := 1, bytes := 16, agg := false, zero := some [AVal.pv (PVal.str [])], fields := [], eSize := 0, eBytes := 0, eZero := false, kKind := Kd.other, eZV := none, kind := Kd.string, eqs := none }
def ty12 : Ty := { size := 1, bytes := 8, agg := false, zero := some [AVal.pv (PVal.int IntKind.u64 (0))], fields := [], eSize := 0, eBytes := 0, eZero := false, kKind := Kd.other, eZV := none, kind := Kd.int IntKind.u64, eqs := none }
def ty13 : Ty := { size := 2, bytes := 24, agg := true, zero := some [AVal.pv (PVal.str []), AVal.pv (PVal.int IntKind.u64 (0))], fields := [(0, 1), (1, 1)], eSize := 0, eBytes := 0, eZero := false, kKind := Kd.other, eZV := none, kind := Kd.struct, eqs := none }
def ty14 : Ty := { size := 2, bytes := 24, agg := true, zero := some [AVal.pv (PVal.str []), AVal.pv (PVal.int IntKind.u64 (0))], fields := [(0, 1), (1, 1)], eSize := 0, eBytes := 0, eZero := false, kKind := Kd.other, eZV := none, kind := Kd.struct, eqs := none }
def ty15 : Ty := { size := 1, bytes := 8, agg := false, zero := some [AVal.pv PVal.nilptr], fields := [], eSize := 0, eBytes := 0, eZero := false, kKind := Kd.other, eZV := none, kind := Kd.other, eqs := none }
def ty16 : Ty := { size := 1, bytes := 8, agg := false, zero := some [AVal.pv PVal.nilptr], fields := [], eSize := 0, eBytes := 0, eZero := false, kKind := Kd.other, eZV := none, kind := Kd.other, eqs := none }
def ty17 : Ty := { size := 1, bytes := 8, agg := false, zero := some [AVal.pv PVal.nilptr], fields := [], eSize := 0, eBytes := 0, eZero := false, kKind := Kd.other, eZV := none, kind := Kd.other, eqs := none }
def ty18 : Ty := { size := 1, bytes := 8, agg := true, zero := some [AVal.pv PVal.nilptr], fields := [(0, 1)], eSize := 0, eBytes := 0, eZero := false, kKind := Kd.other, eZV := none, kind := Kd.struct, eqs := none }
def ty19 : Ty := { size := 1, bytes := 8, agg := true, zero := some [AVal.pv PVal.nilptr], fields := [(0, 1)], eSize := 0, eBytes := 0, eZero := false, kKind := Kd.other, eZV := none, kind := Kd.struct, eqs := none }
def ty20 : Ty := { size := 1, bytes := 16, agg := false, zero := some [AVal.pv (PVal.err true)], fields := [], eSize := 0, eBytes := 0, eZero := false, kKind := Kd.other, eZV := none, kind := Kd.iface, eqs := none }
def ty21 : Ty := { size := 1, bytes := 4, agg := false, zero := some [AVal.pv (PVal.int IntKind.i32 (0))], fields := [], eSize := 0, eBytes := 0, eZero := false, kKind := Kd.other, eZV := none, kind := Kd.int IntKind.i32, eqs := none }
def ty22 : Ty := { size := 1, bytes := 24, agg := false, zero := some [AVal.snil], fields := [], eSize := 1, eBytes := 1, eZero := true, kKind := Kd.int IntKind.u8, eZV := some (false, [PVal.int IntKind.u8 (0)]), kind := Kd.slice, eqs := none }
def ty24 : Ty := { size := 1, bytes := 24, agg := false, zero := some [AVal.snil], fields := [], eSize := 5, eBytes := 120, eZero := true, kKind := Kd.other, eZV := some (true, [PVal.slice [], PVal.slice [], PVal.slice [], PVal.slice [], PVal.slice []]), kind := Kd.slice, eqs := none }
def ty25 : Ty := { size := 1, bytes := 24, agg := false, zero := some [AVal.snil], fields := [], eSize := 4, eBytes := 32, eZero := true, kKind := Kd.other, eZV := some (true, [PVal.int IntKind.i64 (0), PVal.int IntKind.i64 (0), PVal.int IntKind.i64 (0), PVal.int IntKind.i64 (0)]), kind := Kd.slice, eqs := none }
def ty26 : Ty := { size := 1, bytes := 8, agg := false, zero := some [AVal.pv PVal.nilptr], fields := [], eSize := 0, eBytes := 0, eZero := false, kKind := Kd.other, eZV := none, kind := Kd.other, eqs := none }
def ty29 : Ty := { size := 1, bytes := 8, agg := false, zero := some [AVal.pv (PVal.int IntKind.i64 (0))], fields := [], eSize := 0, eBytes := 0, eZero := false, kKind := Kd.other, eZV := none, kind := Kd.int IntKind.i64, eqs := none }
def ty40 : Ty := { size := 4, bytes := 32, agg := true, zero := some [AVal.pv (PVal.int IntKind.i64 (0)), AVal.pv (PVal.int IntKind.i64 (0)), AVal.pv (PVal.int IntKind.i64 (0)), AVal.pv (PVal.int IntKind.i64 (0))], fields := [(0, 1), (1, 1), (2, 1), (3, 1)], eSize := 0, eBytes := 0, eZero := false, kKind := Kd.other, eZV := none, kind := Kd.struct, eqs := some [Kd.int IntKind.i64, Kd.int IntKind.i64, Kd.int IntKind.i64, Kd.int IntKind.i64] }
def ty41 : Ty := { size := 4, bytes := 32, agg := true, zero := some [AVal.pv (PVal.int IntKind.i64 (0)), AVal.pv (PVal.int IntKind.i64 (0)), AVal.pv (PVal.int IntKind.i64 (0)), AVal.pv (PVal.int IntKind.i64 (0))], fields := [(0, 1), (1, 1), (2, 1), (3, 1)], eSize := 0, eBytes := 0, eZero := false, kKind := Kd.other, eZV := none, kind := Kd.struct, eqs := some [Kd.int IntKind.i64, Kd.int IntKind.i64, Kd.int IntKind.i64, Kd.int IntKind.i64] }
def ty42 : Ty := { size := 1, bytes := 24, agg := false, zero := some [AVal.snil], fields := [], eSize := 3, eBytes := 32, eZero := true, kKind := Kd.other, eZV := some (true, [PVal.str [], PVal.int IntKind.i64 (0), PVal.int IntKind.i64 (0)]), kind := Kd.slice, eqs := none }
def ty43 : Ty := { size := 1, bytes := 24, agg := false, zero := some [AVal.snil], fields := [], eSize := 18, eBytes := 232, eZero := true, kKind := Kd.other, eZV := some (true, [PVal.int IntKind.i64 (0), PVal.str [], PVal.int IntKind.i64 (0), PVal.int IntKind.i64 (0), PVal.int IntKind.i64 (0), PVal.int IntKind.i64 (0), PVal.str [], PVal.int IntKind.i64 (0), PVal.int IntKind.i64 (0), PVal.slice [], PVal.int IntKind.i64 (0), PVal.int IntKind.i64 (0), PVal.str [], PVal.int IntKind.i64 (0), PVal.int IntKind.i64 (0), PVal.slice [], PVal.slice [], PVal.slice []]), kind := Kd.slice, eqs := none }
def ty44 : Ty := { size := 5, bytes := 120, agg := true, zero := some [AVal.snil, AVal.snil, AVal.snil, AVal.snil, AVal.snil], fields := [(0, 1), (1, 1), (2, 1), (3, 1), (4, 1)], eSize := 0, eBytes := 0, eZero := false, kKind := Kd.other, eZV := none, kind := Kd.struct, eqs := none }
def ty45 : Ty := { size := 5, bytes := 120, agg := true, zero := some [AVal.snil, AVal.snil, AVal.snil, AVal.snil, AVal.snil], fields := [(0, 1), (1, 1), (2, 1), (3, 1), (4, 1)], eSize := 0, eBytes := 0, eZero := false, kKind := Kd.other, eZV := none, kind := Kd.struct, eqs := none }
def ty47 : Ty := { size := 3, bytes := 32, agg := true, zero := some [AVal.pv (PVal.str []), AVal.pv (PVal.int IntKind.i64 (0)), AVal.pv (PVal.int IntKind.i64 (0))], fields := [(0, 1), (1, 1), (2, 1)], eSize := 0, eBytes := 0, eZero := false, kKind := Kd.other, eZV := none, kind := Kd.struct, eqs := some [Kd.string, Kd.int IntKind.i64, Kd.int IntKind.i64] }
def ty48 : Ty := { size := 3, bytes := 32, agg := true, zero := some [AVal.pv (PVal.str []), AVal.pv (PVal.int IntKind.i64 (0)), AVal.pv (PVal.int IntKind.i64 (0))], fields := [(0, 1), (1, 1), (2, 1)], eSize := 0, eBytes := 0, eZero := false, kKind := Kd.other, eZV := none, kind := Kd.struct, eqs := some [Kd.string, Kd.int IntKind.i64, Kd.int IntKind.i64] }
def ty50 : Ty := { size := 1, bytes := 24, agg := false, zero := some [AVal.snil], fields := [], eSize := 5, eBytes := 120, eZero := true, kKind := Kd.other, eZV := some (true, [PVal.slice [], PVal.slice [], PVal.slice [], PVal.slice [], PVal.slice []]), kind := Kd.slice, eqs := none }
def ty51 : Ty := { size := 3, bytes := 40, agg := true, zero := some [AVal.snil, AVal.pv (PVal.int IntKind.i64 (0)), AVal.pv (PVal.int IntKind.i64 (0))], fields := [(0, 1), (1, 1), (2, 1)], eSize := 0, eBytes := 0, eZero := false, kKind := Kd.other, eZV := none, kind := Kd.struct, eqs := none }
def ty52 : Ty := { size := 3, bytes := 40, agg := true, zero := some [AVal.snil, AVal.pv (PVal.int IntKind.i64 (0)), AVal.pv (PVal.int IntKind.i64 (0))], fields := [(0, 1), (1, 1), (2, 1)], eSize := 0, eBytes := 0, eZero := false, kKind := Kd.other, eZV := none, kind := Kd.struct, eqs := none }
def ty57 : Ty := { size := 1, bytes := 24, agg := false, zero := some [AVal.snil], fields := [], eSize := 1, eBytes := 8, eZero := true, kKind := Kd.int IntKind.i64, eZV := some (false, [PVal.int IntKind.i64 (0)]), kind := Kd.slice, eqs := none }
def ty58 : Ty := { size := 5, bytes := 120, agg := true, zero := some [AVal.snil, AVal.snil, AVal.snil, AVal.snil, AVal.snil], fields := [(0, 1), (1, 1), (2, 1), (3, 1), (4, 1)], eSize := 0, eBytes := 0, eZero := false, kKind := Kd.other, eZV := none, kind := Kd.struct, eqs := none }
def ty59 : Ty := { size := 5, bytes := 120, agg := true, zero := some [AVal.snil, AVal.snil, AVal.snil, AVal.snil, AVal.snil], fields := [(0, 1), (1, 1), (2, 1), (3, 1), (4, 1)], eSize := 0, eBytes := 0, eZero := false, kKind := Kd.other, eZV := none, kind := Kd.struct, eqs := none }
def ty70 : Ty := { size := 1, bytes := 24, agg := false, zero := some [AVal.snil], fields := [], eSize := 1, eBytes := 16, eZero := true, kKind := Kd.string, eZV := some (false, [PVal.str []]), kind := Kd.slice, eqs := none }
def ty72 : Ty := { size := 15, bytes := 240, agg := true, zero := some [AVal.pv (PVal.str []), AVal.pv (PVal.str []), AVal.pv (PVal.str []), AVal.pv (PVal.str []), AVal.pv (PVal.str []), AVal.pv (PVal.str []), AVal.pv (PVal.str []), AVal.pv (PVal.str []), AVal.pv (PVal.str []), AVal.pv (PVal.str []), AVal.pv (PVal.str []), AVal.pv (PVal.str []), AVal.pv (PVal.str []), AVal.pv (PVal.str []), AVal.pv (PVal.str [])], fields := [], eSize := 1, eBytes := 16, eZero := true, kKind := Kd.string, eZV := none, kind := Kd.array 15, eqs := none }
def ty73 : Ty := { size := 2, bytes := 32, agg := true, zero := some [AVal.snil, AVal.pv (PVal.int IntKind.i64 (0))], fields := [(0, 1), (1, 1)], eSize := 0, eBytes := 0, eZero := false, kKind := Kd.other, eZV := none, kind := Kd.struct, eqs := none }
def ty74 : Ty := { size := 2, bytes := 32, agg := true, zero := some [AVal.snil, AVal.pv (PVal.int IntKind.i64 (0))], fields := [(0, 1), (1, 1)], eSize := 0, eBytes := 0, eZero := false, kKind := Kd.other, eZV := none, kind := Kd.struct, eqs := none }
def ty75 : Ty := { size := 1, bytes := 8, agg := false, zero := some [AVal.pv PVal.nilptr], fields := [], eSize := 0, eBytes := 0, eZero := false, kKind := Kd.other, eZV := none, kind := Kd.other, eqs := none }
def ty76 : Ty := { size := 2, bytes := 32, agg := true, zero := some [AVal.pv PVal.nilptr, AVal.snil], fields := [(0, 1), (1, 1)], eSize := 0, eBytes := 0, eZero := false, kKind := Kd.other, eZV := none, kind := Kd.struct, eqs := none }
def ty77 : Ty := { size := 2, bytes := 32, agg := true, zero := some [AVal.pv PVal.nilptr, AVal.snil], fields := [(0, 1), (1, 1)], eSize := 0, eBytes := 0, eZero := false, kKind := Kd.other, eZV := none, kind := Kd.struct, eqs := none, bld := some 5 }
def ty78 : Ty := { size := 1, bytes := 16, agg := false, zero := some [AVal.pv (PVal.err true)], fields := [], eSize := 0, eBytes := 0, eZero := false, kKind := Kd.other, eZV := none, kind := Kd.iface, eqs := none }
def ty79 : Ty := { size := 1, bytes := 16, agg := false, zero := some [AVal.pv (PVal.err true)], fields := [], eSize := 0, eBytes := 0, eZero := false, kKind := Kd.other, eZV := none, kind := Kd.iface, eqs := none }
def ty82 : Ty := { size := 9, bytes := 144, agg := true, zero := some [AVal.pv (PVal.str []), AVal.pv (PVal.str []), AVal.pv (PVal.str []), AVal.pv (PVal.str []), AVal.pv (PVal.str []), AVal.pv (PVal.str []), AVal.pv (PVal.str []), AVal.pv (PVal.str []), AVal.pv (PVal.str [])], fields := [], eSize := 1, eBytes := 16, eZero := true, kKind := Kd.string, eZV := none, kind := Kd.array 9, eqs := none }
def ty85 : Ty := { size := 1, bytes := 8, agg := false, zero := some [AVal.pv PVal.nilptr], fields := [], eSize := 0, eBytes := 0, eZero := false, kKind := Kd.other, eZV := none, kind := Kd.other, eqs := none }
def ty86 : Ty := { size := 7, bytes := 104, agg := true, zero := some [AVal.snil, AVal.pv (PVal.bool false), AVal.pv (PVal.int IntKind.i64 (0)), AVal.snil, AVal.pv (PVal.int IntKind.i64 (0)), AVal.pv (PVal.int IntKind.i64 (0)), AVal.snil], fields := [(0, 1), (1, 1), (2, 1), (3, 3), (6, 1)], eSize := 0, eBytes := 0, eZero := false, kKind := Kd.other, eZV := none, kind := Kd.struct, eqs := none }
def ty87 : Ty := { size := 7, bytes := 104, agg := true, zero := some [AVal.snil, AVal.pv (PVal.bool false), AVal.pv (PVal.int IntKind.i64 (0)), AVal.snil, AVal.pv (PVal.int IntKind.i64 (0)), AVal.pv (PVal.int IntKind.i64 (0)), AVal.snil], fields := [(0, 1), (1, 1), (2, 1), (3, 3), (6, 1)], eSize := 0, eBytes := 0, eZero := false, kKind := Kd.other, eZV := none, kind := Kd.struct, eqs := none }
def ty91 : Ty := { size := 1, bytes := 8, agg := false, zero := some [AVal.pv PVal.nilmap], fields := [], eSize := 0, eBytes := 0, eZero := false, kKind := Kd.string, eZV := some (true, [PVal.int IntKind.i64 (0), PVal.int IntKind.i64 (0)]), kind := Kd.map, eqs := none }
def ty92 : Ty := { size := 2, bytes := 16, agg := true, zero := some [AVal.pv (PVal.int IntKind.i64 (0)), AVal.pv (PVal.int IntKind.i64 (0))], fields := [(0, 1), (1, 1)], eSize := 0, eBytes := 0, eZero := false, kKind := Kd.other, eZV := none, kind := Kd.struct, eqs := some [Kd.int IntKind.i64, Kd.int IntKind.i64] }
def ty93 : Ty := { size := 2, bytes := 16, agg := true, zero := some [AVal.pv (PVal.int IntKind.i64 (0)), AVal.pv (PVal.int IntKind.i64 (0))], fields := [(0, 1), (1, 1)], eSize := 0, eBytes := 0, eZero := false, kKind := Kd.other, eZV := none, kind := Kd.struct, eqs := some [Kd.int IntKind.i64, Kd.int IntKind.i64] }
def ty95 : Ty := { size := 1, bytes := 8, agg := false, zero := some [AVal.pv PVal.nilptr], fields := [], eSize := 0, eBytes := 0, eZero := false, kKind := Kd.other, eZV := none, kind := Kd.other, eqs := none }
def ty96 : Ty := { size := 3, bytes := 16, agg := true, zero := some [AVal.pv PVal.nilmap, AVal.pv (PVal.bool false), AVal.pv (PVal.bool false)], fields := [(0, 1), (1, 1), (2, 1)], eSize := 0, eBytes := 0, eZero := false, kKind := Kd.other, eZV := none, kind := Kd.struct, eqs := none }
def ty97 : Ty := { size := 3, bytes := 16, agg := true, zero := some [AVal.pv PVal.nilmap, AVal.pv (PVal.bool false), AVal.pv (PVal.bool false)], fields := [(0, 1), (1, 1), (2, 1)], eSize := 0, eBytes := 0, eZero := false, kKind := Kd.other, eZV := none, kind := Kd.struct, eqs := none }
def ty102 : Ty := { size := 1, bytes := 8, agg := false, zero := some [AVal.pv (PVal.int IntKind.u64 (0))], fields := [], eSize := 0, eBytes := 0, eZero := false, kKind := Kd.other, eZV := none, kind := Kd.int IntKind.u64, eqs := none }
def ty112 : Ty := { size := 1, bytes := 24, agg := true, zero := some [AVal.snil], fields := [(0, 1)], eSize := 0, eBytes := 0, eZero := false, kKind := Kd.other, eZV := none, kind := Kd.struct, eqs := none }
def ty113 : Ty := { size := 1, bytes := 24, agg := true, zero := some [AVal.snil], fields := [(0, 1)], eSize := 0, eBytes := 0, eZero := false, kKind := Kd.other, eZV := none, kind := Kd.struct, eqs := none }
def ty115 : Ty := { size := 1, bytes := 24, agg := false, zero := some [AVal.snil], fields := [], eSize := 1, eBytes := 8, eZero := true, kKind := Kd.other, eZV := some (false, [PVal.nilptr]), kind := Kd.slice, eqs := none }
def ty117 : Ty := { size := 1, bytes := 8, agg := false, zero := some [AVal.pv PVal.nilptr], fields := [], eSize := 0, eBytes := 0, eZero := false, kKind := Kd.other, eZV := none, kind := Kd.other, eqs := none }
def ty118 : Ty := { size := 1, bytes := 8, agg := false, zero := some [AVal.pv PVal.nilptr], fields := [], eSize := 0, eBytes := 0, eZero := false, kKind := Kd.other, eZV := none, kind := Kd.other, eqs := none }
def ty119 : Ty := { size := 1, bytes := 8, agg := false, zero := some [AVal.pv PVal.nilptr], fields := [], eSize := 0, eBytes := 0, eZero := false, kKind := Kd.other, eZV := none, kind := Kd.other, eqs := none }
def ty126 : Ty := { size := 1, bytes := 24, agg := false, zero := some [AVal.snil], fields := [], eSize := 6, eBytes := 72, eZero := true, kKind := Kd.other, eZV := some (true, [PVal.int IntKind.i64 (0), PVal.int IntKind.i64 (0), PVal.str [], PVal.int IntKind.i64 (0), PVal.int IntKind.i64 (0), PVal.slice []]), kind := Kd.slice, eqs := none }
def ty127 : Ty := { size := 6, bytes := 72, agg := true, zero := some [AVal.pv (PVal.int IntKind.i64 (0)), AVal.pv (PVal.int IntKind.i64 (0)), AVal.pv (PVal.str []), AVal.pv (PVal.int IntKind.i64 (0)), AVal.pv (PVal.int IntKind.i64 (0)), AVal.snil], fields := [(0, 1), (1, 1), (2, 1), (3, 1), (4, 1), (5, 1)], eSize := 0, eBytes := 0, eZero := false, kKind := Kd.other, eZV := none, kind := Kd.struct, eqs := none }
def ty128 : Ty := { size := 6, bytes := 72, agg := true, zero := some [AVal.pv (PVal.int IntKind.i64 (0)), AVal.pv (PVal.int IntKind.i64 (0)), AVal.pv (PVal.str []), AVal.pv (PVal.int IntKind.i64 (0)), AVal.pv (PVal.int IntKind.i64 (0)), AVal.snil], fields := [(0, 1), (1, 1), (2, 1), (3, 1), (4, 1), (5, 1)], eSize := 0, eBytes := 0, eZero := false, kKind := Kd.other, eZV := none, kind := Kd.struct, eqs := none }
def ty129 : Ty := { size := 18, bytes := 232, agg := true, zero := some [AVal.pv (PVal.int IntKind.i64 (0)), AVal.pv (PVal.str []), AVal.pv (PVal.int IntKind.i64 (0)), AVal.pv (PVal.int IntKind.i64 (0)), AVal.pv (PVal.int IntKind.i64 (0)), AVal.pv (PVal.int IntKind.i64 (0)), AVal.pv (PVal.str []), AVal.pv (PVal.int IntKind.i64 (0)), AVal.pv (PVal.int IntKind.i64 (0)), AVal.snil, AVal.pv (PVal.int IntKind.i64 (0)), AVal.pv (PVal.int IntKind.i64 (0)), AVal.pv (PVal.str []), AVal.pv (PVal.int IntKind.i64 (0)), AVal.pv (PVal.int IntKind.i64 (0)), AVal.snil, AVal.snil, AVal.snil], fields := [(0, 1), (1, 1), (2, 1), (3, 1), (4, 6), (10, 6), (16, 1), (17, 1)], eSize := 0, eBytes := 0, eZero := false, kKind := Kd.other, eZV := none, kind := Kd.struct, eqs := none }
def ty130 : Ty := { size := 18, bytes := 232, agg := true, zero := some [AVal.pv (PVal.int IntKind.i64 (0)), AVal.pv (PVal.str []), AVal.pv (PVal.int IntKind.i64 (0)), AVal.pv (PVal.int IntKind.i64 (0)), AVal.pv (PVal.int IntKind.i64 (0)), AVal.pv (PVal.int IntKind.i64 (0)), AVal.pv (PVal.str []), AVal.pv (PVal.int IntKind.i64 (0)), AVal.pv (PVal.int IntKind.i64 (0)), AVal.snil, AVal.pv (PVal.int IntKind.i64 (0)), AVal.pv (PVal.int IntKind.i64 (0)), AVal.pv (PVal.str []), AVal.pv (PVal.int IntKind.i64 (0)), AVal.pv (PVal.int IntKind.i64 (0)), AVal.snil, AVal.snil, AVal.snil], fields := [(0, 1), (1, 1), (2, 1), (3, 1), (4, 6), (10, 6), (16, 1), (17, 1)], eSize := 0, eBytes := 0, eZero := false, kKind := Kd.other, eZV := none, kind := Kd.struct, eqs := none }
def ty133 : Ty := { size := 3, bytes := 48, agg := true, zero := some [AVal.pv (PVal.str []), AVal.pv (PVal.str []), AVal.pv (PVal.str [])], fields := [], eSize := 1, eBytes := 16, eZero := true, kKind := Kd.string, eZV := none, kind := Kd.array 3, eqs := none }
def ty135 : Ty := { size := 2, bytes := 32, agg := true, zero := some [AVal.pv (PVal.str []), AVal.pv (PVal.str [])], fields := [], eSize := 1, eBytes := 16, eZero := true, kKind := Kd.string, eZV := none, kind := Kd.array 2, eqs := none }
def ty140 : Ty := { size := 1, bytes := 24, agg := false, zero := some [AVal.snil], fields := [], eSize := 4, eBytes := 40, eZero := true, kKind := Kd.other, eZV := some (true, [PVal.int IntKind.i64 (0), PVal.str [], PVal.int IntKind.i64 (0), PVal.int IntKind.i64 (0)]), kind := Kd.slice, eqs := none }
def ty143 : Ty := { size := 5, bytes := 56, agg := true, zero := some [AVal.snil, AVal.pv (PVal.int IntKind.i64 (0)), AVal.pv (PVal.int IntKind.i64 (0)), AVal.pv (PVal.int IntKind.i64 (0)), AVal.pv (PVal.bool false)], fields := [(0, 1), (1, 1), (2, 1), (3, 1), (4, 1)], eSize := 0, eBytes := 0, eZero := false, kKind := Kd.other, eZV := none, kind := Kd.struct, eqs := none }
def ty144 : Ty := { size := 5, bytes := 56, agg := true, zero := some [AVal.snil, AVal.pv (PVal.int IntKind.i64 (0)), AVal.pv (PVal.int IntKind.i64 (0)), AVal.pv (PVal.int IntKind.i64 (0)), AVal.pv (PVal.bool false)], fields := [(0, 1), (1, 1), (2, 1), (3, 1), (4, 1)], eSize := 0, eBytes := 0, eZero := false, kKind := Kd.other, eZV := none, kind := Kd.struct, eqs := none }
def ty147 : Ty := { size := 4, bytes := 4, agg := true, zero := some [AVal.pv (PVal.bool false), AVal.pv (PVal.bool false), AVal.pv (PVal.bool false), AVal.pv (PVal.bool false)], fields := [], eSize := 1, eBytes := 1, eZero := true, kKind := Kd.bool, eZV := none, kind := Kd.array 4, eqs := none }
def ty150 : Ty := { size := 1, bytes := 8, agg := false, zero := some [AVal.pv PVal.nilptr], fields := [], eSize := 0, eBytes := 0, eZero := false, kKind := Kd.other, eZV := none, kind := Kd.other, eqs := none }
def ty153 : Ty := { size := 1, bytes := 8, agg := false, zero := some [AVal.pv PVal.nilptr], fields := [], eSize := 0, eBytes := 0, eZero := false, kKind := Kd.other, eZV := none, kind := Kd.other, eqs := none }
def ty161 : Ty := { size := 1, bytes := 8, agg := false, zero := some [AVal.pv PVal.nilptr], fields := [], eSize := 0, eBytes := 0, eZero := false, kKind := Kd.other, eZV := none, kind := Kd.other, eqs := none }
def ty168 : Ty := { size := 4, bytes := 40, agg := true, zero := some [AVal.pv (PVal.int IntKind.i64 (0)), AVal.pv (PVal.str []), AVal.pv (PVal.int IntKind.i64 (0)), AVal.pv (PVal.int IntKind.i64 (0))], fields := [(0, 1), (1, 1), (2, 1), (3, 1)], eSize := 0, eBytes := 0, eZero := false, kKind := Kd.other, eZV := none, kind := Kd.struct, eqs := some [Kd.int IntKind.i64, Kd.string, Kd.int IntKind.i64, Kd.int IntKind.i64] }
def ty169 : Ty := { size := 4, bytes := 40, agg := true, zero := some [AVal.pv (PVal.int IntKind.i64 (0)), AVal.pv (PVal.str []), AVal.pv (PVal.int IntKind.i64 (0)), AVal.pv (PVal.int IntKind.i64 (0))], fields := [(0, 1), (1, 1), (2, 1), (3, 1)], eSize := 0, eBytes := 0, eZero := false, kKind := Kd.other, eZV := none, kind := Kd.struct, eqs := some [Kd.int IntKind.i64, Kd.string, Kd.int IntKind.i64, Kd.int IntKind.i64] }
def ty172 : Ty := { size := 1, bytes := 8, agg := false, zero := some [AVal.pv PVal.nilptr], fields := [], eSize := 0, eBytes := 0, eZero := false, kKind := Kd.other, eZV := none, kind := Kd.other, eqs := none }
def ty180 : Ty := { size := 24, bytes := 24, agg := true, zero := some [AVal.pv (PVal.int IntKind.u8 (0)), AVal.pv (PVal.int IntKind.u8 (0)), AVal.pv (PVal.int IntKind.u8 (0)), AVal.pv (PVal.int IntKind.u8 (0)), AVal.pv (PVal.int IntKind.u8 (0)), AVal.pv (PVal.int IntKind.u8 (0)), AVal.pv (PVal.int IntKind.u8 (0)), AVal.pv (PVal.int IntKind.u8 (0)), AVal.pv (PVal.int IntKind.u8 (0)), AVal.pv (PVal.int IntKind.u8 (0)), AVal.pv (PVal.int IntKind.u8 (0)), AVal.pv (PVal.int IntKind.u8 (0)), AVal.pv (PVal.int IntKind.u8 (0)), AVal.pv (PVal.int IntKind.u8 (0)), AVal.pv (PVal.int IntKind.u8 (0)), AVal.pv (PVal.int IntKind.u8 (0)), AVal.pv (PVal.int IntKind.u8 (0)), AVal.pv (PVal.int IntKind.u8 (0)), AVal.pv (PVal.int IntKind.u8 (0)), AVal.pv (PVal.int IntKind.u8 (0)), AVal.pv (PVal.int IntKind.u8 (0)), AVal.pv (PVal.int IntKind.u8 (0)), AVal.pv (PVal.int IntKind.u8 (0)), AVal.pv (PVal.int IntKind.u8 (0))], fields := [], eSize := 1, eBytes := 1, eZero := true, kKind := Kd.int IntKind.u8, eZV := none, kind := Kd.array 24, eqs := none }
def ty198 : Ty := { size := 1, bytes := 8, agg := false, zero := some [AVal.pv PVal.nilptr], fields := [], eSize := 0, eBytes := 0, eZero := false, kKind := Kd.other, eZV := none, kind := Kd.other, eqs := none }
def ty204 : Ty := { size := 20, bytes := 160, agg := true, zero := some [AVal.pv (PVal.int IntKind.u64 (0)), AVal.pv (PVal.int IntKind.u64 (0)), AVal.pv (PVal.int IntKind.u64 (0)), AVal.pv (PVal.int IntKind.u64 (0)), AVal.pv (PVal.int IntKind.u64 (0)), AVal.pv (PVal.int IntKind.u64 (0)), AVal.pv (PVal.int IntKind.u64 (0)), AVal.pv (PVal.int IntKind.u64 (0)), AVal.pv (PVal.int IntKind.u64 (0)), AVal.pv (PVal.int IntKind.u64 (0)), AVal.pv (PVal.int IntKind.u64 (0)), AVal.pv (PVal.int IntKind.u64 (0)), AVal.pv (PVal.int IntKind.u64 (0)), AVal.pv (PVal.int IntKind.u64 (0)), AVal.pv (PVal.int IntKind.u64 (0)), AVal.pv (PVal.int IntKind.u64 (0)), AVal.pv (PVal.int IntKind.u64 (0)), AVal.pv (PVal.int IntKind.u64 (0)), AVal.pv (PVal.int IntKind.u64 (0)), AVal.pv (PVal.int IntKind.u64 (0))], fields := [], eSize := 1, eBytes := 8, eZero := true, kKind := Kd.int IntKind.u64, eZV := none, kind := Kd.array 20, eqs := none }
def ty205 : Ty := { size := 1, bytes := 4, agg := false, zero := some [AVal.pv (PVal.int IntKind.u32 (0))], fields := [], eSize := 0, eBytes := 0, eZero := false, kKind := Kd.other, eZV := none, kind := Kd.int IntKind.u32, eqs := none }
def ty206 : Ty := { size := 65, bytes := 65, agg := true, zero := some [AVal.pv (PVal.int IntKind.u8 (0)), AVal.pv (PVal.int IntKind.u8 (0)), AVal.pv (PVal.int IntKind.u8 (0)), AVal.pv (PVal.int IntKind.u8 (0)), AVal.pv (PVal.int IntKind.u8 (0)), AVal.pv (PVal.int IntKind.u8 (0)), AVal.pv (PVal.int IntKind.u8 (0)), AVal.pv (PVal.int IntKind.u8 (0)), AVal.pv (PVal.int IntKind.u8 (0)), AVal.pv (PVal.int IntKind.u8 (0)), AVal.pv (PVal.int IntKind.u8 (0)), AVal.pv (PVal.int IntKind.u8 (0)), AVal.pv (PVal.int IntKind.u8 (0)), AVal.pv (PVal.int IntKind.u8 (0)), AVal.pv (PVal.int IntKind.u8 (0)), AVal.pv (PVal.int IntKind.u8 (0)), AVal.pv (PVal.int IntKind.u8 (0)), AVal.pv (PVal.int IntKind.u8 (0)), AVal.pv (PVal.int IntKind.u8 (0)), AVal.pv (PVal.int IntKind.u8 (0)), AVal.pv (PVal.int IntKind.u8 (0)), AVal.pv (PVal.int IntKind.u8 (0)), AVal.pv (PVal.int IntKind.u8 (0)), AVal.pv (PVal.int IntKind.u8 (0)), AVal.pv (PVal.int IntKind.u8 (0)), AVal.pv (PVal.int IntKind.u8 (0)), AVal.pv (PVal.int IntKind.u8 (0)), AVal.pv (PVal.int IntKind.u8 (0)), AVal.pv (PVal.int IntKind.u8 (0)), AVal.pv (PVal.int IntKind.u8 (0)), AVal.pv (PVal.int IntKind.u8 (0)), AVal.pv (PVal.int IntKind.u8 (0)), AVal.pv (PVal.int IntKind.u8 (0)), AVal.pv (PVal.int IntKind.u8 (0)), AVal.pv (PVal.int IntKind.u8 (0)), AVal.pv (PVal.int IntKind.u8 (0)), AVal.pv (PVal.int IntKind.u8 (0)), AVal.pv (PVal.int IntKind.u8 (0)), AVal.pv (PVal.int IntKind.u8 (0)), AVal.pv (PVal.int IntKind.u8 (0)), AVal.pv (PVal.int IntKind.u8 (0)), AVal.pv (PVal.int IntKind.u8 (0)), AVal.pv (PVal.int IntKind.u8 (0)), AVal.pv (PVal.int IntKind.u8 (0)), AVal.pv (PVal.int IntKind.u8 (0)), AVal.pv (PVal.int IntKind.u8 (0)), AVal.pv (PVal.int IntKind.u8 (0)), AVal.pv (PVal.int IntKind.u8 (0)), AVal.pv (PVal.int IntKind.u8 (0)), AVal.pv (PVal.int IntKind.u8 (0)), AVal.pv (PVal.int IntKind.u8 (0)), AVal.pv (PVal.int IntKind.u8 (0)), AVal.pv (PVal.int IntKind.u8 (0)), AVal.pv (PVal.int IntKind.u8 (0)), AVal.pv (PVal.int IntKind.u8 (0)), AVal.pv (PVal.int IntKind.u8 (0)), AVal.pv (PVal.int IntKind.u8 (0)), AVal.pv (PVal.int IntKind.u8 (0)), AVal.pv (PVal.int IntKind.u8 (0)), AVal.pv (PVal.int IntKind.u8 (0)), AVal.pv (PVal.int IntKind.u8 (0)), AVal.pv (PVal.int IntKind.u8 (0)), AVal.pv (PVal.int IntKind.u8 (0)), AVal.pv (PVal.int IntKind.u8 (0)), AVal.pv (PVal.int IntKind.u8 (0))], fields := [], eSize := 1, eBytes := 1, eZero := true, kKind := Kd.int IntKind.u8, eZV := none, kind := Kd.array 65, eqs := none }
def ty207 : Ty := { size := 1, bytes := 8, agg := false, zero := some [AVal.pv (PVal.int IntKind.u64 (0))], fields := [], eSize := 0, eBytes := 0, eZero := false, kKind := Kd.other, eZV := none, kind := Kd.int IntKind.u64, eqs := none }
def ty212 : Ty := { size := 1, bytes := 8, agg := true, zero := some [AVal.pv (PVal.int IntKind.i64 (0))], fields := [(0, 1)], eSize := 0, eBytes := 0, eZero := false, kKind := Kd.other, eZV := none, kind := Kd.struct, eqs := some [Kd.int IntKind.i64] }
def ty213 : Ty := { size := 1, bytes := 8, agg := true, zero := some [AVal.pv (PVal.int IntKind.i64 (0))], fields := [(0, 1)], eSize := 0, eBytes := 0, eZero := false, kKind := Kd.other, eZV := none, kind := Kd.struct, eqs := some [Kd.int IntKind.i64] }
def ty215 : Ty := { size := 1, bytes := 8, agg := false, zero := some [AVal.pv PVal.nilptr], fields := [], eSize := 0, eBytes := 0, eZero := false, kKind := Kd.other, eZV := none, kind := Kd.other, eqs := none }
def ty216 : Ty := { size := 3, bytes := 40, agg := true, zero := some [AVal.snil, AVal.pv (PVal.int IntKind.i64 (0)), AVal.pv (PVal.int IntKind.i64 (0))], fields := [(0, 1), (1, 1), (2, 1)], eSize := 0, eBytes := 0, eZero := false, kKind := Kd.other, eZV := none, kind := Kd.struct, eqs := none }
def ty217 : Ty := { size := 3, bytes := 40, agg := true, zero := some [AVal.snil, AVal.pv (PVal.int IntKind.i64 (0)), AVal.pv (PVal.int IntKind.i64 (0))], fields := [(0, 1), (1, 1), (2, 1)], eSize := 0, eBytes := 0, eZero := false, kKind := Kd.other, eZV := none, kind := Kd.struct, eqs := none }
def ty220 : Ty := { size := 1, bytes := 8, agg := false, zero := some [AVal.pv PVal.nilptr], fields := [], eSize := 0, eBytes := 0, eZero := false, kKind := Kd.other, eZV := none, kind := Kd.other, eqs := none }
def ty221 : Ty := { size := 1, bytes := 8, agg := false, zero := some [AVal.pv PVal.nilptr], fields := [], eSize := 0, eBytes := 0, eZero := false, kKind := Kd.other, eZV := none, kind := Kd.other, eqs := none }
def ty225 : Ty := { size := 256, bytes := 256, agg := true, zero := some [AVal.pv (PVal.int IntKind.u8 (0)), AVal.pv (PVal.int IntKind.u8 (0)), AVal.pv (PVal.int IntKind.u8 (0)), AVal.pv (PVal.int IntKind.u8 (0)), AVal.pv (PVal.int IntKind.u8 (0)), AVal.pv (PVal.int IntKind.u8 (0)), AVal.pv (PVal.int IntKind.u8 (0)), AVal.pv (PVal.int IntKind.u8 (0)), AVal.pv (PVal.int IntKind.u8 (0)), AVal.pv (PVal.int IntKind.u8 (0)), AVal.pv (PVal.int IntKind.u8 (0)), AVal.pv (PVal.int IntKind.u8 (0)), AVal.pv (PVal.int IntKind.u8 (0)), AVal.pv (PVal.int IntKind.u8 (0)), AVal.pv (PVal.int IntKind.u8 (0)), AVal.pv (PVal.int IntKind.u8 (0)), AVal.pv (PVal.int IntKind.u8 (0)), AVal.pv (PVal.int IntKind.u8 (0)), AVal.pv (PVal.int IntKind.u8 (0)), AVal.pv (PVal.int IntKind.u8 (0)), AVal.pv (PVal.int IntKind.u8 (0)), AVal.pv (PVal.int IntKind.u8 (0)), AVal.pv (PVal.int IntKind.u8 (0)), AVal.pv (PVal.int IntKind.u8 (0)), AVal.pv (PVal.int IntKind.u8 (0)), AVal.pv (PVal.int IntKind.u8 (0)), AVal.pv (PVal.int IntKind.u8 (0)), AVal.pv (PVal.int IntKind.u8 (0)), AVal.pv (PVal.int IntKind.u8 (0)), AVal.pv (PVal.int IntKind.u8 (0)), AVal.pv (PVal.int IntKind.u8 (0)), AVal.pv (PVal.int IntKind.u8 (0)), AVal.pv (PVal.int IntKind.u8 (0)), AVal.pv (PVal.int IntKind.u8 (0)), AVal.pv (PVal.int IntKind.u8 (0)), AVal.pv (PVal.int IntKind.u8 (0)), AVal.pv (PVal.int IntKind.u8 (0)), AVal.pv (PVal.int IntKind.u8 (0)), AVal.pv (PVal.int IntKind.u8 (0)), AVal.pv (PVal.int IntKind.u8 (0)), AVal.pv (PVal.int IntKind.u8 (0)), AVal.pv (PVal.int IntKind.u8 (0)), AVal.pv (PVal.int IntKind.u8 (0)), AVal.pv (PVal.int IntKind.u8 (0)), AVal.pv (PVal.int IntKind.u8 (0)), AVal.pv (PVal.int IntKind.u8 (0)), AVal.pv (PVal.int IntKind.u8 (0)), AVal.pv (PVal.int IntKind.u8 (0)), AVal.pv (PVal.int IntKind.u8 (0)), AVal.pv (PVal.int IntKind.u8 (0)), AVal.pv (PVal.int IntKind.u8 (0)), AVal.pv (PVal.int IntKind.u8 (0)), AVal.pv (PVal.int IntKind.u8 (0)), AVal.pv (PVal.int IntKind.u8 (0)), AVal.pv (PVal.int IntKind.u8 (0)), AVal.pv (PVal.int IntKind.u8 (0)), AVal.pv (PVal.int IntKind.u8 (0)), AVal.pv (PVal.int IntKind.u8 (0)), AVal.pv (PVal.int IntKind.u8 (0)), AVal.pv (PVal.int IntKind.u8 (0)), AVal.pv (PVal.int IntKind.u8 (0)), AVal.pv (PVal.int IntKind.u8 (0)), AVal.pv (PVal.int IntKind.u8 (0)), AVal.pv (PVal.int IntKind.u8 (0)), AVal.pv (PVal.int IntKind.u8 (0)), AVal.pv (PVal.int IntKind.u8 (0)), AVal.pv (PVal.int IntKind.u8 (0)), AVal.pv (PVal.int IntKind.u8 (0)), AVal.pv (PVal.int IntKind.u8 (0)), AVal.pv (PVal.int IntKind.u8 (0)), AVal.pv (PVal.int IntKind.u8 (0)), AVal.pv (PVal.int IntKind.u8 (0)), AVal.pv (PVal.int IntKind.u8 (0)), AVal.pv (PVal.int IntKind.u8 (0)), AVal.pv (PVal.int IntKind.u8 (0)), AVal.pv (PVal.int IntKind.u8 (0)), AVal.pv (PVal.int IntKind.u8 (0)), AVal.pv (PVal.int IntKind.u8 (0)), AVal.pv (PVal.int IntKind.u8 (0)), AVal.pv (PVal.int IntKind.u8 (0)), AVal.pv (PVal.int IntKind.u8 (0)), AVal.pv (PVal.int IntKind.u8 (0)), AVal.pv (PVal.int IntKind.u8 (0)), AVal.pv (PVal.int IntKind.u8 (0)), AVal.pv (PVal.int IntKind.u8 (0)), AVal.pv (PVal.int IntKind.u8 (0)), AVal.pv (PVal.int IntKind.u8 (0)), AVal.pv (PVal.int IntKind.u8 (0)), AVal.pv (PVal.int IntKind.u8 (0)), AVal.pv (PVal.int IntKind.u8 (0)), AVal.pv (PVal.int IntKind.u8 (0)), AVal.pv (PVal.int IntKind.u8 (0)), AVal.pv (PVal.int IntKind.u8 (0)), AVal.pv (PVal.int IntKind.u8 (0)), AVal.pv (PVal.int IntKind.u8 (0)), AVal.pv (PVal.int IntKind.u8 (0)), AVal.pv (PVal.int IntKind.u8 (0)), AVal.pv (PVal.int IntKind.u8 (0)), AVal.pv (PVal.int IntKind.u8 (0)), AVal.pv (PVal.int IntKind.u8 (0)), AVal.pv (PVal.int IntKind.u8 (0)), AVal.pv (PVal.int IntKind.u8 (0)), AVal.pv (PVal.int IntKind.u8 (0)), AVal.pv (PVal.int IntKind.u8 (0)), AVal.pv (PVal.int IntKind.u8 (0)), AVal.pv (PVal.int IntKind.u8 (0)), AVal.pv (PVal.int IntKind.u8 (0)), AVal.pv (PVal.int IntKind.u8 (0)), AVal.pv (PVal.int IntKind.u8 (0)), AVal.pv (PVal.int IntKind.u8 (0)), AVal.pv (PVal.int IntKind.u8 (0)), AVal.pv (PVal.int IntKind.u8 (0)), AVal.pv (PVal.int IntKind.u8 (0)), AVal.pv (PVal.int IntKind.u8 (0)), AVal.pv (PVal.int IntKind.u8 (0)), AVal.pv (PVal.int IntKind.u8 (0)), AVal.pv (PVal.int IntKind.u8 (0)), AVal.pv (PVal.int IntKind.u8 (0)), AVal.pv (PVal.int IntKind.u8 (0)), AVal.pv (PVal.int IntKind.u8 (0)), AVal.pv (PVal.int IntKind.u8 (0)), AVal.pv (PVal.int IntKind.u8 (0)), AVal.pv (PVal.int IntKind.u8 (0)), AVal.pv (PVal.int IntKind.u8 (0)), AVal.pv (PVal.int IntKind.u8 (0)), AVal.pv (PVal.int IntKind.u8 (0)), AVal.pv (PVal.int IntKind.u8 (0)), AVal.pv (PVal.int IntKind.u8 (0)), AVal.pv (PVal.int IntKind.u8 (0)), AVal.pv (PVal.int IntKind.u8 (0)), AVal.pv (PVal.int IntKind.u8 (0)), AVal.pv (PVal.int IntKind.u8 (0)), AVal.pv (PVal.int IntKind.u8 (0)), AVal.pv (PVal.int IntKind.u8 (0)), AVal.pv (PVal.int IntKind.u8 (0)), AVal.pv (PVal.int IntKind.u8 (0)), AVal.pv (PVal.int IntKind.u8 (0)), AVal.pv (PVal.int IntKind.u8 (0)), AVal.pv (PVal.int IntKind.u8 (0)), AVal.pv (PVal.int IntKind.u8 (0)), AVal.pv (PVal.int IntKind.u8 (0)), AVal.pv (PVal.int IntKind.u8 (0)), AVal.pv (PVal.int IntKind.u8 (0)), AVal.pv (PVal.int IntKind.u8 (0)), AVal.pv (PVal.int IntKind.u8 (0)), AVal.pv (PVal.int IntKind.u8 (0)), AVal.pv (PVal.int IntKind.u8 (0)), AVal.pv (PVal.int IntKind.u8 (0)), AVal.pv (PVal.int IntKind.u8 (0)), AVal.pv (PVal.int IntKind.u8 (0)), AVal.pv (PVal.int IntKind.u8 (0)), AVal.pv (PVal.int IntKind.u8 (0)), AVal.pv (PVal.int IntKind.u8 (0)), AVal.pv (PVal.int IntKind.u8 (0)), AVal.pv (PVal.int IntKind.u8 (0)), AVal.pv (PVal.int IntKind.u8 (0)), AVal.pv (PVal.int IntKind.u8 (0)), AVal.pv (PVal.int IntKind.u8 (0)), AVal.pv (PVal.int IntKind.u8 (0)), AVal.pv (PVal.int IntKind.u8 (0)), AVal.pv (PVal.int IntKind.u8 (0)), AVal.pv (PVal.int IntKind.u8 (0)), AVal.pv (PVal.int IntKind.u8 (0)), AVal.pv (PVal.int IntKind.u8 (0)), AVal.pv (PVal.int IntKind.u8 (0)), AVal.pv (PVal.int IntKind.u8 (0)), AVal.pv (PVal.int IntKind.u8 (0)), AVal.pv (PVal.int IntKind.u8 (0)), AVal.pv (PVal.int IntKind.u8 (0)), AVal.pv (PVal.int IntKind.u8 (0)), AVal.pv (PVal.int IntKind.u8 (0)), AVal.pv (PVal.int IntKind.u8 (0)), AVal.pv (PVal.int IntKind.u8 (0)), AVal.pv (PVal.int IntKind.u8 (0)), AVal.pv (PVal.int IntKind.u8 (0)), AVal.pv (PVal.int IntKind.u8 (0)), AVal.pv (PVal.int IntKind.u8 (0)), AVal.pv (PVal.int IntKind.u8 (0)), AVal.pv (PVal.int IntKind.u8 (0)), AVal.pv (PVal.int IntKind.u8 (0)), AVal.pv (PVal.int IntKind.u8 (0)), AVal.pv (PVal.int IntKind.u8 (0)), AVal.pv (PVal.int IntKind.u8 (0)), AVal.pv (PVal.int IntKind.u8 (0)), AVal.pv (PVal.int IntKind.u8 (0)), AVal.pv (PVal.int IntKind.u8 (0)), AVal.pv (PVal.int IntKind.u8 (0)), AVal.pv (PVal.int IntKind.u8 (0)), AVal.pv (PVal.int IntKind.u8 (0)), AVal.pv (PVal.int IntKind.u8 (0)), AVal.pv (PVal.int IntKind.u8 (0)), AVal.pv (PVal.int IntKind.u8 (0)), AVal.pv (PVal.int IntKind.u8 (0)), AVal.pv (PVal.int IntKind.u8 (0)), AVal.pv (PVal.int IntKind.u8 (0)), AVal.pv (PVal.int IntKind.u8 (0)), AVal.pv (PVal.int IntKind.u8 (0)), AVal.pv (PVal.int IntKind.u8 (0)), AVal.pv (PVal.int IntKind.u8 (0)), AVal.pv (PVal.int IntKind.u8 (0)), AVal.pv (PVal.int IntKind.u8 (0)), AVal.pv (PVal.int IntKind.u8 (0)), AVal.pv (PVal.int IntKind.u8 (0)), AVal.pv (PVal.int IntKind.u8 (0)), AVal.pv (PVal.int IntKind.u8 (0)), AVal.pv (PVal.int IntKind.u8 (0)), AVal.pv (PVal.int IntKind.u8 (0)), AVal.pv (PVal.int IntKind.u8 (0)), AVal.pv (PVal.int IntKind.u8 (0)), AVal.pv (PVal.int IntKind.u8 (0)), AVal.pv (PVal.int IntKind.u8 (0)), AVal.pv (PVal.int IntKind.u8 (0)), AVal.pv (PVal.int IntKind.u8 (0)), AVal.pv (PVal.int IntKind.u8 (0)), AVal.pv (PVal.int IntKind.u8 (0)), AVal.pv (PVal.int IntKind.u8 (0)), AVal.pv (PVal.int IntKind.u8 (0)), AVal.pv (PVal.int IntKind.u8 (0)), AVal.pv (PVal.int IntKind.u8 (0)), AVal.pv (PVal.int IntKind.u8 (0)), AVal.pv (PVal.int IntKind.u8 (0)), AVal.pv (PVal.int IntKind.u8 (0)), AVal.pv (PVal.int IntKind.u8 (0)), AVal.pv (PVal.int IntKind.u8 (0)), AVal.pv (PVal.int IntKind.u8 (0)), AVal.pv (PVal.int IntKind.u8 (0)), AVal.pv (PVal.int IntKind.u8 (0)), AVal.pv (PVal.int IntKind.u8 (0)), AVal.pv (PVal.int IntKind.u8 (0)), AVal.pv (PVal.int IntKind.u8 (0)), AVal.pv (PVal.int IntKind.u8 (0)), AVal.pv (PVal.int IntKind.u8 (0)), AVal.pv (PVal.int IntKind.u8 (0)), AVal.pv (PVal.int IntKind.u8 (0)), AVal.pv (PVal.int IntKind.u8 (0)), AVal.pv (PVal.int IntKind.u8 (0)), AVal.pv (PVal.int IntKind.u8 (0)), AVal.pv (PVal.int IntKind.u8 (0)), AVal.pv (PVal.int IntKind.u8 (0)), AVal.pv (PVal.int IntKind.u8 (0)), AVal.pv (PVal.int IntKind.u8 (0)), AVal.pv (PVal.int IntKind.u8 (0)), AVal.pv (PVal.int IntKind.u8 (0)), AVal.pv (PVal.int IntKind.u8 (0)), AVal.pv (PVal.int IntKind.u8 (0)), AVal.pv (PVal.int IntKind.u8 (0)), AVal.pv (PVal.int IntKind.u8 (0)), AVal.pv (PVal.int IntKind.u8 (0)), AVal.pv (PVal.int IntKind.u8 (0)), AVal.pv (PVal.int IntKind.u8 (0)), AVal.pv (PVal.int IntKind.u8 (0)), AVal.pv (PVal.int IntKind.u8 (0)), AVal.pv (PVal.int IntKind.u8 (0)), AVal.pv (PVal.int IntKind.u8 (0)), AVal.pv (PVal.int IntKind.u8 (0)), AVal.pv (PVal.int IntKind.u8 (0))], fields := [], eSize := 1, eBytes := 1, eZero := true, kKind := Kd.int IntKind.u8, eZV := none, kind := Kd.array 256, eqs := none }
def ty226 : Ty := { size := 2, bytes := 2, agg := true, zero := some [AVal.pv (PVal.int IntKind.u8 (0)), AVal.pv (PVal.int IntKind.u8 (0))], fields := [(0, 1), (1, 1)], eSize := 0, eBytes := 0, eZero := false, kKind := Kd.other, eZV := none, kind := Kd.struct, eqs := some [Kd.int IntKind.u8, Kd.int IntKind.u8] }
def ty227 : Ty := { size := 2, bytes := 2, agg := true, zero := some [AVal.pv (PVal.int IntKind.u8 (0)), AVal.pv (PVal.int IntKind.u8 (0))], fields := [(0, 1), (1, 1)], eSize := 0, eBytes := 0, eZero := false, kKind := Kd.other, eZV := none, kind := Kd.struct, eqs := some [Kd.int IntKind.u8, Kd.int IntKind.u8] }
def ty228 : Ty := { size := 32, bytes := 32, agg := true, zero := some [AVal.pv (PVal.int IntKind.u8 (0)), AVal.pv (PVal.int IntKind.u8 (0)), AVal.pv (PVal.int IntKind.u8 (0)), AVal.pv (PVal.int IntKind.u8 (0)), AVal.pv (PVal.int IntKind.u8 (0)), AVal.pv (PVal.int IntKind.u8 (0)), AVal.pv (PVal.int IntKind.u8 (0)), AVal.pv (PVal.int IntKind.u8 (0)), AVal.pv (PVal.int IntKind.u8 (0)), AVal.pv (PVal.int IntKind.u8 (0)), AVal.pv (PVal.int IntKind.u8 (0)), AVal.pv (PVal.int IntKind.u8 (0)), AVal.pv (PVal.int IntKind.u8 (0)), AVal.pv (PVal.int IntKind.u8 (0)), AVal.pv (PVal.int IntKind.u8 (0)), AVal.pv (PVal.int IntKind.u8 (0)), AVal.pv (PVal.int IntKind.u8 (0)), AVal.pv (PVal.int IntKind.u8 (0)), AVal.pv (PVal.int IntKind.u8 (0)), AVal.pv (PVal.int IntKind.u8 (0)), AVal.pv (PVal.int IntKind.u8 (0)), AVal.pv (PVal.int IntKind.u8 (0)), AVal.pv (PVal.int IntKind.u8 (0)), AVal.pv (PVal.int IntKind.u8 (0)), AVal.pv (PVal.int IntKind.u8 (0)), AVal.pv (PVal.int IntKind.u8 (0)), AVal.pv (PVal.int IntKind.u8 (0)), AVal.pv (PVal.int IntKind.u8 (0)), AVal.pv (PVal.int IntKind.u8 (0)), AVal.pv (PVal.int IntKind.u8 (0)), AVal.pv (PVal.int IntKind.u8 (0)), AVal.pv (PVal.int IntKind.u8 (0))], fields := [], eSize := 2, eBytes := 2, eZero := true, kKind := Kd.other, eZV := none, kind := Kd.array 16, eqs := none }
def ty231 : Ty := { size := 1, bytes := 8, agg := false, zero := some [AVal.pv (PVal.int IntKind.i64 (0))], fields := [], eSize := 0, eBytes := 0, eZero := false, kKind := Kd.other, eZV := none, kind := Kd.int IntKind.i64, eqs := none }
def ty234 : Ty := { size := 1, bytes := 8, agg := false, zero := some [AVal.pv PVal.nilptr], fields := [], eSize := 0, eBytes := 0, eZero := false, kKind := Kd.other, eZV := none, kind := Kd.other, eqs := none }
def ty237 : Ty := { size := 1, bytes := 8, agg := false, zero := some [AVal.pv PVal.nilptr], fields := [], eSize := 0, eBytes := 0, eZero := false, kKind := Kd.other, eZV := none, kind := Kd.other, eqs := none }
def ty238 : Ty := { size := 4, bytes := 32, agg := true, zero := some [AVal.pv PVal.nilptr, AVal.pv PVal.nilptr, AVal.pv PVal.nilptr, AVal.pv PVal.nilptr], fields := [], eSize := 1, eBytes := 8, eZero := true, kKind := Kd.other, eZV := none, kind := Kd.array 4, eqs := none }
def ty239 : Ty := { size := 4, bytes := 64, agg := true, zero := some [AVal.pv (PVal.str []), AVal.pv (PVal.str []), AVal.pv (PVal.str []), AVal.pv (PVal.str [])], fields := [], eSize := 1, eBytes := 16, eZero := true, kKind := Kd.string, eZV := none, kind := Kd.array 4, eqs := none }
def ty241 : Ty := { size := 32, bytes := 32, agg := true, zero := some [AVal.pv (PVal.int IntKind.u8 (0)), AVal.pv (PVal.int IntKind.u8 (0)), AVal.pv (PVal.int IntKind.u8 (0)), AVal.pv (PVal.int IntKind.u8 (0)), AVal.pv (PVal.int IntKind.u8 (0)), AVal.pv (PVal.int IntKind.u8 (0)), AVal.pv (PVal.int IntKind.u8 (0)), AVal.pv (PVal.int IntKind.u8 (0)), AVal.pv (PVal.int IntKind.u8 (0)), AVal.pv (PVal.int IntKind.u8 (0)), AVal.pv (PVal.int IntKind.u8 (0)), AVal.pv (PVal.int IntKind.u8 (0)), AVal.pv (PVal.int IntKind.u8 (0)), AVal.pv (PVal.int IntKind.u8 (0)), AVal.pv (PVal.int IntKind.u8 (0)), AVal.pv (PVal.int IntKind.u8 (0)), AVal.pv (PVal.int IntKind.u8 (0)), AVal.pv (PVal.int IntKind.u8 (0)), AVal.pv (PVal.int IntKind.u8 (0)), AVal.pv (PVal.int IntKind.u8 (0)), AVal.pv (PVal.int IntKind.u8 (0)), AVal.pv (PVal.int IntKind.u8 (0)), AVal.pv (PVal.int IntKind.u8 (0)), AVal.pv (PVal.int IntKind.u8 (0)), AVal.pv (PVal.int IntKind.u8 (0)), AVal.pv (PVal.int IntKind.u8 (0)), AVal.pv (PVal.int IntKind.u8 (0)), AVal.pv (PVal.int IntKind.u8 (0)), AVal.pv (PVal.int IntKind.u8 (0)), AVal.pv (PVal.int IntKind.u8 (0)), AVal.pv (PVal.int IntKind.u8 (0)), AVal.pv (PVal.int IntKind.u8 (0))], fields := [], eSize := 1, eBytes := 1, eZero := true, kKind := Kd.int IntKind.u8, eZV := none, kind := Kd.array 32, eqs := none }
def ty242 : Ty := { size := 64, bytes := 64, agg := true, zero := some [AVal.pv (PVal.int IntKind.u8 (0)), AVal.pv (PVal.int IntKind.u8 (0)), AVal.pv (PVal.int IntKind.u8 (0)), AVal.pv (PVal.int IntKind.u8 (0)), AVal.pv (PVal.int IntKind.u8 (0)), AVal.pv (PVal.int IntKind.u8 (0)), AVal.pv (PVal.int IntKind.u8 (0)), AVal.pv (PVal.int IntKind.u8 (0)), AVal.pv (PVal.int IntKind.u8 (0)), AVal.pv (PVal.int IntKind.u8 (0)), AVal.pv (PVal.int IntKind.u8 (0)), AVal.pv (PVal.int IntKind.u8 (0)), AVal.pv (PVal.int IntKind.u8 (0)), AVal.pv (PVal.int IntKind.u8 (0)), AVal.pv (PVal.int IntKind.u8 (0)), AVal.pv (PVal.int IntKind.u8 (0)), AVal.pv (PVal.int IntKind.u8 (0)), AVal.pv (PVal.int IntKind.u8 (0)), AVal.pv (PVal.int IntKind.u8 (0)), AVal.pv (PVal.int IntKind.u8 (0)), AVal.pv (PVal.int IntKind.u8 (0)), AVal.pv (PVal.int IntKind.u8 (0)), AVal.pv (PVal.int IntKind.u8 (0)), AVal.pv (PVal.int IntKind.u8 (0)), AVal.pv (PVal.int IntKind.u8 (0)), AVal.pv (PVal.int IntKind.u8 (0)), AVal.pv (PVal.int IntKind.u8 (0)), AVal.pv (PVal.int IntKind.u8 (0)), AVal.pv (PVal.int IntKind.u8 (0)), AVal.pv (PVal.int IntKind.u8 (0)), AVal.pv (PVal.int IntKind.u8 (0)), AVal.pv (PVal.int IntKind.u8 (0)), AVal.pv (PVal.int IntKind.u8 (0)), AVal.pv (PVal.int IntKind.u8 (0)), AVal.pv (PVal.int IntKind.u8 (0)), AVal.pv (PVal.int IntKind.u8 (0)), AVal.pv (PVal.int IntKind.u8 (0)), AVal.pv (PVal.int IntKind.u8 (0)), AVal.pv (PVal.int IntKind.u8 (0)), AVal.pv (PVal.int IntKind.u8 (0)), AVal.pv (PVal.int IntKind.u8 (0)), AVal.pv (PVal.int IntKind.u8 (0)), AVal.pv (PVal.int IntKind.u8 (0)), AVal.pv (PVal.int IntKind.u8 (0)), AVal.pv (PVal.int IntKind.u8 (0)), AVal.pv (PVal.int IntKind.u8 (0)), AVal.pv (PVal.int IntKind.u8 (0)), AVal.pv (PVal.int IntKind.u8 (0)), AVal.pv (PVal.int IntKind.u8 (0)), AVal.pv (PVal.int IntKind.u8 (0)), AVal.pv (PVal.int IntKind.u8 (0)), AVal.pv (PVal.int IntKind.u8 (0)), AVal.pv (PVal.int IntKind.u8 (0)), AVal.pv (PVal.int IntKind.u8 (0)), AVal.pv (PVal.int IntKind.u8 (0)), AVal.pv (PVal.int IntKind.u8 (0)), AVal.pv (PVal.int IntKind.u8 (0)), AVal.pv (PVal.int IntKind.u8 (0)), AVal.pv (PVal.int IntKind.u8 (0)), AVal.pv (PVal.int IntKind.u8 (0)), AVal.pv (PVal.int IntKind.u8 (0)), AVal.pv (PVal.int IntKind.u8 (0)), AVal.pv (PVal.int IntKind.u8 (0)), AVal.pv (PVal.int IntKind.u8 (0))], fields := [], eSize := 1, eBytes := 1, eZero := true, kKind := Kd.int IntKind.u8, eZV := none, kind := Kd.array 64, eqs := none }
def ty244 : Ty := { size := 3, bytes := 48, agg := true, zero := some [AVal.pv (PVal.str []), AVal.pv (PVal.str []), AVal.pv (PVal.err true)], fields := [(0, 1), (1, 1), (2, 1)], eSize := 0, eBytes := 0, eZero := false, kKind := Kd.other, eZV := none, kind := Kd.struct, eqs := none }
def ty245 : Ty := { size := 3, bytes := 48, agg := true, zero := some [AVal.pv (PVal.str []), AVal.pv (PVal.str []), AVal.pv (PVal.err true)], fields := [(0, 1), (1, 1), (2, 1)], eSize := 0, eBytes := 0, eZero := false, kKind := Kd.other, eZV := none, kind := Kd.struct, eqs := none }
def ty247 : Ty := { size := 1, bytes := 8, agg := false, zero := some [AVal.pv PVal.nilptr], fields := [], eSize := 0, eBytes := 0, eZero := false, kKind := Kd.other, eZV := none, kind := Kd.other, eqs := none }
def ty248 : Ty := { size := 1, bytes := 16, agg := true, zero := some [AVal.pv (PVal.str [])], fields := [(0, 1)], eSize := 0, eBytes := 0, eZero := false, kKind := Kd.other, eZV := none, kind := Kd.struct, eqs := some [Kd.string] }
def ty249 : Ty := { size := 1, bytes := 16, agg := true, zero := some [AVal.pv (PVal.str [])], fields := [(0, 1)], eSize := 0, eBytes := 0, eZero := false, kKind := Kd.other, eZV := none, kind := Kd.struct, eqs := some [Kd.string] }
def ty251 : Ty := { size := 4, bytes := 40, agg := true, zero := some [AVal.pv PVal.nilptr, AVal.pv PVal.nilptr, AVal.pv PVal.nilptr, AVal.pv (PVal.str [])], fields := [(0, 1), (1, 1), (2, 1), (3, 1)], eSize := 0, eBytes := 0, eZero := false, kKind := Kd.other, eZV := none, kind := Kd.struct, eqs := none }
def ty252 : Ty := { size := 4, bytes := 40, agg := true, zero := some [AVal.pv PVal.nilptr, AVal.pv PVal.nilptr, AVal.pv PVal.nilptr, AVal.pv (PVal.str [])], fields := [(0, 1), (1, 1), (2, 1), (3, 1)], eSize := 0, eBytes := 0, eZero := false, kKind := Kd.other, eZV := none, kind := Kd.struct, eqs := none }
def ty253 : Ty := { size := 0, bytes := 0, agg := true, zero := some [], fields := [], eSize := 1, eBytes := 8, eZero := true, kKind := Kd.other, eZV := none, kind := Kd.array 0, eqs := none }
def ty254 : Ty := { size := 0, bytes := 0, agg := true, zero := some [], fields := [(0, 0)], eSize := 0, eBytes := 0, eZero := false, kKind := Kd.other, eZV := none, kind := Kd.struct, eqs := none }
def ty255 : Ty := { size := 0, bytes := 0, agg := true, zero := some [], fields := [(0, 0)], eSize := 0, eBytes := 0, eZero := false, kKind := Kd.other, eZV := none, kind := Kd.struct, eqs := none }
def ty256 : Ty := { size := 1, bytes := 1, agg := false, zero := some [AVal.pv (PVal.int IntKind.u8 (0))], fields := [], eSize := 0, eBytes := 0, eZero := false, kKind := Kd.other, eZV := none, kind := Kd.int IntKind.u8, eqs := none }
def ty257 : Ty := { size := 1, bytes := 1, agg := false, zero := some [AVal.pv (PVal.int IntKind.u8 (0))], fields := [], eSize := 0, eBytes := 0, eZero := false, kKind := Kd.other, eZV := none, kind := Kd.int IntKind.u8, eqs := none }
def ty259 : Ty := { size := 1, bytes := 4, agg := false, zero := some [AVal.pv (PVal.int IntKind.i32 (0))], fields := [], eSize := 0, eBytes := 0, eZero := false, kKind := Kd.other, eZV := none, kind := Kd.int IntKind.i32, eqs := none }
def ty260 : Ty := { size := 1, bytes := 4, agg := false, zero := some [AVal.pv (PVal.int IntKind.i32 (0))], fields := [], eSize := 0, eBytes := 0, eZero := false, kKind := Kd.other, eZV := none, kind := Kd.int IntKind.i32, eqs := none }
def tyF : Nat → Option Ty
  | 2 => some ty2
  | 3 => some ty3
  | 4 => some ty4
  | 5 => some ty5
  | 6 => some ty6
  | 7 => some ty7
  | 8 => some ty8
  | 9 => some ty9
  | 10 => some ty10
  | 11 => some ty11
  | 12 => some ty12
  | 13 => some ty13
  | 14 => some ty14
  | 15 => some ty15
  | 16 => some ty16
  | 17 => some ty17
  | 18 => some ty18
  | 19 => some ty19
  | 20 => some ty20
  | 21 => some ty21
  | 22 => some ty22
  | 24 => some ty24
  | 25 => some ty25
  | 26 => some ty26
  | 29 => some ty29
  | 40 => some ty40
  | 41 => some ty41
  | 42 => some ty42
  | 43 => some ty43
  | 44 => some ty44
  | 45 => some ty45
  | 47 => some ty47
  | 48 => some ty48
  | 50 => some ty50
  | 51 => some ty51
  | 52 => some ty52
  | 57 => some ty57
  | 58 => some ty58
  | 59 => some ty59
  | 70 => some ty70
  | 72 => some ty72
  | 73 => some ty73
  | 74 => some ty74
  | 75 => some ty75
  | 76 => some ty76
  | 77 => some ty77
  | 78 => some ty78
  | 79 => some ty79
  | 82 => some ty82
  | 85 => some ty85
  | 86 => some ty86
  | 87 => some ty87
  | 91 => some ty91
  | 92 => some ty92
  | 93 => some ty93
  | 95 => some ty95
  | 96 => some ty96
  | 97 => some ty97
  | 102 => some ty102
  | 112 => some ty112
  | 113 => some ty113
  | 115 => some ty115
  | 117 => some ty117
  | 118 => some ty118
  | 119 => some ty119
  | 126 => some ty126
  | 127 => some ty127
  | 128 => some ty128
  | 129 => some ty129
  | 130 => some ty130
  | 133 => some ty133
  | 135 => some ty135
  | 140 => some ty140
  | 143 => some ty143
  | 144 => some ty144
  | 147 => some ty147
  | 150 => some ty150
  | 153 => some ty153
  | 161 => some ty161
  | 168 => some ty168
  | 169 => some ty169
  | 172 => some ty172
  | 180 => some ty180
  | 198 => some ty198
  | 204 => some ty204
  | 205 => some ty205
  | 206 => some ty206
  | 207 => some ty207
  | 212 => some ty212
  | 213 => some ty213
  | 215 => some ty215
  | 216 => some ty216
  | 217 => some ty217
  | 220 => some ty220
  | 221 => some ty221
  | 225 => some ty225
  | 226 => some ty226
  | 227 => some ty227
  | 228 => some ty228
  | 231 => some ty231
  | 234 => some ty234
  | 237 => some ty237
  | 238 => some ty238
  | 239 => some ty239
  | 241 => some ty241
  | 242 => some ty242
  | 244 => some ty244
  | 245 => some ty245
  | 247 => some ty247
  | 248 => some ty248
  | 249 => some ty249
  | 251 => some ty251
  | 252 => some ty252
  | 253 => some ty253
  | 254 => some ty254
  | 255 => some ty255
  | 256 => some ty256
  | 257 => some ty257
  | 259 => some ty259
  | 260 => some ty260
  | _ => none
def gl : Nat → Option (List PVal)
  | 0 => some [.str [], .str [100, 101, 108, 105, 118, 101, 114], .str [116, 105, 99, 107], .str [105, 110, 112, 117, 116], .str [100, 114, 111, 112], .str [100, 117, 112, 108, 105, 99, 97, 116, 101], .str [114, 101, 115, 101, 110, 100], .str [99, 104, 101, 99, 107, 112, 111, 105, 110, 116], .str [102, 108, 117, 115, 104], .str [97, 99, 107], .str [99, 114, 97, 115, 104], .str [114, 101, 99, 111, 118, 101, 114], .str [114, 101, 115, 116, 111, 114, 101], .str [99, 111, 109, 109, 105, 116], .str [99, 111, 108, 108, 101, 99, 116]]
  | 1 => some [.str [], .str [105, 110, 100, 101, 112, 101, 110, 100, 101, 110, 116], .str [99, 111, 111, 114, 100, 105, 110, 97, 116, 101, 100], .str [105, 110, 100, 101, 120, 101, 100], .str [109, 111, 100, 101, 108, 98, 97, 115, 101, 100], .str [112, 101, 115, 115, 105, 109, 105, 115, 116, 105, 99], .str [115, 101, 110, 100, 101, 114, 98, 97, 115, 101, 100], .str [111, 112, 116, 105, 109, 105, 115, 116, 105, 99], .str [99, 97, 117, 115, 97, 108]]
  | 4 => some [.int .u64 1, .int .u64 10, .int .u64 100, .int .u64 1000, .int .u64 10000, .int .u64 100000, .int .u64 1000000, .int .u64 10000000, .int .u64 100000000, .int .u64 1000000000, .int .u64 10000000000, .int .u64 100000000000, .int .u64 1000000000000, .int .u64 10000000000000, .int .u64 100000000000000, .int .u64 1000000000000000, .int .u64 10000000000000000, .int .u64 100000000000000000, .int .u64 1000000000000000000, .int .u64 10000000000000000000]
  | 5 => some [.ani .i64]
  | 10 => some [.err false]
  | 11 => some [.err false]
  | _ => none
theorem gl_0 : gl 0 = some [.str [], .str [100, 101, 108, 105, 118, 101, 114], .str [116, 105, 99, 107], .str [105, 110, 112, 117, 116], .str [100, 114, 111, 112], .str [100, 117, 112, 108, 105, 99, 97, 116, 101], .str [114, 101, 115, 101, 110, 100], .str [99, 104, 101, 99, 107, 112, 111, 105, 110, 116], .str [102, 108, 117, 115, 104], .str [97, 99, 107], .str [99, 114, 97, 115, 104], .str [114, 101, 99, 111, 118, 101, 114], .str [114, 101, 115, 116, 111, 114, 101], .str [99, 111, 109, 109, 105, 116], .str [99, 111, 108, 108, 101, 99, 116]] := rfl
theorem gl_1 : gl 1 = some [.str [], .str [105, 110, 100, 101, 112, 101, 110, 100, 101, 110, 116], .str [99, 111, 111, 114, 100, 105, 110, 97, 116, 101, 100], .str [105, 110, 100, 101, 120, 101, 100], .str [109, 111, 100, 101, 108, 98, 97, 115, 101, 100], .str [112, 101, 115, 115, 105, 109, 105, 115, 116, 105, 99], .str [115, 101, 110, 100, 101, 114, 98, 97, 115, 101, 100], .str [111, 112, 116, 105, 109, 105, 115, 116, 105, 99], .str [99, 97, 117, 115, 97, 108]] := rfl
theorem gl_4 : gl 4 = some [.int .u64 1, .int .u64 10, .int .u64 100, .int .u64 1000, .int .u64 10000, .int .u64 100000, .int .u64 1000000, .int .u64 10000000, .int .u64 100000000, .int .u64 1000000000, .int .u64 10000000000, .int .u64 100000000000, .int .u64 1000000000000, .int .u64 10000000000000, .int .u64 100000000000000, .int .u64 1000000000000000, .int .u64 10000000000000000, .int .u64 100000000000000000, .int .u64 1000000000000000000, .int .u64 10000000000000000000] := rfl
theorem gl_5 : gl 5 = some [.ani .i64] := rfl
theorem gl_10 : gl 10 = some [.err false] := rfl
theorem gl_11 : gl 11 = some [.err false] := rfl
def envOf (site : Nat → Nat) (nobj : Nat) : Env := ⟨tyF, gl, site, nobj⟩
set_option maxRecDepth 100000 in
theorem envOK (site : Nat → Nat) (nobj : Nat) : EnvOK Tryz.prog (envOf site nobj) := by
  intro t ty h
  change tyF t = some ty at h
  unfold tyF at h
  split at h <;> first | (cases h; done) | (cases h; kernel_rfl)
theorem enters (f : FuncId) {fn : Func} (hf : Tryz.prog.funcs[f]? = some fn) (hn : (fn.name == "runtime.NumGoroutine" || fn.body.isNone) = false) (vargs : Array Value) (w : World) : (callFunc f vargs).run Tryz.prog w = .ok (.enter f vargs) w := by
  simp only [Bool.or_eq_false_iff] at hn
  obtain ⟨h1, h2⟩ := hn
  unfold callFunc
  simp only [Sem.run_bind, run_program, Result.andThen, hf, h1, h2, Bool.false_eq_true, if_false, Sem.run_pure]
theorem mixed : Tryz.prog.follows .mixedOrders = true := by kernel_rfl
theorem env_ty (site : Nat → Nat) (nobj t : Nat) : (envOf site nobj).ty t = tyF t := rfl
theorem env_gl (site : Nat → Nat) (nobj t : Nat) : (envOf site nobj).gl t = gl t := rfl
theorem env_site (site : Nat → Nat) (nobj t : Nat) : (envOf site nobj).site t = site t := rfl
theorem env_nobj (site : Nat → Nat) (nobj : Nat) : (envOf site nobj).nobj = nobj := rfl
theorem tyX2 : tyF 2 = some ty2 := rfl
theorem tyD2 : ty2 = { size := 1, bytes := 8, agg := false, zero := some [AVal.pv (PVal.int IntKind.i64 (0))], fields := [], eSize := 0, eBytes := 0, eZero := false, kKind := Kd.other, eZV := none, kind := Kd.int IntKind.i64, eqs := none } := rfl
theorem tyX3 : tyF 3 = some ty3 := rfl
theorem tyD3 : ty3 = { size := 1, bytes := 8, agg := false, zero := some [AVal.pv (PVal.int IntKind.i64 (0))], fields := [], eSize := 0, eBytes := 0, eZero := false, kKind := Kd.other, eZV := none, kind := Kd.int IntKind.i64, eqs := none } := rfl
theorem tyX4 : tyF 4 = some ty4 := rfl
theorem tyD4 : ty4 = { size := 1, bytes := 1, agg := false, zero := some [AVal.pv (PVal.bool false)], fields := [], eSize := 0, eBytes := 0, eZero := false, kKind := Kd.other, eZV := none, kind := Kd.bool, eqs := none } := rfl
theorem tyX5 : tyF 5 = some ty5 := rfl
theorem tyD5 : ty5 = { size := 1, bytes := 1, agg := false, zero := some [AVal.pv (PVal.int IntKind.u8 (0))], fields := [], eSize := 0, eBytes := 0, eZero := false, kKind := Kd.other, eZV := none, kind := Kd.int IntKind.u8, eqs := none } := rfl
theorem tyX9 : tyF 9 = some ty9 := rfl
theorem tyD9 : ty9 = { size := 1, bytes := 16, agg := false, zero := some [AVal.pv (PVal.str [])], fields := [], eSize := 0, eBytes := 0, eZero := false, kKind := Kd.other, eZV := none, kind := Kd.string, eqs := none } := rfl
theorem tyX20 : tyF 20 = some ty20 := rfl
theorem tyD20 : ty20 = { size := 1, bytes := 16, agg := false, zero := some [AVal.pv (PVal.err true)], fields := [], eSize := 0, eBytes := 0, eZero := false, kKind := Kd.other, eZV := none, kind := Kd.iface, eqs := none } := rfl
theorem tyX25 : tyF 25 = some ty25 := rfl
theorem tyD25 : ty25 = { size := 1, bytes := 24, agg := false, zero := some [AVal.snil], fields := [], eSize := 4, eBytes := 32, eZero := true, kKind := Kd.other, eZV := some (true, [PVal.int IntKind.i64 (0), PVal.int IntKind.i64 (0), PVal.int IntKind.i64 (0), PVal.int IntKind.i64 (0)]), kind := Kd.slice, eqs := none } := rfl
theorem tyX29 : tyF 29 = some ty29 := rfl
theorem tyD29 : ty29 = { size := 1, bytes := 8, agg := false, zero := some [AVal.pv (PVal.int IntKind.i64 (0))], fields := [], eSize := 0, eBytes := 0, eZero := false, kKind := Kd.other, eZV := none, kind := Kd.int IntKind.i64, eqs := none } := rfl
theorem tyX41 : tyF 41 = some ty41 := rfl
theorem tyD41 : ty41 = { size := 4, bytes := 32, agg := true, zero := some [AVal.pv (PVal.int IntKind.i64 (0)), AVal.pv (PVal.int IntKind.i64 (0)), AVal.pv (PVal.int IntKind.i64 (0)), AVal.pv (PVal.int IntKind.i64 (0))], fields := [(0, 1), (1, 1), (2, 1), (3, 1)], eSize := 0, eBytes := 0, eZero := false, kKind := Kd.other, eZV := none, kind := Kd.struct, eqs := some [Kd.int IntKind.i64, Kd.int IntKind.i64, Kd.int IntKind.i64, Kd.int IntKind.i64] } := rfl
theorem tyX42 : tyF 42 = some ty42 := rfl
theorem tyD42 : ty42 = { size := 1, bytes := 24, agg := false, zero := some [AVal.snil], fields := [], eSize := 3, eBytes := 32, eZero := true, kKind := Kd.other, eZV := some (true, [PVal.str [], PVal.int IntKind.i64 (0), PVal.int IntKind.i64 (0)]), kind := Kd.slice, eqs := none } := rfl
theorem tyX43 : tyF 43 = some ty43 := rfl
theorem tyD43 : ty43 = { size := 1, bytes := 24, agg := false, zero := some [AVal.snil], fields := [], eSize := 18, eBytes := 232, eZero := true, kKind := Kd.other, eZV := some (true, [PVal.int IntKind.i64 (0), PVal.str [], PVal.int IntKind.i64 (0), PVal.int IntKind.i64 (0), PVal.int IntKind.i64 (0), PVal.int IntKind.i64 (0), PVal.str [], PVal.int IntKind.i64 (0), PVal.int IntKind.i64 (0), PVal.slice [], PVal.int IntKind.i64 (0), PVal.int IntKind.i64 (0), PVal.str [], PVal.int IntKind.i64 (0), PVal.int IntKind.i64 (0), PVal.slice [], PVal.slice [], PVal.slice []]), kind := Kd.slice, eqs := none } := rfl
theorem tyX45 : tyF 45 = some ty45 := rfl
theorem tyD45 : ty45 = { size := 5, bytes := 120, agg := true, zero := some [AVal.snil, AVal.snil, AVal.snil, AVal.snil, AVal.snil], fields := [(0, 1), (1, 1), (2, 1), (3, 1), (4, 1)], eSize := 0, eBytes := 0, eZero := false, kKind := Kd.other, eZV := none, kind := Kd.struct, eqs := none } := rfl
theorem tyX48 : tyF 48 = some ty48 := rfl
theorem tyD48 : ty48 = { size := 3, bytes := 32, agg := true, zero := some [AVal.pv (PVal.str []), AVal.pv (PVal.int IntKind.i64 (0)), AVal.pv (PVal.int IntKind.i64 (0))], fields := [(0, 1), (1, 1), (2, 1)], eSize := 0, eBytes := 0, eZero := false, kKind := Kd.other, eZV := none, kind := Kd.struct, eqs := some [Kd.string, Kd.int IntKind.i64, Kd.int IntKind.i64] } := rfl
theorem tyX50 : tyF 50 = some ty50 := rfl
theorem tyD50 : ty50 = { size := 1, bytes := 24, agg := false, zero := some [AVal.snil], fields := [], eSize := 5, eBytes := 120, eZero := true, kKind := Kd.other, eZV := some (true, [PVal.slice [], PVal.slice [], PVal.slice [], PVal.slice [], PVal.slice []]), kind := Kd.slice, eqs := none } := rfl
theorem tyX52 : tyF 52 = some ty52 := rfl
theorem tyD52 : ty52 = { size := 3, bytes := 40, agg := true, zero := some [AVal.snil, AVal.pv (PVal.int IntKind.i64 (0)), AVal.pv (PVal.int IntKind.i64 (0))], fields := [(0, 1), (1, 1), (2, 1)], eSize := 0, eBytes := 0, eZero := false, kKind := Kd.other, eZV := none, kind := Kd.struct, eqs := none } := rfl
theorem tyX57 : tyF 57 = some ty57 := rfl
theorem tyD57 : ty57 = { size := 1, bytes := 24, agg := false, zero := some [AVal.snil], fields := [], eSize := 1, eBytes := 8, eZero := true, kKind := Kd.int IntKind.i64, eZV := some (false, [PVal.int IntKind.i64 (0)]), kind := Kd.slice, eqs := none } := rfl
theorem tyX59 : tyF 59 = some ty59 := rfl
theorem tyD59 : ty59 = { size := 5, bytes := 120, agg := true, zero := some [AVal.snil, AVal.snil, AVal.snil, AVal.snil, AVal.snil], fields := [(0, 1), (1, 1), (2, 1), (3, 1), (4, 1)], eSize := 0, eBytes := 0, eZero := false, kKind := Kd.other, eZV := none, kind := Kd.struct, eqs := none } := rfl
theorem tyX70 : tyF 70 = some ty70 := rfl
theorem tyD70 : ty70 = { size := 1, bytes := 24, agg := false, zero := some [AVal.snil], fields := [], eSize := 1, eBytes := 16, eZero := true, kKind := Kd.string, eZV := some (false, [PVal.str []]), kind := Kd.slice, eqs := none } := rfl
theorem tyX72 : tyF 72 = some ty72 := rfl
theorem tyD72 : ty72 = { size := 15, bytes := 240, agg := true, zero := some [AVal.pv (PVal.str []), AVal.pv (PVal.str []), AVal.pv (PVal.str []), AVal.pv (PVal.str []), AVal.pv (PVal.str []), AVal.pv (PVal.str []), AVal.pv (PVal.str []), AVal.pv (PVal.str []), AVal.pv (PVal.str []), AVal.pv (PVal.str []), AVal.pv (PVal.str []), AVal.pv (PVal.str []), AVal.pv (PVal.str []), AVal.pv (PVal.str []), AVal.pv (PVal.str [])], fields := [], eSize := 1, eBytes := 16, eZero := true, kKind := Kd.string, eZV := none, kind := Kd.array 15, eqs := none } := rfl
theorem tyX77 : tyF 77 = some ty77 := rfl
theorem tyD77 : ty77 = { size := 2, bytes := 32, agg := true, zero := some [AVal.pv PVal.nilptr, AVal.snil], fields := [(0, 1), (1, 1)], eSize := 0, eBytes := 0, eZero := false, kKind := Kd.other, eZV := none, kind := Kd.struct, eqs := none, bld := some 5 } := rfl
theorem tyX79 : tyF 79 = some ty79 := rfl
theorem tyD79 : ty79 = { size := 1, bytes := 16, agg := false, zero := some [AVal.pv (PVal.err true)], fields := [], eSize := 0, eBytes := 0, eZero := false, kKind := Kd.other, eZV := none, kind := Kd.iface, eqs := none } := rfl
theorem tyX82 : tyF 82 = some ty82 := rfl
theorem tyD82 : ty82 = { size := 9, bytes := 144, agg := true, zero := some [AVal.pv (PVal.str []), AVal.pv (PVal.str []), AVal.pv (PVal.str []), AVal.pv (PVal.str []), AVal.pv (PVal.str []), AVal.pv (PVal.str []), AVal.pv (PVal.str []), AVal.pv (PVal.str []), AVal.pv (PVal.str [])], fields := [], eSize := 1, eBytes := 16, eZero := true, kKind := Kd.string, eZV := none, kind := Kd.array 9, eqs := none } := rfl
theorem tyX85 : tyF 85 = some ty85 := rfl
theorem tyD85 : ty85 = { size := 1, bytes := 8, agg := false, zero := some [AVal.pv PVal.nilptr], fields := [], eSize := 0, eBytes := 0, eZero := false, kKind := Kd.other, eZV := none, kind := Kd.other, eqs := none } := rfl
theorem tyX87 : tyF 87 = some ty87 := rfl
theorem tyD87 : ty87 = { size := 7, bytes := 104, agg := true, zero := some [AVal.snil, AVal.pv (PVal.bool false), AVal.pv (PVal.int IntKind.i64 (0)), AVal.snil, AVal.pv (PVal.int IntKind.i64 (0)), AVal.pv (PVal.int IntKind.i64 (0)), AVal.snil], fields := [(0, 1), (1, 1), (2, 1), (3, 3), (6, 1)], eSize := 0, eBytes := 0, eZero := false, kKind := Kd.other, eZV := none, kind := Kd.struct, eqs := none } := rfl
theorem tyX91 : tyF 91 = some ty91 := rfl
theorem tyD91 : ty91 = { size := 1, bytes := 8, agg := false, zero := some [AVal.pv PVal.nilmap], fields := [], eSize := 0, eBytes := 0, eZero := false, kKind := Kd.string, eZV := some (true, [PVal.int IntKind.i64 (0), PVal.int IntKind.i64 (0)]), kind := Kd.map, eqs := none } := rfl
theorem tyX93 : tyF 93 = some ty93 := rfl
theorem tyD93 : ty93 = { size := 2, bytes := 16, agg := true, zero := some [AVal.pv (PVal.int IntKind.i64 (0)), AVal.pv (PVal.int IntKind.i64 (0))], fields := [(0, 1), (1, 1)], eSize := 0, eBytes := 0, eZero := false, kKind := Kd.other, eZV := none, kind := Kd.struct, eqs := some [Kd.int IntKind.i64, Kd.int IntKind.i64] } := rfl
theorem tyX95 : tyF 95 = some ty95 := rfl
theorem tyD95 : ty95 = { size := 1, bytes := 8, agg := false, zero := some [AVal.pv PVal.nilptr], fields := [], eSize := 0, eBytes := 0, eZero := false, kKind := Kd.other, eZV := none, kind := Kd.other, eqs := none } := rfl
theorem tyX97 : tyF 97 = some ty97 := rfl
theorem tyD97 : ty97 = { size := 3, bytes := 16, agg := true, zero := some [AVal.pv PVal.nilmap, AVal.pv (PVal.bool false), AVal.pv (PVal.bool false)], fields := [(0, 1), (1, 1), (2, 1)], eSize := 0, eBytes := 0, eZero := false, kKind := Kd.other, eZV := none, kind := Kd.struct, eqs := none } := rfl
theorem tyX115 : tyF 115 = some ty115 := rfl
theorem tyD115 : ty115 = { size := 1, bytes := 24, agg := false, zero := some [AVal.snil], fields := [], eSize := 1, eBytes := 8, eZero := true, kKind := Kd.other, eZV := some (false, [PVal.nilptr]), kind := Kd.slice, eqs := none } := rfl
theorem tyX117 : tyF 117 = some ty117 := rfl
theorem tyD117 : ty117 = { size := 1, bytes := 8, agg := false, zero := some [AVal.pv PVal.nilptr], fields := [], eSize := 0, eBytes := 0, eZero := false, kKind := Kd.other, eZV := none, kind := Kd.other, eqs := none } := rfl
theorem tyX118 : tyF 118 = some ty118 := rfl
theorem tyD118 : ty118 = { size := 1, bytes := 8, agg := false, zero := some [AVal.pv PVal.nilptr], fields := [], eSize := 0, eBytes := 0, eZero := false, kKind := Kd.other, eZV := none, kind := Kd.other, eqs := none } := rfl
theorem tyX126 : tyF 126 = some ty126 := rfl
theorem tyD126 : ty126 = { size := 1, bytes := 24, agg := false, zero := some [AVal.snil], fields := [], eSize := 6, eBytes := 72, eZero := true, kKind := Kd.other, eZV := some (true, [PVal.int IntKind.i64 (0), PVal.int IntKind.i64 (0), PVal.str [], PVal.int IntKind.i64 (0), PVal.int IntKind.i64 (0), PVal.slice []]), kind := Kd.slice, eqs := none } := rfl
theorem tyX128 : tyF 128 = some ty128 := rfl
theorem tyD128 : ty128 = { size := 6, bytes := 72, agg := true, zero := some [AVal.pv (PVal.int IntKind.i64 (0)), AVal.pv (PVal.int IntKind.i64 (0)), AVal.pv (PVal.str []), AVal.pv (PVal.int IntKind.i64 (0)), AVal.pv (PVal.int IntKind.i64 (0)), AVal.snil], fields := [(0, 1), (1, 1), (2, 1), (3, 1), (4, 1), (5, 1)], eSize := 0, eBytes := 0, eZero := false, kKind := Kd.other, eZV := none, kind := Kd.struct, eqs := none } := rfl
theorem tyX130 : tyF 130 = some ty130 := rfl
theorem tyD130 : ty130 = { size := 18, bytes := 232, agg := true, zero := some [AVal.pv (PVal.int IntKind.i64 (0)), AVal.pv (PVal.str []), AVal.pv (PVal.int IntKind.i64 (0)), AVal.pv (PVal.int IntKind.i64 (0)), AVal.pv (PVal.int IntKind.i64 (0)), AVal.pv (PVal.int IntKind.i64 (0)), AVal.pv (PVal.str []), AVal.pv (PVal.int IntKind.i64 (0)), AVal.pv (PVal.int IntKind.i64 (0)), AVal.snil, AVal.pv (PVal.int IntKind.i64 (0)), AVal.pv (PVal.int IntKind.i64 (0)), AVal.pv (PVal.str []), AVal.pv (PVal.int IntKind.i64 (0)), AVal.pv (PVal.int IntKind.i64 (0)), AVal.snil, AVal.snil, AVal.snil], fields := [(0, 1), (1, 1), (2, 1), (3, 1), (4, 6), (10, 6), (16, 1), (17, 1)], eSize := 0, eBytes := 0, eZero := false, kKind := Kd.other, eZV := none, kind := Kd.struct, eqs := none } := rfl
theorem tyX140 : tyF 140 = some ty140 := rfl
theorem tyD140 : ty140 = { size := 1, bytes := 24, agg := false, zero := some [AVal.snil], fields := [], eSize := 4, eBytes := 40, eZero := true, kKind := Kd.other, eZV := some (true, [PVal.int IntKind.i64 (0), PVal.str [], PVal.int IntKind.i64 (0), PVal.int IntKind.i64 (0)]), kind := Kd.slice, eqs := none } := rfl
theorem tyX147 : tyF 147 = some ty147 := rfl
theorem tyD147 : ty147 = { size := 4, bytes := 4, agg := true, zero := some [AVal.pv (PVal.bool false), AVal.pv (PVal.bool false), AVal.pv (PVal.bool false), AVal.pv (PVal.bool false)], fields := [], eSize := 1, eBytes := 1, eZero := true, kKind := Kd.bool, eZV := none, kind := Kd.array 4, eqs := none } := rfl
theorem tyX161 : tyF 161 = some ty161 := rfl
theorem tyD161 : ty161 = { size := 1, bytes := 8, agg := false, zero := some [AVal.pv PVal.nilptr], fields := [], eSize := 0, eBytes := 0, eZero := false, kKind := Kd.other, eZV := none, kind := Kd.other, eqs := none } := rfl
theorem tyX169 : tyF 169 = some ty169 := rfl
theorem tyD169 : ty169 = { size := 4, bytes := 40, agg := true, zero := some [AVal.pv (PVal.int IntKind.i64 (0)), AVal.pv (PVal.str []), AVal.pv (PVal.int IntKind.i64 (0)), AVal.pv (PVal.int IntKind.i64 (0))], fields := [(0, 1), (1, 1), (2, 1), (3, 1)], eSize := 0, eBytes := 0, eZero := false, kKind := Kd.other, eZV := none, kind := Kd.struct, eqs := some [Kd.int IntKind.i64, Kd.string, Kd.int IntKind.i64, Kd.int IntKind.i64] } := rfl
theorem tyX198 : tyF 198 = some ty198 := rfl
theorem tyD198 : ty198 = { size := 1, bytes := 8, agg := false, zero := some [AVal.pv PVal.nilptr], fields := [], eSize := 0, eBytes := 0, eZero := false, kKind := Kd.other, eZV := none, kind := Kd.other, eqs := none } := rfl
theorem tyX213 : tyF 213 = some ty213 := rfl
theorem tyD213 : ty213 = { size := 1, bytes := 8, agg := true, zero := some [AVal.pv (PVal.int IntKind.i64 (0))], fields := [(0, 1)], eSize := 0, eBytes := 0, eZero := false, kKind := Kd.other, eZV := none, kind := Kd.struct, eqs := some [Kd.int IntKind.i64] } := rfl
theorem tyX215 : tyF 215 = some ty215 := rfl
theorem tyD215 : ty215 = { size := 1, bytes := 8, agg := false, zero := some [AVal.pv PVal.nilptr], fields := [], eSize := 0, eBytes := 0, eZero := false, kKind := Kd.other, eZV := none, kind := Kd.other, eqs := none } := rfl
theorem tyX217 : tyF 217 = some ty217 := rfl
theorem tyD217 : ty217 = { size := 3, bytes := 40, agg := true, zero := some [AVal.snil, AVal.pv (PVal.int IntKind.i64 (0)), AVal.pv (PVal.int IntKind.i64 (0))], fields := [(0, 1), (1, 1), (2, 1)], eSize := 0, eBytes := 0, eZero := false, kKind := Kd.other, eZV := none, kind := Kd.struct, eqs := none } := rfl
theorem tyX220 : tyF 220 = some ty220 := rfl
theorem tyD220 : ty220 = { size := 1, bytes := 8, agg := false, zero := some [AVal.pv PVal.nilptr], fields := [], eSize := 0, eBytes := 0, eZero := false, kKind := Kd.other, eZV := none, kind := Kd.other, eqs := none } := rfl
theorem tyX221 : tyF 221 = some ty221 := rfl
theorem tyD221 : ty221 = { size := 1, bytes := 8, agg := false, zero := some [AVal.pv PVal.nilptr], fields := [], eSize := 0, eBytes := 0, eZero := false, kKind := Kd.other, eZV := none, kind := Kd.other, eqs := none } := rfl
theorem tyX237 : tyF 237 = some ty237 := rfl
theorem tyD237 : ty237 = { size := 1, bytes := 8, agg := false, zero := some [AVal.pv PVal.nilptr], fields := [], eSize := 0, eBytes := 0, eZero := false, kKind := Kd.other, eZV := none, kind := Kd.other, eqs := none } := rfl
theorem tyX238 : tyF 238 = some ty238 := rfl
theorem tyD238 : ty238 = { size := 4, bytes := 32, agg := true, zero := some [AVal.pv PVal.nilptr, AVal.pv PVal.nilptr, AVal.pv PVal.nilptr, AVal.pv PVal.nilptr], fields := [], eSize := 1, eBytes := 8, eZero := true, kKind := Kd.other, eZV := none, kind := Kd.array 4, eqs := none } := rfl
theorem tyX239 : tyF 239 = some ty239 := rfl
theorem tyD239 : ty239 = { size := 4, bytes := 64, agg := true, zero := some [AVal.pv (PVal.str []), AVal.pv (PVal.str []), AVal.pv (PVal.str []), AVal.pv (PVal.str [])], fields := [], eSize := 1, eBytes := 16, eZero := true, kKind := Kd.string, eZV := none, kind := Kd.array 4, eqs := none } := rfl
def tyS := And.intro @env_ty <| And.intro @env_site <| And.intro @env_nobj <| And.intro @env_gl <| And.intro gl_0 <| And.intro gl_1 <| And.intro gl_4 <| And.intro gl_5 <| And.intro gl_10 <| gl_11
def tq4 := And.intro tyS <| And.intro tyX3 <| And.intro tyD3 <| And.intro tyX9 <| tyD9
def tq8 := And.intro tyS <| And.intro tyX3 <| And.intro tyD3 <| And.intro tyX9 <| And.intro tyD9 <| And.intro tyX25 <| And.intro tyD25 <| And.intro tyX29 <| And.intro tyD29 <| And.intro tyX41 <| And.intro tyD41 <| And.intro tyX43 <| And.intro tyD43 <| And.intro tyX50 <| And.intro tyD50 <| And.intro tyX52 <| And.intro tyD52 <| And.intro tyX59 <| tyD59
def tq13 := And.intro tyS <| And.intro tyX3 <| tyD3
def tq14 := And.intro tyS <| And.intro tyX3 <| And.intro tyD3 <| And.intro tyX9 <| And.intro tyD9 <| And.intro tyX72 <| tyD72
def tq15 := And.intro tyS <| And.intro tyX3 <| And.intro tyD3 <| And.intro tyX9 <| And.intro tyD9 <| And.intro tyX70 <| tyD70
def tq20 := And.intro tyS <| And.intro tyX3 <| And.intro tyD3 <| And.intro tyX9 <| And.intro tyD9 <| And.intro tyX25 <| And.intro tyD25 <| And.intro tyX29 <| And.intro tyD29 <| And.intro tyX52 <| And.intro tyD52 <| And.intro tyX70 <| And.intro tyD70 <| And.intro tyX85 <| And.intro tyD85 <| And.intro tyX87 <| tyD87
def tq22 := And.intro tyS <| And.intro tyX3 <| And.intro tyD3 <| And.intro tyX4 <| And.intro tyD4 <| And.intro tyX9 <| And.intro tyD9 <| And.intro tyX29 <| And.intro tyD29 <| And.intro tyX42 <| And.intro tyD42 <| And.intro tyX43 <| And.intro tyD43 <| And.intro tyX45 <| And.intro tyD45 <| And.intro tyX48 <| And.intro tyD48 <| And.intro tyX57 <| And.intro tyD57 <| And.intro tyX59 <| And.intro tyD59 <| And.intro tyX91 <| And.intro tyD91 <| And.intro tyX93 <| And.intro tyD93 <| And.intro tyX95 <| And.intro tyD95 <| And.intro tyX97 <| tyD97
def tq41 := And.intro tyS <| And.intro tyX3 <| And.intro tyD3 <| And.intro tyX4 <| And.intro tyD4 <| And.intro tyX9 <| And.intro tyD9 <| And.intro tyX25 <| And.intro tyD25 <| And.intro tyX29 <| And.intro tyD29 <| And.intro tyX41 <| And.intro tyD41 <| And.intro tyX50 <| And.intro tyD50 <| And.intro tyX52 <| And.intro tyD52 <| And.intro tyX70 <| And.intro tyD70 <| And.intro tyX85 <| And.intro tyD85 <| And.intro tyX87 <| tyD87
def tq42 := And.intro tyS <| And.intro tyX3 <| And.intro tyD3 <| And.intro tyX4 <| And.intro tyD4 <| And.intro tyX42 <| And.intro tyD42 <| And.intro tyX43 <| And.intro tyD43 <| And.intro tyX45 <| And.intro tyD45 <| And.intro tyX48 <| tyD48
def tq43 := And.intro tyS <| And.intro tyX3 <| And.intro tyD3 <| And.intro tyX43 <| And.intro tyD43 <| And.intro tyX95 <| And.intro tyD95 <| And.intro tyX130 <| tyD130
def tq58 := And.intro tyS <| And.intro tyX3 <| And.intro tyD3 <| And.intro tyX41 <| And.intro tyD41 <| And.intro tyX115 <| tyD115
def tq60 := And.intro tyS <| And.intro tyX3 <| And.intro tyD3 <| And.intro tyX9 <| And.intro tyD9 <| And.intro tyX70 <| And.intro tyD70 <| And.intro tyX87 <| tyD87
def tq61 := And.intro tyS <| And.intro tyX3 <| And.intro tyD3 <| And.intro tyX9 <| And.intro tyD9 <| And.intro tyX52 <| And.intro tyD52 <| And.intro tyX70 <| And.intro tyD70 <| And.intro tyX82 <| And.intro tyD82 <| And.intro tyX87 <| tyD87
def tq62 := And.intro tyS <| And.intro tyX3 <| And.intro tyD3 <| And.intro tyX4 <| And.intro tyD4 <| And.intro tyX5 <| And.intro tyD5 <| And.intro tyX9 <| And.intro tyD9 <| And.intro tyX29 <| And.intro tyD29 <| And.intro tyX45 <| And.intro tyD45 <| And.intro tyX50 <| And.intro tyD50 <| And.intro tyX52 <| And.intro tyD52 <| And.intro tyX59 <| And.intro tyD59 <| And.intro tyX77 <| And.intro tyD77 <| And.intro tyX85 <| And.intro tyD85 <| And.intro tyX87 <| tyD87
def tq63 := And.intro tyS <| And.intro tyX3 <| And.intro tyD3 <| And.intro tyX4 <| And.intro tyD4 <| And.intro tyX9 <| And.intro tyD9 <| And.intro tyX41 <| And.intro tyD41 <| And.intro tyX70 <| And.intro tyD70 <| And.intro tyX72 <| And.intro tyD72 <| And.intro tyX115 <| And.intro tyD115 <| And.intro tyX117 <| And.intro tyD117 <| And.intro tyX118 <| tyD118
def tq64 := And.intro tyS <| And.intro tyX3 <| And.intro tyD3 <| And.intro tyX43 <| And.intro tyD43 <| And.intro tyX45 <| tyD45
def tq65 := And.intro tyS <| And.intro tyX3 <| And.intro tyD3 <| And.intro tyX4 <| And.intro tyD4 <| And.intro tyX9 <| And.intro tyD9 <| And.intro tyX48 <| tyD48
def tq66 := And.intro tyS <| And.intro tyX3 <| And.intro tyD3 <| And.intro tyX4 <| And.intro tyD4 <| And.intro tyX43 <| And.intro tyD43 <| And.intro tyX161 <| tyD161
def tq67 := And.intro tyS <| And.intro tyX3 <| And.intro tyD3 <| And.intro tyX4 <| And.intro tyD4 <| And.intro tyX9 <| And.intro tyD9 <| And.intro tyX43 <| And.intro tyD43 <| And.intro tyX95 <| And.intro tyD95 <| And.intro tyX128 <| And.intro tyD128 <| And.intro tyX130 <| tyD130
def tq88 := And.intro tyS <| And.intro tyX2 <| And.intro tyD2 <| And.intro tyX3 <| And.intro tyD3 <| And.intro tyX9 <| And.intro tyD9 <| And.intro tyX79 <| tyD79
def tq90 := And.intro tyS <| And.intro tyX3 <| And.intro tyD3 <| And.intro tyX4 <| And.intro tyD4 <| And.intro tyX9 <| And.intro tyD9 <| And.intro tyX29 <| And.intro tyD29 <| And.intro tyX45 <| And.intro tyD45 <| And.intro tyX140 <| tyD140
def tq91 := And.intro tyS <| And.intro tyX3 <| And.intro tyD3 <| And.intro tyX43 <| And.intro tyD43 <| And.intro tyX161 <| tyD161
def tq92 := And.intro tyS <| And.intro tyX3 <| And.intro tyD3 <| And.intro tyX4 <| And.intro tyD4 <| And.intro tyX5 <| And.intro tyD5 <| And.intro tyX9 <| tyD9
def tq93 := And.intro tyS <| And.intro tyX3 <| And.intro tyD3 <| And.intro tyX4 <| And.intro tyD4 <| And.intro tyX9 <| And.intro tyD9 <| And.intro tyX43 <| And.intro tyD43 <| And.intro tyX130 <| And.intro tyD130 <| And.intro tyX198 <| tyD198
def tq94 := And.intro tyS <| And.intro tyX3 <| And.intro tyD3 <| And.intro tyX4 <| And.intro tyD4 <| And.intro tyX91 <| And.intro tyD91 <| And.intro tyX93 <| And.intro tyD93 <| And.intro tyX97 <| tyD97
def tq95 := And.intro tyS <| And.intro tyX3 <| And.intro tyD3 <| And.intro tyX4 <| And.intro tyD4 <| And.intro tyX9 <| And.intro tyD9 <| And.intro tyX95 <| And.intro tyD95 <| And.intro tyX126 <| And.intro tyD126 <| And.intro tyX128 <| tyD128
def tq123 := And.intro tyS <| And.intro tyX3 <| And.intro tyD3 <| And.intro tyX5 <| And.intro tyD5 <| And.intro tyX9 <| And.intro tyD9 <| And.intro tyX29 <| And.intro tyD29 <| And.intro tyX140 <| And.intro tyD140 <| And.intro tyX169 <| tyD169
def tq124 := And.intro tyS <| And.intro tyX3 <| And.intro tyD3 <| And.intro tyX4 <| And.intro tyD4 <| And.intro tyX42 <| And.intro tyD42 <| And.intro tyX45 <| And.intro tyD45 <| And.intro tyX140 <| And.intro tyD140 <| And.intro tyX147 <| And.intro tyD147 <| And.intro tyX215 <| And.intro tyD215 <| And.intro tyX217 <| And.intro tyD217 <| And.intro tyX220 <| And.intro tyD220 <| And.intro tyX221 <| tyD221
def tq125 := And.intro tyS <| And.intro tyX3 <| And.intro tyD3 <| And.intro tyX43 <| And.intro tyD43 <| And.intro tyX130 <| And.intro tyD130 <| And.intro tyX198 <| tyD198
def tq126 := And.intro tyS <| And.intro tyX5 <| tyD5
def tq127 := And.intro tyS <| And.intro tyX3 <| And.intro tyD3 <| And.intro tyX5 <| And.intro tyD5 <| And.intro tyX9 <| tyD9
def tq128 := And.intro tyS <| And.intro tyX9 <| tyD9
def tq129 := And.intro tyS <| And.intro tyX9 <| tyD9
def tq130 := And.intro tyS <| And.intro tyX3 <| And.intro tyD3 <| And.intro tyX4 <| And.intro tyD4 <| And.intro tyX9 <| And.intro tyD9 <| And.intro tyX126 <| And.intro tyD126 <| And.intro tyX128 <| And.intro tyD128 <| And.intro tyX198 <| tyD198
def tq131 := And.intro tyS <| And.intro tyX3 <| And.intro tyD3 <| And.intro tyX9 <| And.intro tyD9 <| And.intro tyX126 <| And.intro tyD126 <| And.intro tyX128 <| tyD128
def tq159 := And.intro tyS <| And.intro tyX3 <| And.intro tyD3 <| And.intro tyX5 <| And.intro tyD5 <| And.intro tyX9 <| tyD9
def tq160 := And.intro tyS <| And.intro tyX3 <| And.intro tyD3 <| And.intro tyX5 <| And.intro tyD5 <| And.intro tyX9 <| And.intro tyD9 <| And.intro tyX169 <| tyD169
def tq161 := And.intro tyS <| And.intro tyX3 <| And.intro tyD3 <| And.intro tyX4 <| And.intro tyD4 <| And.intro tyX20 <| And.intro tyD20 <| And.intro tyX45 <| And.intro tyD45 <| And.intro tyX213 <| tyD213
def tq162 := And.intro tyS <| And.intro tyX3 <| And.intro tyD3 <| And.intro tyX9 <| And.intro tyD9 <| And.intro tyX42 <| And.intro tyD42 <| And.intro tyX48 <| And.intro tyD48 <| And.intro tyX215 <| tyD215
def tq163 := And.intro tyS <| And.intro tyX3 <| And.intro tyD3 <| And.intro tyX4 <| And.intro tyD4 <| And.intro tyX9 <| And.intro tyD9 <| And.intro tyX43 <| And.intro tyD43 <| And.intro tyX45 <| And.intro tyD45 <| And.intro tyX147 <| And.intro tyD147 <| And.intro tyX215 <| And.intro tyD215 <| And.intro tyX237 <| And.intro tyD237 <| And.intro tyX238 <| And.intro tyD238 <| And.intro tyX239 <| tyD239
def tq164 := And.intro tyS <| And.intro tyX3 <| And.intro tyD3 <| And.intro tyX126 <| And.intro tyD126 <| And.intro tyX128 <| And.intro tyD128 <| And.intro tyX198 <| tyD198
def tq165 := And.intro tyS <| And.intro tyX5 <| tyD5
def tq166 := And.intro tyS <| And.intro tyX3 <| tyD3
def tq180 := And.intro tyS <| And.intro tyX3 <| And.intro tyD3 <| And.intro tyX5 <| And.intro tyD5 <| And.intro tyX9 <| And.intro tyD9 <| And.intro tyX79 <| And.intro tyD79 <| And.intro tyX169 <| tyD169
def tq181 := And.intro tyS <| And.intro tyX3 <| And.intro tyD3 <| And.intro tyX5 <| And.intro tyD5 <| And.intro tyX9 <| tyD9
def tq182 := And.intro tyS <| And.intro tyX3 <| And.intro tyD3 <| And.intro tyX9 <| And.intro tyD9 <| And.intro tyX215 <| And.intro tyD215 <| And.intro tyX217 <| tyD217
def tq183 := And.intro tyS <| And.intro tyX3 <| And.intro tyD3 <| And.intro tyX4 <| And.intro tyD4 <| And.intro tyX9 <| And.intro tyD9 <| And.intro tyX140 <| And.intro tyD140 <| And.intro tyX169 <| And.intro tyD169 <| And.intro tyX215 <| And.intro tyD215 <| And.intro tyX217 <| tyD217
def tq184 := And.intro tyS <| And.intro tyX3 <| And.intro tyD3 <| And.intro tyX140 <| And.intro tyD140 <| And.intro tyX169 <| And.intro tyD169 <| And.intro tyX215 <| And.intro tyD215 <| And.intro tyX217 <| tyD217
def tq185 := And.intro tyS <| And.intro tyX4 <| And.intro tyD4 <| And.intro tyX9 <| And.intro tyD9 <| And.intro tyX215 <| tyD215
def tq186 := And.intro tyS <| And.intro tyX4 <| And.intro tyD4 <| And.intro tyX9 <| And.intro tyD9 <| And.intro tyX43 <| And.intro tyD43 <| And.intro tyX215 <| tyD215
def tq187 := And.intro tyS <| And.intro tyX3 <| And.intro tyD3 <| And.intro tyX140 <| And.intro tyD140 <| And.intro tyX169 <| And.intro tyD169 <| And.intro tyX213 <| And.intro tyD213 <| And.intro tyX217 <| tyD217
def tq190 := And.intro tyS <| And.intro tyX3 <| tyD3
def tq196 := And.intro tyS <| And.intro tyX3 <| And.intro tyD3 <| And.intro tyX9 <| And.intro tyD9 <| And.intro tyX140 <| And.intro tyD140 <| And.intro tyX169 <| And.intro tyD169 <| And.intro tyX217 <| tyD217
def tq197 := And.intro tyS <| And.intro tyX3 <| And.intro tyD3 <| And.intro tyX9 <| And.intro tyD9 <| And.intro tyX43 <| And.intro tyD43 <| And.intro tyX128 <| And.intro tyD128 <| And.intro tyX130 <| And.intro tyD130 <| And.intro tyX215 <| tyD215
def tq199 := And.intro tyS <| And.intro tyX3 <| And.intro tyD3 <| And.intro tyX126 <| And.intro tyD126 <| And.intro tyX128 <| And.intro tyD128 <| And.intro tyX215 <| tyD215
def tq201 := And.intro tyS <| And.intro tyX9 <| And.intro tyD9 <| And.intro tyX126 <| And.intro tyD126 <| And.intro tyX128 <| And.intro tyD128 <| And.intro tyX215 <| tyD215
def tq202 := And.intro tyS <| And.intro tyX3 <| And.intro tyD3 <| And.intro tyX9 <| And.intro tyD9 <| And.intro tyX215 <| And.intro tyD215 <| And.intro tyX217 <| tyD217
def tq203 := And.intro tyS <| And.intro tyX3 <| And.intro tyD3 <| And.intro tyX9 <| tyD9
def tq204 := And.intro tyS <| And.intro tyX3 <| And.intro tyD3 <| And.intro tyX9 <| And.intro tyD9 <| And.intro tyX126 <| And.intro tyD126 <| And.intro tyX128 <| And.intro tyD128 <| And.intro tyX140 <| And.intro tyD140 <| And.intro tyX169 <| And.intro tyD169 <| And.intro tyX215 <| And.intro tyD215 <| And.intro tyX217 <| tyD217
def tq205 := And.intro tyS <| And.intro tyX3 <| tyD3
theorem enters8 (vargs : Array Value) (w : World) : (callFunc 8 vargs).run Tryz.prog w = .ok (.enter 8 vargs) w := enters 8 Tryz.func8 (by kernel_rfl) vargs w
theorem enters13 (vargs : Array Value) (w : World) : (callFunc 13 vargs).run Tryz.prog w = .ok (.enter 13 vargs) w := enters 13 Tryz.func13 (by kernel_rfl) vargs w
theorem enters14 (vargs : Array Value) (w : World) : (callFunc 14 vargs).run Tryz.prog w = .ok (.enter 14 vargs) w := enters 14 Tryz.func14 (by kernel_rfl) vargs w
theorem enters15 (vargs : Array Value) (w : World) : (callFunc 15 vargs).run Tryz.prog w = .ok (.enter 15 vargs) w := enters 15 Tryz.func15 (by kernel_rfl) vargs w
theorem enters20 (vargs : Array Value) (w : World) : (callFunc 20 vargs).run Tryz.prog w = .ok (.enter 20 vargs) w := enters 20 Tryz.func20 (by kernel_rfl) vargs w
theorem enters22 (vargs : Array Value) (w : World) : (callFunc 22 vargs).run Tryz.prog w = .ok (.enter 22 vargs) w := enters 22 Tryz.func22 (by kernel_rfl) vargs w
theorem enters34 (vargs : Array Value) (w : World) : (callFunc 34 vargs).run Tryz.prog w = .ok (.enter 34 vargs) w := enters 34 Tryz.func34 (by kernel_rfl) vargs w
theorem enters39 (vargs : Array Value) (w : World) : (callFunc 39 vargs).run Tryz.prog w = .ok (.enter 39 vargs) w := enters 39 Tryz.func39 (by kernel_rfl) vargs w
theorem enters40 (vargs : Array Value) (w : World) : (callFunc 40 vargs).run Tryz.prog w = .ok (.enter 40 vargs) w := enters 40 Tryz.func40 (by kernel_rfl) vargs w
theorem enters41 (vargs : Array Value) (w : World) : (callFunc 41 vargs).run Tryz.prog w = .ok (.enter 41 vargs) w := enters 41 Tryz.func41 (by kernel_rfl) vargs w
theorem enters42 (vargs : Array Value) (w : World) : (callFunc 42 vargs).run Tryz.prog w = .ok (.enter 42 vargs) w := enters 42 Tryz.func42 (by kernel_rfl) vargs w
theorem enters43 (vargs : Array Value) (w : World) : (callFunc 43 vargs).run Tryz.prog w = .ok (.enter 43 vargs) w := enters 43 Tryz.func43 (by kernel_rfl) vargs w
theorem enters58 (vargs : Array Value) (w : World) : (callFunc 58 vargs).run Tryz.prog w = .ok (.enter 58 vargs) w := enters 58 Tryz.func58 (by kernel_rfl) vargs w
theorem enters60 (vargs : Array Value) (w : World) : (callFunc 60 vargs).run Tryz.prog w = .ok (.enter 60 vargs) w := enters 60 Tryz.func60 (by kernel_rfl) vargs w
theorem enters61 (vargs : Array Value) (w : World) : (callFunc 61 vargs).run Tryz.prog w = .ok (.enter 61 vargs) w := enters 61 Tryz.func61 (by kernel_rfl) vargs w
theorem enters62 (vargs : Array Value) (w : World) : (callFunc 62 vargs).run Tryz.prog w = .ok (.enter 62 vargs) w := enters 62 Tryz.func62 (by kernel_rfl) vargs w
theorem enters63 (vargs : Array Value) (w : World) : (callFunc 63 vargs).run Tryz.prog w = .ok (.enter 63 vargs) w := enters 63 Tryz.func63 (by kernel_rfl) vargs w
theorem enters64 (vargs : Array Value) (w : World) : (callFunc 64 vargs).run Tryz.prog w = .ok (.enter 64 vargs) w := enters 64 Tryz.func64 (by kernel_rfl) vargs w
theorem enters65 (vargs : Array Value) (w : World) : (callFunc 65 vargs).run Tryz.prog w = .ok (.enter 65 vargs) w := enters 65 Tryz.func65 (by kernel_rfl) vargs w
theorem enters66 (vargs : Array Value) (w : World) : (callFunc 66 vargs).run Tryz.prog w = .ok (.enter 66 vargs) w := enters 66 Tryz.func66 (by kernel_rfl) vargs w
theorem enters67 (vargs : Array Value) (w : World) : (callFunc 67 vargs).run Tryz.prog w = .ok (.enter 67 vargs) w := enters 67 Tryz.func67 (by kernel_rfl) vargs w
theorem enters88 (vargs : Array Value) (w : World) : (callFunc 88 vargs).run Tryz.prog w = .ok (.enter 88 vargs) w := enters 88 Tryz.func88 (by kernel_rfl) vargs w
theorem enters89 (vargs : Array Value) (w : World) : (callFunc 89 vargs).run Tryz.prog w = .ok (.enter 89 vargs) w := enters 89 Tryz.func89 (by kernel_rfl) vargs w
theorem enters90 (vargs : Array Value) (w : World) : (callFunc 90 vargs).run Tryz.prog w = .ok (.enter 90 vargs) w := enters 90 Tryz.func90 (by kernel_rfl) vargs w
theorem enters91 (vargs : Array Value) (w : World) : (callFunc 91 vargs).run Tryz.prog w = .ok (.enter 91 vargs) w := enters 91 Tryz.func91 (by kernel_rfl) vargs w
theorem enters92 (vargs : Array Value) (w : World) : (callFunc 92 vargs).run Tryz.prog w = .ok (.enter 92 vargs) w := enters 92 Tryz.func92 (by kernel_rfl) vargs w
theorem enters93 (vargs : Array Value) (w : World) : (callFunc 93 vargs).run Tryz.prog w = .ok (.enter 93 vargs) w := enters 93 Tryz.func93 (by kernel_rfl) vargs w
theorem enters94 (vargs : Array Value) (w : World) : (callFunc 94 vargs).run Tryz.prog w = .ok (.enter 94 vargs) w := enters 94 Tryz.func94 (by kernel_rfl) vargs w
theorem enters95 (vargs : Array Value) (w : World) : (callFunc 95 vargs).run Tryz.prog w = .ok (.enter 95 vargs) w := enters 95 Tryz.func95 (by kernel_rfl) vargs w
theorem enters121 (vargs : Array Value) (w : World) : (callFunc 121 vargs).run Tryz.prog w = .ok (.enter 121 vargs) w := enters 121 Tryz.func121 (by kernel_rfl) vargs w
theorem enters122 (vargs : Array Value) (w : World) : (callFunc 122 vargs).run Tryz.prog w = .ok (.enter 122 vargs) w := enters 122 Tryz.func122 (by kernel_rfl) vargs w
theorem enters123 (vargs : Array Value) (w : World) : (callFunc 123 vargs).run Tryz.prog w = .ok (.enter 123 vargs) w := enters 123 Tryz.func123 (by kernel_rfl) vargs w
theorem enters124 (vargs : Array Value) (w : World) : (callFunc 124 vargs).run Tryz.prog w = .ok (.enter 124 vargs) w := enters 124 Tryz.func124 (by kernel_rfl) vargs w
theorem enters125 (vargs : Array Value) (w : World) : (callFunc 125 vargs).run Tryz.prog w = .ok (.enter 125 vargs) w := enters 125 Tryz.func125 (by kernel_rfl) vargs w
theorem enters126 (vargs : Array Value) (w : World) : (callFunc 126 vargs).run Tryz.prog w = .ok (.enter 126 vargs) w := enters 126 Tryz.func126 (by kernel_rfl) vargs w
theorem enters127 (vargs : Array Value) (w : World) : (callFunc 127 vargs).run Tryz.prog w = .ok (.enter 127 vargs) w := enters 127 Tryz.func127 (by kernel_rfl) vargs w
theorem enters128 (vargs : Array Value) (w : World) : (callFunc 128 vargs).run Tryz.prog w = .ok (.enter 128 vargs) w := enters 128 Tryz.func128 (by kernel_rfl) vargs w
theorem enters129 (vargs : Array Value) (w : World) : (callFunc 129 vargs).run Tryz.prog w = .ok (.enter 129 vargs) w := enters 129 Tryz.func129 (by kernel_rfl) vargs w
theorem enters130 (vargs : Array Value) (w : World) : (callFunc 130 vargs).run Tryz.prog w = .ok (.enter 130 vargs) w := enters 130 Tryz.func130 (by kernel_rfl) vargs w
theorem enters131 (vargs : Array Value) (w : World) : (callFunc 131 vargs).run Tryz.prog w = .ok (.enter 131 vargs) w := enters 131 Tryz.func131 (by kernel_rfl) vargs w
theorem enters159 (vargs : Array Value) (w : World) : (callFunc 159 vargs).run Tryz.prog w = .ok (.enter 159 vargs) w := enters 159 Tryz.func159 (by kernel_rfl) vargs w
theorem enters160 (vargs : Array Value) (w : World) : (callFunc 160 vargs).run Tryz.prog w = .ok (.enter 160 vargs) w := enters 160 Tryz.func160 (by kernel_rfl) vargs w
theorem enters161 (vargs : Array Value) (w : World) : (callFunc 161 vargs).run Tryz.prog w = .ok (.enter 161 vargs) w := enters 161 Tryz.func161 (by kernel_rfl) vargs w
theorem enters162 (vargs : Array Value) (w : World) : (callFunc 162 vargs).run Tryz.prog w = .ok (.enter 162 vargs) w := enters 162 Tryz.func162 (by kernel_rfl) vargs w
theorem enters163 (vargs : Array Value) (w : World) : (callFunc 163 vargs).run Tryz.prog w = .ok (.enter 163 vargs) w := enters 163 Tryz.func163 (by kernel_rfl) vargs w
theorem enters164 (vargs : Array Value) (w : World) : (callFunc 164 vargs).run Tryz.prog w = .ok (.enter 164 vargs) w := enters 164 Tryz.func164 (by kernel_rfl) vargs w
theorem enters165 (vargs : Array Value) (w : World) : (callFunc 165 vargs).run Tryz.prog w = .ok (.enter 165 vargs) w := enters 165 Tryz.func165 (by kernel_rfl) vargs w
theorem enters166 (vargs : Array Value) (w : World) : (callFunc 166 vargs).run Tryz.prog w = .ok (.enter 166 vargs) w := enters 166 Tryz.func166 (by kernel_rfl) vargs w
theorem enters179 (vargs : Array Value) (w : World) : (callFunc 179 vargs).run Tryz.prog w = .ok (.enter 179 vargs) w := enters 179 Tryz.func179 (by kernel_rfl) vargs w
theorem enters180 (vargs : Array Value) (w : World) : (callFunc 180 vargs).run Tryz.prog w = .ok (.enter 180 vargs) w := enters 180 Tryz.func180 (by kernel_rfl) vargs w
theorem enters181 (vargs : Array Value) (w : World) : (callFunc 181 vargs).run Tryz.prog w = .ok (.enter 181 vargs) w := enters 181 Tryz.func181 (by kernel_rfl) vargs w
theorem enters182 (vargs : Array Value) (w : World) : (callFunc 182 vargs).run Tryz.prog w = .ok (.enter 182 vargs) w := enters 182 Tryz.func182 (by kernel_rfl) vargs w
theorem enters183 (vargs : Array Value) (w : World) : (callFunc 183 vargs).run Tryz.prog w = .ok (.enter 183 vargs) w := enters 183 Tryz.func183 (by kernel_rfl) vargs w
theorem enters184 (vargs : Array Value) (w : World) : (callFunc 184 vargs).run Tryz.prog w = .ok (.enter 184 vargs) w := enters 184 Tryz.func184 (by kernel_rfl) vargs w
theorem enters185 (vargs : Array Value) (w : World) : (callFunc 185 vargs).run Tryz.prog w = .ok (.enter 185 vargs) w := enters 185 Tryz.func185 (by kernel_rfl) vargs w
theorem enters186 (vargs : Array Value) (w : World) : (callFunc 186 vargs).run Tryz.prog w = .ok (.enter 186 vargs) w := enters 186 Tryz.func186 (by kernel_rfl) vargs w
theorem enters187 (vargs : Array Value) (w : World) : (callFunc 187 vargs).run Tryz.prog w = .ok (.enter 187 vargs) w := enters 187 Tryz.func187 (by kernel_rfl) vargs w
theorem enters190 (vargs : Array Value) (w : World) : (callFunc 190 vargs).run Tryz.prog w = .ok (.enter 190 vargs) w := enters 190 Tryz.func190 (by kernel_rfl) vargs w
theorem enters196 (vargs : Array Value) (w : World) : (callFunc 196 vargs).run Tryz.prog w = .ok (.enter 196 vargs) w := enters 196 Tryz.func196 (by kernel_rfl) vargs w
theorem enters197 (vargs : Array Value) (w : World) : (callFunc 197 vargs).run Tryz.prog w = .ok (.enter 197 vargs) w := enters 197 Tryz.func197 (by kernel_rfl) vargs w
theorem enters199 (vargs : Array Value) (w : World) : (callFunc 199 vargs).run Tryz.prog w = .ok (.enter 199 vargs) w := enters 199 Tryz.func199 (by kernel_rfl) vargs w
theorem enters201 (vargs : Array Value) (w : World) : (callFunc 201 vargs).run Tryz.prog w = .ok (.enter 201 vargs) w := enters 201 Tryz.func201 (by kernel_rfl) vargs w
theorem enters202 (vargs : Array Value) (w : World) : (callFunc 202 vargs).run Tryz.prog w = .ok (.enter 202 vargs) w := enters 202 Tryz.func202 (by kernel_rfl) vargs w
theorem enters203 (vargs : Array Value) (w : World) : (callFunc 203 vargs).run Tryz.prog w = .ok (.enter 203 vargs) w := enters 203 Tryz.func203 (by kernel_rfl) vargs w
theorem enters204 (vargs : Array Value) (w : World) : (callFunc 204 vargs).run Tryz.prog w = .ok (.enter 204 vargs) w := enters 204 Tryz.func204 (by kernel_rfl) vargs w
theorem enters205 (vargs : Array Value) (w : World) : (callFunc 205 vargs).run Tryz.prog w = .ok (.enter 205 vargs) w := enters 205 Tryz.func205 (by kernel_rfl) vargs w
theorem body0 {f : FuncId} {fn : Func} {code : Code} (site : Nat → Nat) (nobj : Nat) (hf : Tryz.prog.funcs[f]? = some fn) (hb : fn.body = some code) {n : Nat} (hn : fn.ntmps = n) {rs : List ResultVar} (hrs : fn.results.toList = rs) {args : List AVal} {res : AVal}
    (hargs : args.length ≤ n)
    (h : VC Tryz.prog (envOf site nobj) 0 code ⟨args ++ List.replicate (n - args.length) .junk, List.replicate nobj none⟩ (RQ (envOf site nobj) rs res)) :
    AC Tryz.prog gl f args [] res [] := by
  subst hn hrs
  exact AC.of_vc (env := envOf site nobj) (envOK _ _) mixed hf hb hargs h
theorem bodyO {f : FuncId} {fn : Func} {code : Code} (site : Nat → Nat) (nobj : Nat) (hf : Tryz.prog.funcs[f]? = some fn) (hb : fn.body = some code) {n : Nat} (hn : fn.ntmps = n) {rs : List ResultVar} (hrs : fn.results.toList = rs) {args : List AVal} {objs : List (Option AObj)} {res : AVal} {objs' : List (Option AObj)}
    (hargs : args.length ≤ n) (hobjs : objs.length ≤ nobj)
    (h : VC Tryz.prog (envOf site nobj) objs.length code ⟨args ++ List.replicate (n - args.length) .junk, objs ++ List.replicate (nobj - objs.length) none⟩ (retQ (envOf site nobj) objs.length rs res objs')) :
    AC Tryz.prog gl f args objs res objs' := by
  subst hn hrs
  exact AC.of_body (env := envOf site nobj) (envOK _ _) hf hb hargs hobjs (VC.to (envOK _ _) mixed code h)
theorem bodyW {f : FuncId} {fn : Func} {code : Code} (site : Nat → Nat) (nobj : Nat) (hf : Tryz.prog.funcs[f]? = some fn) (hb : fn.body = some code) {n : Nat} (hn : fn.ntmps = n) {rs : List ResultVar} (hrs : fn.results.toList = rs) {args : List AVal} {objs : List (Option AObj)} {res : AVal} {objs' : List (Option AObj)}
    (hargs : args.length ≤ n) (hobjs : objs.length ≤ nobj)
    (h : VC Tryz.prog (envOf site nobj) objs.length code ⟨args ++ List.replicate (n - args.length) .junk, objs ++ List.replicate (nobj - objs.length) none⟩ (weakQ (envOf site nobj) objs.length (retQ (envOf site nobj) objs.length rs res objs'))) :
    AC Tryz.prog gl f args objs res objs' := by
  subst hn hrs
  exact AC.of_body (env := envOf site nobj) (envOK _ _) hf hb hargs hobjs (SW.weakEnd (VC.to (envOK _ _) mixed code h))
theorem bodyP {f : FuncId} {fn : Func} {code : Code} (site : Nat → Nat) (nobj : Nat) (hf : Tryz.prog.funcs[f]? = some fn) (hb : fn.body = some code) {n : Nat} (hn : fn.ntmps = n) {args : List AVal} {objs : List (Option AObj)} {x : Value} {objs' : List (Option AObj)}
    (hargs : args.length ≤ n) (hobjs : objs.length ≤ nobj)
    (h : VC Tryz.prog (envOf site nobj) objs.length code ⟨args ++ List.replicate (n - args.length) .junk, objs ++ List.replicate (nobj - objs.length) none⟩ (panQ objs.length x objs')) :
    AP Tryz.prog gl f args objs x objs' := by
  subst hn
  exact AP.of_body (env := envOf site nobj) (envOK _ _) hf hb hargs hobjs (VC.to (envOK _ _) mixed code h)
theorem loopV {site : Nat → Nat} {nobj pin : Nat} {σ : St} {Q : Exit → St → Prop} {ι : Type} {c : Code} {t : Tg (Code.loop c, Q)} (I : ι → St) (μ : ι → Nat) (i0 : ι) (h0 : Weak (envOf site nobj) pin σ (I i0))
    (round : ∀ i, VC Tryz.prog (envOf site nobj) pin c (I i) (thenQ (NX (envOf site nobj) pin I μ .mk (μ i)) Q)) : LW Tryz.prog (envOf site nobj) pin (.loop c) σ Q t :=
  LW.loop (envOK _ _) mixed I μ i0 h0 round
end Go.Proofs.YtfinhhblcdkpgaaGreatDoor
