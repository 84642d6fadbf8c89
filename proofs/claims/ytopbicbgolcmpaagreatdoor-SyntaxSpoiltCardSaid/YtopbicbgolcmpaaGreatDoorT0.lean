/- The table of types of the program, held against the program. No condition. -/
import Derived.Test.YtopbicbgolcmpaaGreatDoorProg
import Derived.KernelRfl
import Derived.Test.YtopbicbgolcmpaaGreatDoorLib3
set_option linter.unusedSimpArgs false
set_option linter.unusedVariables false
set_option linter.defProp false
namespace Go.Proofs.YtopbicbgolcmpaaGreatDoor
open Go Go.Abs
def ty2 : Ty := { size := 1, bytes := 8, agg := false, zero := some [AVal.pv (PVal.int IntKind.i64 (0))], fields := [], eSize := 0, eBytes := 0, eZero := false, kKind := Kd.other, eZV := none, kind := Kd.int IntKind.i64, eqs := none }
def ty3 : Ty := { size := 1, bytes := 8, agg := false, zero := some [AVal.pv (PVal.int IntKind.i64 (0))], fields := [], eSize := 0, eBytes := 0, eZero := false, kKind := Kd.other, eZV := none, kind := Kd.int IntKind.i64, eqs := none }
def ty4 : Ty := { size := 1, bytes := 1, agg := false, zero := some [AVal.pv (PVal.bool false)], fields := [], eSize := 0, eBytes := 0, eZero := false, kKind := Kd.other, eZV := none, kind := Kd.bool, eqs := none }
def ty5 : Ty := { size := 1, bytes := 1, agg := false, zero := some [AVal.pv (PVal.int IntKind.u8 (0))], fields := [], eSize := 0, eBytes := 0, eZero := false, kKind := Kd.other, eZV := none, kind := Kd.int IntKind.u8, eqs := none }
def ty6 : Ty := { size := 1, bytes := 1, agg := false, zero := some [AVal.pv (PVal.int IntKind.u8 (0))], fields := [], eSize := 0, eBytes := 0, eZero := false, kKind := Kd.other, eZV := none, kind := Kd.int IntKind.u8, eqs := none }
def ty7 : Ty := { size := 4, bytes := 24, agg := true, zero := some [AVal.pv (PVal.int IntKind.i64 (0)), AVal.pv (PVal.int IntKind.i64 (0)), AVal.pv (PVal.bool false), AVal.pv (PVal.int IntKind.u8 (0))], fields := [(0, 1), (1, 1), (2, 1), (3, 1)], eSize := 0, eBytes := 0, eZero := false, kKind := Kd.other, eZV := none, kind := Kd.struct, eqs := some [Kd.int IntKind.i64, Kd.int IntKind.i64, Kd.bool, Kd.int IntKind.u8] }
def ty8 : Ty := { size := 4, bytes := 24, agg := true, zero := some [AVal.pv (PVal.int IntKind.i64 (0)), AVal.pv (PVal.int IntKind.i64 (0)), AVal.pv (PVal.bool false), AVal.pv (PVal.int IntKind.u8 (0))], fields := [(0, 1), (1, 1), (2, 1), (3, 1)], eSize := 0, eBytes := 0, eZero := false, kKind := Kd.other, eZV := none, kind := Kd.struct, eqs := some [Kd.int IntKind.i64, Kd.int IntKind.i64, Kd.bool, Kd.int IntKind.u8] }
def ty9 : Ty := { size := 1, bytes := 16, agg := false, zero := some [AVal.pv (PVal.str [])], fields := [], eSize := 0, eBytes := 0, eZero := false, kKind := Kd.other, eZV := none, kind := Kd.string, eqs := none }
def ty10 : Ty := { size := 1, bytes := 16, agg := false, zero := some [AVal.pv (PVal.str [])], fields := [], eSize := 0, eBytes := 0, eZero := false, kKind := Kd.other, eZV := none, kind := Kd.string, eqs := none }
def ty11 : Ty := { size := 1, bytes := 16, agg := false, zero := some [AVal.pv (PVal.str [])], fields := [], eSize := 0, eBytes := 0, eZero := false, kKind := Kd.other, eZV := none, kind := Kd.string, eqs := none }
def ty12 : Ty := { size := 1, bytes := 8, agg := false, zero := some [AVal.pv (PVal.int IntKind.u64 (0))], fields := [], eSize := 0, eBytes := 0, eZero := false, kKind := Kd.other, eZV := none, kind := Kd.int IntKind.u64, eqs := none }
def ty13 : Ty := { size := 2, bytes := 24, agg := true, zero := some [AVal.pv (PVal.str []), AVal.pv (PVal.int IntKind.u64 (0))], fields := [(0, 1), (1, 1)], eSize := 0, eBytes := 0, eZero := false, kKind := Kd.other, eZV := none, kind := Kd.struct, eqs := none }
def ty14 : Ty := { size := 2, bytes := 24, agg := true, zero := some [AVal.pv (PVal.str []), AVal.pv (PVal.int IntKind.u64 (0))], fields := [(0, 1), (1, 1)], eSize := 0, eBytes := 0, eZero := false, kKind := Kd.other, eZV := none, kind := Kd.struct, eqs := none }
def ty15 : Ty := { size := 1, bytes := 8, agg := false, zero := some [AVal.pv PVal.nilptr], fields := [], eSize := 0, eBytes := 0, eZero := false, kKind := Kd.other, eZV := none, kind := Kd.other, eqs := none }
def ty16 : Ty := { size := 1, bytes := 8, agg := false, zero := some [AVal.pv PVal.nilptr], fields := [], eSize := 0, eBytes := 0, eZero := false, kKind := Kd.other, eZV := none, kind := Kd.other, eqs := none }
def ty17 : Ty := { size := 1, bytes := 8, agg := false, zero := some [AVal.pv PVal.nilptr], fields := [], eSize := 0, eBytes := 0, eZero := false, kKind := Kd.other, eZV := none, kind := Kd.other, eqs := none }
def ty18 : Ty := { size := 1, bytes := 8, agg := true, zero := some [AVal.pv PVal.nilptr], fields := [(0, 1)], eSize := 0, eBytes := 0, eZero := false, kKind := Kd.other, eZV := none, kind := Kd.struct, eqs := none }
def ty19 : Ty := { size := 1, bytes := 8, agg := true, zero := some [AVal.pv PVal.nilptr], fields := [(0, 1)], eSize := 0, eBytes := 0, eZero := false, kKind := Kd.other, eZV := none, kind := Kd.struct, eqs := none }
def ty20 : Ty := { size := 1, bytes := 16, agg := false, zero := some [AVal.pv (PVal.err true)], fields := [], eSize := 0, eBytes := 0, eZero := false, kKind := Kd.other, eZV := none, kind := Kd.iface, eqs := none }
def ty21 : Ty := { size := 1, bytes := 4, agg := false, zero := some [AVal.pv (PVal.int IntKind.i32 (0))], fields := [], eSize := 0, eBytes := 0, eZero := false, kKind := Kd.other, eZV := none, kind := Kd.int IntKind.i32, eqs := none }
def ty23 : Ty := { size := 1, bytes := 24, agg := false, zero := some [AVal.snil], fields := [], eSize := 3, eBytes := 32, eZero := true, kKind := Kd.other, eZV := some (true, [PVal.str [], PVal.int IntKind.i64 (0), PVal.int IntKind.i64 (0)]), kind := Kd.slice, eqs := none }
def ty24 : Ty := { size := 1, bytes := 24, agg := false, zero := some [AVal.snil], fields := [], eSize := 18, eBytes := 232, eZero := true, kKind := Kd.other, eZV := some (true, [PVal.int IntKind.i64 (0), PVal.str [], PVal.int IntKind.i64 (0), PVal.int IntKind.i64 (0), PVal.int IntKind.i64 (0), PVal.int IntKind.i64 (0), PVal.str [], PVal.int IntKind.i64 (0), PVal.int IntKind.i64 (0), PVal.slice [], PVal.int IntKind.i64 (0), PVal.int IntKind.i64 (0), PVal.str [], PVal.int IntKind.i64 (0), PVal.int IntKind.i64 (0), PVal.slice [], PVal.slice [], PVal.slice []]), kind := Kd.slice, eqs := none }
def ty25 : Ty := { size := 5, bytes := 120, agg := true, zero := some [AVal.snil, AVal.snil, AVal.snil, AVal.snil, AVal.snil], fields := [(0, 1), (1, 1), (2, 1), (3, 1), (4, 1)], eSize := 0, eBytes := 0, eZero := false, kKind := Kd.other, eZV := none, kind := Kd.struct, eqs := none }
def ty26 : Ty := { size := 5, bytes := 120, agg := true, zero := some [AVal.snil, AVal.snil, AVal.snil, AVal.snil, AVal.snil], fields := [(0, 1), (1, 1), (2, 1), (3, 1), (4, 1)], eSize := 0, eBytes := 0, eZero := false, kKind := Kd.other, eZV := none, kind := Kd.struct, eqs := none }
def ty27 : Ty := { size := 1, bytes := 8, agg := false, zero := some [AVal.pv (PVal.int IntKind.i64 (0))], fields := [], eSize := 0, eBytes := 0, eZero := false, kKind := Kd.other, eZV := none, kind := Kd.int IntKind.i64, eqs := none }
def ty32 : Ty := { size := 1, bytes := 24, agg := false, zero := some [AVal.snil], fields := [], eSize := 1, eBytes := 1, eZero := true, kKind := Kd.int IntKind.u8, eZV := some (false, [PVal.int IntKind.u8 (0)]), kind := Kd.slice, eqs := none }
def ty33 : Ty := { size := 1, bytes := 8, agg := false, zero := some [AVal.pv PVal.nilptr], fields := [], eSize := 0, eBytes := 0, eZero := false, kKind := Kd.other, eZV := none, kind := Kd.other, eqs := none }
def ty38 : Ty := { size := 1, bytes := 24, agg := false, zero := some [AVal.snil], fields := [], eSize := 4, eBytes := 40, eZero := true, kKind := Kd.other, eZV := some (true, [PVal.int IntKind.i64 (0), PVal.str [], PVal.int IntKind.i64 (0), PVal.int IntKind.i64 (0)]), kind := Kd.slice, eqs := none }
def ty41 : Ty := { size := 4, bytes := 40, agg := true, zero := some [AVal.pv (PVal.int IntKind.i64 (0)), AVal.pv (PVal.str []), AVal.pv (PVal.int IntKind.i64 (0)), AVal.pv (PVal.int IntKind.i64 (0))], fields := [(0, 1), (1, 1), (2, 1), (3, 1)], eSize := 0, eBytes := 0, eZero := false, kKind := Kd.other, eZV := none, kind := Kd.struct, eqs := some [Kd.int IntKind.i64, Kd.string, Kd.int IntKind.i64, Kd.int IntKind.i64] }
def ty42 : Ty := { size := 4, bytes := 40, agg := true, zero := some [AVal.pv (PVal.int IntKind.i64 (0)), AVal.pv (PVal.str []), AVal.pv (PVal.int IntKind.i64 (0)), AVal.pv (PVal.int IntKind.i64 (0))], fields := [(0, 1), (1, 1), (2, 1), (3, 1)], eSize := 0, eBytes := 0, eZero := false, kKind := Kd.other, eZV := none, kind := Kd.struct, eqs := some [Kd.int IntKind.i64, Kd.string, Kd.int IntKind.i64, Kd.int IntKind.i64] }
def ty46 : Ty := { size := 1, bytes := 24, agg := false, zero := some [AVal.snil], fields := [], eSize := 5, eBytes := 120, eZero := true, kKind := Kd.other, eZV := some (true, [PVal.slice [], PVal.slice [], PVal.slice [], PVal.slice [], PVal.slice []]), kind := Kd.slice, eqs := none }
def ty50 : Ty := { size := 1, bytes := 24, agg := false, zero := some [AVal.snil], fields := [], eSize := 6, eBytes := 72, eZero := true, kKind := Kd.other, eZV := some (true, [PVal.int IntKind.i64 (0), PVal.int IntKind.i64 (0), PVal.str [], PVal.int IntKind.i64 (0), PVal.int IntKind.i64 (0), PVal.slice []]), kind := Kd.slice, eqs := none }
def ty51 : Ty := { size := 6, bytes := 72, agg := true, zero := some [AVal.pv (PVal.int IntKind.i64 (0)), AVal.pv (PVal.int IntKind.i64 (0)), AVal.pv (PVal.str []), AVal.pv (PVal.int IntKind.i64 (0)), AVal.pv (PVal.int IntKind.i64 (0)), AVal.snil], fields := [(0, 1), (1, 1), (2, 1), (3, 1), (4, 1), (5, 1)], eSize := 0, eBytes := 0, eZero := false, kKind := Kd.other, eZV := none, kind := Kd.struct, eqs := none }
def ty52 : Ty := { size := 6, bytes := 72, agg := true, zero := some [AVal.pv (PVal.int IntKind.i64 (0)), AVal.pv (PVal.int IntKind.i64 (0)), AVal.pv (PVal.str []), AVal.pv (PVal.int IntKind.i64 (0)), AVal.pv (PVal.int IntKind.i64 (0)), AVal.snil], fields := [(0, 1), (1, 1), (2, 1), (3, 1), (4, 1), (5, 1)], eSize := 0, eBytes := 0, eZero := false, kKind := Kd.other, eZV := none, kind := Kd.struct, eqs := none }
def ty53 : Ty := { size := 18, bytes := 232, agg := true, zero := some [AVal.pv (PVal.int IntKind.i64 (0)), AVal.pv (PVal.str []), AVal.pv (PVal.int IntKind.i64 (0)), AVal.pv (PVal.int IntKind.i64 (0)), AVal.pv (PVal.int IntKind.i64 (0)), AVal.pv (PVal.int IntKind.i64 (0)), AVal.pv (PVal.str []), AVal.pv (PVal.int IntKind.i64 (0)), AVal.pv (PVal.int IntKind.i64 (0)), AVal.snil, AVal.pv (PVal.int IntKind.i64 (0)), AVal.pv (PVal.int IntKind.i64 (0)), AVal.pv (PVal.str []), AVal.pv (PVal.int IntKind.i64 (0)), AVal.pv (PVal.int IntKind.i64 (0)), AVal.snil, AVal.snil, AVal.snil], fields := [(0, 1), (1, 1), (2, 1), (3, 1), (4, 6), (10, 6), (16, 1), (17, 1)], eSize := 0, eBytes := 0, eZero := false, kKind := Kd.other, eZV := none, kind := Kd.struct, eqs := none }
def ty54 : Ty := { size := 18, bytes := 232, agg := true, zero := some [AVal.pv (PVal.int IntKind.i64 (0)), AVal.pv (PVal.str []), AVal.pv (PVal.int IntKind.i64 (0)), AVal.pv (PVal.int IntKind.i64 (0)), AVal.pv (PVal.int IntKind.i64 (0)), AVal.pv (PVal.int IntKind.i64 (0)), AVal.pv (PVal.str []), AVal.pv (PVal.int IntKind.i64 (0)), AVal.pv (PVal.int IntKind.i64 (0)), AVal.snil, AVal.pv (PVal.int IntKind.i64 (0)), AVal.pv (PVal.int IntKind.i64 (0)), AVal.pv (PVal.str []), AVal.pv (PVal.int IntKind.i64 (0)), AVal.pv (PVal.int IntKind.i64 (0)), AVal.snil, AVal.snil, AVal.snil], fields := [(0, 1), (1, 1), (2, 1), (3, 1), (4, 6), (10, 6), (16, 1), (17, 1)], eSize := 0, eBytes := 0, eZero := false, kKind := Kd.other, eZV := none, kind := Kd.struct, eqs := none }
def ty57 : Ty := { size := 5, bytes := 56, agg := true, zero := some [AVal.snil, AVal.pv (PVal.int IntKind.i64 (0)), AVal.pv (PVal.int IntKind.i64 (0)), AVal.pv (PVal.int IntKind.i64 (0)), AVal.pv (PVal.bool false)], fields := [(0, 1), (1, 1), (2, 1), (3, 1), (4, 1)], eSize := 0, eBytes := 0, eZero := false, kKind := Kd.other, eZV := none, kind := Kd.struct, eqs := none }
def ty58 : Ty := { size := 5, bytes := 56, agg := true, zero := some [AVal.snil, AVal.pv (PVal.int IntKind.i64 (0)), AVal.pv (PVal.int IntKind.i64 (0)), AVal.pv (PVal.int IntKind.i64 (0)), AVal.pv (PVal.bool false)], fields := [(0, 1), (1, 1), (2, 1), (3, 1), (4, 1)], eSize := 0, eBytes := 0, eZero := false, kKind := Kd.other, eZV := none, kind := Kd.struct, eqs := none }
def ty59 : Ty := { size := 3, bytes := 32, agg := true, zero := some [AVal.pv (PVal.str []), AVal.pv (PVal.int IntKind.i64 (0)), AVal.pv (PVal.int IntKind.i64 (0))], fields := [(0, 1), (1, 1), (2, 1)], eSize := 0, eBytes := 0, eZero := false, kKind := Kd.other, eZV := none, kind := Kd.struct, eqs := some [Kd.string, Kd.int IntKind.i64, Kd.int IntKind.i64] }
def ty60 : Ty := { size := 3, bytes := 32, agg := true, zero := some [AVal.pv (PVal.str []), AVal.pv (PVal.int IntKind.i64 (0)), AVal.pv (PVal.int IntKind.i64 (0))], fields := [(0, 1), (1, 1), (2, 1)], eSize := 0, eBytes := 0, eZero := false, kKind := Kd.other, eZV := none, kind := Kd.struct, eqs := some [Kd.string, Kd.int IntKind.i64, Kd.int IntKind.i64] }
def ty62 : Ty := { size := 2, bytes := 32, agg := true, zero := some [AVal.snil, AVal.pv (PVal.int IntKind.i64 (0))], fields := [(0, 1), (1, 1)], eSize := 0, eBytes := 0, eZero := false, kKind := Kd.other, eZV := none, kind := Kd.struct, eqs := none }
def ty63 : Ty := { size := 2, bytes := 32, agg := true, zero := some [AVal.snil, AVal.pv (PVal.int IntKind.i64 (0))], fields := [(0, 1), (1, 1)], eSize := 0, eBytes := 0, eZero := false, kKind := Kd.other, eZV := none, kind := Kd.struct, eqs := none }
def ty74 : Ty := { size := 1, bytes := 24, agg := true, zero := some [AVal.snil], fields := [(0, 1)], eSize := 0, eBytes := 0, eZero := false, kKind := Kd.other, eZV := none, kind := Kd.struct, eqs := none }
def ty75 : Ty := { size := 1, bytes := 24, agg := true, zero := some [AVal.snil], fields := [(0, 1)], eSize := 0, eBytes := 0, eZero := false, kKind := Kd.other, eZV := none, kind := Kd.struct, eqs := none }
def ty81 : Ty := { size := 1, bytes := 8, agg := true, zero := some [AVal.pv (PVal.int IntKind.i64 (0))], fields := [(0, 1)], eSize := 0, eBytes := 0, eZero := false, kKind := Kd.other, eZV := none, kind := Kd.struct, eqs := some [Kd.int IntKind.i64] }
def ty82 : Ty := { size := 1, bytes := 8, agg := true, zero := some [AVal.pv (PVal.int IntKind.i64 (0))], fields := [(0, 1)], eSize := 0, eBytes := 0, eZero := false, kKind := Kd.other, eZV := none, kind := Kd.struct, eqs := some [Kd.int IntKind.i64] }
def ty84 : Ty := { size := 1, bytes := 8, agg := false, zero := some [AVal.pv PVal.nilptr], fields := [], eSize := 0, eBytes := 0, eZero := false, kKind := Kd.other, eZV := none, kind := Kd.other, eqs := none }
def ty85 : Ty := { size := 3, bytes := 40, agg := true, zero := some [AVal.snil, AVal.pv (PVal.int IntKind.i64 (0)), AVal.pv (PVal.int IntKind.i64 (0))], fields := [(0, 1), (1, 1), (2, 1)], eSize := 0, eBytes := 0, eZero := false, kKind := Kd.other, eZV := none, kind := Kd.struct, eqs := none }
def ty86 : Ty := { size := 3, bytes := 40, agg := true, zero := some [AVal.snil, AVal.pv (PVal.int IntKind.i64 (0)), AVal.pv (PVal.int IntKind.i64 (0))], fields := [(0, 1), (1, 1), (2, 1)], eSize := 0, eBytes := 0, eZero := false, kKind := Kd.other, eZV := none, kind := Kd.struct, eqs := none }
def ty88 : Ty := { size := 4, bytes := 4, agg := true, zero := some [AVal.pv (PVal.bool false), AVal.pv (PVal.bool false), AVal.pv (PVal.bool false), AVal.pv (PVal.bool false)], fields := [], eSize := 1, eBytes := 1, eZero := true, kKind := Kd.bool, eZV := none, kind := Kd.array 4, eqs := none }
def ty90 : Ty := { size := 1, bytes := 8, agg := false, zero := some [AVal.pv PVal.nilptr], fields := [], eSize := 0, eBytes := 0, eZero := false, kKind := Kd.other, eZV := none, kind := Kd.other, eqs := none }
def ty91 : Ty := { size := 1, bytes := 8, agg := false, zero := some [AVal.pv PVal.nilptr], fields := [], eSize := 0, eBytes := 0, eZero := false, kKind := Kd.other, eZV := none, kind := Kd.other, eqs := none }
def ty92 : Ty := { size := 1, bytes := 8, agg := false, zero := some [AVal.pv PVal.nilptr], fields := [], eSize := 0, eBytes := 0, eZero := false, kKind := Kd.other, eZV := none, kind := Kd.other, eqs := none }
def ty98 : Ty := { size := 3, bytes := 48, agg := true, zero := some [AVal.pv (PVal.str []), AVal.pv (PVal.str []), AVal.pv (PVal.str [])], fields := [], eSize := 1, eBytes := 16, eZero := true, kKind := Kd.string, eZV := none, kind := Kd.array 3, eqs := none }
def ty99 : Ty := { size := 2, bytes := 32, agg := true, zero := some [AVal.pv (PVal.str []), AVal.pv (PVal.str [])], fields := [], eSize := 1, eBytes := 16, eZero := true, kKind := Kd.string, eZV := none, kind := Kd.array 2, eqs := none }
def ty103 : Ty := { size := 1, bytes := 24, agg := false, zero := some [AVal.snil], fields := [], eSize := 1, eBytes := 16, eZero := true, kKind := Kd.string, eZV := some (false, [PVal.str []]), kind := Kd.slice, eqs := none }
def ty104 : Ty := { size := 1, bytes := 24, agg := false, zero := some [AVal.snil], fields := [], eSize := 1, eBytes := 8, eZero := true, kKind := Kd.int IntKind.i64, eZV := some (false, [PVal.int IntKind.i64 (0)]), kind := Kd.slice, eqs := none }
def ty105 : Ty := { size := 1, bytes := 8, agg := false, zero := some [AVal.pv PVal.nilptr], fields := [], eSize := 0, eBytes := 0, eZero := false, kKind := Kd.other, eZV := none, kind := Kd.other, eqs := none }
def ty109 : Ty := { size := 1, bytes := 8, agg := false, zero := some [AVal.pv PVal.nilptr], fields := [], eSize := 0, eBytes := 0, eZero := false, kKind := Kd.other, eZV := none, kind := Kd.other, eqs := none }
def ty115 : Ty := { size := 1, bytes := 8, agg := false, zero := some [AVal.pv PVal.nilptr], fields := [], eSize := 0, eBytes := 0, eZero := false, kKind := Kd.other, eZV := none, kind := Kd.other, eqs := none }
def ty116 : Ty := { size := 4, bytes := 32, agg := true, zero := some [AVal.pv PVal.nilptr, AVal.pv PVal.nilptr, AVal.pv PVal.nilptr, AVal.pv PVal.nilptr], fields := [], eSize := 1, eBytes := 8, eZero := true, kKind := Kd.other, eZV := none, kind := Kd.array 4, eqs := none }
def ty117 : Ty := { size := 4, bytes := 64, agg := true, zero := some [AVal.pv (PVal.str []), AVal.pv (PVal.str []), AVal.pv (PVal.str []), AVal.pv (PVal.str [])], fields := [], eSize := 1, eBytes := 16, eZero := true, kKind := Kd.string, eZV := none, kind := Kd.array 4, eqs := none }
def ty123 : Ty := { size := 1, bytes := 8, agg := false, zero := some [AVal.pv PVal.nilptr], fields := [], eSize := 0, eBytes := 0, eZero := false, kKind := Kd.other, eZV := none, kind := Kd.other, eqs := none }
def ty125 : Ty := { size := 1, bytes := 16, agg := false, zero := some [AVal.pv (PVal.err true)], fields := [], eSize := 0, eBytes := 0, eZero := false, kKind := Kd.other, eZV := none, kind := Kd.iface, eqs := none }
def ty126 : Ty := { size := 1, bytes := 16, agg := false, zero := some [AVal.pv (PVal.err true)], fields := [], eSize := 0, eBytes := 0, eZero := false, kKind := Kd.other, eZV := none, kind := Kd.iface, eqs := none }
def ty134 : Ty := { size := 24, bytes := 24, agg := true, zero := some [AVal.pv (PVal.int IntKind.u8 (0)), AVal.pv (PVal.int IntKind.u8 (0)), AVal.pv (PVal.int IntKind.u8 (0)), AVal.pv (PVal.int IntKind.u8 (0)), AVal.pv (PVal.int IntKind.u8 (0)), AVal.pv (PVal.int IntKind.u8 (0)), AVal.pv (PVal.int IntKind.u8 (0)), AVal.pv (PVal.int IntKind.u8 (0)), AVal.pv (PVal.int IntKind.u8 (0)), AVal.pv (PVal.int IntKind.u8 (0)), AVal.pv (PVal.int IntKind.u8 (0)), AVal.pv (PVal.int IntKind.u8 (0)), AVal.pv (PVal.int IntKind.u8 (0)), AVal.pv (PVal.int IntKind.u8 (0)), AVal.pv (PVal.int IntKind.u8 (0)), AVal.pv (PVal.int IntKind.u8 (0)), AVal.pv (PVal.int IntKind.u8 (0)), AVal.pv (PVal.int IntKind.u8 (0)), AVal.pv (PVal.int IntKind.u8 (0)), AVal.pv (PVal.int IntKind.u8 (0)), AVal.pv (PVal.int IntKind.u8 (0)), AVal.pv (PVal.int IntKind.u8 (0)), AVal.pv (PVal.int IntKind.u8 (0)), AVal.pv (PVal.int IntKind.u8 (0))], fields := [], eSize := 1, eBytes := 1, eZero := true, kKind := Kd.int IntKind.u8, eZV := none, kind := Kd.array 24, eqs := none }
def ty135 : Ty := { size := 1, bytes := 8, agg := false, zero := some [AVal.pv (PVal.int IntKind.u64 (0))], fields := [], eSize := 0, eBytes := 0, eZero := false, kKind := Kd.other, eZV := none, kind := Kd.int IntKind.u64, eqs := none }
def ty141 : Ty := { size := 1, bytes := 8, agg := false, zero := some [AVal.pv (PVal.int IntKind.i64 (0))], fields := [], eSize := 0, eBytes := 0, eZero := false, kKind := Kd.other, eZV := none, kind := Kd.int IntKind.i64, eqs := none }
def ty144 : Ty := { size := 1, bytes := 8, agg := false, zero := some [AVal.pv (PVal.int IntKind.u64 (0))], fields := [], eSize := 0, eBytes := 0, eZero := false, kKind := Kd.other, eZV := none, kind := Kd.int IntKind.u64, eqs := none }
def ty145 : Ty := { size := 1, bytes := 8, agg := false, zero := some [AVal.pv PVal.nilptr], fields := [], eSize := 0, eBytes := 0, eZero := false, kKind := Kd.other, eZV := none, kind := Kd.other, eqs := none }
def ty150 : Ty := { size := 20, bytes := 160, agg := true, zero := some [AVal.pv (PVal.int IntKind.u64 (0)), AVal.pv (PVal.int IntKind.u64 (0)), AVal.pv (PVal.int IntKind.u64 (0)), AVal.pv (PVal.int IntKind.u64 (0)), AVal.pv (PVal.int IntKind.u64 (0)), AVal.pv (PVal.int IntKind.u64 (0)), AVal.pv (PVal.int IntKind.u64 (0)), AVal.pv (PVal.int IntKind.u64 (0)), AVal.pv (PVal.int IntKind.u64 (0)), AVal.pv (PVal.int IntKind.u64 (0)), AVal.pv (PVal.int IntKind.u64 (0)), AVal.pv (PVal.int IntKind.u64 (0)), AVal.pv (PVal.int IntKind.u64 (0)), AVal.pv (PVal.int IntKind.u64 (0)), AVal.pv (PVal.int IntKind.u64 (0)), AVal.pv (PVal.int IntKind.u64 (0)), AVal.pv (PVal.int IntKind.u64 (0)), AVal.pv (PVal.int IntKind.u64 (0)), AVal.pv (PVal.int IntKind.u64 (0)), AVal.pv (PVal.int IntKind.u64 (0))], fields := [], eSize := 1, eBytes := 8, eZero := true, kKind := Kd.int IntKind.u64, eZV := none, kind := Kd.array 20, eqs := none }
def ty151 : Ty := { size := 1, bytes := 4, agg := false, zero := some [AVal.pv (PVal.int IntKind.u32 (0))], fields := [], eSize := 0, eBytes := 0, eZero := false, kKind := Kd.other, eZV := none, kind := Kd.int IntKind.u32, eqs := none }
def ty152 : Ty := { size := 65, bytes := 65, agg := true, zero := some [AVal.pv (PVal.int IntKind.u8 (0)), AVal.pv (PVal.int IntKind.u8 (0)), AVal.pv (PVal.int IntKind.u8 (0)), AVal.pv (PVal.int IntKind.u8 (0)), AVal.pv (PVal.int IntKind.u8 (0)), AVal.pv (PVal.int IntKind.u8 (0)), AVal.pv (PVal.int IntKind.u8 (0)), AVal.pv (PVal.int IntKind.u8 (0)), AVal.pv (PVal.int IntKind.u8 (0)), AVal.pv (PVal.int IntKind.u8 (0)), AVal.pv (PVal.int IntKind.u8 (0)), AVal.pv (PVal.int IntKind.u8 (0)), AVal.pv (PVal.int IntKind.u8 (0)), AVal.pv (PVal.int IntKind.u8 (0)), AVal.pv (PVal.int IntKind.u8 (0)), AVal.pv (PVal.int IntKind.u8 (0)), AVal.pv (PVal.int IntKind.u8 (0)), AVal.pv (PVal.int IntKind.u8 (0)), AVal.pv (PVal.int IntKind.u8 (0)), AVal.pv (PVal.int IntKind.u8 (0)), AVal.pv (PVal.int IntKind.u8 (0)), AVal.pv (PVal.int IntKind.u8 (0)), AVal.pv (PVal.int IntKind.u8 (0)), AVal.pv (PVal.int IntKind.u8 (0)), AVal.pv (PVal.int IntKind.u8 (0)), AVal.pv (PVal.int IntKind.u8 (0)), AVal.pv (PVal.int IntKind.u8 (0)), AVal.pv (PVal.int IntKind.u8 (0)), AVal.pv (PVal.int IntKind.u8 (0)), AVal.pv (PVal.int IntKind.u8 (0)), AVal.pv (PVal.int IntKind.u8 (0)), AVal.pv (PVal.int IntKind.u8 (0)), AVal.pv (PVal.int IntKind.u8 (0)), AVal.pv (PVal.int IntKind.u8 (0)), AVal.pv (PVal.int IntKind.u8 (0)), AVal.pv (PVal.int IntKind.u8 (0)), AVal.pv (PVal.int IntKind.u8 (0)), AVal.pv (PVal.int IntKind.u8 (0)), AVal.pv (PVal.int IntKind.u8 (0)), AVal.pv (PVal.int IntKind.u8 (0)), AVal.pv (PVal.int IntKind.u8 (0)), AVal.pv (PVal.int IntKind.u8 (0)), AVal.pv (PVal.int IntKind.u8 (0)), AVal.pv (PVal.int IntKind.u8 (0)), AVal.pv (PVal.int IntKind.u8 (0)), AVal.pv (PVal.int IntKind.u8 (0)), AVal.pv (PVal.int IntKind.u8 (0)), AVal.pv (PVal.int IntKind.u8 (0)), AVal.pv (PVal.int IntKind.u8 (0)), AVal.pv (PVal.int IntKind.u8 (0)), AVal.pv (PVal.int IntKind.u8 (0)), AVal.pv (PVal.int IntKind.u8 (0)), AVal.pv (PVal.int IntKind.u8 (0)), AVal.pv (PVal.int IntKind.u8 (0)), AVal.pv (PVal.int IntKind.u8 (0)), AVal.pv (PVal.int IntKind.u8 (0)), AVal.pv (PVal.int IntKind.u8 (0)), AVal.pv (PVal.int IntKind.u8 (0)), AVal.pv (PVal.int IntKind.u8 (0)), AVal.pv (PVal.int IntKind.u8 (0)), AVal.pv (PVal.int IntKind.u8 (0)), AVal.pv (PVal.int IntKind.u8 (0)), AVal.pv (PVal.int IntKind.u8 (0)), AVal.pv (PVal.int IntKind.u8 (0)), AVal.pv (PVal.int IntKind.u8 (0))], fields := [], eSize := 1, eBytes := 1, eZero := true, kKind := Kd.int IntKind.u8, eZV := none, kind := Kd.array 65, eqs := none }
def ty157 : Ty := { size := 3, bytes := 48, agg := true, zero := some [AVal.pv (PVal.str []), AVal.pv (PVal.str []), AVal.pv (PVal.err true)], fields := [(0, 1), (1, 1), (2, 1)], eSize := 0, eBytes := 0, eZero := false, kKind := Kd.other, eZV := none, kind := Kd.struct, eqs := none }
def ty158 : Ty := { size := 3, bytes := 48, agg := true, zero := some [AVal.pv (PVal.str []), AVal.pv (PVal.str []), AVal.pv (PVal.err true)], fields := [(0, 1), (1, 1), (2, 1)], eSize := 0, eBytes := 0, eZero := false, kKind := Kd.other, eZV := none, kind := Kd.struct, eqs := none }
def ty162 : Ty := { size := 1, bytes := 8, agg := false, zero := some [AVal.pv PVal.nilptr], fields := [], eSize := 0, eBytes := 0, eZero := false, kKind := Kd.other, eZV := none, kind := Kd.other, eqs := none }
def ty163 : Ty := { size := 1, bytes := 8, agg := false, zero := some [AVal.pv PVal.nilptr], fields := [], eSize := 0, eBytes := 0, eZero := false, kKind := Kd.other, eZV := none, kind := Kd.other, eqs := none }
def ty164 : Ty := { size := 1, bytes := 16, agg := true, zero := some [AVal.pv (PVal.str [])], fields := [(0, 1)], eSize := 0, eBytes := 0, eZero := false, kKind := Kd.other, eZV := none, kind := Kd.struct, eqs := some [Kd.string] }
def ty165 : Ty := { size := 1, bytes := 16, agg := true, zero := some [AVal.pv (PVal.str [])], fields := [(0, 1)], eSize := 0, eBytes := 0, eZero := false, kKind := Kd.other, eZV := none, kind := Kd.struct, eqs := some [Kd.string] }
def ty166 : Ty := { size := 32, bytes := 32, agg := true, zero := some [AVal.pv (PVal.int IntKind.u8 (0)), AVal.pv (PVal.int IntKind.u8 (0)), AVal.pv (PVal.int IntKind.u8 (0)), AVal.pv (PVal.int IntKind.u8 (0)), AVal.pv (PVal.int IntKind.u8 (0)), AVal.pv (PVal.int IntKind.u8 (0)), AVal.pv (PVal.int IntKind.u8 (0)), AVal.pv (PVal.int IntKind.u8 (0)), AVal.pv (PVal.int IntKind.u8 (0)), AVal.pv (PVal.int IntKind.u8 (0)), AVal.pv (PVal.int IntKind.u8 (0)), AVal.pv (PVal.int IntKind.u8 (0)), AVal.pv (PVal.int IntKind.u8 (0)), AVal.pv (PVal.int IntKind.u8 (0)), AVal.pv (PVal.int IntKind.u8 (0)), AVal.pv (PVal.int IntKind.u8 (0)), AVal.pv (PVal.int IntKind.u8 (0)), AVal.pv (PVal.int IntKind.u8 (0)), AVal.pv (PVal.int IntKind.u8 (0)), AVal.pv (PVal.int IntKind.u8 (0)), AVal.pv (PVal.int IntKind.u8 (0)), AVal.pv (PVal.int IntKind.u8 (0)), AVal.pv (PVal.int IntKind.u8 (0)), AVal.pv (PVal.int IntKind.u8 (0)), AVal.pv (PVal.int IntKind.u8 (0)), AVal.pv (PVal.int IntKind.u8 (0)), AVal.pv (PVal.int IntKind.u8 (0)), AVal.pv (PVal.int IntKind.u8 (0)), AVal.pv (PVal.int IntKind.u8 (0)), AVal.pv (PVal.int IntKind.u8 (0)), AVal.pv (PVal.int IntKind.u8 (0)), AVal.pv (PVal.int IntKind.u8 (0))], fields := [], eSize := 1, eBytes := 1, eZero := true, kKind := Kd.int IntKind.u8, eZV := none, kind := Kd.array 32, eqs := none }
def ty167 : Ty := { size := 64, bytes := 64, agg := true, zero := some [AVal.pv (PVal.int IntKind.u8 (0)), AVal.pv (PVal.int IntKind.u8 (0)), AVal.pv (PVal.int IntKind.u8 (0)), AVal.pv (PVal.int IntKind.u8 (0)), AVal.pv (PVal.int IntKind.u8 (0)), AVal.pv (PVal.int IntKind.u8 (0)), AVal.pv (PVal.int IntKind.u8 (0)), AVal.pv (PVal.int IntKind.u8 (0)), AVal.pv (PVal.int IntKind.u8 (0)), AVal.pv (PVal.int IntKind.u8 (0)), AVal.pv (PVal.int IntKind.u8 (0)), AVal.pv (PVal.int IntKind.u8 (0)), AVal.pv (PVal.int IntKind.u8 (0)), AVal.pv (PVal.int IntKind.u8 (0)), AVal.pv (PVal.int IntKind.u8 (0)), AVal.pv (PVal.int IntKind.u8 (0)), AVal.pv (PVal.int IntKind.u8 (0)), AVal.pv (PVal.int IntKind.u8 (0)), AVal.pv (PVal.int IntKind.u8 (0)), AVal.pv (PVal.int IntKind.u8 (0)), AVal.pv (PVal.int IntKind.u8 (0)), AVal.pv (PVal.int IntKind.u8 (0)), AVal.pv (PVal.int IntKind.u8 (0)), AVal.pv (PVal.int IntKind.u8 (0)), AVal.pv (PVal.int IntKind.u8 (0)), AVal.pv (PVal.int IntKind.u8 (0)), AVal.pv (PVal.int IntKind.u8 (0)), AVal.pv (PVal.int IntKind.u8 (0)), AVal.pv (PVal.int IntKind.u8 (0)), AVal.pv (PVal.int IntKind.u8 (0)), AVal.pv (PVal.int IntKind.u8 (0)), AVal.pv (PVal.int IntKind.u8 (0)), AVal.pv (PVal.int IntKind.u8 (0)), AVal.pv (PVal.int IntKind.u8 (0)), AVal.pv (PVal.int IntKind.u8 (0)), AVal.pv (PVal.int IntKind.u8 (0)), AVal.pv (PVal.int IntKind.u8 (0)), AVal.pv (PVal.int IntKind.u8 (0)), AVal.pv (PVal.int IntKind.u8 (0)), AVal.pv (PVal.int IntKind.u8 (0)), AVal.pv (PVal.int IntKind.u8 (0)), AVal.pv (PVal.int IntKind.u8 (0)), AVal.pv (PVal.int IntKind.u8 (0)), AVal.pv (PVal.int IntKind.u8 (0)), AVal.pv (PVal.int IntKind.u8 (0)), AVal.pv (PVal.int IntKind.u8 (0)), AVal.pv (PVal.int IntKind.u8 (0)), AVal.pv (PVal.int IntKind.u8 (0)), AVal.pv (PVal.int IntKind.u8 (0)), AVal.pv (PVal.int IntKind.u8 (0)), AVal.pv (PVal.int IntKind.u8 (0)), AVal.pv (PVal.int IntKind.u8 (0)), AVal.pv (PVal.int IntKind.u8 (0)), AVal.pv (PVal.int IntKind.u8 (0)), AVal.pv (PVal.int IntKind.u8 (0)), AVal.pv (PVal.int IntKind.u8 (0)), AVal.pv (PVal.int IntKind.u8 (0)), AVal.pv (PVal.int IntKind.u8 (0)), AVal.pv (PVal.int IntKind.u8 (0)), AVal.pv (PVal.int IntKind.u8 (0)), AVal.pv (PVal.int IntKind.u8 (0)), AVal.pv (PVal.int IntKind.u8 (0)), AVal.pv (PVal.int IntKind.u8 (0)), AVal.pv (PVal.int IntKind.u8 (0))], fields := [], eSize := 1, eBytes := 1, eZero := true, kKind := Kd.int IntKind.u8, eZV := none, kind := Kd.array 64, eqs := none }
def ty168 : Ty := { size := 4, bytes := 40, agg := true, zero := some [AVal.pv PVal.nilptr, AVal.pv PVal.nilptr, AVal.pv PVal.nilptr, AVal.pv (PVal.str [])], fields := [(0, 1), (1, 1), (2, 1), (3, 1)], eSize := 0, eBytes := 0, eZero := false, kKind := Kd.other, eZV := none, kind := Kd.struct, eqs := none }
def ty169 : Ty := { size := 4, bytes := 40, agg := true, zero := some [AVal.pv PVal.nilptr, AVal.pv PVal.nilptr, AVal.pv PVal.nilptr, AVal.pv (PVal.str [])], fields := [(0, 1), (1, 1), (2, 1), (3, 1)], eSize := 0, eBytes := 0, eZero := false, kKind := Kd.other, eZV := none, kind := Kd.struct, eqs := none }
def ty170 : Ty := { size := 0, bytes := 0, agg := true, zero := some [], fields := [], eSize := 1, eBytes := 8, eZero := true, kKind := Kd.other, eZV := none, kind := Kd.array 0, eqs := none }
def ty171 : Ty := { size := 0, bytes := 0, agg := true, zero := some [], fields := [(0, 0)], eSize := 0, eBytes := 0, eZero := false, kKind := Kd.other, eZV := none, kind := Kd.struct, eqs := none }
def ty172 : Ty := { size := 0, bytes := 0, agg := true, zero := some [], fields := [(0, 0)], eSize := 0, eBytes := 0, eZero := false, kKind := Kd.other, eZV := none, kind := Kd.struct, eqs := none }
def ty173 : Ty := { size := 1, bytes := 1, agg := false, zero := some [AVal.pv (PVal.int IntKind.u8 (0))], fields := [], eSize := 0, eBytes := 0, eZero := false, kKind := Kd.other, eZV := none, kind := Kd.int IntKind.u8, eqs := none }
def ty174 : Ty := { size := 1, bytes := 1, agg := false, zero := some [AVal.pv (PVal.int IntKind.u8 (0))], fields := [], eSize := 0, eBytes := 0, eZero := false, kKind := Kd.other, eZV := none, kind := Kd.int IntKind.u8, eqs := none }
def ty176 : Ty := { size := 1, bytes := 4, agg := false, zero := some [AVal.pv (PVal.int IntKind.i32 (0))], fields := [], eSize := 0, eBytes := 0, eZero := false, kKind := Kd.other, eZV := none, kind := Kd.int IntKind.i32, eqs := none }
def ty177 : Ty := { size := 1, bytes := 4, agg := false, zero := some [AVal.pv (PVal.int IntKind.i32 (0))], fields := [], eSize := 0, eBytes := 0, eZero := false, kKind := Kd.other, eZV := none, kind := Kd.int IntKind.i32, eqs := none }
def ty180 : Ty := { size := 1, bytes := 8, agg := false, zero := some [AVal.pv PVal.nilptr], fields := [], eSize := 0, eBytes := 0, eZero := false, kKind := Kd.other, eZV := none, kind := Kd.other, eqs := none }
def tyF : Nat → Option Ty
  | 2 => some ty2
  | 3 => some ty3
  | 4 => some ty4
  | 5 => some ty5
  | 6 => some ty6
  | 7 => some ty7
  | 8 => some ty8
  | 9 => some ty9
  | 10 => some ty10
  | 11 => some ty11
  | 12 => some ty12
  | 13 => some ty13
  | 14 => some ty14
  | 15 => some ty15
  | 16 => some ty16
  | 17 => some ty17
  | 18 => some ty18
  | 19 => some ty19
  | 20 => some ty20
  | 21 => some ty21
  | 23 => some ty23
  | 24 => some ty24
  | 25 => some ty25
  | 26 => some ty26
  | 27 => some ty27
  | 32 => some ty32
  | 33 => some ty33
  | 38 => some ty38
  | 41 => some ty41
  | 42 => some ty42
  | 46 => some ty46
  | 50 => some ty50
  | 51 => some ty51
  | 52 => some ty52
  | 53 => some ty53
  | 54 => some ty54
  | 57 => some ty57
  | 58 => some ty58
  | 59 => some ty59
  | 60 => some ty60
  | 62 => some ty62
  | 63 => some ty63
  | 74 => some ty74
  | 75 => some ty75
  | 81 => some ty81
  | 82 => some ty82
  | 84 => some ty84
  | 85 => some ty85
  | 86 => some ty86
  | 88 => some ty88
  | 90 => some ty90
  | 91 => some ty91
  | 92 => some ty92
  | 98 => some ty98
  | 99 => some ty99
  | 103 => some ty103
  | 104 => some ty104
  | 105 => some ty105
  | 109 => some ty109
  | 115 => some ty115
  | 116 => some ty116
  | 117 => some ty117
  | 123 => some ty123
  | 125 => some ty125
  | 126 => some ty126
  | 134 => some ty134
  | 135 => some ty135
  | 141 => some ty141
  | 144 => some ty144
  | 145 => some ty145
  | 150 => some ty150
  | 151 => some ty151
  | 152 => some ty152
  | 157 => some ty157
  | 158 => some ty158
  | 162 => some ty162
  | 163 => some ty163
  | 164 => some ty164
  | 165 => some ty165
  | 166 => some ty166
  | 167 => some ty167
  | 168 => some ty168
  | 169 => some ty169
  | 170 => some ty170
  | 171 => some ty171
  | 172 => some ty172
  | 173 => some ty173
  | 174 => some ty174
  | 176 => some ty176
  | 177 => some ty177
  | 180 => some ty180
  | _ => none
def gl : Nat → Option (List PVal)
  | 0 => some [.str [120], .str [121], .str [122]]
  | 1 => some [.str [97], .str [98]]
  | 3 => some [.int .u64 1, .int .u64 10, .int .u64 100, .int .u64 1000, .int .u64 10000, .int .u64 100000, .int .u64 1000000, .int .u64 10000000, .int .u64 100000000, .int .u64 1000000000, .int .u64 10000000000, .int .u64 100000000000, .int .u64 1000000000000, .int .u64 10000000000000, .int .u64 100000000000000, .int .u64 1000000000000000, .int .u64 10000000000000000, .int .u64 100000000000000000, .int .u64 1000000000000000000, .int .u64 10000000000000000000]
  | 5 => some [.err false]
  | _ => none
theorem gl_0 : gl 0 = some [.str [120], .str [121], .str [122]] := rfl
theorem gl_1 : gl 1 = some [.str [97], .str [98]] := rfl
theorem gl_3 : gl 3 = some [.int .u64 1, .int .u64 10, .int .u64 100, .int .u64 1000, .int .u64 10000, .int .u64 100000, .int .u64 1000000, .int .u64 10000000, .int .u64 100000000, .int .u64 1000000000, .int .u64 10000000000, .int .u64 100000000000, .int .u64 1000000000000, .int .u64 10000000000000, .int .u64 100000000000000, .int .u64 1000000000000000, .int .u64 10000000000000000, .int .u64 100000000000000000, .int .u64 1000000000000000000, .int .u64 10000000000000000000] := rfl
theorem gl_5 : gl 5 = some [.err false] := rfl
def envOf (site : Nat → Nat) (nobj : Nat) : Env := ⟨tyF, gl, site, nobj⟩
set_option maxRecDepth 100000 in
theorem envOK (site : Nat → Nat) (nobj : Nat) : EnvOK Tryz.prog (envOf site nobj) := by
  intro t ty h
  change tyF t = some ty at h
  unfold tyF at h
  split at h <;> first | (cases h; done) | (cases h; kernel_rfl)
theorem enters (f : FuncId) {fn : Func} (hf : Tryz.prog.funcs[f]? = some fn) (hn : (fn.name == "runtime.NumGoroutine" || fn.body.isNone) = false) (vargs : Array Value) (w : World) : (callFunc f vargs).run Tryz.prog w = .ok (.enter f vargs) w := by
  simp only [Bool.or_eq_false_iff] at hn
  obtain ⟨h1, h2⟩ := hn
  unfold callFunc
  simp only [Sem.run_bind, run_program, Result.andThen, hf, h1, h2, Bool.false_eq_true, if_false, Sem.run_pure]
theorem mixed : Tryz.prog.follows .mixedOrders = true := by kernel_rfl
theorem env_ty (site : Nat → Nat) (nobj t : Nat) : (envOf site nobj).ty t = tyF t := rfl
theorem env_gl (site : Nat → Nat) (nobj t : Nat) : (envOf site nobj).gl t = gl t := rfl
theorem env_site (site : Nat → Nat) (nobj t : Nat) : (envOf site nobj).site t = site t := rfl
theorem env_nobj (site : Nat → Nat) (nobj : Nat) : (envOf site nobj).nobj = nobj := rfl
theorem tyX3 : tyF 3 = some ty3 := rfl
theorem tyD3 : ty3 = { size := 1, bytes := 8, agg := false, zero := some [AVal.pv (PVal.int IntKind.i64 (0))], fields := [], eSize := 0, eBytes := 0, eZero := false, kKind := Kd.other, eZV := none, kind := Kd.int IntKind.i64, eqs := none } := rfl
theorem tyX4 : tyF 4 = some ty4 := rfl
theorem tyD4 : ty4 = { size := 1, bytes := 1, agg := false, zero := some [AVal.pv (PVal.bool false)], fields := [], eSize := 0, eBytes := 0, eZero := false, kKind := Kd.other, eZV := none, kind := Kd.bool, eqs := none } := rfl
theorem tyX5 : tyF 5 = some ty5 := rfl
theorem tyD5 : ty5 = { size := 1, bytes := 1, agg := false, zero := some [AVal.pv (PVal.int IntKind.u8 (0))], fields := [], eSize := 0, eBytes := 0, eZero := false, kKind := Kd.other, eZV := none, kind := Kd.int IntKind.u8, eqs := none } := rfl
theorem tyX9 : tyF 9 = some ty9 := rfl
theorem tyD9 : ty9 = { size := 1, bytes := 16, agg := false, zero := some [AVal.pv (PVal.str [])], fields := [], eSize := 0, eBytes := 0, eZero := false, kKind := Kd.other, eZV := none, kind := Kd.string, eqs := none } := rfl
theorem tyX20 : tyF 20 = some ty20 := rfl
theorem tyD20 : ty20 = { size := 1, bytes := 16, agg := false, zero := some [AVal.pv (PVal.err true)], fields := [], eSize := 0, eBytes := 0, eZero := false, kKind := Kd.other, eZV := none, kind := Kd.iface, eqs := none } := rfl
theorem tyX23 : tyF 23 = some ty23 := rfl
theorem tyD23 : ty23 = { size := 1, bytes := 24, agg := false, zero := some [AVal.snil], fields := [], eSize := 3, eBytes := 32, eZero := true, kKind := Kd.other, eZV := some (true, [PVal.str [], PVal.int IntKind.i64 (0), PVal.int IntKind.i64 (0)]), kind := Kd.slice, eqs := none } := rfl
theorem tyX24 : tyF 24 = some ty24 := rfl
theorem tyD24 : ty24 = { size := 1, bytes := 24, agg := false, zero := some [AVal.snil], fields := [], eSize := 18, eBytes := 232, eZero := true, kKind := Kd.other, eZV := some (true, [PVal.int IntKind.i64 (0), PVal.str [], PVal.int IntKind.i64 (0), PVal.int IntKind.i64 (0), PVal.int IntKind.i64 (0), PVal.int IntKind.i64 (0), PVal.str [], PVal.int IntKind.i64 (0), PVal.int IntKind.i64 (0), PVal.slice [], PVal.int IntKind.i64 (0), PVal.int IntKind.i64 (0), PVal.str [], PVal.int IntKind.i64 (0), PVal.int IntKind.i64 (0), PVal.slice [], PVal.slice [], PVal.slice []]), kind := Kd.slice, eqs := none } := rfl
theorem tyX26 : tyF 26 = some ty26 := rfl
theorem tyD26 : ty26 = { size := 5, bytes := 120, agg := true, zero := some [AVal.snil, AVal.snil, AVal.snil, AVal.snil, AVal.snil], fields := [(0, 1), (1, 1), (2, 1), (3, 1), (4, 1)], eSize := 0, eBytes := 0, eZero := false, kKind := Kd.other, eZV := none, kind := Kd.struct, eqs := none } := rfl
theorem tyX27 : tyF 27 = some ty27 := rfl
theorem tyD27 : ty27 = { size := 1, bytes := 8, agg := false, zero := some [AVal.pv (PVal.int IntKind.i64 (0))], fields := [], eSize := 0, eBytes := 0, eZero := false, kKind := Kd.other, eZV := none, kind := Kd.int IntKind.i64, eqs := none } := rfl
theorem tyX32 : tyF 32 = some ty32 := rfl
theorem tyD32 : ty32 = { size := 1, bytes := 24, agg := false, zero := some [AVal.snil], fields := [], eSize := 1, eBytes := 1, eZero := true, kKind := Kd.int IntKind.u8, eZV := some (false, [PVal.int IntKind.u8 (0)]), kind := Kd.slice, eqs := none } := rfl
theorem tyX33 : tyF 33 = some ty33 := rfl
theorem tyD33 : ty33 = { size := 1, bytes := 8, agg := false, zero := some [AVal.pv PVal.nilptr], fields := [], eSize := 0, eBytes := 0, eZero := false, kKind := Kd.other, eZV := none, kind := Kd.other, eqs := none } := rfl
theorem tyX38 : tyF 38 = some ty38 := rfl
theorem tyD38 : ty38 = { size := 1, bytes := 24, agg := false, zero := some [AVal.snil], fields := [], eSize := 4, eBytes := 40, eZero := true, kKind := Kd.other, eZV := some (true, [PVal.int IntKind.i64 (0), PVal.str [], PVal.int IntKind.i64 (0), PVal.int IntKind.i64 (0)]), kind := Kd.slice, eqs := none } := rfl
theorem tyX42 : tyF 42 = some ty42 := rfl
theorem tyD42 : ty42 = { size := 4, bytes := 40, agg := true, zero := some [AVal.pv (PVal.int IntKind.i64 (0)), AVal.pv (PVal.str []), AVal.pv (PVal.int IntKind.i64 (0)), AVal.pv (PVal.int IntKind.i64 (0))], fields := [(0, 1), (1, 1), (2, 1), (3, 1)], eSize := 0, eBytes := 0, eZero := false, kKind := Kd.other, eZV := none, kind := Kd.struct, eqs := some [Kd.int IntKind.i64, Kd.string, Kd.int IntKind.i64, Kd.int IntKind.i64] } := rfl
theorem tyX50 : tyF 50 = some ty50 := rfl
theorem tyD50 : ty50 = { size := 1, bytes := 24, agg := false, zero := some [AVal.snil], fields := [], eSize := 6, eBytes := 72, eZero := true, kKind := Kd.other, eZV := some (true, [PVal.int IntKind.i64 (0), PVal.int IntKind.i64 (0), PVal.str [], PVal.int IntKind.i64 (0), PVal.int IntKind.i64 (0), PVal.slice []]), kind := Kd.slice, eqs := none } := rfl
theorem tyX52 : tyF 52 = some ty52 := rfl
theorem tyD52 : ty52 = { size := 6, bytes := 72, agg := true, zero := some [AVal.pv (PVal.int IntKind.i64 (0)), AVal.pv (PVal.int IntKind.i64 (0)), AVal.pv (PVal.str []), AVal.pv (PVal.int IntKind.i64 (0)), AVal.pv (PVal.int IntKind.i64 (0)), AVal.snil], fields := [(0, 1), (1, 1), (2, 1), (3, 1), (4, 1), (5, 1)], eSize := 0, eBytes := 0, eZero := false, kKind := Kd.other, eZV := none, kind := Kd.struct, eqs := none } := rfl
theorem tyX54 : tyF 54 = some ty54 := rfl
theorem tyD54 : ty54 = { size := 18, bytes := 232, agg := true, zero := some [AVal.pv (PVal.int IntKind.i64 (0)), AVal.pv (PVal.str []), AVal.pv (PVal.int IntKind.i64 (0)), AVal.pv (PVal.int IntKind.i64 (0)), AVal.pv (PVal.int IntKind.i64 (0)), AVal.pv (PVal.int IntKind.i64 (0)), AVal.pv (PVal.str []), AVal.pv (PVal.int IntKind.i64 (0)), AVal.pv (PVal.int IntKind.i64 (0)), AVal.snil, AVal.pv (PVal.int IntKind.i64 (0)), AVal.pv (PVal.int IntKind.i64 (0)), AVal.pv (PVal.str []), AVal.pv (PVal.int IntKind.i64 (0)), AVal.pv (PVal.int IntKind.i64 (0)), AVal.snil, AVal.snil, AVal.snil], fields := [(0, 1), (1, 1), (2, 1), (3, 1), (4, 6), (10, 6), (16, 1), (17, 1)], eSize := 0, eBytes := 0, eZero := false, kKind := Kd.other, eZV := none, kind := Kd.struct, eqs := none } := rfl
theorem tyX58 : tyF 58 = some ty58 := rfl
theorem tyD58 : ty58 = { size := 5, bytes := 56, agg := true, zero := some [AVal.snil, AVal.pv (PVal.int IntKind.i64 (0)), AVal.pv (PVal.int IntKind.i64 (0)), AVal.pv (PVal.int IntKind.i64 (0)), AVal.pv (PVal.bool false)], fields := [(0, 1), (1, 1), (2, 1), (3, 1), (4, 1)], eSize := 0, eBytes := 0, eZero := false, kKind := Kd.other, eZV := none, kind := Kd.struct, eqs := none } := rfl
theorem tyX60 : tyF 60 = some ty60 := rfl
theorem tyD60 : ty60 = { size := 3, bytes := 32, agg := true, zero := some [AVal.pv (PVal.str []), AVal.pv (PVal.int IntKind.i64 (0)), AVal.pv (PVal.int IntKind.i64 (0))], fields := [(0, 1), (1, 1), (2, 1)], eSize := 0, eBytes := 0, eZero := false, kKind := Kd.other, eZV := none, kind := Kd.struct, eqs := some [Kd.string, Kd.int IntKind.i64, Kd.int IntKind.i64] } := rfl
theorem tyX63 : tyF 63 = some ty63 := rfl
theorem tyD63 : ty63 = { size := 2, bytes := 32, agg := true, zero := some [AVal.snil, AVal.pv (PVal.int IntKind.i64 (0))], fields := [(0, 1), (1, 1)], eSize := 0, eBytes := 0, eZero := false, kKind := Kd.other, eZV := none, kind := Kd.struct, eqs := none } := rfl
theorem tyX82 : tyF 82 = some ty82 := rfl
theorem tyD82 : ty82 = { size := 1, bytes := 8, agg := true, zero := some [AVal.pv (PVal.int IntKind.i64 (0))], fields := [(0, 1)], eSize := 0, eBytes := 0, eZero := false, kKind := Kd.other, eZV := none, kind := Kd.struct, eqs := some [Kd.int IntKind.i64] } := rfl
theorem tyX84 : tyF 84 = some ty84 := rfl
theorem tyD84 : ty84 = { size := 1, bytes := 8, agg := false, zero := some [AVal.pv PVal.nilptr], fields := [], eSize := 0, eBytes := 0, eZero := false, kKind := Kd.other, eZV := none, kind := Kd.other, eqs := none } := rfl
theorem tyX86 : tyF 86 = some ty86 := rfl
theorem tyD86 : ty86 = { size := 3, bytes := 40, agg := true, zero := some [AVal.snil, AVal.pv (PVal.int IntKind.i64 (0)), AVal.pv (PVal.int IntKind.i64 (0))], fields := [(0, 1), (1, 1), (2, 1)], eSize := 0, eBytes := 0, eZero := false, kKind := Kd.other, eZV := none, kind := Kd.struct, eqs := none } := rfl
theorem tyX88 : tyF 88 = some ty88 := rfl
theorem tyD88 : ty88 = { size := 4, bytes := 4, agg := true, zero := some [AVal.pv (PVal.bool false), AVal.pv (PVal.bool false), AVal.pv (PVal.bool false), AVal.pv (PVal.bool false)], fields := [], eSize := 1, eBytes := 1, eZero := true, kKind := Kd.bool, eZV := none, kind := Kd.array 4, eqs := none } := rfl
theorem tyX90 : tyF 90 = some ty90 := rfl
theorem tyD90 : ty90 = { size := 1, bytes := 8, agg := false, zero := some [AVal.pv PVal.nilptr], fields := [], eSize := 0, eBytes := 0, eZero := false, kKind := Kd.other, eZV := none, kind := Kd.other, eqs := none } := rfl
theorem tyX91 : tyF 91 = some ty91 := rfl
theorem tyD91 : ty91 = { size := 1, bytes := 8, agg := false, zero := some [AVal.pv PVal.nilptr], fields := [], eSize := 0, eBytes := 0, eZero := false, kKind := Kd.other, eZV := none, kind := Kd.other, eqs := none } := rfl
theorem tyX92 : tyF 92 = some ty92 := rfl
theorem tyD92 : ty92 = { size := 1, bytes := 8, agg := false, zero := some [AVal.pv PVal.nilptr], fields := [], eSize := 0, eBytes := 0, eZero := false, kKind := Kd.other, eZV := none, kind := Kd.other, eqs := none } := rfl
theorem tyX98 : tyF 98 = some ty98 := rfl
theorem tyD98 : ty98 = { size := 3, bytes := 48, agg := true, zero := some [AVal.pv (PVal.str []), AVal.pv (PVal.str []), AVal.pv (PVal.str [])], fields := [], eSize := 1, eBytes := 16, eZero := true, kKind := Kd.string, eZV := none, kind := Kd.array 3, eqs := none } := rfl
theorem tyX99 : tyF 99 = some ty99 := rfl
theorem tyD99 : ty99 = { size := 2, bytes := 32, agg := true, zero := some [AVal.pv (PVal.str []), AVal.pv (PVal.str [])], fields := [], eSize := 1, eBytes := 16, eZero := true, kKind := Kd.string, eZV := none, kind := Kd.array 2, eqs := none } := rfl
theorem tyX104 : tyF 104 = some ty104 := rfl
theorem tyD104 : ty104 = { size := 1, bytes := 24, agg := false, zero := some [AVal.snil], fields := [], eSize := 1, eBytes := 8, eZero := true, kKind := Kd.int IntKind.i64, eZV := some (false, [PVal.int IntKind.i64 (0)]), kind := Kd.slice, eqs := none } := rfl
theorem tyX109 : tyF 109 = some ty109 := rfl
theorem tyD109 : ty109 = { size := 1, bytes := 8, agg := false, zero := some [AVal.pv PVal.nilptr], fields := [], eSize := 0, eBytes := 0, eZero := false, kKind := Kd.other, eZV := none, kind := Kd.other, eqs := none } := rfl
theorem tyX115 : tyF 115 = some ty115 := rfl
theorem tyD115 : ty115 = { size := 1, bytes := 8, agg := false, zero := some [AVal.pv PVal.nilptr], fields := [], eSize := 0, eBytes := 0, eZero := false, kKind := Kd.other, eZV := none, kind := Kd.other, eqs := none } := rfl
theorem tyX116 : tyF 116 = some ty116 := rfl
theorem tyD116 : ty116 = { size := 4, bytes := 32, agg := true, zero := some [AVal.pv PVal.nilptr, AVal.pv PVal.nilptr, AVal.pv PVal.nilptr, AVal.pv PVal.nilptr], fields := [], eSize := 1, eBytes := 8, eZero := true, kKind := Kd.other, eZV := none, kind := Kd.array 4, eqs := none } := rfl
theorem tyX117 : tyF 117 = some ty117 := rfl
theorem tyD117 : ty117 = { size := 4, bytes := 64, agg := true, zero := some [AVal.pv (PVal.str []), AVal.pv (PVal.str []), AVal.pv (PVal.str []), AVal.pv (PVal.str [])], fields := [], eSize := 1, eBytes := 16, eZero := true, kKind := Kd.string, eZV := none, kind := Kd.array 4, eqs := none } := rfl
theorem tyX123 : tyF 123 = some ty123 := rfl
theorem tyD123 : ty123 = { size := 1, bytes := 8, agg := false, zero := some [AVal.pv PVal.nilptr], fields := [], eSize := 0, eBytes := 0, eZero := false, kKind := Kd.other, eZV := none, kind := Kd.other, eqs := none } := rfl
theorem tyX126 : tyF 126 = some ty126 := rfl
theorem tyD126 : ty126 = { size := 1, bytes := 16, agg := false, zero := some [AVal.pv (PVal.err true)], fields := [], eSize := 0, eBytes := 0, eZero := false, kKind := Kd.other, eZV := none, kind := Kd.iface, eqs := none } := rfl
def tyS := And.intro @env_ty <| And.intro @env_site <| And.intro @env_nobj <| And.intro @env_gl <| And.intro gl_0 <| And.intro gl_1 <| And.intro gl_3 <| gl_5
def tq4 := And.intro tyS <| And.intro tyX3 <| And.intro tyD3 <| And.intro tyX4 <| And.intro tyD4 <| And.intro tyX5 <| And.intro tyD5 <| And.intro tyX9 <| And.intro tyD9 <| And.intro tyX26 <| And.intro tyD26 <| And.intro tyX27 <| And.intro tyD27 <| And.intro tyX32 <| And.intro tyD32 <| And.intro tyX33 <| And.intro tyD33 <| And.intro tyX38 <| And.intro tyD38 <| And.intro tyX42 <| tyD42
def tq6 := And.intro tyS <| And.intro tyX3 <| And.intro tyD3 <| And.intro tyX9 <| And.intro tyD9 <| And.intro tyX24 <| And.intro tyD24 <| And.intro tyX26 <| And.intro tyD26 <| And.intro tyX27 <| And.intro tyD27 <| And.intro tyX52 <| And.intro tyD52 <| And.intro tyX54 <| tyD54
def tq7 := And.intro tyS <| And.intro tyX3 <| And.intro tyD3 <| And.intro tyX4 <| And.intro tyD4 <| And.intro tyX9 <| And.intro tyD9 <| And.intro tyX26 <| And.intro tyD26 <| And.intro tyX27 <| And.intro tyD27 <| And.intro tyX38 <| tyD38
def tq8 := And.intro tyS <| And.intro tyX3 <| And.intro tyD3 <| And.intro tyX4 <| And.intro tyD4 <| And.intro tyX9 <| And.intro tyD9 <| And.intro tyX26 <| And.intro tyD26 <| And.intro tyX27 <| And.intro tyD27 <| And.intro tyX58 <| tyD58
def tq9 := And.intro tyS <| And.intro tyX3 <| And.intro tyD3 <| And.intro tyX23 <| And.intro tyD23 <| And.intro tyX24 <| And.intro tyD24 <| And.intro tyX26 <| And.intro tyD26 <| And.intro tyX60 <| tyD60
def tq10 := And.intro tyS <| And.intro tyX3 <| And.intro tyD3 <| And.intro tyX32 <| And.intro tyD32 <| And.intro tyX63 <| tyD63
def tq11 := And.intro tyS <| And.intro tyX3 <| And.intro tyD3 <| And.intro tyX9 <| And.intro tyD9 <| And.intro tyX23 <| And.intro tyD23 <| And.intro tyX24 <| And.intro tyD24 <| And.intro tyX26 <| And.intro tyD26 <| And.intro tyX27 <| And.intro tyD27 <| And.intro tyX60 <| tyD60
def tq12 := And.intro tyS <| And.intro tyX3 <| And.intro tyD3 <| And.intro tyX23 <| And.intro tyD23 <| And.intro tyX24 <| And.intro tyD24 <| And.intro tyX26 <| And.intro tyD26 <| And.intro tyX33 <| And.intro tyD33 <| And.intro tyX60 <| tyD60
def tq13 := And.intro tyS <| And.intro tyX3 <| And.intro tyD3 <| And.intro tyX5 <| And.intro tyD5 <| And.intro tyX9 <| And.intro tyD9 <| And.intro tyX27 <| And.intro tyD27 <| And.intro tyX38 <| And.intro tyD38 <| And.intro tyX42 <| tyD42
def tq14 := And.intro tyS <| And.intro tyX3 <| And.intro tyD3 <| And.intro tyX9 <| And.intro tyD9 <| And.intro tyX38 <| And.intro tyD38 <| And.intro tyX42 <| tyD42
def tq18 := And.intro tyS <| And.intro tyX3 <| And.intro tyD3 <| And.intro tyX4 <| And.intro tyD4 <| And.intro tyX9 <| And.intro tyD9 <| And.intro tyX23 <| And.intro tyD23 <| And.intro tyX24 <| And.intro tyD24 <| And.intro tyX26 <| And.intro tyD26 <| And.intro tyX60 <| tyD60
def tq19 := And.intro tyS <| And.intro tyX3 <| And.intro tyD3 <| And.intro tyX24 <| And.intro tyD24 <| And.intro tyX26 <| tyD26
def tq20 := And.intro tyS <| And.intro tyX3 <| And.intro tyD3 <| And.intro tyX24 <| And.intro tyD24 <| And.intro tyX26 <| tyD26
def tq21 := And.intro tyS <| And.intro tyX3 <| And.intro tyD3 <| And.intro tyX5 <| And.intro tyD5 <| And.intro tyX9 <| And.intro tyD9 <| And.intro tyX27 <| And.intro tyD27 <| And.intro tyX38 <| And.intro tyD38 <| And.intro tyX42 <| tyD42
def tq22 := And.intro tyS <| And.intro tyX3 <| And.intro tyD3 <| And.intro tyX4 <| And.intro tyD4 <| And.intro tyX23 <| And.intro tyD23 <| And.intro tyX26 <| And.intro tyD26 <| And.intro tyX38 <| And.intro tyD38 <| And.intro tyX84 <| And.intro tyD84 <| And.intro tyX86 <| And.intro tyD86 <| And.intro tyX88 <| And.intro tyD88 <| And.intro tyX90 <| And.intro tyD90 <| And.intro tyX91 <| tyD91
def tq23 := And.intro tyS <| And.intro tyX3 <| And.intro tyD3 <| And.intro tyX4 <| And.intro tyD4 <| And.intro tyX9 <| And.intro tyD9 <| And.intro tyX23 <| And.intro tyD23 <| And.intro tyX24 <| And.intro tyD24 <| And.intro tyX26 <| And.intro tyD26 <| And.intro tyX38 <| And.intro tyD38 <| And.intro tyX58 <| And.intro tyD58 <| And.intro tyX60 <| And.intro tyD60 <| And.intro tyX92 <| tyD92
def tq24 := And.intro tyS <| And.intro tyX3 <| And.intro tyD3 <| And.intro tyX4 <| And.intro tyD4 <| And.intro tyX9 <| And.intro tyD9 <| And.intro tyX24 <| And.intro tyD24 <| And.intro tyX52 <| And.intro tyD52 <| And.intro tyX54 <| tyD54
def tq25 := And.intro tyS <| And.intro tyX3 <| And.intro tyD3 <| And.intro tyX5 <| And.intro tyD5 <| And.intro tyX9 <| And.intro tyD9 <| And.intro tyX32 <| tyD32
def tq26 := And.intro tyS <| And.intro tyX3 <| And.intro tyD3 <| And.intro tyX9 <| And.intro tyD9 <| And.intro tyX24 <| tyD24
def tq27 := And.intro tyS <| And.intro tyX3 <| And.intro tyD3 <| And.intro tyX4 <| And.intro tyD4 <| And.intro tyX5 <| And.intro tyD5 <| And.intro tyX32 <| And.intro tyD32 <| And.intro tyX33 <| And.intro tyD33 <| And.intro tyX63 <| tyD63
def tq28 := And.intro tyS <| And.intro tyX3 <| And.intro tyD3 <| And.intro tyX9 <| And.intro tyD9 <| And.intro tyX24 <| And.intro tyD24 <| And.intro tyX33 <| And.intro tyD33 <| And.intro tyX54 <| And.intro tyD54 <| And.intro tyX98 <| And.intro tyD98 <| And.intro tyX99 <| tyD99
def tq29 := And.intro tyS <| And.intro tyX5 <| tyD5
def tq30 := And.intro tyS <| And.intro tyX3 <| And.intro tyD3 <| And.intro tyX4 <| And.intro tyD4 <| And.intro tyX5 <| And.intro tyD5 <| And.intro tyX9 <| And.intro tyD9 <| And.intro tyX42 <| tyD42
def tq32 := And.intro tyS <| And.intro tyX3 <| And.intro tyD3 <| And.intro tyX9 <| And.intro tyD9 <| And.intro tyX33 <| And.intro tyD33 <| And.intro tyX50 <| And.intro tyD50 <| And.intro tyX52 <| And.intro tyD52 <| And.intro tyX98 <| And.intro tyD98 <| And.intro tyX99 <| And.intro tyD99 <| And.intro tyX104 <| tyD104
def tq37 := And.intro tyS <| And.intro tyX3 <| And.intro tyD3 <| And.intro tyX4 <| And.intro tyD4 <| And.intro tyX5 <| And.intro tyD5 <| And.intro tyX9 <| tyD9
def tq38 := And.intro tyS <| And.intro tyX3 <| And.intro tyD3 <| And.intro tyX4 <| And.intro tyD4 <| And.intro tyX9 <| And.intro tyD9 <| And.intro tyX24 <| And.intro tyD24 <| And.intro tyX52 <| And.intro tyD52 <| And.intro tyX54 <| tyD54
def tq39 := And.intro tyS <| And.intro tyX3 <| And.intro tyD3 <| And.intro tyX24 <| And.intro tyD24 <| And.intro tyX109 <| tyD109
def tq40 := And.intro tyS <| And.intro tyX3 <| And.intro tyD3 <| And.intro tyX24 <| And.intro tyD24 <| And.intro tyX52 <| And.intro tyD52 <| And.intro tyX54 <| tyD54
def tq41 := And.intro tyS <| And.intro tyX3 <| And.intro tyD3 <| And.intro tyX5 <| And.intro tyD5 <| And.intro tyX9 <| tyD9
def tq42 := And.intro tyS <| And.intro tyX3 <| And.intro tyD3 <| And.intro tyX5 <| And.intro tyD5 <| And.intro tyX9 <| And.intro tyD9 <| And.intro tyX42 <| tyD42
def tq43 := And.intro tyS <| And.intro tyX3 <| And.intro tyD3 <| And.intro tyX4 <| And.intro tyD4 <| And.intro tyX20 <| And.intro tyD20 <| And.intro tyX26 <| And.intro tyD26 <| And.intro tyX82 <| tyD82
def tq44 := And.intro tyS <| And.intro tyX3 <| And.intro tyD3 <| And.intro tyX9 <| And.intro tyD9 <| And.intro tyX23 <| And.intro tyD23 <| And.intro tyX60 <| And.intro tyD60 <| And.intro tyX84 <| tyD84
def tq45 := And.intro tyS <| And.intro tyX3 <| And.intro tyD3 <| And.intro tyX4 <| And.intro tyD4 <| And.intro tyX9 <| And.intro tyD9 <| And.intro tyX24 <| And.intro tyD24 <| And.intro tyX26 <| And.intro tyD26 <| And.intro tyX84 <| And.intro tyD84 <| And.intro tyX88 <| And.intro tyD88 <| And.intro tyX115 <| And.intro tyD115 <| And.intro tyX116 <| And.intro tyD116 <| And.intro tyX117 <| tyD117
def tq46 := And.intro tyS <| And.intro tyX3 <| And.intro tyD3 <| And.intro tyX9 <| And.intro tyD9 <| And.intro tyX60 <| And.intro tyD60 <| And.intro tyX92 <| tyD92
def tq47 := And.intro tyS <| And.intro tyX3 <| And.intro tyD3 <| And.intro tyX4 <| And.intro tyD4 <| And.intro tyX9 <| And.intro tyD9 <| And.intro tyX58 <| And.intro tyD58 <| And.intro tyX92 <| tyD92
def tq48 := And.intro tyS <| And.intro tyX3 <| And.intro tyD3 <| And.intro tyX4 <| And.intro tyD4 <| And.intro tyX38 <| And.intro tyD38 <| And.intro tyX42 <| And.intro tyD42 <| And.intro tyX58 <| tyD58
def tq49 := And.intro tyS <| And.intro tyX4 <| And.intro tyD4 <| And.intro tyX9 <| And.intro tyD9 <| And.intro tyX24 <| And.intro tyD24 <| And.intro tyX58 <| And.intro tyD58 <| And.intro tyX92 <| tyD92
def tq50 := And.intro tyS <| And.intro tyX3 <| And.intro tyD3 <| And.intro tyX4 <| And.intro tyD4 <| And.intro tyX9 <| And.intro tyD9 <| And.intro tyX50 <| And.intro tyD50 <| And.intro tyX52 <| tyD52
def tq51 := And.intro tyS <| And.intro tyX3 <| And.intro tyD3 <| And.intro tyX9 <| And.intro tyD9 <| And.intro tyX24 <| And.intro tyD24 <| And.intro tyX52 <| And.intro tyD52 <| And.intro tyX54 <| tyD54
def tq52 := And.intro tyS <| And.intro tyX3 <| And.intro tyD3 <| And.intro tyX32 <| And.intro tyD32 <| And.intro tyX63 <| tyD63
def tq53 := And.intro tyS <| And.intro tyX5 <| tyD5
def tq54 := And.intro tyS <| And.intro tyX5 <| tyD5
def tq55 := And.intro tyS <| And.intro tyX3 <| And.intro tyD3 <| And.intro tyX5 <| And.intro tyD5 <| And.intro tyX9 <| tyD9
def tq56 := And.intro tyS <| And.intro tyX5 <| tyD5
def tq57 := And.intro tyS <| And.intro tyX3 <| And.intro tyD3 <| And.intro tyX5 <| And.intro tyD5 <| And.intro tyX9 <| tyD9
def tq61 := And.intro tyS <| And.intro tyX3 <| And.intro tyD3 <| And.intro tyX4 <| And.intro tyD4 <| And.intro tyX5 <| And.intro tyD5 <| And.intro tyX9 <| tyD9
def tq63 := And.intro tyS <| And.intro tyX3 <| And.intro tyD3 <| And.intro tyX5 <| And.intro tyD5 <| And.intro tyX9 <| tyD9
def tq64 := And.intro tyS <| And.intro tyX3 <| And.intro tyD3 <| And.intro tyX4 <| And.intro tyD4 <| And.intro tyX9 <| And.intro tyD9 <| And.intro tyX50 <| And.intro tyD50 <| And.intro tyX52 <| tyD52
def tq65 := And.intro tyS <| And.intro tyX3 <| And.intro tyD3 <| And.intro tyX9 <| And.intro tyD9 <| And.intro tyX50 <| And.intro tyD50 <| And.intro tyX52 <| tyD52
def tq66 := And.intro tyS <| And.intro tyX3 <| And.intro tyD3 <| And.intro tyX24 <| And.intro tyD24 <| And.intro tyX54 <| And.intro tyD54 <| And.intro tyX123 <| tyD123
def tq67 := And.intro tyS <| And.intro tyX3 <| And.intro tyD3 <| And.intro tyX50 <| And.intro tyD50 <| And.intro tyX52 <| tyD52
def tq69 := And.intro tyS <| And.intro tyX5 <| tyD5
def tq70 := And.intro tyS <| And.intro tyX3 <| And.intro tyD3 <| And.intro tyX5 <| And.intro tyD5 <| And.intro tyX9 <| tyD9
def tq71 := And.intro tyS <| And.intro tyX5 <| tyD5
def tq72 := And.intro tyS <| And.intro tyX3 <| And.intro tyD3 <| And.intro tyX5 <| And.intro tyD5 <| And.intro tyX9 <| And.intro tyD9 <| And.intro tyX42 <| And.intro tyD42 <| And.intro tyX126 <| tyD126
def tq73 := And.intro tyS <| And.intro tyX3 <| And.intro tyD3 <| And.intro tyX5 <| And.intro tyD5 <| And.intro tyX9 <| tyD9
def tq74 := And.intro tyS <| And.intro tyX3 <| And.intro tyD3 <| And.intro tyX9 <| And.intro tyD9 <| And.intro tyX84 <| And.intro tyD84 <| And.intro tyX86 <| tyD86
def tq75 := And.intro tyS <| And.intro tyX3 <| And.intro tyD3 <| And.intro tyX4 <| And.intro tyD4 <| And.intro tyX9 <| And.intro tyD9 <| And.intro tyX38 <| And.intro tyD38 <| And.intro tyX42 <| And.intro tyD42 <| And.intro tyX84 <| And.intro tyD84 <| And.intro tyX86 <| tyD86
def tq76 := And.intro tyS <| And.intro tyX3 <| And.intro tyD3 <| And.intro tyX38 <| And.intro tyD38 <| And.intro tyX42 <| And.intro tyD42 <| And.intro tyX84 <| And.intro tyD84 <| And.intro tyX86 <| tyD86
def tq77 := And.intro tyS <| And.intro tyX4 <| And.intro tyD4 <| And.intro tyX9 <| And.intro tyD9 <| And.intro tyX84 <| tyD84
def tq78 := And.intro tyS <| And.intro tyX4 <| And.intro tyD4 <| And.intro tyX9 <| And.intro tyD9 <| And.intro tyX24 <| And.intro tyD24 <| And.intro tyX84 <| tyD84
def tq79 := And.intro tyS <| And.intro tyX3 <| And.intro tyD3 <| And.intro tyX38 <| And.intro tyD38 <| And.intro tyX42 <| And.intro tyD42 <| And.intro tyX82 <| And.intro tyD82 <| And.intro tyX86 <| tyD86
def tq80 := And.intro tyS <| And.intro tyX3 <| And.intro tyD3 <| And.intro tyX4 <| And.intro tyD4 <| And.intro tyX9 <| And.intro tyD9 <| And.intro tyX38 <| And.intro tyD38 <| And.intro tyX42 <| And.intro tyD42 <| And.intro tyX58 <| And.intro tyD58 <| And.intro tyX92 <| tyD92
def tq81 := And.intro tyS <| And.intro tyX3 <| And.intro tyD3 <| And.intro tyX4 <| And.intro tyD4 <| And.intro tyX9 <| And.intro tyD9 <| And.intro tyX38 <| And.intro tyD38 <| And.intro tyX42 <| And.intro tyD42 <| And.intro tyX58 <| tyD58
def tq82 := And.intro tyS <| And.intro tyX3 <| And.intro tyD3 <| And.intro tyX4 <| And.intro tyD4 <| And.intro tyX9 <| And.intro tyD9 <| And.intro tyX58 <| And.intro tyD58 <| And.intro tyX92 <| tyD92
def tq83 := And.intro tyS <| And.intro tyX3 <| And.intro tyD3 <| And.intro tyX4 <| And.intro tyD4 <| And.intro tyX38 <| And.intro tyD38 <| And.intro tyX42 <| And.intro tyD42 <| And.intro tyX58 <| And.intro tyD58 <| And.intro tyX92 <| tyD92
def tq84 := And.intro tyS <| And.intro tyX3 <| And.intro tyD3 <| And.intro tyX4 <| And.intro tyD4 <| And.intro tyX9 <| And.intro tyD9 <| And.intro tyX38 <| And.intro tyD38 <| And.intro tyX42 <| And.intro tyD42 <| And.intro tyX58 <| tyD58
def tq85 := And.intro tyS <| And.intro tyX3 <| And.intro tyD3 <| And.intro tyX9 <| And.intro tyD9 <| And.intro tyX24 <| And.intro tyD24 <| And.intro tyX52 <| And.intro tyD52 <| And.intro tyX54 <| And.intro tyD54 <| And.intro tyX92 <| tyD92
def tq86 := And.intro tyS <| And.intro tyX3 <| And.intro tyD3 <| And.intro tyX9 <| And.intro tyD9 <| And.intro tyX50 <| And.intro tyD50 <| And.intro tyX52 <| tyD52
def tq89 := And.intro tyS <| And.intro tyX9 <| tyD9
def tq93 := And.intro tyS <| And.intro tyX3 <| tyD3
def tq94 := And.intro tyS <| And.intro tyX3 <| And.intro tyD3 <| And.intro tyX50 <| And.intro tyD50 <| And.intro tyX52 <| And.intro tyD52 <| And.intro tyX123 <| tyD123
def tq97 := And.intro tyS <| And.intro tyX3 <| And.intro tyD3 <| And.intro tyX9 <| And.intro tyD9 <| And.intro tyX38 <| And.intro tyD38 <| And.intro tyX42 <| And.intro tyD42 <| And.intro tyX86 <| tyD86
def tq98 := And.intro tyS <| And.intro tyX3 <| And.intro tyD3 <| And.intro tyX9 <| And.intro tyD9 <| And.intro tyX24 <| And.intro tyD24 <| And.intro tyX52 <| And.intro tyD52 <| And.intro tyX54 <| And.intro tyD54 <| And.intro tyX84 <| tyD84
def tq99 := And.intro tyS <| And.intro tyX3 <| And.intro tyD3 <| And.intro tyX4 <| And.intro tyD4 <| And.intro tyX9 <| And.intro tyD9 <| And.intro tyX38 <| And.intro tyD38 <| And.intro tyX42 <| And.intro tyD42 <| And.intro tyX50 <| And.intro tyD50 <| And.intro tyX52 <| And.intro tyD52 <| And.intro tyX58 <| And.intro tyD58 <| And.intro tyX92 <| tyD92
def tq100 := And.intro tyS <| And.intro tyX3 <| tyD3
def tq101 := And.intro tyS <| And.intro tyX3 <| And.intro tyD3 <| And.intro tyX9 <| And.intro tyD9 <| And.intro tyX52 <| tyD52
def tq109 := And.intro tyS <| And.intro tyX3 <| And.intro tyD3 <| And.intro tyX50 <| And.intro tyD50 <| And.intro tyX52 <| And.intro tyD52 <| And.intro tyX84 <| tyD84
def tq110 := And.intro tyS <| And.intro tyX3 <| And.intro tyD3 <| And.intro tyX9 <| And.intro tyD9 <| And.intro tyX50 <| And.intro tyD50 <| And.intro tyX52 <| And.intro tyD52 <| And.intro tyX58 <| And.intro tyD58 <| And.intro tyX92 <| tyD92
def tq111 := And.intro tyS <| And.intro tyX3 <| And.intro tyD3 <| And.intro tyX9 <| tyD9
def tq123 := And.intro tyS <| And.intro tyX9 <| And.intro tyD9 <| And.intro tyX50 <| And.intro tyD50 <| And.intro tyX52 <| And.intro tyD52 <| And.intro tyX84 <| tyD84
def tq124 := And.intro tyS <| And.intro tyX3 <| And.intro tyD3 <| And.intro tyX9 <| And.intro tyD9 <| And.intro tyX84 <| And.intro tyD84 <| And.intro tyX86 <| tyD86
def tq125 := And.intro tyS <| And.intro tyX3 <| And.intro tyD3 <| And.intro tyX9 <| tyD9
def tq126 := And.intro tyS <| And.intro tyX3 <| And.intro tyD3 <| And.intro tyX4 <| And.intro tyD4 <| And.intro tyX9 <| And.intro tyD9 <| And.intro tyX38 <| And.intro tyD38 <| And.intro tyX42 <| And.intro tyD42 <| And.intro tyX50 <| And.intro tyD50 <| And.intro tyX52 <| And.intro tyD52 <| And.intro tyX58 <| And.intro tyD58 <| And.intro tyX92 <| tyD92
def tq132 := And.intro tyS <| And.intro tyX3 <| tyD3
def tq138 := And.intro tyS <| And.intro tyX3 <| And.intro tyD3 <| And.intro tyX9 <| And.intro tyD9 <| And.intro tyX38 <| And.intro tyD38 <| And.intro tyX42 <| And.intro tyD42 <| And.intro tyX50 <| And.intro tyD50 <| And.intro tyX52 <| And.intro tyD52 <| And.intro tyX84 <| And.intro tyD84 <| And.intro tyX86 <| tyD86
def tq139 := And.intro tyS <| And.intro tyX3 <| tyD3
def tq140 := And.intro tyS <| And.intro tyX9 <| tyD9
theorem enters6 (vargs : Array Value) (w : World) : (callFunc 6 vargs).run Tryz.prog w = .ok (.enter 6 vargs) w := enters 6 Tryz.func6 (by kernel_rfl) vargs w
theorem enters7 (vargs : Array Value) (w : World) : (callFunc 7 vargs).run Tryz.prog w = .ok (.enter 7 vargs) w := enters 7 Tryz.func7 (by kernel_rfl) vargs w
theorem enters8 (vargs : Array Value) (w : World) : (callFunc 8 vargs).run Tryz.prog w = .ok (.enter 8 vargs) w := enters 8 Tryz.func8 (by kernel_rfl) vargs w
theorem enters9 (vargs : Array Value) (w : World) : (callFunc 9 vargs).run Tryz.prog w = .ok (.enter 9 vargs) w := enters 9 Tryz.func9 (by kernel_rfl) vargs w
theorem enters10 (vargs : Array Value) (w : World) : (callFunc 10 vargs).run Tryz.prog w = .ok (.enter 10 vargs) w := enters 10 Tryz.func10 (by kernel_rfl) vargs w
theorem enters11 (vargs : Array Value) (w : World) : (callFunc 11 vargs).run Tryz.prog w = .ok (.enter 11 vargs) w := enters 11 Tryz.func11 (by kernel_rfl) vargs w
theorem enters12 (vargs : Array Value) (w : World) : (callFunc 12 vargs).run Tryz.prog w = .ok (.enter 12 vargs) w := enters 12 Tryz.func12 (by kernel_rfl) vargs w
theorem enters13 (vargs : Array Value) (w : World) : (callFunc 13 vargs).run Tryz.prog w = .ok (.enter 13 vargs) w := enters 13 Tryz.func13 (by kernel_rfl) vargs w
theorem enters14 (vargs : Array Value) (w : World) : (callFunc 14 vargs).run Tryz.prog w = .ok (.enter 14 vargs) w := enters 14 Tryz.func14 (by kernel_rfl) vargs w
theorem enters18 (vargs : Array Value) (w : World) : (callFunc 18 vargs).run Tryz.prog w = .ok (.enter 18 vargs) w := enters 18 Tryz.func18 (by kernel_rfl) vargs w
theorem enters19 (vargs : Array Value) (w : World) : (callFunc 19 vargs).run Tryz.prog w = .ok (.enter 19 vargs) w := enters 19 Tryz.func19 (by kernel_rfl) vargs w
theorem enters20 (vargs : Array Value) (w : World) : (callFunc 20 vargs).run Tryz.prog w = .ok (.enter 20 vargs) w := enters 20 Tryz.func20 (by kernel_rfl) vargs w
theorem enters21 (vargs : Array Value) (w : World) : (callFunc 21 vargs).run Tryz.prog w = .ok (.enter 21 vargs) w := enters 21 Tryz.func21 (by kernel_rfl) vargs w
theorem enters22 (vargs : Array Value) (w : World) : (callFunc 22 vargs).run Tryz.prog w = .ok (.enter 22 vargs) w := enters 22 Tryz.func22 (by kernel_rfl) vargs w
theorem enters23 (vargs : Array Value) (w : World) : (callFunc 23 vargs).run Tryz.prog w = .ok (.enter 23 vargs) w := enters 23 Tryz.func23 (by kernel_rfl) vargs w
theorem enters24 (vargs : Array Value) (w : World) : (callFunc 24 vargs).run Tryz.prog w = .ok (.enter 24 vargs) w := enters 24 Tryz.func24 (by kernel_rfl) vargs w
theorem enters25 (vargs : Array Value) (w : World) : (callFunc 25 vargs).run Tryz.prog w = .ok (.enter 25 vargs) w := enters 25 Tryz.func25 (by kernel_rfl) vargs w
theorem enters26 (vargs : Array Value) (w : World) : (callFunc 26 vargs).run Tryz.prog w = .ok (.enter 26 vargs) w := enters 26 Tryz.func26 (by kernel_rfl) vargs w
theorem enters27 (vargs : Array Value) (w : World) : (callFunc 27 vargs).run Tryz.prog w = .ok (.enter 27 vargs) w := enters 27 Tryz.func27 (by kernel_rfl) vargs w
theorem enters28 (vargs : Array Value) (w : World) : (callFunc 28 vargs).run Tryz.prog w = .ok (.enter 28 vargs) w := enters 28 Tryz.func28 (by kernel_rfl) vargs w
theorem enters29 (vargs : Array Value) (w : World) : (callFunc 29 vargs).run Tryz.prog w = .ok (.enter 29 vargs) w := enters 29 Tryz.func29 (by kernel_rfl) vargs w
theorem enters30 (vargs : Array Value) (w : World) : (callFunc 30 vargs).run Tryz.prog w = .ok (.enter 30 vargs) w := enters 30 Tryz.func30 (by kernel_rfl) vargs w
theorem enters32 (vargs : Array Value) (w : World) : (callFunc 32 vargs).run Tryz.prog w = .ok (.enter 32 vargs) w := enters 32 Tryz.func32 (by kernel_rfl) vargs w
theorem enters37 (vargs : Array Value) (w : World) : (callFunc 37 vargs).run Tryz.prog w = .ok (.enter 37 vargs) w := enters 37 Tryz.func37 (by kernel_rfl) vargs w
theorem enters38 (vargs : Array Value) (w : World) : (callFunc 38 vargs).run Tryz.prog w = .ok (.enter 38 vargs) w := enters 38 Tryz.func38 (by kernel_rfl) vargs w
theorem enters39 (vargs : Array Value) (w : World) : (callFunc 39 vargs).run Tryz.prog w = .ok (.enter 39 vargs) w := enters 39 Tryz.func39 (by kernel_rfl) vargs w
theorem enters40 (vargs : Array Value) (w : World) : (callFunc 40 vargs).run Tryz.prog w = .ok (.enter 40 vargs) w := enters 40 Tryz.func40 (by kernel_rfl) vargs w
theorem enters41 (vargs : Array Value) (w : World) : (callFunc 41 vargs).run Tryz.prog w = .ok (.enter 41 vargs) w := enters 41 Tryz.func41 (by kernel_rfl) vargs w
theorem enters42 (vargs : Array Value) (w : World) : (callFunc 42 vargs).run Tryz.prog w = .ok (.enter 42 vargs) w := enters 42 Tryz.func42 (by kernel_rfl) vargs w
theorem enters43 (vargs : Array Value) (w : World) : (callFunc 43 vargs).run Tryz.prog w = .ok (.enter 43 vargs) w := enters 43 Tryz.func43 (by kernel_rfl) vargs w
theorem enters44 (vargs : Array Value) (w : World) : (callFunc 44 vargs).run Tryz.prog w = .ok (.enter 44 vargs) w := enters 44 Tryz.func44 (by kernel_rfl) vargs w
theorem enters45 (vargs : Array Value) (w : World) : (callFunc 45 vargs).run Tryz.prog w = .ok (.enter 45 vargs) w := enters 45 Tryz.func45 (by kernel_rfl) vargs w
theorem enters46 (vargs : Array Value) (w : World) : (callFunc 46 vargs).run Tryz.prog w = .ok (.enter 46 vargs) w := enters 46 Tryz.func46 (by kernel_rfl) vargs w
theorem enters47 (vargs : Array Value) (w : World) : (callFunc 47 vargs).run Tryz.prog w = .ok (.enter 47 vargs) w := enters 47 Tryz.func47 (by kernel_rfl) vargs w
theorem enters48 (vargs : Array Value) (w : World) : (callFunc 48 vargs).run Tryz.prog w = .ok (.enter 48 vargs) w := enters 48 Tryz.func48 (by kernel_rfl) vargs w
theorem enters49 (vargs : Array Value) (w : World) : (callFunc 49 vargs).run Tryz.prog w = .ok (.enter 49 vargs) w := enters 49 Tryz.func49 (by kernel_rfl) vargs w
theorem enters50 (vargs : Array Value) (w : World) : (callFunc 50 vargs).run Tryz.prog w = .ok (.enter 50 vargs) w := enters 50 Tryz.func50 (by kernel_rfl) vargs w
theorem enters51 (vargs : Array Value) (w : World) : (callFunc 51 vargs).run Tryz.prog w = .ok (.enter 51 vargs) w := enters 51 Tryz.func51 (by kernel_rfl) vargs w
theorem enters52 (vargs : Array Value) (w : World) : (callFunc 52 vargs).run Tryz.prog w = .ok (.enter 52 vargs) w := enters 52 Tryz.func52 (by kernel_rfl) vargs w
theorem enters53 (vargs : Array Value) (w : World) : (callFunc 53 vargs).run Tryz.prog w = .ok (.enter 53 vargs) w := enters 53 Tryz.func53 (by kernel_rfl) vargs w
theorem enters54 (vargs : Array Value) (w : World) : (callFunc 54 vargs).run Tryz.prog w = .ok (.enter 54 vargs) w := enters 54 Tryz.func54 (by kernel_rfl) vargs w
theorem enters55 (vargs : Array Value) (w : World) : (callFunc 55 vargs).run Tryz.prog w = .ok (.enter 55 vargs) w := enters 55 Tryz.func55 (by kernel_rfl) vargs w
theorem enters56 (vargs : Array Value) (w : World) : (callFunc 56 vargs).run Tryz.prog w = .ok (.enter 56 vargs) w := enters 56 Tryz.func56 (by kernel_rfl) vargs w
theorem enters57 (vargs : Array Value) (w : World) : (callFunc 57 vargs).run Tryz.prog w = .ok (.enter 57 vargs) w := enters 57 Tryz.func57 (by kernel_rfl) vargs w
theorem enters61 (vargs : Array Value) (w : World) : (callFunc 61 vargs).run Tryz.prog w = .ok (.enter 61 vargs) w := enters 61 Tryz.func61 (by kernel_rfl) vargs w
theorem enters63 (vargs : Array Value) (w : World) : (callFunc 63 vargs).run Tryz.prog w = .ok (.enter 63 vargs) w := enters 63 Tryz.func63 (by kernel_rfl) vargs w
theorem enters64 (vargs : Array Value) (w : World) : (callFunc 64 vargs).run Tryz.prog w = .ok (.enter 64 vargs) w := enters 64 Tryz.func64 (by kernel_rfl) vargs w
theorem enters65 (vargs : Array Value) (w : World) : (callFunc 65 vargs).run Tryz.prog w = .ok (.enter 65 vargs) w := enters 65 Tryz.func65 (by kernel_rfl) vargs w
theorem enters66 (vargs : Array Value) (w : World) : (callFunc 66 vargs).run Tryz.prog w = .ok (.enter 66 vargs) w := enters 66 Tryz.func66 (by kernel_rfl) vargs w
theorem enters67 (vargs : Array Value) (w : World) : (callFunc 67 vargs).run Tryz.prog w = .ok (.enter 67 vargs) w := enters 67 Tryz.func67 (by kernel_rfl) vargs w
theorem enters68 (vargs : Array Value) (w : World) : (callFunc 68 vargs).run Tryz.prog w = .ok (.enter 68 vargs) w := enters 68 Tryz.func68 (by kernel_rfl) vargs w
theorem enters69 (vargs : Array Value) (w : World) : (callFunc 69 vargs).run Tryz.prog w = .ok (.enter 69 vargs) w := enters 69 Tryz.func69 (by kernel_rfl) vargs w
theorem enters70 (vargs : Array Value) (w : World) : (callFunc 70 vargs).run Tryz.prog w = .ok (.enter 70 vargs) w := enters 70 Tryz.func70 (by kernel_rfl) vargs w
theorem enters71 (vargs : Array Value) (w : World) : (callFunc 71 vargs).run Tryz.prog w = .ok (.enter 71 vargs) w := enters 71 Tryz.func71 (by kernel_rfl) vargs w
theorem enters72 (vargs : Array Value) (w : World) : (callFunc 72 vargs).run Tryz.prog w = .ok (.enter 72 vargs) w := enters 72 Tryz.func72 (by kernel_rfl) vargs w
theorem enters73 (vargs : Array Value) (w : World) : (callFunc 73 vargs).run Tryz.prog w = .ok (.enter 73 vargs) w := enters 73 Tryz.func73 (by kernel_rfl) vargs w
theorem enters74 (vargs : Array Value) (w : World) : (callFunc 74 vargs).run Tryz.prog w = .ok (.enter 74 vargs) w := enters 74 Tryz.func74 (by kernel_rfl) vargs w
theorem enters75 (vargs : Array Value) (w : World) : (callFunc 75 vargs).run Tryz.prog w = .ok (.enter 75 vargs) w := enters 75 Tryz.func75 (by kernel_rfl) vargs w
theorem enters76 (vargs : Array Value) (w : World) : (callFunc 76 vargs).run Tryz.prog w = .ok (.enter 76 vargs) w := enters 76 Tryz.func76 (by kernel_rfl) vargs w
theorem enters77 (vargs : Array Value) (w : World) : (callFunc 77 vargs).run Tryz.prog w = .ok (.enter 77 vargs) w := enters 77 Tryz.func77 (by kernel_rfl) vargs w
theorem enters78 (vargs : Array Value) (w : World) : (callFunc 78 vargs).run Tryz.prog w = .ok (.enter 78 vargs) w := enters 78 Tryz.func78 (by kernel_rfl) vargs w
theorem enters79 (vargs : Array Value) (w : World) : (callFunc 79 vargs).run Tryz.prog w = .ok (.enter 79 vargs) w := enters 79 Tryz.func79 (by kernel_rfl) vargs w
theorem enters80 (vargs : Array Value) (w : World) : (callFunc 80 vargs).run Tryz.prog w = .ok (.enter 80 vargs) w := enters 80 Tryz.func80 (by kernel_rfl) vargs w
theorem enters81 (vargs : Array Value) (w : World) : (callFunc 81 vargs).run Tryz.prog w = .ok (.enter 81 vargs) w := enters 81 Tryz.func81 (by kernel_rfl) vargs w
theorem enters82 (vargs : Array Value) (w : World) : (callFunc 82 vargs).run Tryz.prog w = .ok (.enter 82 vargs) w := enters 82 Tryz.func82 (by kernel_rfl) vargs w
theorem enters83 (vargs : Array Value) (w : World) : (callFunc 83 vargs).run Tryz.prog w = .ok (.enter 83 vargs) w := enters 83 Tryz.func83 (by kernel_rfl) vargs w
theorem enters84 (vargs : Array Value) (w : World) : (callFunc 84 vargs).run Tryz.prog w = .ok (.enter 84 vargs) w := enters 84 Tryz.func84 (by kernel_rfl) vargs w
theorem enters85 (vargs : Array Value) (w : World) : (callFunc 85 vargs).run Tryz.prog w = .ok (.enter 85 vargs) w := enters 85 Tryz.func85 (by kernel_rfl) vargs w
theorem enters86 (vargs : Array Value) (w : World) : (callFunc 86 vargs).run Tryz.prog w = .ok (.enter 86 vargs) w := enters 86 Tryz.func86 (by kernel_rfl) vargs w
theorem enters89 (vargs : Array Value) (w : World) : (callFunc 89 vargs).run Tryz.prog w = .ok (.enter 89 vargs) w := enters 89 Tryz.func89 (by kernel_rfl) vargs w
theorem enters93 (vargs : Array Value) (w : World) : (callFunc 93 vargs).run Tryz.prog w = .ok (.enter 93 vargs) w := enters 93 Tryz.func93 (by kernel_rfl) vargs w
theorem enters94 (vargs : Array Value) (w : World) : (callFunc 94 vargs).run Tryz.prog w = .ok (.enter 94 vargs) w := enters 94 Tryz.func94 (by kernel_rfl) vargs w
theorem enters96 (vargs : Array Value) (w : World) : (callFunc 96 vargs).run Tryz.prog w = .ok (.enter 96 vargs) w := enters 96 Tryz.func96 (by kernel_rfl) vargs w
theorem enters97 (vargs : Array Value) (w : World) : (callFunc 97 vargs).run Tryz.prog w = .ok (.enter 97 vargs) w := enters 97 Tryz.func97 (by kernel_rfl) vargs w
theorem enters98 (vargs : Array Value) (w : World) : (callFunc 98 vargs).run Tryz.prog w = .ok (.enter 98 vargs) w := enters 98 Tryz.func98 (by kernel_rfl) vargs w
theorem enters99 (vargs : Array Value) (w : World) : (callFunc 99 vargs).run Tryz.prog w = .ok (.enter 99 vargs) w := enters 99 Tryz.func99 (by kernel_rfl) vargs w
theorem enters100 (vargs : Array Value) (w : World) : (callFunc 100 vargs).run Tryz.prog w = .ok (.enter 100 vargs) w := enters 100 Tryz.func100 (by kernel_rfl) vargs w
theorem enters101 (vargs : Array Value) (w : World) : (callFunc 101 vargs).run Tryz.prog w = .ok (.enter 101 vargs) w := enters 101 Tryz.func101 (by kernel_rfl) vargs w
theorem enters109 (vargs : Array Value) (w : World) : (callFunc 109 vargs).run Tryz.prog w = .ok (.enter 109 vargs) w := enters 109 Tryz.func109 (by kernel_rfl) vargs w
theorem enters110 (vargs : Array Value) (w : World) : (callFunc 110 vargs).run Tryz.prog w = .ok (.enter 110 vargs) w := enters 110 Tryz.func110 (by kernel_rfl) vargs w
theorem enters111 (vargs : Array Value) (w : World) : (callFunc 111 vargs).run Tryz.prog w = .ok (.enter 111 vargs) w := enters 111 Tryz.func111 (by kernel_rfl) vargs w
theorem enters123 (vargs : Array Value) (w : World) : (callFunc 123 vargs).run Tryz.prog w = .ok (.enter 123 vargs) w := enters 123 Tryz.func123 (by kernel_rfl) vargs w
theorem enters124 (vargs : Array Value) (w : World) : (callFunc 124 vargs).run Tryz.prog w = .ok (.enter 124 vargs) w := enters 124 Tryz.func124 (by kernel_rfl) vargs w
theorem enters125 (vargs : Array Value) (w : World) : (callFunc 125 vargs).run Tryz.prog w = .ok (.enter 125 vargs) w := enters 125 Tryz.func125 (by kernel_rfl) vargs w
theorem enters126 (vargs : Array Value) (w : World) : (callFunc 126 vargs).run Tryz.prog w = .ok (.enter 126 vargs) w := enters 126 Tryz.func126 (by kernel_rfl) vargs w
theorem enters132 (vargs : Array Value) (w : World) : (callFunc 132 vargs).run Tryz.prog w = .ok (.enter 132 vargs) w := enters 132 Tryz.func132 (by kernel_rfl) vargs w
theorem enters138 (vargs : Array Value) (w : World) : (callFunc 138 vargs).run Tryz.prog w = .ok (.enter 138 vargs) w := enters 138 Tryz.func138 (by kernel_rfl) vargs w
theorem enters139 (vargs : Array Value) (w : World) : (callFunc 139 vargs).run Tryz.prog w = .ok (.enter 139 vargs) w := enters 139 Tryz.func139 (by kernel_rfl) vargs w
theorem enters140 (vargs : Array Value) (w : World) : (callFunc 140 vargs).run Tryz.prog w = .ok (.enter 140 vargs) w := enters 140 Tryz.func140 (by kernel_rfl) vargs w
theorem body0 {f : FuncId} {fn : Func} {code : Code} (site : Nat → Nat) (nobj : Nat) (hf : Tryz.prog.funcs[f]? = some fn) (hb : fn.body = some code) {n : Nat} (hn : fn.ntmps = n) {rs : List ResultVar} (hrs : fn.results.toList = rs) {args : List AVal} {res : AVal}
    (hargs : args.length ≤ n)
    (h : VC Tryz.prog (envOf site nobj) 0 code ⟨args ++ List.replicate (n - args.length) .junk, List.replicate nobj none⟩ (RQ (envOf site nobj) rs res)) :
    AC Tryz.prog gl f args [] res [] := by
  subst hn hrs
  exact AC.of_vc (env := envOf site nobj) (envOK _ _) mixed hf hb hargs h
theorem bodyO {f : FuncId} {fn : Func} {code : Code} (site : Nat → Nat) (nobj : Nat) (hf : Tryz.prog.funcs[f]? = some fn) (hb : fn.body = some code) {n : Nat} (hn : fn.ntmps = n) {rs : List ResultVar} (hrs : fn.results.toList = rs) {args : List AVal} {objs : List (Option AObj)} {res : AVal} {objs' : List (Option AObj)}
    (hargs : args.length ≤ n) (hobjs : objs.length ≤ nobj)
    (h : VC Tryz.prog (envOf site nobj) objs.length code ⟨args ++ List.replicate (n - args.length) .junk, objs ++ List.replicate (nobj - objs.length) none⟩ (retQ (envOf site nobj) objs.length rs res objs')) :
    AC Tryz.prog gl f args objs res objs' := by
  subst hn hrs
  exact AC.of_body (env := envOf site nobj) (envOK _ _) hf hb hargs hobjs (VC.to (envOK _ _) mixed code h)
theorem bodyW {f : FuncId} {fn : Func} {code : Code} (site : Nat → Nat) (nobj : Nat) (hf : Tryz.prog.funcs[f]? = some fn) (hb : fn.body = some code) {n : Nat} (hn : fn.ntmps = n) {rs : List ResultVar} (hrs : fn.results.toList = rs) {args : List AVal} {objs : List (Option AObj)} {res : AVal} {objs' : List (Option AObj)}
    (hargs : args.length ≤ n) (hobjs : objs.length ≤ nobj)
    (h : VC Tryz.prog (envOf site nobj) objs.length code ⟨args ++ List.replicate (n - args.length) .junk, objs ++ List.replicate (nobj - objs.length) none⟩ (weakQ (envOf site nobj) objs.length (retQ (envOf site nobj) objs.length rs res objs'))) :
    AC Tryz.prog gl f args objs res objs' := by
  subst hn hrs
  exact AC.of_body (env := envOf site nobj) (envOK _ _) hf hb hargs hobjs (SW.weakEnd (VC.to (envOK _ _) mixed code h))
theorem bodyP {f : FuncId} {fn : Func} {code : Code} (site : Nat → Nat) (nobj : Nat) (hf : Tryz.prog.funcs[f]? = some fn) (hb : fn.body = some code) {n : Nat} (hn : fn.ntmps = n) {args : List AVal} {objs : List (Option AObj)} {x : Value} {objs' : List (Option AObj)}
    (hargs : args.length ≤ n) (hobjs : objs.length ≤ nobj)
    (h : VC Tryz.prog (envOf site nobj) objs.length code ⟨args ++ List.replicate (n - args.length) .junk, objs ++ List.replicate (nobj - objs.length) none⟩ (panQ objs.length x objs')) :
    AP Tryz.prog gl f args objs x objs' := by
  subst hn
  exact AP.of_body (env := envOf site nobj) (envOK _ _) hf hb hargs hobjs (VC.to (envOK _ _) mixed code h)
theorem loopV {site : Nat → Nat} {nobj pin : Nat} {σ : St} {Q : Exit → St → Prop} {ι : Type} {c : Code} {t : Tg (Code.loop c, Q)} (I : ι → St) (μ : ι → Nat) (i0 : ι) (h0 : Weak (envOf site nobj) pin σ (I i0))
    (round : ∀ i, VC Tryz.prog (envOf site nobj) pin c (I i) (thenQ (NX (envOf site nobj) pin I μ .mk (μ i)) Q)) : LW Tryz.prog (envOf site nobj) pin (.loop c) σ Q t :=
  LW.loop (envOK _ _) mixed I μ i0 h0 round
theorem loopS {site : Nat → Nat} {nobj pin : Nat} {σ : St} {Q : Exit → St → Prop} {ι : Type} {c : Code} {t : Tg (Code.loop c, Q)} (I : ι → St) (μ : ι → Nat) (i0 : ι) (h0 : Weak (envOf site nobj) pin σ (I i0))
    (round : ∀ i, SW Tryz.prog (envOf site nobj) pin c (I i) (thenQ (NX (envOf site nobj) pin I μ .mk (μ i)) Q)) : LW Tryz.prog (envOf site nobj) pin (.loop c) σ Q t :=
  LW.loopS I μ i0 h0 round
theorem toV {site : Nat → Nat} {nobj pin : Nat} {σ : St} {Q : Exit → St → Prop} {c : Code} (h : VC Tryz.prog (envOf site nobj) pin c σ Q) : SW Tryz.prog (envOf site nobj) pin c σ Q := VC.to (envOK _ _) mixed c h
end Go.Proofs.YtopbicbgolcmpaaGreatDoor
