/-
  NARROWER THAN 'FOR EVERY INPUT', by the rows' own cells (each row's printed sentence says how): ScriptParses: laid · ScriptWords: laid · ScriptFormats: laid · ScriptLimits: laid · ScriptRoundTrips: laid.
  DERIVED. THE GIVEN ROWS OF THIS SEAT. 5 by the template 'for every input the law returns true; each argument reads behind the call as it read before'; 0 by the template 'total and deterministic' (their statements: YtfinhhblcdkpgaaGreatDoorTotals.lean).
  GIVEN WITH THE SEED: the statements are not yours to turn. If you find one false, say at which input.
  Laid BY PROGRAM, IN A SANDBOX (cutbox-rows.mjs): the forced cells as the released guide's own fill.sh prints them over the translation 518ddc5271120596… (all of the seat's roots in one cut). By AI agents, Wed Nov 11 2026. No macro, syntax, notation, axiom, sorry.
-/
import Derived.Test.YtfinhhblcdkpgaaGreatDoorChecked
import GoSem.PinnedTables
import GoSem.Claim
import GoSem.ClaimJoined
import GoSem.ClaimMapViews
import Derived.JoinedTies
import Derived.KernelRfl
namespace Go.Proofs.YtfinhhblcdkpgaaGreatDoor
/- THE CELL 'sum', in the pinned program and in every row, IS THE sha256 OF THE DUMP (.gsa) THAT YtfinhhblcdkpgaaGreatDoorProg.lean LOADS. Nothing in Lean hashes anything: it is a label: what it is worth is what the hold of that sum in a sandbox is worth. -/
noncomputable def Tryz.pinned : Pinned := { name := "ytfinhhblcdkpgaagreatdoor", sum := "518ddc5271120596c397480808356699ea9cfcde259c7d94b0b887ede763f4b7", checked := Tryz.checked }
namespace Rows
def none {H : Type} : Left H := { results := [], args := [] }

/- WHAT THE LISTED PACKAGE-LEVEL VARIABLES READ AS WHEN THE CALL BEGINS. Each datum BY PROGRAM (the guide's laid-datum.mjs) off the statement by which the dump's own 'gosem.cut.vars' lays the variable. In a bare row this is a premise. The card (YtfinhhblcdkpgaaGreatDoorCards.lean) ties it to the program's text. -/
def laid_math_bits_deBruijn32tab {H : Type} : DataW H := .agg [.lit (.int .u8 0), .lit (.int .u8 1), .lit (.int .u8 28), .lit (.int .u8 2), .lit (.int .u8 29), .lit (.int .u8 14), .lit (.int .u8 24), .lit (.int .u8 3), .lit (.int .u8 30), .lit (.int .u8 22), .lit (.int .u8 20), .lit (.int .u8 15), .lit (.int .u8 25), .lit (.int .u8 17), .lit (.int .u8 4), .lit (.int .u8 8), .lit (.int .u8 31), .lit (.int .u8 27), .lit (.int .u8 13), .lit (.int .u8 23), .lit (.int .u8 21), .lit (.int .u8 19), .lit (.int .u8 16), .lit (.int .u8 7), .lit (.int .u8 26), .lit (.int .u8 12), .lit (.int .u8 18), .lit (.int .u8 6), .lit (.int .u8 11), .lit (.int .u8 5), .lit (.int .u8 10), .lit (.int .u8 9)]
def laid_math_bits_deBruijn64tab {H : Type} : DataW H := .agg [.lit (.int .u8 0), .lit (.int .u8 1), .lit (.int .u8 56), .lit (.int .u8 2), .lit (.int .u8 57), .lit (.int .u8 49), .lit (.int .u8 28), .lit (.int .u8 3), .lit (.int .u8 61), .lit (.int .u8 58), .lit (.int .u8 42), .lit (.int .u8 50), .lit (.int .u8 38), .lit (.int .u8 29), .lit (.int .u8 17), .lit (.int .u8 4), .lit (.int .u8 62), .lit (.int .u8 47), .lit (.int .u8 59), .lit (.int .u8 36), .lit (.int .u8 45), .lit (.int .u8 43), .lit (.int .u8 51), .lit (.int .u8 22), .lit (.int .u8 53), .lit (.int .u8 39), .lit (.int .u8 33), .lit (.int .u8 30), .lit (.int .u8 24), .lit (.int .u8 18), .lit (.int .u8 12), .lit (.int .u8 5), .lit (.int .u8 63), .lit (.int .u8 55), .lit (.int .u8 48), .lit (.int .u8 27), .lit (.int .u8 60), .lit (.int .u8 41), .lit (.int .u8 37), .lit (.int .u8 16), .lit (.int .u8 46), .lit (.int .u8 35), .lit (.int .u8 44), .lit (.int .u8 21), .lit (.int .u8 52), .lit (.int .u8 32), .lit (.int .u8 23), .lit (.int .u8 11), .lit (.int .u8 54), .lit (.int .u8 26), .lit (.int .u8 40), .lit (.int .u8 15), .lit (.int .u8 34), .lit (.int .u8 20), .lit (.int .u8 31), .lit (.int .u8 10), .lit (.int .u8 25), .lit (.int .u8 14), .lit (.int .u8 19), .lit (.int .u8 9), .lit (.int .u8 13), .lit (.int .u8 8), .lit (.int .u8 7), .lit (.int .u8 6)]
def laid_internal_strconv_uint64pow10 {H : Type} : DataW H := .agg [.lit (.int .u64 1), .lit (.int .u64 10), .lit (.int .u64 100), .lit (.int .u64 1000), .lit (.int .u64 10000), .lit (.int .u64 100000), .lit (.int .u64 1000000), .lit (.int .u64 10000000), .lit (.int .u64 100000000), .lit (.int .u64 1000000000), .lit (.int .u64 10000000000), .lit (.int .u64 100000000000), .lit (.int .u64 1000000000000), .lit (.int .u64 10000000000000), .lit (.int .u64 100000000000000), .lit (.int .u64 1000000000000000), .lit (.int .u64 10000000000000000), .lit (.int .u64 100000000000000000), .lit (.int .u64 1000000000000000000), .lit (.int .u64 10000000000000000000)]
def laid_unicode_utf8_acceptRanges {H : Type} : DataW H := .agg [.agg [.lit (.int .u8 128), .lit (.int .u8 191)], .agg [.lit (.int .u8 160), .lit (.int .u8 191)], .agg [.lit (.int .u8 128), .lit (.int .u8 159)], .agg [.lit (.int .u8 144), .lit (.int .u8 191)], .agg [.lit (.int .u8 128), .lit (.int .u8 143)], .agg [.lit (.int .u8 0), .lit (.int .u8 0)], .agg [.lit (.int .u8 0), .lit (.int .u8 0)], .agg [.lit (.int .u8 0), .lit (.int .u8 0)], .agg [.lit (.int .u8 0), .lit (.int .u8 0)], .agg [.lit (.int .u8 0), .lit (.int .u8 0)], .agg [.lit (.int .u8 0), .lit (.int .u8 0)], .agg [.lit (.int .u8 0), .lit (.int .u8 0)], .agg [.lit (.int .u8 0), .lit (.int .u8 0)], .agg [.lit (.int .u8 0), .lit (.int .u8 0)], .agg [.lit (.int .u8 0), .lit (.int .u8 0)], .agg [.lit (.int .u8 0), .lit (.int .u8 0)]]
def laid_strconv_ErrRange {H : Type} : DataW H := .iface "*errors.errorString" (.ptr (.agg [.lit (.string [118, 97, 108, 117, 101, 32, 111, 117, 116, 32, 111, 102, 32, 114, 97, 110, 103, 101])]))
def laid_strconv_ErrSyntax {H : Type} : DataW H := .iface "*errors.errorString" (.ptr (.agg [.lit (.string [105, 110, 118, 97, 108, 105, 100, 32, 115, 121, 110, 116, 97, 120])]))
def laid_rollbacknet_rollbacknetmake_scalars {H : Type} : DataW H := .agg [.lit (.string [120]), .lit (.string [121]), .lit (.string [122])]
def laid_rollbacknet_rollbacknetmake_arrays {H : Type} : DataW H := .agg [.lit (.string [97]), .lit (.string [98])]
def laid_rollbacknet_script_words {H : Type} : DataW H := .agg [.lit (.string []), .lit (.string [100, 101, 108, 105, 118, 101, 114]), .lit (.string [116, 105, 99, 107]), .lit (.string [105, 110, 112, 117, 116]), .lit (.string [100, 114, 111, 112]), .lit (.string [100, 117, 112, 108, 105, 99, 97, 116, 101]), .lit (.string [114, 101, 115, 101, 110, 100]), .lit (.string [99, 104, 101, 99, 107, 112, 111, 105, 110, 116]), .lit (.string [102, 108, 117, 115, 104]), .lit (.string [97, 99, 107]), .lit (.string [99, 114, 97, 115, 104]), .lit (.string [114, 101, 99, 111, 118, 101, 114]), .lit (.string [114, 101, 115, 116, 111, 114, 101]), .lit (.string [99, 111, 109, 109, 105, 116]), .lit (.string [99, 111, 108, 108, 101, 99, 116])]
def laid_rollbacknet_script_names {H : Type} : DataW H := .agg [.lit (.string []), .lit (.string [105, 110, 100, 101, 112, 101, 110, 100, 101, 110, 116]), .lit (.string [99, 111, 111, 114, 100, 105, 110, 97, 116, 101, 100]), .lit (.string [105, 110, 100, 101, 120, 101, 100]), .lit (.string [109, 111, 100, 101, 108, 98, 97, 115, 101, 100]), .lit (.string [112, 101, 115, 115, 105, 109, 105, 115, 116, 105, 99]), .lit (.string [115, 101, 110, 100, 101, 114, 98, 97, 115, 101, 100]), .lit (.string [111, 112, 116, 105, 109, 105, 115, 116, 105, 99]), .lit (.string [99, 97, 117, 115, 97, 108])]
/-- One of Go's own tables, pinned by name: the form's constant. -/
def laid_unicode_utf8_first : DataW Unit := Go.Pinned.utf8First

/-- 'rollbacknetlaw41.ScriptParses': WHATEVER THE INPUT: true; the input reads as it did. -/
def scriptParsesSpec : ChangeSpec := { name := "scriptParses", fn := fun _ => fun
  | [d1, d2] => { results := [.lit (.bool true)], args := [d1, d2] }
  | _ => none }
def scriptParsesRow : OpenClaim := { program := "ytfinhhblcdkpgaagreatdoor", sum := "518ddc5271120596c397480808356699ea9cfcde259c7d94b0b887ede763f4b7", func := "rollbacknet/rollbacknetlaw41.ScriptParses", spec := "scriptParses", inPlace := ["internal/bytealg.CountString", "internal/bytealg.IndexByteString", "internal/bytealg.IndexString", "internal/abi.NoEscape"], unfollowed := true, recurses := true, named := ["unicode/utf8.first", "unicode/utf8.acceptRanges", "internal/bytealg.MaxLen", "rollbacknet/script.names", "strconv.ErrSyntax", "strconv.ErrRange", "internal/strconv.uint64pow10", "math/bits.deBruijn32tab", "math/bits.deBruijn64tab", "rollbacknet/script.words", "rollbacknet/rollbacknetmake.scalars", "rollbacknet/rollbacknetmake.arrays"], apart := false, laid := [("math/bits.deBruijn32tab", laid_math_bits_deBruijn32tab), ("math/bits.deBruijn64tab", laid_math_bits_deBruijn64tab), ("internal/strconv.uint64pow10", laid_internal_strconv_uint64pow10), ("unicode/utf8.acceptRanges", laid_unicode_utf8_acceptRanges), ("strconv.ErrRange", laid_strconv_ErrRange), ("strconv.ErrSyntax", laid_strconv_ErrSyntax), ("rollbacknet/rollbacknetmake.scalars", laid_rollbacknet_rollbacknetmake_scalars), ("rollbacknet/rollbacknetmake.arrays", laid_rollbacknet_rollbacknetmake_arrays), ("rollbacknet/script.words", laid_rollbacknet_script_words), ("rollbacknet/script.names", laid_rollbacknet_script_names), ("unicode/utf8.first", laid_unicode_utf8_first)] }
def ScriptParsesSaid : Prop := scriptParsesRow.holds Tryz.pinned (OpenSpec.ofChange scriptParsesSpec)

/-- ITS FALSE NEIGHBOUR: 'it returns false'. Refute it at one input. -/
def scriptParsesWrong : ChangeSpec := { name := "scriptParses", fn := fun _ => fun
  | [d1, d2] => { results := [.lit (.bool false)], args := [d1, d2] }
  | _ => none }
def ScriptParsesWrongFalsely : Prop := scriptParsesRow.holds Tryz.pinned (OpenSpec.ofChange scriptParsesWrong)

/-- 'rollbacknetlaw41.ScriptWords': WHATEVER THE INPUT: true; the input reads as it did. -/
def scriptWordsSpec : ChangeSpec := { name := "scriptWords", fn := fun _ => fun
  | [d] => { results := [.lit (.bool true)], args := [d] }
  | _ => none }
def scriptWordsRow : OpenClaim := { program := "ytfinhhblcdkpgaagreatdoor", sum := "518ddc5271120596c397480808356699ea9cfcde259c7d94b0b887ede763f4b7", func := "rollbacknet/rollbacknetlaw41.ScriptWords", spec := "scriptWords", inPlace := ["internal/bytealg.CountString", "internal/bytealg.IndexByteString", "internal/bytealg.IndexString", "internal/abi.NoEscape"], unfollowed := true, recurses := true, named := ["unicode/utf8.first", "unicode/utf8.acceptRanges", "internal/bytealg.MaxLen", "rollbacknet/script.names", "strconv.ErrSyntax", "strconv.ErrRange", "internal/strconv.uint64pow10", "math/bits.deBruijn32tab", "math/bits.deBruijn64tab", "rollbacknet/script.words"], apart := false, laid := [("math/bits.deBruijn32tab", laid_math_bits_deBruijn32tab), ("math/bits.deBruijn64tab", laid_math_bits_deBruijn64tab), ("internal/strconv.uint64pow10", laid_internal_strconv_uint64pow10), ("unicode/utf8.acceptRanges", laid_unicode_utf8_acceptRanges), ("strconv.ErrRange", laid_strconv_ErrRange), ("strconv.ErrSyntax", laid_strconv_ErrSyntax), ("rollbacknet/script.words", laid_rollbacknet_script_words), ("rollbacknet/script.names", laid_rollbacknet_script_names), ("unicode/utf8.first", laid_unicode_utf8_first)] }
def ScriptWordsSaid : Prop := scriptWordsRow.holds Tryz.pinned (OpenSpec.ofChange scriptWordsSpec)

/-- ITS FALSE NEIGHBOUR: 'it returns false'. Refute it at one input. -/
def scriptWordsWrong : ChangeSpec := { name := "scriptWords", fn := fun _ => fun
  | [d] => { results := [.lit (.bool false)], args := [d] }
  | _ => none }
def ScriptWordsWrongFalsely : Prop := scriptWordsRow.holds Tryz.pinned (OpenSpec.ofChange scriptWordsWrong)

/-- 'rollbacknetlaw41.ScriptFormats': WHATEVER THE INPUT: true; the input reads as it did. -/
def scriptFormatsSpec : ChangeSpec := { name := "scriptFormats", fn := fun _ => fun
  | [d1, d2, d3, d4] => { results := [.lit (.bool true)], args := [d1, d2, d3, d4] }
  | _ => none }
def scriptFormatsRow : OpenClaim := { program := "ytfinhhblcdkpgaagreatdoor", sum := "518ddc5271120596c397480808356699ea9cfcde259c7d94b0b887ede763f4b7", func := "rollbacknet/rollbacknetlaw41.ScriptFormats", spec := "scriptFormats", inPlace := ["internal/bytealg.CountString", "internal/bytealg.IndexByteString", "internal/bytealg.IndexString", "internal/abi.NoEscape"], unfollowed := true, recurses := true, named := ["unicode/utf8.first", "unicode/utf8.acceptRanges", "internal/bytealg.MaxLen", "rollbacknet/script.names", "strconv.ErrSyntax", "strconv.ErrRange", "internal/strconv.uint64pow10", "math/bits.deBruijn32tab", "math/bits.deBruijn64tab", "rollbacknet/script.words", "rollbacknet/rollbacknetmake.scalars", "rollbacknet/rollbacknetmake.arrays"], apart := false, laid := [("math/bits.deBruijn32tab", laid_math_bits_deBruijn32tab), ("math/bits.deBruijn64tab", laid_math_bits_deBruijn64tab), ("internal/strconv.uint64pow10", laid_internal_strconv_uint64pow10), ("unicode/utf8.acceptRanges", laid_unicode_utf8_acceptRanges), ("strconv.ErrRange", laid_strconv_ErrRange), ("strconv.ErrSyntax", laid_strconv_ErrSyntax), ("rollbacknet/rollbacknetmake.scalars", laid_rollbacknet_rollbacknetmake_scalars), ("rollbacknet/rollbacknetmake.arrays", laid_rollbacknet_rollbacknetmake_arrays), ("rollbacknet/script.words", laid_rollbacknet_script_words), ("rollbacknet/script.names", laid_rollbacknet_script_names), ("unicode/utf8.first", laid_unicode_utf8_first)] }
def ScriptFormatsSaid : Prop := scriptFormatsRow.holds Tryz.pinned (OpenSpec.ofChange scriptFormatsSpec)

/-- ITS FALSE NEIGHBOUR: 'it returns false'. Refute it at one input. -/
def scriptFormatsWrong : ChangeSpec := { name := "scriptFormats", fn := fun _ => fun
  | [d1, d2, d3, d4] => { results := [.lit (.bool false)], args := [d1, d2, d3, d4] }
  | _ => none }
def ScriptFormatsWrongFalsely : Prop := scriptFormatsRow.holds Tryz.pinned (OpenSpec.ofChange scriptFormatsWrong)

/-- 'rollbacknetlaw41.ScriptLimits': WHATEVER THE INPUT: true; the input reads as it did. -/
def scriptLimitsSpec : ChangeSpec := { name := "scriptLimits", fn := fun _ => fun
  | [d1, d2, d3] => { results := [.lit (.bool true)], args := [d1, d2, d3] }
  | _ => none }
def scriptLimitsRow : OpenClaim := { program := "ytfinhhblcdkpgaagreatdoor", sum := "518ddc5271120596c397480808356699ea9cfcde259c7d94b0b887ede763f4b7", func := "rollbacknet/rollbacknetlaw41.ScriptLimits", spec := "scriptLimits", inPlace := ["internal/bytealg.CountString", "internal/bytealg.IndexByteString", "internal/bytealg.IndexString", "internal/abi.NoEscape"], unfollowed := true, recurses := true, named := ["unicode/utf8.first", "unicode/utf8.acceptRanges", "internal/bytealg.MaxLen", "rollbacknet/script.names", "strconv.ErrSyntax", "strconv.ErrRange", "internal/strconv.uint64pow10", "math/bits.deBruijn32tab", "math/bits.deBruijn64tab", "rollbacknet/script.words"], apart := false, laid := [("math/bits.deBruijn32tab", laid_math_bits_deBruijn32tab), ("math/bits.deBruijn64tab", laid_math_bits_deBruijn64tab), ("internal/strconv.uint64pow10", laid_internal_strconv_uint64pow10), ("unicode/utf8.acceptRanges", laid_unicode_utf8_acceptRanges), ("strconv.ErrRange", laid_strconv_ErrRange), ("strconv.ErrSyntax", laid_strconv_ErrSyntax), ("rollbacknet/script.words", laid_rollbacknet_script_words), ("rollbacknet/script.names", laid_rollbacknet_script_names), ("unicode/utf8.first", laid_unicode_utf8_first)] }
def ScriptLimitsSaid : Prop := scriptLimitsRow.holds Tryz.pinned (OpenSpec.ofChange scriptLimitsSpec)

/-- ITS FALSE NEIGHBOUR: 'it returns false'. Refute it at one input. -/
def scriptLimitsWrong : ChangeSpec := { name := "scriptLimits", fn := fun _ => fun
  | [d1, d2, d3] => { results := [.lit (.bool false)], args := [d1, d2, d3] }
  | _ => none }
def ScriptLimitsWrongFalsely : Prop := scriptLimitsRow.holds Tryz.pinned (OpenSpec.ofChange scriptLimitsWrong)

/-- 'rollbacknetlaw41.ScriptRoundTrips': WHATEVER THE INPUT: true; the input reads as it did. -/
def scriptRoundTripsSpec : ChangeSpec := { name := "scriptRoundTrips", fn := fun _ => fun
  | [d] => { results := [.lit (.bool true)], args := [d] }
  | _ => none }
def scriptRoundTripsRow : OpenClaim := { program := "ytfinhhblcdkpgaagreatdoor", sum := "518ddc5271120596c397480808356699ea9cfcde259c7d94b0b887ede763f4b7", func := "rollbacknet/rollbacknetlaw41.ScriptRoundTrips", spec := "scriptRoundTrips", inPlace := ["internal/bytealg.CountString", "internal/bytealg.IndexByteString", "internal/bytealg.IndexString", "internal/abi.NoEscape"], unfollowed := true, recurses := true, named := ["unicode/utf8.first", "unicode/utf8.acceptRanges", "internal/bytealg.MaxLen", "rollbacknet/script.names", "strconv.ErrSyntax", "strconv.ErrRange", "internal/strconv.uint64pow10", "math/bits.deBruijn32tab", "math/bits.deBruijn64tab", "rollbacknet/script.words", "rollbacknet/rollbacknetmake.scalars", "rollbacknet/rollbacknetmake.arrays"], apart := false, laid := [("math/bits.deBruijn32tab", laid_math_bits_deBruijn32tab), ("math/bits.deBruijn64tab", laid_math_bits_deBruijn64tab), ("internal/strconv.uint64pow10", laid_internal_strconv_uint64pow10), ("unicode/utf8.acceptRanges", laid_unicode_utf8_acceptRanges), ("strconv.ErrRange", laid_strconv_ErrRange), ("strconv.ErrSyntax", laid_strconv_ErrSyntax), ("rollbacknet/rollbacknetmake.scalars", laid_rollbacknet_rollbacknetmake_scalars), ("rollbacknet/rollbacknetmake.arrays", laid_rollbacknet_rollbacknetmake_arrays), ("rollbacknet/script.words", laid_rollbacknet_script_words), ("rollbacknet/script.names", laid_rollbacknet_script_names), ("unicode/utf8.first", laid_unicode_utf8_first)] }
def ScriptRoundTripsSaid : Prop := scriptRoundTripsRow.holds Tryz.pinned (OpenSpec.ofChange scriptRoundTripsSpec)

/-- ITS FALSE NEIGHBOUR: 'it returns false'. Refute it at one input. -/
def scriptRoundTripsWrong : ChangeSpec := { name := "scriptRoundTrips", fn := fun _ => fun
  | [d] => { results := [.lit (.bool false)], args := [d] }
  | _ => none }
def ScriptRoundTripsWrongFalsely : Prop := scriptRoundTripsRow.holds Tryz.pinned (OpenSpec.ofChange scriptRoundTripsWrong)

/- THE SECOND FORM. 'bulk': how many values and letters a reading holds, each counted each time it is reached (what is shared counts as often as it is met; a slice's spare places count too). A statement '..UptoSaid' is the law's where the arguments, and the package variables that the reading takes, are together of bulk at most 1048576: NARROWER than '..Said'. Prove '..Said' where nothing that the law and all that it calls make is longer than what came in: it says more and counts as full. Else prove '..UptoSaid'. A law counts once. -/
mutual
def uptoBulk {H : Type} : DataW H → Nat
  | .lit (.string bytes) => bytes.length + 1
  | .lit _ => 1
  | .nil => 1
  | .ptr d => uptoBulk d + 1
  | .slice elems spare => uptoBulkAll elems + uptoBulkAll spare + 1
  | .agg parts => uptoBulkAll parts + 1
  | .iface _ d => uptoBulk d + 1
  | .map entries => uptoBulkEntries entries + 1
  | .held _ => 1
def uptoBulkAll {H : Type} : List (DataW H) → Nat
  | [] => 0
  | d :: r => uptoBulk d + uptoBulkAll r
def uptoBulkEntries {H : Type} : List (Lit × DataW H) → Nat
  | [] => 0
  | x :: r => uptoBulkEntry x + uptoBulkEntries r
def uptoBulkEntry {H : Type} : Lit × DataW H → Nat
  | (.string bytes, d) => bytes.length + uptoBulk d + 1
  | (_, d) => uptoBulk d + 1
 end
def uptoSmall : (H : Type) → List (DataW H) → Bool := fun _ ds => decide (uptoBulkAll ds ≤ 1048576)
def OpenSpec.upto (s : _root_.Go.ChangeSpec) : _root_.Go.OpenSpec := { _root_.Go.OpenSpec.ofChange s with cond := some uptoSmall }

/-- 'rollbacknetlaw41.ScriptParses', WHERE WHAT IT READS IS OF BULK AT MOST 1048576: true; the input reads as it did. -/
def scriptParsesUptoRow : OpenClaim := { program := "ytfinhhblcdkpgaagreatdoor", sum := "518ddc5271120596c397480808356699ea9cfcde259c7d94b0b887ede763f4b7", func := "rollbacknet/rollbacknetlaw41.ScriptParses", spec := "scriptParses", inPlace := ["internal/bytealg.CountString", "internal/bytealg.IndexByteString", "internal/bytealg.IndexString", "internal/abi.NoEscape"], unfollowed := true, recurses := true, named := ["unicode/utf8.first", "unicode/utf8.acceptRanges", "internal/bytealg.MaxLen", "rollbacknet/script.names", "strconv.ErrSyntax", "strconv.ErrRange", "internal/strconv.uint64pow10", "math/bits.deBruijn32tab", "math/bits.deBruijn64tab", "rollbacknet/script.words", "rollbacknet/rollbacknetmake.scalars", "rollbacknet/rollbacknetmake.arrays"], apart := false, laid := [("math/bits.deBruijn32tab", laid_math_bits_deBruijn32tab), ("math/bits.deBruijn64tab", laid_math_bits_deBruijn64tab), ("internal/strconv.uint64pow10", laid_internal_strconv_uint64pow10), ("unicode/utf8.acceptRanges", laid_unicode_utf8_acceptRanges), ("strconv.ErrRange", laid_strconv_ErrRange), ("strconv.ErrSyntax", laid_strconv_ErrSyntax), ("rollbacknet/rollbacknetmake.scalars", laid_rollbacknet_rollbacknetmake_scalars), ("rollbacknet/rollbacknetmake.arrays", laid_rollbacknet_rollbacknetmake_arrays), ("rollbacknet/script.words", laid_rollbacknet_script_words), ("rollbacknet/script.names", laid_rollbacknet_script_names), ("unicode/utf8.first", laid_unicode_utf8_first)], narrowed := true }
def ScriptParsesUptoSaid : Prop := scriptParsesUptoRow.holds Tryz.pinned (OpenSpec.upto scriptParsesSpec)

/-- 'rollbacknetlaw41.ScriptWords', WHERE WHAT IT READS IS OF BULK AT MOST 1048576: true; the input reads as it did. -/
def scriptWordsUptoRow : OpenClaim := { program := "ytfinhhblcdkpgaagreatdoor", sum := "518ddc5271120596c397480808356699ea9cfcde259c7d94b0b887ede763f4b7", func := "rollbacknet/rollbacknetlaw41.ScriptWords", spec := "scriptWords", inPlace := ["internal/bytealg.CountString", "internal/bytealg.IndexByteString", "internal/bytealg.IndexString", "internal/abi.NoEscape"], unfollowed := true, recurses := true, named := ["unicode/utf8.first", "unicode/utf8.acceptRanges", "internal/bytealg.MaxLen", "rollbacknet/script.names", "strconv.ErrSyntax", "strconv.ErrRange", "internal/strconv.uint64pow10", "math/bits.deBruijn32tab", "math/bits.deBruijn64tab", "rollbacknet/script.words"], apart := false, laid := [("math/bits.deBruijn32tab", laid_math_bits_deBruijn32tab), ("math/bits.deBruijn64tab", laid_math_bits_deBruijn64tab), ("internal/strconv.uint64pow10", laid_internal_strconv_uint64pow10), ("unicode/utf8.acceptRanges", laid_unicode_utf8_acceptRanges), ("strconv.ErrRange", laid_strconv_ErrRange), ("strconv.ErrSyntax", laid_strconv_ErrSyntax), ("rollbacknet/script.words", laid_rollbacknet_script_words), ("rollbacknet/script.names", laid_rollbacknet_script_names), ("unicode/utf8.first", laid_unicode_utf8_first)], narrowed := true }
def ScriptWordsUptoSaid : Prop := scriptWordsUptoRow.holds Tryz.pinned (OpenSpec.upto scriptWordsSpec)

/-- 'rollbacknetlaw41.ScriptFormats', WHERE WHAT IT READS IS OF BULK AT MOST 1048576: true; the input reads as it did. -/
def scriptFormatsUptoRow : OpenClaim := { program := "ytfinhhblcdkpgaagreatdoor", sum := "518ddc5271120596c397480808356699ea9cfcde259c7d94b0b887ede763f4b7", func := "rollbacknet/rollbacknetlaw41.ScriptFormats", spec := "scriptFormats", inPlace := ["internal/bytealg.CountString", "internal/bytealg.IndexByteString", "internal/bytealg.IndexString", "internal/abi.NoEscape"], unfollowed := true, recurses := true, named := ["unicode/utf8.first", "unicode/utf8.acceptRanges", "internal/bytealg.MaxLen", "rollbacknet/script.names", "strconv.ErrSyntax", "strconv.ErrRange", "internal/strconv.uint64pow10", "math/bits.deBruijn32tab", "math/bits.deBruijn64tab", "rollbacknet/script.words", "rollbacknet/rollbacknetmake.scalars", "rollbacknet/rollbacknetmake.arrays"], apart := false, laid := [("math/bits.deBruijn32tab", laid_math_bits_deBruijn32tab), ("math/bits.deBruijn64tab", laid_math_bits_deBruijn64tab), ("internal/strconv.uint64pow10", laid_internal_strconv_uint64pow10), ("unicode/utf8.acceptRanges", laid_unicode_utf8_acceptRanges), ("strconv.ErrRange", laid_strconv_ErrRange), ("strconv.ErrSyntax", laid_strconv_ErrSyntax), ("rollbacknet/rollbacknetmake.scalars", laid_rollbacknet_rollbacknetmake_scalars), ("rollbacknet/rollbacknetmake.arrays", laid_rollbacknet_rollbacknetmake_arrays), ("rollbacknet/script.words", laid_rollbacknet_script_words), ("rollbacknet/script.names", laid_rollbacknet_script_names), ("unicode/utf8.first", laid_unicode_utf8_first)], narrowed := true }
def ScriptFormatsUptoSaid : Prop := scriptFormatsUptoRow.holds Tryz.pinned (OpenSpec.upto scriptFormatsSpec)

/-- 'rollbacknetlaw41.ScriptLimits', WHERE WHAT IT READS IS OF BULK AT MOST 1048576: true; the input reads as it did. -/
def scriptLimitsUptoRow : OpenClaim := { program := "ytfinhhblcdkpgaagreatdoor", sum := "518ddc5271120596c397480808356699ea9cfcde259c7d94b0b887ede763f4b7", func := "rollbacknet/rollbacknetlaw41.ScriptLimits", spec := "scriptLimits", inPlace := ["internal/bytealg.CountString", "internal/bytealg.IndexByteString", "internal/bytealg.IndexString", "internal/abi.NoEscape"], unfollowed := true, recurses := true, named := ["unicode/utf8.first", "unicode/utf8.acceptRanges", "internal/bytealg.MaxLen", "rollbacknet/script.names", "strconv.ErrSyntax", "strconv.ErrRange", "internal/strconv.uint64pow10", "math/bits.deBruijn32tab", "math/bits.deBruijn64tab", "rollbacknet/script.words"], apart := false, laid := [("math/bits.deBruijn32tab", laid_math_bits_deBruijn32tab), ("math/bits.deBruijn64tab", laid_math_bits_deBruijn64tab), ("internal/strconv.uint64pow10", laid_internal_strconv_uint64pow10), ("unicode/utf8.acceptRanges", laid_unicode_utf8_acceptRanges), ("strconv.ErrRange", laid_strconv_ErrRange), ("strconv.ErrSyntax", laid_strconv_ErrSyntax), ("rollbacknet/script.words", laid_rollbacknet_script_words), ("rollbacknet/script.names", laid_rollbacknet_script_names), ("unicode/utf8.first", laid_unicode_utf8_first)], narrowed := true }
def ScriptLimitsUptoSaid : Prop := scriptLimitsUptoRow.holds Tryz.pinned (OpenSpec.upto scriptLimitsSpec)

/-- 'rollbacknetlaw41.ScriptRoundTrips', WHERE WHAT IT READS IS OF BULK AT MOST 1048576: true; the input reads as it did. -/
def scriptRoundTripsUptoRow : OpenClaim := { program := "ytfinhhblcdkpgaagreatdoor", sum := "518ddc5271120596c397480808356699ea9cfcde259c7d94b0b887ede763f4b7", func := "rollbacknet/rollbacknetlaw41.ScriptRoundTrips", spec := "scriptRoundTrips", inPlace := ["internal/bytealg.CountString", "internal/bytealg.IndexByteString", "internal/bytealg.IndexString", "internal/abi.NoEscape"], unfollowed := true, recurses := true, named := ["unicode/utf8.first", "unicode/utf8.acceptRanges", "internal/bytealg.MaxLen", "rollbacknet/script.names", "strconv.ErrSyntax", "strconv.ErrRange", "internal/strconv.uint64pow10", "math/bits.deBruijn32tab", "math/bits.deBruijn64tab", "rollbacknet/script.words", "rollbacknet/rollbacknetmake.scalars", "rollbacknet/rollbacknetmake.arrays"], apart := false, laid := [("math/bits.deBruijn32tab", laid_math_bits_deBruijn32tab), ("math/bits.deBruijn64tab", laid_math_bits_deBruijn64tab), ("internal/strconv.uint64pow10", laid_internal_strconv_uint64pow10), ("unicode/utf8.acceptRanges", laid_unicode_utf8_acceptRanges), ("strconv.ErrRange", laid_strconv_ErrRange), ("strconv.ErrSyntax", laid_strconv_ErrSyntax), ("rollbacknet/rollbacknetmake.scalars", laid_rollbacknet_rollbacknetmake_scalars), ("rollbacknet/rollbacknetmake.arrays", laid_rollbacknet_rollbacknetmake_arrays), ("rollbacknet/script.words", laid_rollbacknet_script_words), ("rollbacknet/script.names", laid_rollbacknet_script_names), ("unicode/utf8.first", laid_unicode_utf8_first)], narrowed := true }
def ScriptRoundTripsUptoSaid : Prop := scriptRoundTripsUptoRow.holds Tryz.pinned (OpenSpec.upto scriptRoundTripsSpec)

end Rows
end Go.Proofs.YtfinhhblcdkpgaaGreatDoor
