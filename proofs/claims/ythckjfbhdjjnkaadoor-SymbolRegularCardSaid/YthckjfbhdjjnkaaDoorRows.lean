/-
  NARROWER THAN 'FOR EVERY INPUT', by the rows' own cells (each row's printed sentence says how): SymbolMarkers: laid · SymbolFinds: laid · SymbolSpacing: laid · SymbolDifferences: laid · SymbolStarts: laid · SymbolInverted: laid · SymbolSequences: laid · SymbolTwice: laid · SymbolValues: laid · SymbolRegular: laid · SymbolEnergies: laid · SymbolTurned: laid.
  DERIVED. THE GIVEN ROWS OF THIS SEAT. 12 by the template 'for every input the law returns true; each argument reads behind the call as it read before'; 0 by the template 'total and deterministic' (their statements: YthckjfbhdjjnkaaDoorTotals.lean).
  GIVEN WITH THE SEED: the statements are not yours to turn. If you find one false, say at which input.
  Laid BY PROGRAM, IN A SANDBOX (cutbox-rows.mjs): the forced cells as the released guide's own fill.sh prints them over the translation 1491a9c022acb15e… (all of the seat's roots in one cut). By AI agents, Wed Nov 11 2026. No macro, syntax, notation, axiom, sorry.
-/
import Derived.Test.YthckjfbhdjjnkaaDoorChecked
import GoSem.Claim
import GoSem.ClaimJoined
import GoSem.ClaimMapViews
import Derived.JoinedTies
import Derived.KernelRfl
namespace Go.Proofs.YthckjfbhdjjnkaaDoor
/- THE CELL 'sum', in the pinned program and in every row, IS THE sha256 OF THE DUMP (.gsa) THAT YthckjfbhdjjnkaaDoorProg.lean LOADS. Nothing in Lean hashes anything: it is a label: what it is worth is what the hold of that sum in a sandbox is worth. -/
noncomputable def Tryd.pinned : Pinned := { name := "ythckjfbhdjjnkaadoor", sum := "1491a9c022acb15e738842bb195cd31607c8951993207816d5151741168aed5f", checked := Tryd.checked }
namespace Rows
def none {H : Type} : Left H := { results := [], args := [] }

/- WHAT THE LISTED PACKAGE-LEVEL VARIABLES READ AS WHEN THE CALL BEGINS. Each datum BY PROGRAM (the guide's laid-datum.mjs) off the statement by which the dump's own 'gosem.cut.vars' lays the variable. In a bare row this is a premise. The card (YthckjfbhdjjnkaaDoorCards.lean) ties it to the program's text. -/
def laid_math_bits_deBruijn32tab {H : Type} : DataW H := .agg [.lit (.int .u8 0), .lit (.int .u8 1), .lit (.int .u8 28), .lit (.int .u8 2), .lit (.int .u8 29), .lit (.int .u8 14), .lit (.int .u8 24), .lit (.int .u8 3), .lit (.int .u8 30), .lit (.int .u8 22), .lit (.int .u8 20), .lit (.int .u8 15), .lit (.int .u8 25), .lit (.int .u8 17), .lit (.int .u8 4), .lit (.int .u8 8), .lit (.int .u8 31), .lit (.int .u8 27), .lit (.int .u8 13), .lit (.int .u8 23), .lit (.int .u8 21), .lit (.int .u8 19), .lit (.int .u8 16), .lit (.int .u8 7), .lit (.int .u8 26), .lit (.int .u8 12), .lit (.int .u8 18), .lit (.int .u8 6), .lit (.int .u8 11), .lit (.int .u8 5), .lit (.int .u8 10), .lit (.int .u8 9)]
def laid_math_bits_deBruijn64tab {H : Type} : DataW H := .agg [.lit (.int .u8 0), .lit (.int .u8 1), .lit (.int .u8 56), .lit (.int .u8 2), .lit (.int .u8 57), .lit (.int .u8 49), .lit (.int .u8 28), .lit (.int .u8 3), .lit (.int .u8 61), .lit (.int .u8 58), .lit (.int .u8 42), .lit (.int .u8 50), .lit (.int .u8 38), .lit (.int .u8 29), .lit (.int .u8 17), .lit (.int .u8 4), .lit (.int .u8 62), .lit (.int .u8 47), .lit (.int .u8 59), .lit (.int .u8 36), .lit (.int .u8 45), .lit (.int .u8 43), .lit (.int .u8 51), .lit (.int .u8 22), .lit (.int .u8 53), .lit (.int .u8 39), .lit (.int .u8 33), .lit (.int .u8 30), .lit (.int .u8 24), .lit (.int .u8 18), .lit (.int .u8 12), .lit (.int .u8 5), .lit (.int .u8 63), .lit (.int .u8 55), .lit (.int .u8 48), .lit (.int .u8 27), .lit (.int .u8 60), .lit (.int .u8 41), .lit (.int .u8 37), .lit (.int .u8 16), .lit (.int .u8 46), .lit (.int .u8 35), .lit (.int .u8 44), .lit (.int .u8 21), .lit (.int .u8 52), .lit (.int .u8 32), .lit (.int .u8 23), .lit (.int .u8 11), .lit (.int .u8 54), .lit (.int .u8 26), .lit (.int .u8 40), .lit (.int .u8 15), .lit (.int .u8 34), .lit (.int .u8 20), .lit (.int .u8 31), .lit (.int .u8 10), .lit (.int .u8 25), .lit (.int .u8 14), .lit (.int .u8 19), .lit (.int .u8 9), .lit (.int .u8 13), .lit (.int .u8 8), .lit (.int .u8 7), .lit (.int .u8 6)]
def laid_internal_strconv_uint64pow10 {H : Type} : DataW H := .agg [.lit (.int .u64 1), .lit (.int .u64 10), .lit (.int .u64 100), .lit (.int .u64 1000), .lit (.int .u64 10000), .lit (.int .u64 100000), .lit (.int .u64 1000000), .lit (.int .u64 10000000), .lit (.int .u64 100000000), .lit (.int .u64 1000000000), .lit (.int .u64 10000000000), .lit (.int .u64 100000000000), .lit (.int .u64 1000000000000), .lit (.int .u64 10000000000000), .lit (.int .u64 100000000000000), .lit (.int .u64 1000000000000000), .lit (.int .u64 10000000000000000), .lit (.int .u64 100000000000000000), .lit (.int .u64 1000000000000000000), .lit (.int .u64 10000000000000000000)]

/-- 'cassegrainlaw04.SymbolMarkers': WHATEVER THE INPUT: true; the input reads as it did. -/
def symbolMarkersSpec : ChangeSpec := { name := "symbolMarkers", fn := fun _ => fun
  | [d1, d2, d3] => { results := [.lit (.bool true)], args := [d1, d2, d3] }
  | _ => none }
def symbolMarkersRow : OpenClaim := { program := "ythckjfbhdjjnkaadoor", sum := "1491a9c022acb15e738842bb195cd31607c8951993207816d5151741168aed5f", func := "cassegrain/cassegrainlaw04.SymbolMarkers", spec := "symbolMarkers", inPlace := ["internal/abi.NoEscape", "internal/bytealg.MakeNoZero"], unfollowed := true, recurses := true, named := ["internal/strconv.uint64pow10", "math/bits.deBruijn32tab", "math/bits.deBruijn64tab"], apart := false, laid := [("math/bits.deBruijn32tab", laid_math_bits_deBruijn32tab), ("math/bits.deBruijn64tab", laid_math_bits_deBruijn64tab), ("internal/strconv.uint64pow10", laid_internal_strconv_uint64pow10)] }
def SymbolMarkersSaid : Prop := symbolMarkersRow.holds Tryd.pinned (OpenSpec.ofChange symbolMarkersSpec)

/-- ITS FALSE NEIGHBOUR: 'it returns false'. Refute it at one input. -/
def symbolMarkersWrong : ChangeSpec := { name := "symbolMarkers", fn := fun _ => fun
  | [d1, d2, d3] => { results := [.lit (.bool false)], args := [d1, d2, d3] }
  | _ => none }
def SymbolMarkersWrongFalsely : Prop := symbolMarkersRow.holds Tryd.pinned (OpenSpec.ofChange symbolMarkersWrong)

/-- 'cassegrainlaw04.SymbolFinds': WHATEVER THE INPUT: true; the input reads as it did. -/
def symbolFindsSpec : ChangeSpec := { name := "symbolFinds", fn := fun _ => fun
  | [d1, d2] => { results := [.lit (.bool true)], args := [d1, d2] }
  | _ => none }
def symbolFindsRow : OpenClaim := { program := "ythckjfbhdjjnkaadoor", sum := "1491a9c022acb15e738842bb195cd31607c8951993207816d5151741168aed5f", func := "cassegrain/cassegrainlaw04.SymbolFinds", spec := "symbolFinds", inPlace := ["internal/abi.NoEscape", "internal/bytealg.MakeNoZero"], unfollowed := true, recurses := true, named := ["internal/strconv.uint64pow10", "math/bits.deBruijn32tab", "math/bits.deBruijn64tab"], apart := false, laid := [("math/bits.deBruijn32tab", laid_math_bits_deBruijn32tab), ("math/bits.deBruijn64tab", laid_math_bits_deBruijn64tab), ("internal/strconv.uint64pow10", laid_internal_strconv_uint64pow10)] }
def SymbolFindsSaid : Prop := symbolFindsRow.holds Tryd.pinned (OpenSpec.ofChange symbolFindsSpec)

/-- ITS FALSE NEIGHBOUR: 'it returns false'. Refute it at one input. -/
def symbolFindsWrong : ChangeSpec := { name := "symbolFinds", fn := fun _ => fun
  | [d1, d2] => { results := [.lit (.bool false)], args := [d1, d2] }
  | _ => none }
def SymbolFindsWrongFalsely : Prop := symbolFindsRow.holds Tryd.pinned (OpenSpec.ofChange symbolFindsWrong)

/-- 'cassegrainlaw04.SymbolSpacing': WHATEVER THE INPUT: true; the input reads as it did. -/
def symbolSpacingSpec : ChangeSpec := { name := "symbolSpacing", fn := fun _ => fun
  | [d1, d2] => { results := [.lit (.bool true)], args := [d1, d2] }
  | _ => none }
def symbolSpacingRow : OpenClaim := { program := "ythckjfbhdjjnkaadoor", sum := "1491a9c022acb15e738842bb195cd31607c8951993207816d5151741168aed5f", func := "cassegrain/cassegrainlaw04.SymbolSpacing", spec := "symbolSpacing", inPlace := ["internal/abi.NoEscape", "internal/bytealg.MakeNoZero"], unfollowed := true, recurses := true, named := ["internal/strconv.uint64pow10", "math/bits.deBruijn32tab", "math/bits.deBruijn64tab"], apart := false, laid := [("math/bits.deBruijn32tab", laid_math_bits_deBruijn32tab), ("math/bits.deBruijn64tab", laid_math_bits_deBruijn64tab), ("internal/strconv.uint64pow10", laid_internal_strconv_uint64pow10)] }
def SymbolSpacingSaid : Prop := symbolSpacingRow.holds Tryd.pinned (OpenSpec.ofChange symbolSpacingSpec)

/-- ITS FALSE NEIGHBOUR: 'it returns false'. Refute it at one input. -/
def symbolSpacingWrong : ChangeSpec := { name := "symbolSpacing", fn := fun _ => fun
  | [d1, d2] => { results := [.lit (.bool false)], args := [d1, d2] }
  | _ => none }
def SymbolSpacingWrongFalsely : Prop := symbolSpacingRow.holds Tryd.pinned (OpenSpec.ofChange symbolSpacingWrong)

/-- 'cassegrainlaw04.SymbolDifferences': WHATEVER THE INPUT: true; the input reads as it did. -/
def symbolDifferencesSpec : ChangeSpec := { name := "symbolDifferences", fn := fun _ => fun
  | [d1, d2] => { results := [.lit (.bool true)], args := [d1, d2] }
  | _ => none }
def symbolDifferencesRow : OpenClaim := { program := "ythckjfbhdjjnkaadoor", sum := "1491a9c022acb15e738842bb195cd31607c8951993207816d5151741168aed5f", func := "cassegrain/cassegrainlaw04.SymbolDifferences", spec := "symbolDifferences", inPlace := ["internal/abi.NoEscape", "internal/bytealg.MakeNoZero"], unfollowed := true, recurses := true, named := ["internal/strconv.uint64pow10", "math/bits.deBruijn32tab", "math/bits.deBruijn64tab"], apart := false, laid := [("math/bits.deBruijn32tab", laid_math_bits_deBruijn32tab), ("math/bits.deBruijn64tab", laid_math_bits_deBruijn64tab), ("internal/strconv.uint64pow10", laid_internal_strconv_uint64pow10)] }
def SymbolDifferencesSaid : Prop := symbolDifferencesRow.holds Tryd.pinned (OpenSpec.ofChange symbolDifferencesSpec)

/-- ITS FALSE NEIGHBOUR: 'it returns false'. Refute it at one input. -/
def symbolDifferencesWrong : ChangeSpec := { name := "symbolDifferences", fn := fun _ => fun
  | [d1, d2] => { results := [.lit (.bool false)], args := [d1, d2] }
  | _ => none }
def SymbolDifferencesWrongFalsely : Prop := symbolDifferencesRow.holds Tryd.pinned (OpenSpec.ofChange symbolDifferencesWrong)

/-- 'cassegrainlaw04.SymbolStarts': WHATEVER THE INPUT: true; the input reads as it did. -/
def symbolStartsSpec : ChangeSpec := { name := "symbolStarts", fn := fun _ => fun
  | [d1, d2] => { results := [.lit (.bool true)], args := [d1, d2] }
  | _ => none }
def symbolStartsRow : OpenClaim := { program := "ythckjfbhdjjnkaadoor", sum := "1491a9c022acb15e738842bb195cd31607c8951993207816d5151741168aed5f", func := "cassegrain/cassegrainlaw04.SymbolStarts", spec := "symbolStarts", inPlace := ["internal/abi.NoEscape", "internal/bytealg.MakeNoZero"], unfollowed := true, recurses := true, named := ["internal/strconv.uint64pow10", "math/bits.deBruijn32tab", "math/bits.deBruijn64tab"], apart := false, laid := [("math/bits.deBruijn32tab", laid_math_bits_deBruijn32tab), ("math/bits.deBruijn64tab", laid_math_bits_deBruijn64tab), ("internal/strconv.uint64pow10", laid_internal_strconv_uint64pow10)] }
def SymbolStartsSaid : Prop := symbolStartsRow.holds Tryd.pinned (OpenSpec.ofChange symbolStartsSpec)

/-- ITS FALSE NEIGHBOUR: 'it returns false'. Refute it at one input. -/
def symbolStartsWrong : ChangeSpec := { name := "symbolStarts", fn := fun _ => fun
  | [d1, d2] => { results := [.lit (.bool false)], args := [d1, d2] }
  | _ => none }
def SymbolStartsWrongFalsely : Prop := symbolStartsRow.holds Tryd.pinned (OpenSpec.ofChange symbolStartsWrong)

/-- 'cassegrainlaw04.SymbolInverted': WHATEVER THE INPUT: true; the input reads as it did. -/
def symbolInvertedSpec : ChangeSpec := { name := "symbolInverted", fn := fun _ => fun
  | [d1, d2] => { results := [.lit (.bool true)], args := [d1, d2] }
  | _ => none }
def symbolInvertedRow : OpenClaim := { program := "ythckjfbhdjjnkaadoor", sum := "1491a9c022acb15e738842bb195cd31607c8951993207816d5151741168aed5f", func := "cassegrain/cassegrainlaw04.SymbolInverted", spec := "symbolInverted", inPlace := ["internal/abi.NoEscape", "internal/bytealg.MakeNoZero"], unfollowed := true, recurses := true, named := ["internal/strconv.uint64pow10", "math/bits.deBruijn32tab", "math/bits.deBruijn64tab"], apart := false, laid := [("math/bits.deBruijn32tab", laid_math_bits_deBruijn32tab), ("math/bits.deBruijn64tab", laid_math_bits_deBruijn64tab), ("internal/strconv.uint64pow10", laid_internal_strconv_uint64pow10)] }
def SymbolInvertedSaid : Prop := symbolInvertedRow.holds Tryd.pinned (OpenSpec.ofChange symbolInvertedSpec)

/-- ITS FALSE NEIGHBOUR: 'it returns false'. Refute it at one input. -/
def symbolInvertedWrong : ChangeSpec := { name := "symbolInverted", fn := fun _ => fun
  | [d1, d2] => { results := [.lit (.bool false)], args := [d1, d2] }
  | _ => none }
def SymbolInvertedWrongFalsely : Prop := symbolInvertedRow.holds Tryd.pinned (OpenSpec.ofChange symbolInvertedWrong)

/-- 'cassegrainlaw04.SymbolSequences': WHATEVER THE INPUT: true; the input reads as it did. -/
def symbolSequencesSpec : ChangeSpec := { name := "symbolSequences", fn := fun _ => fun
  | [d1, d2, d3] => { results := [.lit (.bool true)], args := [d1, d2, d3] }
  | _ => none }
def symbolSequencesRow : OpenClaim := { program := "ythckjfbhdjjnkaadoor", sum := "1491a9c022acb15e738842bb195cd31607c8951993207816d5151741168aed5f", func := "cassegrain/cassegrainlaw04.SymbolSequences", spec := "symbolSequences", inPlace := ["internal/abi.NoEscape", "internal/bytealg.MakeNoZero"], unfollowed := true, recurses := true, named := ["internal/strconv.uint64pow10", "math/bits.deBruijn32tab", "math/bits.deBruijn64tab"], apart := false, laid := [("math/bits.deBruijn32tab", laid_math_bits_deBruijn32tab), ("math/bits.deBruijn64tab", laid_math_bits_deBruijn64tab), ("internal/strconv.uint64pow10", laid_internal_strconv_uint64pow10)] }
def SymbolSequencesSaid : Prop := symbolSequencesRow.holds Tryd.pinned (OpenSpec.ofChange symbolSequencesSpec)

/-- ITS FALSE NEIGHBOUR: 'it returns false'. Refute it at one input. -/
def symbolSequencesWrong : ChangeSpec := { name := "symbolSequences", fn := fun _ => fun
  | [d1, d2, d3] => { results := [.lit (.bool false)], args := [d1, d2, d3] }
  | _ => none }
def SymbolSequencesWrongFalsely : Prop := symbolSequencesRow.holds Tryd.pinned (OpenSpec.ofChange symbolSequencesWrong)

/-- 'cassegrainlaw04.SymbolTwice': WHATEVER THE INPUT: true; the input reads as it did. -/
def symbolTwiceSpec : ChangeSpec := { name := "symbolTwice", fn := fun _ => fun
  | [d1, d2, d3] => { results := [.lit (.bool true)], args := [d1, d2, d3] }
  | _ => none }
def symbolTwiceRow : OpenClaim := { program := "ythckjfbhdjjnkaadoor", sum := "1491a9c022acb15e738842bb195cd31607c8951993207816d5151741168aed5f", func := "cassegrain/cassegrainlaw04.SymbolTwice", spec := "symbolTwice", inPlace := ["internal/abi.NoEscape", "internal/bytealg.MakeNoZero"], unfollowed := true, recurses := true, named := ["internal/strconv.uint64pow10", "math/bits.deBruijn32tab", "math/bits.deBruijn64tab"], apart := false, laid := [("math/bits.deBruijn32tab", laid_math_bits_deBruijn32tab), ("math/bits.deBruijn64tab", laid_math_bits_deBruijn64tab), ("internal/strconv.uint64pow10", laid_internal_strconv_uint64pow10)] }
def SymbolTwiceSaid : Prop := symbolTwiceRow.holds Tryd.pinned (OpenSpec.ofChange symbolTwiceSpec)

/-- ITS FALSE NEIGHBOUR: 'it returns false'. Refute it at one input. -/
def symbolTwiceWrong : ChangeSpec := { name := "symbolTwice", fn := fun _ => fun
  | [d1, d2, d3] => { results := [.lit (.bool false)], args := [d1, d2, d3] }
  | _ => none }
def SymbolTwiceWrongFalsely : Prop := symbolTwiceRow.holds Tryd.pinned (OpenSpec.ofChange symbolTwiceWrong)

/-- 'cassegrainlaw04.SymbolValues': WHATEVER THE INPUT: true; the input reads as it did. -/
def symbolValuesSpec : ChangeSpec := { name := "symbolValues", fn := fun _ => fun
  | [d1, d2, d3] => { results := [.lit (.bool true)], args := [d1, d2, d3] }
  | _ => none }
def symbolValuesRow : OpenClaim := { program := "ythckjfbhdjjnkaadoor", sum := "1491a9c022acb15e738842bb195cd31607c8951993207816d5151741168aed5f", func := "cassegrain/cassegrainlaw04.SymbolValues", spec := "symbolValues", inPlace := ["internal/abi.NoEscape", "internal/bytealg.MakeNoZero"], unfollowed := true, recurses := true, named := ["internal/strconv.uint64pow10", "math/bits.deBruijn32tab", "math/bits.deBruijn64tab"], apart := false, laid := [("math/bits.deBruijn32tab", laid_math_bits_deBruijn32tab), ("math/bits.deBruijn64tab", laid_math_bits_deBruijn64tab), ("internal/strconv.uint64pow10", laid_internal_strconv_uint64pow10)] }
def SymbolValuesSaid : Prop := symbolValuesRow.holds Tryd.pinned (OpenSpec.ofChange symbolValuesSpec)

/-- ITS FALSE NEIGHBOUR: 'it returns false'. Refute it at one input. -/
def symbolValuesWrong : ChangeSpec := { name := "symbolValues", fn := fun _ => fun
  | [d1, d2, d3] => { results := [.lit (.bool false)], args := [d1, d2, d3] }
  | _ => none }
def SymbolValuesWrongFalsely : Prop := symbolValuesRow.holds Tryd.pinned (OpenSpec.ofChange symbolValuesWrong)

/-- 'cassegrainlaw04.SymbolRegular': WHATEVER THE INPUT: true; the input reads as it did. -/
def symbolRegularSpec : ChangeSpec := { name := "symbolRegular", fn := fun _ => fun
  | [d1, d2, d3] => { results := [.lit (.bool true)], args := [d1, d2, d3] }
  | _ => none }
def symbolRegularRow : OpenClaim := { program := "ythckjfbhdjjnkaadoor", sum := "1491a9c022acb15e738842bb195cd31607c8951993207816d5151741168aed5f", func := "cassegrain/cassegrainlaw04.SymbolRegular", spec := "symbolRegular", inPlace := ["internal/abi.NoEscape", "internal/bytealg.MakeNoZero"], unfollowed := true, recurses := true, named := ["internal/strconv.uint64pow10", "math/bits.deBruijn32tab", "math/bits.deBruijn64tab"], apart := false, laid := [("math/bits.deBruijn32tab", laid_math_bits_deBruijn32tab), ("math/bits.deBruijn64tab", laid_math_bits_deBruijn64tab), ("internal/strconv.uint64pow10", laid_internal_strconv_uint64pow10)] }
def SymbolRegularSaid : Prop := symbolRegularRow.holds Tryd.pinned (OpenSpec.ofChange symbolRegularSpec)

/-- ITS FALSE NEIGHBOUR: 'it returns false'. Refute it at one input. -/
def symbolRegularWrong : ChangeSpec := { name := "symbolRegular", fn := fun _ => fun
  | [d1, d2, d3] => { results := [.lit (.bool false)], args := [d1, d2, d3] }
  | _ => none }
def SymbolRegularWrongFalsely : Prop := symbolRegularRow.holds Tryd.pinned (OpenSpec.ofChange symbolRegularWrong)

/-- 'cassegrainlaw04.SymbolEnergies': WHATEVER THE INPUT: true; the input reads as it did. -/
def symbolEnergiesSpec : ChangeSpec := { name := "symbolEnergies", fn := fun _ => fun
  | [d1, d2, d3] => { results := [.lit (.bool true)], args := [d1, d2, d3] }
  | _ => none }
def symbolEnergiesRow : OpenClaim := { program := "ythckjfbhdjjnkaadoor", sum := "1491a9c022acb15e738842bb195cd31607c8951993207816d5151741168aed5f", func := "cassegrain/cassegrainlaw04.SymbolEnergies", spec := "symbolEnergies", inPlace := ["internal/abi.NoEscape", "internal/bytealg.MakeNoZero"], unfollowed := true, recurses := true, named := ["internal/strconv.uint64pow10", "math/bits.deBruijn32tab", "math/bits.deBruijn64tab"], apart := false, laid := [("math/bits.deBruijn32tab", laid_math_bits_deBruijn32tab), ("math/bits.deBruijn64tab", laid_math_bits_deBruijn64tab), ("internal/strconv.uint64pow10", laid_internal_strconv_uint64pow10)] }
def SymbolEnergiesSaid : Prop := symbolEnergiesRow.holds Tryd.pinned (OpenSpec.ofChange symbolEnergiesSpec)

/-- ITS FALSE NEIGHBOUR: 'it returns false'. Refute it at one input. -/
def symbolEnergiesWrong : ChangeSpec := { name := "symbolEnergies", fn := fun _ => fun
  | [d1, d2, d3] => { results := [.lit (.bool false)], args := [d1, d2, d3] }
  | _ => none }
def SymbolEnergiesWrongFalsely : Prop := symbolEnergiesRow.holds Tryd.pinned (OpenSpec.ofChange symbolEnergiesWrong)

/-- 'cassegrainlaw04.SymbolTurned': WHATEVER THE INPUT: true; the input reads as it did. -/
def symbolTurnedSpec : ChangeSpec := { name := "symbolTurned", fn := fun _ => fun
  | [d1, d2, d3] => { results := [.lit (.bool true)], args := [d1, d2, d3] }
  | _ => none }
def symbolTurnedRow : OpenClaim := { program := "ythckjfbhdjjnkaadoor", sum := "1491a9c022acb15e738842bb195cd31607c8951993207816d5151741168aed5f", func := "cassegrain/cassegrainlaw04.SymbolTurned", spec := "symbolTurned", inPlace := ["internal/abi.NoEscape", "internal/bytealg.MakeNoZero"], unfollowed := true, recurses := true, named := ["internal/strconv.uint64pow10", "math/bits.deBruijn32tab", "math/bits.deBruijn64tab"], apart := false, laid := [("math/bits.deBruijn32tab", laid_math_bits_deBruijn32tab), ("math/bits.deBruijn64tab", laid_math_bits_deBruijn64tab), ("internal/strconv.uint64pow10", laid_internal_strconv_uint64pow10)] }
def SymbolTurnedSaid : Prop := symbolTurnedRow.holds Tryd.pinned (OpenSpec.ofChange symbolTurnedSpec)

/-- ITS FALSE NEIGHBOUR: 'it returns false'. Refute it at one input. -/
def symbolTurnedWrong : ChangeSpec := { name := "symbolTurned", fn := fun _ => fun
  | [d1, d2, d3] => { results := [.lit (.bool false)], args := [d1, d2, d3] }
  | _ => none }
def SymbolTurnedWrongFalsely : Prop := symbolTurnedRow.holds Tryd.pinned (OpenSpec.ofChange symbolTurnedWrong)

/- THE SECOND FORM. 'bulk': how many values and letters a reading holds, each counted each time it is reached (what is shared counts as often as it is met; a slice's spare places count too). A statement '..UptoSaid' is the law's where the arguments, and the package variables that the reading takes, are together of bulk at most 1048576: NARROWER than '..Said'. Prove '..Said' where nothing that the law and all that it calls make is longer than what came in: it says more and counts as full. Else prove '..UptoSaid'. A law counts once. -/
mutual
def uptoBulk {H : Type} : DataW H → Nat
  | .lit (.string bytes) => bytes.length + 1
  | .lit _ => 1
  | .nil => 1
  | .ptr d => uptoBulk d + 1
  | .slice elems spare => uptoBulkAll elems + uptoBulkAll spare + 1
  | .agg parts => uptoBulkAll parts + 1
  | .iface _ d => uptoBulk d + 1
  | .map entries => uptoBulkEntries entries + 1
  | .held _ => 1
def uptoBulkAll {H : Type} : List (DataW H) → Nat
  | [] => 0
  | d :: r => uptoBulk d + uptoBulkAll r
def uptoBulkEntries {H : Type} : List (Lit × DataW H) → Nat
  | [] => 0
  | x :: r => uptoBulkEntry x + uptoBulkEntries r
def uptoBulkEntry {H : Type} : Lit × DataW H → Nat
  | (.string bytes, d) => bytes.length + uptoBulk d + 1
  | (_, d) => uptoBulk d + 1
 end
def uptoSmall : (H : Type) → List (DataW H) → Bool := fun _ ds => decide (uptoBulkAll ds ≤ 1048576)
def OpenSpec.upto (s : _root_.Go.ChangeSpec) : _root_.Go.OpenSpec := { _root_.Go.OpenSpec.ofChange s with cond := some uptoSmall }

/-- 'cassegrainlaw04.SymbolMarkers', WHERE WHAT IT READS IS OF BULK AT MOST 1048576: true; the input reads as it did. -/
def symbolMarkersUptoRow : OpenClaim := { program := "ythckjfbhdjjnkaadoor", sum := "1491a9c022acb15e738842bb195cd31607c8951993207816d5151741168aed5f", func := "cassegrain/cassegrainlaw04.SymbolMarkers", spec := "symbolMarkers", inPlace := ["internal/abi.NoEscape", "internal/bytealg.MakeNoZero"], unfollowed := true, recurses := true, named := ["internal/strconv.uint64pow10", "math/bits.deBruijn32tab", "math/bits.deBruijn64tab"], apart := false, laid := [("math/bits.deBruijn32tab", laid_math_bits_deBruijn32tab), ("math/bits.deBruijn64tab", laid_math_bits_deBruijn64tab), ("internal/strconv.uint64pow10", laid_internal_strconv_uint64pow10)], narrowed := true }
def SymbolMarkersUptoSaid : Prop := symbolMarkersUptoRow.holds Tryd.pinned (OpenSpec.upto symbolMarkersSpec)

/-- 'cassegrainlaw04.SymbolFinds', WHERE WHAT IT READS IS OF BULK AT MOST 1048576: true; the input reads as it did. -/
def symbolFindsUptoRow : OpenClaim := { program := "ythckjfbhdjjnkaadoor", sum := "1491a9c022acb15e738842bb195cd31607c8951993207816d5151741168aed5f", func := "cassegrain/cassegrainlaw04.SymbolFinds", spec := "symbolFinds", inPlace := ["internal/abi.NoEscape", "internal/bytealg.MakeNoZero"], unfollowed := true, recurses := true, named := ["internal/strconv.uint64pow10", "math/bits.deBruijn32tab", "math/bits.deBruijn64tab"], apart := false, laid := [("math/bits.deBruijn32tab", laid_math_bits_deBruijn32tab), ("math/bits.deBruijn64tab", laid_math_bits_deBruijn64tab), ("internal/strconv.uint64pow10", laid_internal_strconv_uint64pow10)], narrowed := true }
def SymbolFindsUptoSaid : Prop := symbolFindsUptoRow.holds Tryd.pinned (OpenSpec.upto symbolFindsSpec)

/-- 'cassegrainlaw04.SymbolSpacing', WHERE WHAT IT READS IS OF BULK AT MOST 1048576: true; the input reads as it did. -/
def symbolSpacingUptoRow : OpenClaim := { program := "ythckjfbhdjjnkaadoor", sum := "1491a9c022acb15e738842bb195cd31607c8951993207816d5151741168aed5f", func := "cassegrain/cassegrainlaw04.SymbolSpacing", spec := "symbolSpacing", inPlace := ["internal/abi.NoEscape", "internal/bytealg.MakeNoZero"], unfollowed := true, recurses := true, named := ["internal/strconv.uint64pow10", "math/bits.deBruijn32tab", "math/bits.deBruijn64tab"], apart := false, laid := [("math/bits.deBruijn32tab", laid_math_bits_deBruijn32tab), ("math/bits.deBruijn64tab", laid_math_bits_deBruijn64tab), ("internal/strconv.uint64pow10", laid_internal_strconv_uint64pow10)], narrowed := true }
def SymbolSpacingUptoSaid : Prop := symbolSpacingUptoRow.holds Tryd.pinned (OpenSpec.upto symbolSpacingSpec)

/-- 'cassegrainlaw04.SymbolDifferences', WHERE WHAT IT READS IS OF BULK AT MOST 1048576: true; the input reads as it did. -/
def symbolDifferencesUptoRow : OpenClaim := { program := "ythckjfbhdjjnkaadoor", sum := "1491a9c022acb15e738842bb195cd31607c8951993207816d5151741168aed5f", func := "cassegrain/cassegrainlaw04.SymbolDifferences", spec := "symbolDifferences", inPlace := ["internal/abi.NoEscape", "internal/bytealg.MakeNoZero"], unfollowed := true, recurses := true, named := ["internal/strconv.uint64pow10", "math/bits.deBruijn32tab", "math/bits.deBruijn64tab"], apart := false, laid := [("math/bits.deBruijn32tab", laid_math_bits_deBruijn32tab), ("math/bits.deBruijn64tab", laid_math_bits_deBruijn64tab), ("internal/strconv.uint64pow10", laid_internal_strconv_uint64pow10)], narrowed := true }
def SymbolDifferencesUptoSaid : Prop := symbolDifferencesUptoRow.holds Tryd.pinned (OpenSpec.upto symbolDifferencesSpec)

/-- 'cassegrainlaw04.SymbolStarts', WHERE WHAT IT READS IS OF BULK AT MOST 1048576: true; the input reads as it did. -/
def symbolStartsUptoRow : OpenClaim := { program := "ythckjfbhdjjnkaadoor", sum := "1491a9c022acb15e738842bb195cd31607c8951993207816d5151741168aed5f", func := "cassegrain/cassegrainlaw04.SymbolStarts", spec := "symbolStarts", inPlace := ["internal/abi.NoEscape", "internal/bytealg.MakeNoZero"], unfollowed := true, recurses := true, named := ["internal/strconv.uint64pow10", "math/bits.deBruijn32tab", "math/bits.deBruijn64tab"], apart := false, laid := [("math/bits.deBruijn32tab", laid_math_bits_deBruijn32tab), ("math/bits.deBruijn64tab", laid_math_bits_deBruijn64tab), ("internal/strconv.uint64pow10", laid_internal_strconv_uint64pow10)], narrowed := true }
def SymbolStartsUptoSaid : Prop := symbolStartsUptoRow.holds Tryd.pinned (OpenSpec.upto symbolStartsSpec)

/-- 'cassegrainlaw04.SymbolInverted', WHERE WHAT IT READS IS OF BULK AT MOST 1048576: true; the input reads as it did. -/
def symbolInvertedUptoRow : OpenClaim := { program := "ythckjfbhdjjnkaadoor", sum := "1491a9c022acb15e738842bb195cd31607c8951993207816d5151741168aed5f", func := "cassegrain/cassegrainlaw04.SymbolInverted", spec := "symbolInverted", inPlace := ["internal/abi.NoEscape", "internal/bytealg.MakeNoZero"], unfollowed := true, recurses := true, named := ["internal/strconv.uint64pow10", "math/bits.deBruijn32tab", "math/bits.deBruijn64tab"], apart := false, laid := [("math/bits.deBruijn32tab", laid_math_bits_deBruijn32tab), ("math/bits.deBruijn64tab", laid_math_bits_deBruijn64tab), ("internal/strconv.uint64pow10", laid_internal_strconv_uint64pow10)], narrowed := true }
def SymbolInvertedUptoSaid : Prop := symbolInvertedUptoRow.holds Tryd.pinned (OpenSpec.upto symbolInvertedSpec)

/-- 'cassegrainlaw04.SymbolSequences', WHERE WHAT IT READS IS OF BULK AT MOST 1048576: true; the input reads as it did. -/
def symbolSequencesUptoRow : OpenClaim := { program := "ythckjfbhdjjnkaadoor", sum := "1491a9c022acb15e738842bb195cd31607c8951993207816d5151741168aed5f", func := "cassegrain/cassegrainlaw04.SymbolSequences", spec := "symbolSequences", inPlace := ["internal/abi.NoEscape", "internal/bytealg.MakeNoZero"], unfollowed := true, recurses := true, named := ["internal/strconv.uint64pow10", "math/bits.deBruijn32tab", "math/bits.deBruijn64tab"], apart := false, laid := [("math/bits.deBruijn32tab", laid_math_bits_deBruijn32tab), ("math/bits.deBruijn64tab", laid_math_bits_deBruijn64tab), ("internal/strconv.uint64pow10", laid_internal_strconv_uint64pow10)], narrowed := true }
def SymbolSequencesUptoSaid : Prop := symbolSequencesUptoRow.holds Tryd.pinned (OpenSpec.upto symbolSequencesSpec)

/-- 'cassegrainlaw04.SymbolTwice', WHERE WHAT IT READS IS OF BULK AT MOST 1048576: true; the input reads as it did. -/
def symbolTwiceUptoRow : OpenClaim := { program := "ythckjfbhdjjnkaadoor", sum := "1491a9c022acb15e738842bb195cd31607c8951993207816d5151741168aed5f", func := "cassegrain/cassegrainlaw04.SymbolTwice", spec := "symbolTwice", inPlace := ["internal/abi.NoEscape", "internal/bytealg.MakeNoZero"], unfollowed := true, recurses := true, named := ["internal/strconv.uint64pow10", "math/bits.deBruijn32tab", "math/bits.deBruijn64tab"], apart := false, laid := [("math/bits.deBruijn32tab", laid_math_bits_deBruijn32tab), ("math/bits.deBruijn64tab", laid_math_bits_deBruijn64tab), ("internal/strconv.uint64pow10", laid_internal_strconv_uint64pow10)], narrowed := true }
def SymbolTwiceUptoSaid : Prop := symbolTwiceUptoRow.holds Tryd.pinned (OpenSpec.upto symbolTwiceSpec)

/-- 'cassegrainlaw04.SymbolValues', WHERE WHAT IT READS IS OF BULK AT MOST 1048576: true; the input reads as it did. -/
def symbolValuesUptoRow : OpenClaim := { program := "ythckjfbhdjjnkaadoor", sum := "1491a9c022acb15e738842bb195cd31607c8951993207816d5151741168aed5f", func := "cassegrain/cassegrainlaw04.SymbolValues", spec := "symbolValues", inPlace := ["internal/abi.NoEscape", "internal/bytealg.MakeNoZero"], unfollowed := true, recurses := true, named := ["internal/strconv.uint64pow10", "math/bits.deBruijn32tab", "math/bits.deBruijn64tab"], apart := false, laid := [("math/bits.deBruijn32tab", laid_math_bits_deBruijn32tab), ("math/bits.deBruijn64tab", laid_math_bits_deBruijn64tab), ("internal/strconv.uint64pow10", laid_internal_strconv_uint64pow10)], narrowed := true }
def SymbolValuesUptoSaid : Prop := symbolValuesUptoRow.holds Tryd.pinned (OpenSpec.upto symbolValuesSpec)

/-- 'cassegrainlaw04.SymbolRegular', WHERE WHAT IT READS IS OF BULK AT MOST 1048576: true; the input reads as it did. -/
def symbolRegularUptoRow : OpenClaim := { program := "ythckjfbhdjjnkaadoor", sum := "1491a9c022acb15e738842bb195cd31607c8951993207816d5151741168aed5f", func := "cassegrain/cassegrainlaw04.SymbolRegular", spec := "symbolRegular", inPlace := ["internal/abi.NoEscape", "internal/bytealg.MakeNoZero"], unfollowed := true, recurses := true, named := ["internal/strconv.uint64pow10", "math/bits.deBruijn32tab", "math/bits.deBruijn64tab"], apart := false, laid := [("math/bits.deBruijn32tab", laid_math_bits_deBruijn32tab), ("math/bits.deBruijn64tab", laid_math_bits_deBruijn64tab), ("internal/strconv.uint64pow10", laid_internal_strconv_uint64pow10)], narrowed := true }
def SymbolRegularUptoSaid : Prop := symbolRegularUptoRow.holds Tryd.pinned (OpenSpec.upto symbolRegularSpec)

/-- 'cassegrainlaw04.SymbolEnergies', WHERE WHAT IT READS IS OF BULK AT MOST 1048576: true; the input reads as it did. -/
def symbolEnergiesUptoRow : OpenClaim := { program := "ythckjfbhdjjnkaadoor", sum := "1491a9c022acb15e738842bb195cd31607c8951993207816d5151741168aed5f", func := "cassegrain/cassegrainlaw04.SymbolEnergies", spec := "symbolEnergies", inPlace := ["internal/abi.NoEscape", "internal/bytealg.MakeNoZero"], unfollowed := true, recurses := true, named := ["internal/strconv.uint64pow10", "math/bits.deBruijn32tab", "math/bits.deBruijn64tab"], apart := false, laid := [("math/bits.deBruijn32tab", laid_math_bits_deBruijn32tab), ("math/bits.deBruijn64tab", laid_math_bits_deBruijn64tab), ("internal/strconv.uint64pow10", laid_internal_strconv_uint64pow10)], narrowed := true }
def SymbolEnergiesUptoSaid : Prop := symbolEnergiesUptoRow.holds Tryd.pinned (OpenSpec.upto symbolEnergiesSpec)

/-- 'cassegrainlaw04.SymbolTurned', WHERE WHAT IT READS IS OF BULK AT MOST 1048576: true; the input reads as it did. -/
def symbolTurnedUptoRow : OpenClaim := { program := "ythckjfbhdjjnkaadoor", sum := "1491a9c022acb15e738842bb195cd31607c8951993207816d5151741168aed5f", func := "cassegrain/cassegrainlaw04.SymbolTurned", spec := "symbolTurned", inPlace := ["internal/abi.NoEscape", "internal/bytealg.MakeNoZero"], unfollowed := true, recurses := true, named := ["internal/strconv.uint64pow10", "math/bits.deBruijn32tab", "math/bits.deBruijn64tab"], apart := false, laid := [("math/bits.deBruijn32tab", laid_math_bits_deBruijn32tab), ("math/bits.deBruijn64tab", laid_math_bits_deBruijn64tab), ("internal/strconv.uint64pow10", laid_internal_strconv_uint64pow10)], narrowed := true }
def SymbolTurnedUptoSaid : Prop := symbolTurnedUptoRow.holds Tryd.pinned (OpenSpec.upto symbolTurnedSpec)

end Rows
end Go.Proofs.YthckjfbhdjjnkaaDoor
