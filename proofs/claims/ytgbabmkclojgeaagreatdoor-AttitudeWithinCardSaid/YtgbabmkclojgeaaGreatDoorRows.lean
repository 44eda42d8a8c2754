/-
  NARROWER THAN 'FOR EVERY INPUT', by the rows' own cells (each row's printed sentence says how): AttitudeUnit: laid · VectorComputes: laid · VectorPlanes: laid · AttitudeMirrors: laid · VectorRanges: laid · AttitudeFrames: laid · AttitudeTurns: laid · AttitudeReturns: laid · AttitudeExtents: laid · AttitudeWithin: laid.
  DERIVED. THE GIVEN ROWS OF THIS SEAT. 10 by the template 'for every input the law returns true; each argument reads behind the call as it read before'; 0 by the template 'total and deterministic' (their statements: YtgbabmkclojgeaaGreatDoorTotals.lean).
  GIVEN WITH THE SEED: the statements are not yours to turn. If you find one false, say at which input.
  Laid BY PROGRAM, IN A SANDBOX (cutbox-rows.mjs): the forced cells as the released guide's own fill.sh prints them over the translation 354628077b474410… (all of the seat's roots in one cut). By AI agents, Wed Nov 11 2026. No macro, syntax, notation, axiom, sorry.
-/
import Derived.Test.YtgbabmkclojgeaaGreatDoorChecked
import GoSem.Claim
import GoSem.ClaimJoined
import GoSem.ClaimMapViews
import Derived.JoinedTies
import Derived.KernelRfl
namespace Go.Proofs.YtgbabmkclojgeaaGreatDoor
/- THE CELL 'sum', in the pinned program and in every row, IS THE sha256 OF THE DUMP (.gsa) THAT YtgbabmkclojgeaaGreatDoorProg.lean LOADS. Nothing in Lean hashes anything: it is a label: what it is worth is what the hold of that sum in a sandbox is worth. -/
noncomputable def Tryz.pinned : Pinned := { name := "ytgbabmkclojgeaagreatdoor", sum := "354628077b474410e6dbd1515463c6d1847ba02cae998249f7e42e2cb4a1a9b6", checked := Tryz.checked }
namespace Rows
def none {H : Type} : Left H := { results := [], args := [] }

/- WHAT THE LISTED PACKAGE-LEVEL VARIABLES READ AS WHEN THE CALL BEGINS. Each datum BY PROGRAM (the guide's laid-datum.mjs) off the statement by which the dump's own 'gosem.cut.vars' lays the variable. In a bare row this is a premise. The card (YtgbabmkclojgeaaGreatDoorCards.lean) ties it to the program's text. -/
def laid_math_bits_deBruijn32tab {H : Type} : DataW H := .agg [.lit (.int .u8 0), .lit (.int .u8 1), .lit (.int .u8 28), .lit (.int .u8 2), .lit (.int .u8 29), .lit (.int .u8 14), .lit (.int .u8 24), .lit (.int .u8 3), .lit (.int .u8 30), .lit (.int .u8 22), .lit (.int .u8 20), .lit (.int .u8 15), .lit (.int .u8 25), .lit (.int .u8 17), .lit (.int .u8 4), .lit (.int .u8 8), .lit (.int .u8 31), .lit (.int .u8 27), .lit (.int .u8 13), .lit (.int .u8 23), .lit (.int .u8 21), .lit (.int .u8 19), .lit (.int .u8 16), .lit (.int .u8 7), .lit (.int .u8 26), .lit (.int .u8 12), .lit (.int .u8 18), .lit (.int .u8 6), .lit (.int .u8 11), .lit (.int .u8 5), .lit (.int .u8 10), .lit (.int .u8 9)]
def laid_math_bits_deBruijn64tab {H : Type} : DataW H := .agg [.lit (.int .u8 0), .lit (.int .u8 1), .lit (.int .u8 56), .lit (.int .u8 2), .lit (.int .u8 57), .lit (.int .u8 49), .lit (.int .u8 28), .lit (.int .u8 3), .lit (.int .u8 61), .lit (.int .u8 58), .lit (.int .u8 42), .lit (.int .u8 50), .lit (.int .u8 38), .lit (.int .u8 29), .lit (.int .u8 17), .lit (.int .u8 4), .lit (.int .u8 62), .lit (.int .u8 47), .lit (.int .u8 59), .lit (.int .u8 36), .lit (.int .u8 45), .lit (.int .u8 43), .lit (.int .u8 51), .lit (.int .u8 22), .lit (.int .u8 53), .lit (.int .u8 39), .lit (.int .u8 33), .lit (.int .u8 30), .lit (.int .u8 24), .lit (.int .u8 18), .lit (.int .u8 12), .lit (.int .u8 5), .lit (.int .u8 63), .lit (.int .u8 55), .lit (.int .u8 48), .lit (.int .u8 27), .lit (.int .u8 60), .lit (.int .u8 41), .lit (.int .u8 37), .lit (.int .u8 16), .lit (.int .u8 46), .lit (.int .u8 35), .lit (.int .u8 44), .lit (.int .u8 21), .lit (.int .u8 52), .lit (.int .u8 32), .lit (.int .u8 23), .lit (.int .u8 11), .lit (.int .u8 54), .lit (.int .u8 26), .lit (.int .u8 40), .lit (.int .u8 15), .lit (.int .u8 34), .lit (.int .u8 20), .lit (.int .u8 31), .lit (.int .u8 10), .lit (.int .u8 25), .lit (.int .u8 14), .lit (.int .u8 19), .lit (.int .u8 9), .lit (.int .u8 13), .lit (.int .u8 8), .lit (.int .u8 7), .lit (.int .u8 6)]
def laid_internal_strconv_uint64pow10 {H : Type} : DataW H := .agg [.lit (.int .u64 1), .lit (.int .u64 10), .lit (.int .u64 100), .lit (.int .u64 1000), .lit (.int .u64 10000), .lit (.int .u64 100000), .lit (.int .u64 1000000), .lit (.int .u64 10000000), .lit (.int .u64 100000000), .lit (.int .u64 1000000000), .lit (.int .u64 10000000000), .lit (.int .u64 100000000000), .lit (.int .u64 1000000000000), .lit (.int .u64 10000000000000), .lit (.int .u64 100000000000000), .lit (.int .u64 1000000000000000), .lit (.int .u64 10000000000000000), .lit (.int .u64 100000000000000000), .lit (.int .u64 1000000000000000000), .lit (.int .u64 10000000000000000000)]
def laid_strconv_ErrRange {H : Type} : DataW H := .iface "*errors.errorString" (.ptr (.agg [.lit (.string [118, 97, 108, 117, 101, 32, 111, 117, 116, 32, 111, 102, 32, 114, 97, 110, 103, 101])]))
def laid_strconv_ErrSyntax {H : Type} : DataW H := .iface "*errors.errorString" (.ptr (.agg [.lit (.string [105, 110, 118, 97, 108, 105, 100, 32, 115, 121, 110, 116, 97, 120])]))

/-- 'garboardlaw16.AttitudeUnit': WHATEVER THE INPUT: true; the input reads as it did. -/
def attitudeUnitSpec : ChangeSpec := { name := "attitudeUnit", fn := fun _ => fun
  | [d] => { results := [.lit (.bool true)], args := [d] }
  | _ => none }
def attitudeUnitRow : OpenClaim := { program := "ytgbabmkclojgeaagreatdoor", sum := "354628077b474410e6dbd1515463c6d1847ba02cae998249f7e42e2cb4a1a9b6", func := "garboard/garboardlaw16.AttitudeUnit", spec := "attitudeUnit", inPlace := ["internal/bytealg.IndexByteString", "internal/bytealg.IndexString", "internal/abi.NoEscape", "internal/bytealg.MakeNoZero"], unfollowed := true, recurses := true, named := ["internal/bytealg.MaxLen", "strconv.ErrSyntax", "strconv.ErrRange", "internal/strconv.uint64pow10", "math/bits.deBruijn32tab", "math/bits.deBruijn64tab"], apart := false, laid := [("math/bits.deBruijn32tab", laid_math_bits_deBruijn32tab), ("math/bits.deBruijn64tab", laid_math_bits_deBruijn64tab), ("internal/strconv.uint64pow10", laid_internal_strconv_uint64pow10), ("strconv.ErrRange", laid_strconv_ErrRange), ("strconv.ErrSyntax", laid_strconv_ErrSyntax)] }
def AttitudeUnitSaid : Prop := attitudeUnitRow.holds Tryz.pinned (OpenSpec.ofChange attitudeUnitSpec)

/-- ITS FALSE NEIGHBOUR: 'it returns false'. Refute it at one input. -/
def attitudeUnitWrong : ChangeSpec := { name := "attitudeUnit", fn := fun _ => fun
  | [d] => { results := [.lit (.bool false)], args := [d] }
  | _ => none }
def AttitudeUnitWrongFalsely : Prop := attitudeUnitRow.holds Tryz.pinned (OpenSpec.ofChange attitudeUnitWrong)

/-- 'garboardlaw11.VectorComputes': WHATEVER THE INPUT: true; the input reads as it did. -/
def vectorComputesSpec : ChangeSpec := { name := "vectorComputes", fn := fun _ => fun
  | [d1, d2, d3, d4] => { results := [.lit (.bool true)], args := [d1, d2, d3, d4] }
  | _ => none }
def vectorComputesRow : OpenClaim := { program := "ytgbabmkclojgeaagreatdoor", sum := "354628077b474410e6dbd1515463c6d1847ba02cae998249f7e42e2cb4a1a9b6", func := "garboard/garboardlaw11.VectorComputes", spec := "vectorComputes", inPlace := ["internal/bytealg.IndexByteString", "internal/bytealg.IndexString", "internal/abi.NoEscape", "internal/bytealg.MakeNoZero"], unfollowed := true, recurses := true, named := ["internal/bytealg.MaxLen", "strconv.ErrSyntax", "strconv.ErrRange", "internal/strconv.uint64pow10", "math/bits.deBruijn32tab", "math/bits.deBruijn64tab"], apart := false, laid := [("math/bits.deBruijn32tab", laid_math_bits_deBruijn32tab), ("math/bits.deBruijn64tab", laid_math_bits_deBruijn64tab), ("internal/strconv.uint64pow10", laid_internal_strconv_uint64pow10), ("strconv.ErrRange", laid_strconv_ErrRange), ("strconv.ErrSyntax", laid_strconv_ErrSyntax)] }
def VectorComputesSaid : Prop := vectorComputesRow.holds Tryz.pinned (OpenSpec.ofChange vectorComputesSpec)

/-- ITS FALSE NEIGHBOUR: 'it returns false'. Refute it at one input. -/
def vectorComputesWrong : ChangeSpec := { name := "vectorComputes", fn := fun _ => fun
  | [d1, d2, d3, d4] => { results := [.lit (.bool false)], args := [d1, d2, d3, d4] }
  | _ => none }
def VectorComputesWrongFalsely : Prop := vectorComputesRow.holds Tryz.pinned (OpenSpec.ofChange vectorComputesWrong)

/-- 'garboardlaw11.VectorPlanes': WHATEVER THE INPUT: true; the input reads as it did. -/
def vectorPlanesSpec : ChangeSpec := { name := "vectorPlanes", fn := fun _ => fun
  | [d1, d2, d3, d4] => { results := [.lit (.bool true)], args := [d1, d2, d3, d4] }
  | _ => none }
def vectorPlanesRow : OpenClaim := { program := "ytgbabmkclojgeaagreatdoor", sum := "354628077b474410e6dbd1515463c6d1847ba02cae998249f7e42e2cb4a1a9b6", func := "garboard/garboardlaw11.VectorPlanes", spec := "vectorPlanes", inPlace := ["internal/bytealg.IndexByteString", "internal/bytealg.IndexString", "internal/abi.NoEscape", "internal/bytealg.MakeNoZero"], unfollowed := true, recurses := true, named := ["internal/bytealg.MaxLen", "strconv.ErrSyntax", "strconv.ErrRange", "internal/strconv.uint64pow10", "math/bits.deBruijn32tab", "math/bits.deBruijn64tab"], apart := false, laid := [("math/bits.deBruijn32tab", laid_math_bits_deBruijn32tab), ("math/bits.deBruijn64tab", laid_math_bits_deBruijn64tab), ("internal/strconv.uint64pow10", laid_internal_strconv_uint64pow10), ("strconv.ErrRange", laid_strconv_ErrRange), ("strconv.ErrSyntax", laid_strconv_ErrSyntax)] }
def VectorPlanesSaid : Prop := vectorPlanesRow.holds Tryz.pinned (OpenSpec.ofChange vectorPlanesSpec)

/-- ITS FALSE NEIGHBOUR: 'it returns false'. Refute it at one input. -/
def vectorPlanesWrong : ChangeSpec := { name := "vectorPlanes", fn := fun _ => fun
  | [d1, d2, d3, d4] => { results := [.lit (.bool false)], args := [d1, d2, d3, d4] }
  | _ => none }
def VectorPlanesWrongFalsely : Prop := vectorPlanesRow.holds Tryz.pinned (OpenSpec.ofChange vectorPlanesWrong)

/-- 'garboardlaw16.AttitudeMirrors': WHATEVER THE INPUT: true; the input reads as it did. -/
def attitudeMirrorsSpec : ChangeSpec := { name := "attitudeMirrors", fn := fun _ => fun
  | [d1, d2] => { results := [.lit (.bool true)], args := [d1, d2] }
  | _ => none }
def attitudeMirrorsRow : OpenClaim := { program := "ytgbabmkclojgeaagreatdoor", sum := "354628077b474410e6dbd1515463c6d1847ba02cae998249f7e42e2cb4a1a9b6", func := "garboard/garboardlaw16.AttitudeMirrors", spec := "attitudeMirrors", inPlace := ["internal/bytealg.IndexByteString", "internal/bytealg.IndexString", "internal/abi.NoEscape", "internal/bytealg.MakeNoZero"], unfollowed := true, recurses := true, named := ["internal/bytealg.MaxLen", "strconv.ErrSyntax", "strconv.ErrRange", "internal/strconv.uint64pow10", "math/bits.deBruijn32tab", "math/bits.deBruijn64tab"], apart := false, laid := [("math/bits.deBruijn32tab", laid_math_bits_deBruijn32tab), ("math/bits.deBruijn64tab", laid_math_bits_deBruijn64tab), ("internal/strconv.uint64pow10", laid_internal_strconv_uint64pow10), ("strconv.ErrRange", laid_strconv_ErrRange), ("strconv.ErrSyntax", laid_strconv_ErrSyntax)] }
def AttitudeMirrorsSaid : Prop := attitudeMirrorsRow.holds Tryz.pinned (OpenSpec.ofChange attitudeMirrorsSpec)

/-- ITS FALSE NEIGHBOUR: 'it returns false'. Refute it at one input. -/
def attitudeMirrorsWrong : ChangeSpec := { name := "attitudeMirrors", fn := fun _ => fun
  | [d1, d2] => { results := [.lit (.bool false)], args := [d1, d2] }
  | _ => none }
def AttitudeMirrorsWrongFalsely : Prop := attitudeMirrorsRow.holds Tryz.pinned (OpenSpec.ofChange attitudeMirrorsWrong)

/-- 'garboardlaw11.VectorRanges': WHATEVER THE INPUT: true; the input reads as it did. -/
def vectorRangesSpec : ChangeSpec := { name := "vectorRanges", fn := fun _ => fun
  | [d1, d2] => { results := [.lit (.bool true)], args := [d1, d2] }
  | _ => none }
def vectorRangesRow : OpenClaim := { program := "ytgbabmkclojgeaagreatdoor", sum := "354628077b474410e6dbd1515463c6d1847ba02cae998249f7e42e2cb4a1a9b6", func := "garboard/garboardlaw11.VectorRanges", spec := "vectorRanges", inPlace := ["internal/bytealg.IndexByteString", "internal/bytealg.IndexString", "internal/abi.NoEscape", "internal/bytealg.MakeNoZero"], unfollowed := true, recurses := true, named := ["internal/bytealg.MaxLen", "strconv.ErrSyntax", "strconv.ErrRange", "internal/strconv.uint64pow10", "math/bits.deBruijn32tab", "math/bits.deBruijn64tab"], apart := false, laid := [("math/bits.deBruijn32tab", laid_math_bits_deBruijn32tab), ("math/bits.deBruijn64tab", laid_math_bits_deBruijn64tab), ("internal/strconv.uint64pow10", laid_internal_strconv_uint64pow10), ("strconv.ErrRange", laid_strconv_ErrRange), ("strconv.ErrSyntax", laid_strconv_ErrSyntax)] }
def VectorRangesSaid : Prop := vectorRangesRow.holds Tryz.pinned (OpenSpec.ofChange vectorRangesSpec)

/-- ITS FALSE NEIGHBOUR: 'it returns false'. Refute it at one input. -/
def vectorRangesWrong : ChangeSpec := { name := "vectorRanges", fn := fun _ => fun
  | [d1, d2] => { results := [.lit (.bool false)], args := [d1, d2] }
  | _ => none }
def VectorRangesWrongFalsely : Prop := vectorRangesRow.holds Tryz.pinned (OpenSpec.ofChange vectorRangesWrong)

/-- 'garboardlaw16.AttitudeFrames': WHATEVER THE INPUT: true; the input reads as it did. -/
def attitudeFramesSpec : ChangeSpec := { name := "attitudeFrames", fn := fun _ => fun
  | [d1, d2] => { results := [.lit (.bool true)], args := [d1, d2] }
  | _ => none }
def attitudeFramesRow : OpenClaim := { program := "ytgbabmkclojgeaagreatdoor", sum := "354628077b474410e6dbd1515463c6d1847ba02cae998249f7e42e2cb4a1a9b6", func := "garboard/garboardlaw16.AttitudeFrames", spec := "attitudeFrames", inPlace := ["internal/bytealg.IndexByteString", "internal/bytealg.IndexString", "internal/abi.NoEscape", "internal/bytealg.MakeNoZero"], unfollowed := true, recurses := true, named := ["internal/bytealg.MaxLen", "strconv.ErrSyntax", "strconv.ErrRange", "internal/strconv.uint64pow10", "math/bits.deBruijn32tab", "math/bits.deBruijn64tab"], apart := false, laid := [("math/bits.deBruijn32tab", laid_math_bits_deBruijn32tab), ("math/bits.deBruijn64tab", laid_math_bits_deBruijn64tab), ("internal/strconv.uint64pow10", laid_internal_strconv_uint64pow10), ("strconv.ErrRange", laid_strconv_ErrRange), ("strconv.ErrSyntax", laid_strconv_ErrSyntax)] }
def AttitudeFramesSaid : Prop := attitudeFramesRow.holds Tryz.pinned (OpenSpec.ofChange attitudeFramesSpec)

/-- ITS FALSE NEIGHBOUR: 'it returns false'. Refute it at one input. -/
def attitudeFramesWrong : ChangeSpec := { name := "attitudeFrames", fn := fun _ => fun
  | [d1, d2] => { results := [.lit (.bool false)], args := [d1, d2] }
  | _ => none }
def AttitudeFramesWrongFalsely : Prop := attitudeFramesRow.holds Tryz.pinned (OpenSpec.ofChange attitudeFramesWrong)

/-- 'garboardlaw16.AttitudeTurns': WHATEVER THE INPUT: true; the input reads as it did. -/
def attitudeTurnsSpec : ChangeSpec := { name := "attitudeTurns", fn := fun _ => fun
  | [d1, d2] => { results := [.lit (.bool true)], args := [d1, d2] }
  | _ => none }
def attitudeTurnsRow : OpenClaim := { program := "ytgbabmkclojgeaagreatdoor", sum := "354628077b474410e6dbd1515463c6d1847ba02cae998249f7e42e2cb4a1a9b6", func := "garboard/garboardlaw16.AttitudeTurns", spec := "attitudeTurns", inPlace := ["internal/bytealg.IndexByteString", "internal/bytealg.IndexString", "internal/abi.NoEscape", "internal/bytealg.MakeNoZero"], unfollowed := true, recurses := true, named := ["internal/bytealg.MaxLen", "strconv.ErrSyntax", "strconv.ErrRange", "internal/strconv.uint64pow10", "math/bits.deBruijn32tab", "math/bits.deBruijn64tab"], apart := false, laid := [("math/bits.deBruijn32tab", laid_math_bits_deBruijn32tab), ("math/bits.deBruijn64tab", laid_math_bits_deBruijn64tab), ("internal/strconv.uint64pow10", laid_internal_strconv_uint64pow10), ("strconv.ErrRange", laid_strconv_ErrRange), ("strconv.ErrSyntax", laid_strconv_ErrSyntax)] }
def AttitudeTurnsSaid : Prop := attitudeTurnsRow.holds Tryz.pinned (OpenSpec.ofChange attitudeTurnsSpec)

/-- ITS FALSE NEIGHBOUR: 'it returns false'. Refute it at one input. -/
def attitudeTurnsWrong : ChangeSpec := { name := "attitudeTurns", fn := fun _ => fun
  | [d1, d2] => { results := [.lit (.bool false)], args := [d1, d2] }
  | _ => none }
def AttitudeTurnsWrongFalsely : Prop := attitudeTurnsRow.holds Tryz.pinned (OpenSpec.ofChange attitudeTurnsWrong)

/-- 'garboardlaw16.AttitudeReturns': WHATEVER THE INPUT: true; the input reads as it did. -/
def attitudeReturnsSpec : ChangeSpec := { name := "attitudeReturns", fn := fun _ => fun
  | [d1, d2] => { results := [.lit (.bool true)], args := [d1, d2] }
  | _ => none }
def attitudeReturnsRow : OpenClaim := { program := "ytgbabmkclojgeaagreatdoor", sum := "354628077b474410e6dbd1515463c6d1847ba02cae998249f7e42e2cb4a1a9b6", func := "garboard/garboardlaw16.AttitudeReturns", spec := "attitudeReturns", inPlace := ["internal/bytealg.IndexByteString", "internal/bytealg.IndexString", "internal/abi.NoEscape", "internal/bytealg.MakeNoZero"], unfollowed := true, recurses := true, named := ["internal/bytealg.MaxLen", "strconv.ErrSyntax", "strconv.ErrRange", "internal/strconv.uint64pow10", "math/bits.deBruijn32tab", "math/bits.deBruijn64tab"], apart := false, laid := [("math/bits.deBruijn32tab", laid_math_bits_deBruijn32tab), ("math/bits.deBruijn64tab", laid_math_bits_deBruijn64tab), ("internal/strconv.uint64pow10", laid_internal_strconv_uint64pow10), ("strconv.ErrRange", laid_strconv_ErrRange), ("strconv.ErrSyntax", laid_strconv_ErrSyntax)] }
def AttitudeReturnsSaid : Prop := attitudeReturnsRow.holds Tryz.pinned (OpenSpec.ofChange attitudeReturnsSpec)

/-- ITS FALSE NEIGHBOUR: 'it returns false'. Refute it at one input. -/
def attitudeReturnsWrong : ChangeSpec := { name := "attitudeReturns", fn := fun _ => fun
  | [d1, d2] => { results := [.lit (.bool false)], args := [d1, d2] }
  | _ => none }
def AttitudeReturnsWrongFalsely : Prop := attitudeReturnsRow.holds Tryz.pinned (OpenSpec.ofChange attitudeReturnsWrong)

/-- 'garboardlaw16.AttitudeExtents': WHATEVER THE INPUT: true; the input reads as it did. -/
def attitudeExtentsSpec : ChangeSpec := { name := "attitudeExtents", fn := fun _ => fun
  | [d1, d2] => { results := [.lit (.bool true)], args := [d1, d2] }
  | _ => none }
def attitudeExtentsRow : OpenClaim := { program := "ytgbabmkclojgeaagreatdoor", sum := "354628077b474410e6dbd1515463c6d1847ba02cae998249f7e42e2cb4a1a9b6", func := "garboard/garboardlaw16.AttitudeExtents", spec := "attitudeExtents", inPlace := ["internal/bytealg.IndexByteString", "internal/bytealg.IndexString", "internal/abi.NoEscape", "internal/bytealg.MakeNoZero"], unfollowed := true, recurses := true, named := ["internal/bytealg.MaxLen", "strconv.ErrSyntax", "strconv.ErrRange", "internal/strconv.uint64pow10", "math/bits.deBruijn32tab", "math/bits.deBruijn64tab"], apart := false, laid := [("math/bits.deBruijn32tab", laid_math_bits_deBruijn32tab), ("math/bits.deBruijn64tab", laid_math_bits_deBruijn64tab), ("internal/strconv.uint64pow10", laid_internal_strconv_uint64pow10), ("strconv.ErrRange", laid_strconv_ErrRange), ("strconv.ErrSyntax", laid_strconv_ErrSyntax)] }
def AttitudeExtentsSaid : Prop := attitudeExtentsRow.holds Tryz.pinned (OpenSpec.ofChange attitudeExtentsSpec)

/-- ITS FALSE NEIGHBOUR: 'it returns false'. Refute it at one input. -/
def attitudeExtentsWrong : ChangeSpec := { name := "attitudeExtents", fn := fun _ => fun
  | [d1, d2] => { results := [.lit (.bool false)], args := [d1, d2] }
  | _ => none }
def AttitudeExtentsWrongFalsely : Prop := attitudeExtentsRow.holds Tryz.pinned (OpenSpec.ofChange attitudeExtentsWrong)

/-- 'garboardlaw16.AttitudeWithin': WHATEVER THE INPUT: true; the input reads as it did. -/
def attitudeWithinSpec : ChangeSpec := { name := "attitudeWithin", fn := fun _ => fun
  | [d1, d2] => { results := [.lit (.bool true)], args := [d1, d2] }
  | _ => none }
def attitudeWithinRow : OpenClaim := { program := "ytgbabmkclojgeaagreatdoor", sum := "354628077b474410e6dbd1515463c6d1847ba02cae998249f7e42e2cb4a1a9b6", func := "garboard/garboardlaw16.AttitudeWithin", spec := "attitudeWithin", inPlace := ["internal/bytealg.IndexByteString", "internal/bytealg.IndexString", "internal/abi.NoEscape", "internal/bytealg.MakeNoZero"], unfollowed := true, recurses := true, named := ["internal/bytealg.MaxLen", "strconv.ErrSyntax", "strconv.ErrRange", "internal/strconv.uint64pow10", "math/bits.deBruijn32tab", "math/bits.deBruijn64tab"], apart := false, laid := [("math/bits.deBruijn32tab", laid_math_bits_deBruijn32tab), ("math/bits.deBruijn64tab", laid_math_bits_deBruijn64tab), ("internal/strconv.uint64pow10", laid_internal_strconv_uint64pow10), ("strconv.ErrRange", laid_strconv_ErrRange), ("strconv.ErrSyntax", laid_strconv_ErrSyntax)] }
def AttitudeWithinSaid : Prop := attitudeWithinRow.holds Tryz.pinned (OpenSpec.ofChange attitudeWithinSpec)

/-- ITS FALSE NEIGHBOUR: 'it returns false'. Refute it at one input. -/
def attitudeWithinWrong : ChangeSpec := { name := "attitudeWithin", fn := fun _ => fun
  | [d1, d2] => { results := [.lit (.bool false)], args := [d1, d2] }
  | _ => none }
def AttitudeWithinWrongFalsely : Prop := attitudeWithinRow.holds Tryz.pinned (OpenSpec.ofChange attitudeWithinWrong)

/- THE SECOND FORM. 'bulk': how many values and letters a reading holds, each counted each time it is reached (what is shared counts as often as it is met; a slice's spare places count too). A statement '..UptoSaid' is the law's where the arguments, and the package variables that the reading takes, are together of bulk at most 1048576: NARROWER than '..Said'. Prove '..Said' where nothing that the law and all that it calls make is longer than what came in: it says more and counts as full. Else prove '..UptoSaid'. A law counts once. -/
mutual
def uptoBulk {H : Type} : DataW H → Nat
  | .lit (.string bytes) => bytes.length + 1
  | .lit _ => 1
  | .nil => 1
  | .ptr d => uptoBulk d + 1
  | .slice elems spare => uptoBulkAll elems + uptoBulkAll spare + 1
  | .agg parts => uptoBulkAll parts + 1
  | .iface _ d => uptoBulk d + 1
  | .map entries => uptoBulkEntries entries + 1
  | .held _ => 1
def uptoBulkAll {H : Type} : List (DataW H) → Nat
  | [] => 0
  | d :: r => uptoBulk d + uptoBulkAll r
def uptoBulkEntries {H : Type} : List (Lit × DataW H) → Nat
  | [] => 0
  | x :: r => uptoBulkEntry x + uptoBulkEntries r
def uptoBulkEntry {H : Type} : Lit × DataW H → Nat
  | (.string bytes, d) => bytes.length + uptoBulk d + 1
  | (_, d) => uptoBulk d + 1
 end
def uptoSmall : (H : Type) → List (DataW H) → Bool := fun _ ds => decide (uptoBulkAll ds ≤ 1048576)
def OpenSpec.upto (s : _root_.Go.ChangeSpec) : _root_.Go.OpenSpec := { _root_.Go.OpenSpec.ofChange s with cond := some uptoSmall }

/-- 'garboardlaw16.AttitudeUnit', WHERE WHAT IT READS IS OF BULK AT MOST 1048576: true; the input reads as it did. -/
def attitudeUnitUptoRow : OpenClaim := { program := "ytgbabmkclojgeaagreatdoor", sum := "354628077b474410e6dbd1515463c6d1847ba02cae998249f7e42e2cb4a1a9b6", func := "garboard/garboardlaw16.AttitudeUnit", spec := "attitudeUnit", inPlace := ["internal/bytealg.IndexByteString", "internal/bytealg.IndexString", "internal/abi.NoEscape", "internal/bytealg.MakeNoZero"], unfollowed := true, recurses := true, named := ["internal/bytealg.MaxLen", "strconv.ErrSyntax", "strconv.ErrRange", "internal/strconv.uint64pow10", "math/bits.deBruijn32tab", "math/bits.deBruijn64tab"], apart := false, laid := [("math/bits.deBruijn32tab", laid_math_bits_deBruijn32tab), ("math/bits.deBruijn64tab", laid_math_bits_deBruijn64tab), ("internal/strconv.uint64pow10", laid_internal_strconv_uint64pow10), ("strconv.ErrRange", laid_strconv_ErrRange), ("strconv.ErrSyntax", laid_strconv_ErrSyntax)], narrowed := true }
def AttitudeUnitUptoSaid : Prop := attitudeUnitUptoRow.holds Tryz.pinned (OpenSpec.upto attitudeUnitSpec)

/-- 'garboardlaw11.VectorComputes', WHERE WHAT IT READS IS OF BULK AT MOST 1048576: true; the input reads as it did. -/
def vectorComputesUptoRow : OpenClaim := { program := "ytgbabmkclojgeaagreatdoor", sum := "354628077b474410e6dbd1515463c6d1847ba02cae998249f7e42e2cb4a1a9b6", func := "garboard/garboardlaw11.VectorComputes", spec := "vectorComputes", inPlace := ["internal/bytealg.IndexByteString", "internal/bytealg.IndexString", "internal/abi.NoEscape", "internal/bytealg.MakeNoZero"], unfollowed := true, recurses := true, named := ["internal/bytealg.MaxLen", "strconv.ErrSyntax", "strconv.ErrRange", "internal/strconv.uint64pow10", "math/bits.deBruijn32tab", "math/bits.deBruijn64tab"], apart := false, laid := [("math/bits.deBruijn32tab", laid_math_bits_deBruijn32tab), ("math/bits.deBruijn64tab", laid_math_bits_deBruijn64tab), ("internal/strconv.uint64pow10", laid_internal_strconv_uint64pow10), ("strconv.ErrRange", laid_strconv_ErrRange), ("strconv.ErrSyntax", laid_strconv_ErrSyntax)], narrowed := true }
def VectorComputesUptoSaid : Prop := vectorComputesUptoRow.holds Tryz.pinned (OpenSpec.upto vectorComputesSpec)

/-- 'garboardlaw11.VectorPlanes', WHERE WHAT IT READS IS OF BULK AT MOST 1048576: true; the input reads as it did. -/
def vectorPlanesUptoRow : OpenClaim := { program := "ytgbabmkclojgeaagreatdoor", sum := "354628077b474410e6dbd1515463c6d1847ba02cae998249f7e42e2cb4a1a9b6", func := "garboard/garboardlaw11.VectorPlanes", spec := "vectorPlanes", inPlace := ["internal/bytealg.IndexByteString", "internal/bytealg.IndexString", "internal/abi.NoEscape", "internal/bytealg.MakeNoZero"], unfollowed := true, recurses := true, named := ["internal/bytealg.MaxLen", "strconv.ErrSyntax", "strconv.ErrRange", "internal/strconv.uint64pow10", "math/bits.deBruijn32tab", "math/bits.deBruijn64tab"], apart := false, laid := [("math/bits.deBruijn32tab", laid_math_bits_deBruijn32tab), ("math/bits.deBruijn64tab", laid_math_bits_deBruijn64tab), ("internal/strconv.uint64pow10", laid_internal_strconv_uint64pow10), ("strconv.ErrRange", laid_strconv_ErrRange), ("strconv.ErrSyntax", laid_strconv_ErrSyntax)], narrowed := true }
def VectorPlanesUptoSaid : Prop := vectorPlanesUptoRow.holds Tryz.pinned (OpenSpec.upto vectorPlanesSpec)

/-- 'garboardlaw16.AttitudeMirrors', WHERE WHAT IT READS IS OF BULK AT MOST 1048576: true; the input reads as it did. -/
def attitudeMirrorsUptoRow : OpenClaim := { program := "ytgbabmkclojgeaagreatdoor", sum := "354628077b474410e6dbd1515463c6d1847ba02cae998249f7e42e2cb4a1a9b6", func := "garboard/garboardlaw16.AttitudeMirrors", spec := "attitudeMirrors", inPlace := ["internal/bytealg.IndexByteString", "internal/bytealg.IndexString", "internal/abi.NoEscape", "internal/bytealg.MakeNoZero"], unfollowed := true, recurses := true, named := ["internal/bytealg.MaxLen", "strconv.ErrSyntax", "strconv.ErrRange", "internal/strconv.uint64pow10", "math/bits.deBruijn32tab", "math/bits.deBruijn64tab"], apart := false, laid := [("math/bits.deBruijn32tab", laid_math_bits_deBruijn32tab), ("math/bits.deBruijn64tab", laid_math_bits_deBruijn64tab), ("internal/strconv.uint64pow10", laid_internal_strconv_uint64pow10), ("strconv.ErrRange", laid_strconv_ErrRange), ("strconv.ErrSyntax", laid_strconv_ErrSyntax)], narrowed := true }
def AttitudeMirrorsUptoSaid : Prop := attitudeMirrorsUptoRow.holds Tryz.pinned (OpenSpec.upto attitudeMirrorsSpec)

/-- 'garboardlaw11.VectorRanges', WHERE WHAT IT READS IS OF BULK AT MOST 1048576: true; the input reads as it did. -/
def vectorRangesUptoRow : OpenClaim := { program := "ytgbabmkclojgeaagreatdoor", sum := "354628077b474410e6dbd1515463c6d1847ba02cae998249f7e42e2cb4a1a9b6", func := "garboard/garboardlaw11.VectorRanges", spec := "vectorRanges", inPlace := ["internal/bytealg.IndexByteString", "internal/bytealg.IndexString", "internal/abi.NoEscape", "internal/bytealg.MakeNoZero"], unfollowed := true, recurses := true, named := ["internal/bytealg.MaxLen", "strconv.ErrSyntax", "strconv.ErrRange", "internal/strconv.uint64pow10", "math/bits.deBruijn32tab", "math/bits.deBruijn64tab"], apart := false, laid := [("math/bits.deBruijn32tab", laid_math_bits_deBruijn32tab), ("math/bits.deBruijn64tab", laid_math_bits_deBruijn64tab), ("internal/strconv.uint64pow10", laid_internal_strconv_uint64pow10), ("strconv.ErrRange", laid_strconv_ErrRange), ("strconv.ErrSyntax", laid_strconv_ErrSyntax)], narrowed := true }
def VectorRangesUptoSaid : Prop := vectorRangesUptoRow.holds Tryz.pinned (OpenSpec.upto vectorRangesSpec)

/-- 'garboardlaw16.AttitudeFrames', WHERE WHAT IT READS IS OF BULK AT MOST 1048576: true; the input reads as it did. -/
def attitudeFramesUptoRow : OpenClaim := { program := "ytgbabmkclojgeaagreatdoor", sum := "354628077b474410e6dbd1515463c6d1847ba02cae998249f7e42e2cb4a1a9b6", func := "garboard/garboardlaw16.AttitudeFrames", spec := "attitudeFrames", inPlace := ["internal/bytealg.IndexByteString", "internal/bytealg.IndexString", "internal/abi.NoEscape", "internal/bytealg.MakeNoZero"], unfollowed := true, recurses := true, named := ["internal/bytealg.MaxLen", "strconv.ErrSyntax", "strconv.ErrRange", "internal/strconv.uint64pow10", "math/bits.deBruijn32tab", "math/bits.deBruijn64tab"], apart := false, laid := [("math/bits.deBruijn32tab", laid_math_bits_deBruijn32tab), ("math/bits.deBruijn64tab", laid_math_bits_deBruijn64tab), ("internal/strconv.uint64pow10", laid_internal_strconv_uint64pow10), ("strconv.ErrRange", laid_strconv_ErrRange), ("strconv.ErrSyntax", laid_strconv_ErrSyntax)], narrowed := true }
def AttitudeFramesUptoSaid : Prop := attitudeFramesUptoRow.holds Tryz.pinned (OpenSpec.upto attitudeFramesSpec)

/-- 'garboardlaw16.AttitudeTurns', WHERE WHAT IT READS IS OF BULK AT MOST 1048576: true; the input reads as it did. -/
def attitudeTurnsUptoRow : OpenClaim := { program := "ytgbabmkclojgeaagreatdoor", sum := "354628077b474410e6dbd1515463c6d1847ba02cae998249f7e42e2cb4a1a9b6", func := "garboard/garboardlaw16.AttitudeTurns", spec := "attitudeTurns", inPlace := ["internal/bytealg.IndexByteString", "internal/bytealg.IndexString", "internal/abi.NoEscape", "internal/bytealg.MakeNoZero"], unfollowed := true, recurses := true, named := ["internal/bytealg.MaxLen", "strconv.ErrSyntax", "strconv.ErrRange", "internal/strconv.uint64pow10", "math/bits.deBruijn32tab", "math/bits.deBruijn64tab"], apart := false, laid := [("math/bits.deBruijn32tab", laid_math_bits_deBruijn32tab), ("math/bits.deBruijn64tab", laid_math_bits_deBruijn64tab), ("internal/strconv.uint64pow10", laid_internal_strconv_uint64pow10), ("strconv.ErrRange", laid_strconv_ErrRange), ("strconv.ErrSyntax", laid_strconv_ErrSyntax)], narrowed := true }
def AttitudeTurnsUptoSaid : Prop := attitudeTurnsUptoRow.holds Tryz.pinned (OpenSpec.upto attitudeTurnsSpec)

/-- 'garboardlaw16.AttitudeReturns', WHERE WHAT IT READS IS OF BULK AT MOST 1048576: true; the input reads as it did. -/
def attitudeReturnsUptoRow : OpenClaim := { program := "ytgbabmkclojgeaagreatdoor", sum := "354628077b474410e6dbd1515463c6d1847ba02cae998249f7e42e2cb4a1a9b6", func := "garboard/garboardlaw16.AttitudeReturns", spec := "attitudeReturns", inPlace := ["internal/bytealg.IndexByteString", "internal/bytealg.IndexString", "internal/abi.NoEscape", "internal/bytealg.MakeNoZero"], unfollowed := true, recurses := true, named := ["internal/bytealg.MaxLen", "strconv.ErrSyntax", "strconv.ErrRange", "internal/strconv.uint64pow10", "math/bits.deBruijn32tab", "math/bits.deBruijn64tab"], apart := false, laid := [("math/bits.deBruijn32tab", laid_math_bits_deBruijn32tab), ("math/bits.deBruijn64tab", laid_math_bits_deBruijn64tab), ("internal/strconv.uint64pow10", laid_internal_strconv_uint64pow10), ("strconv.ErrRange", laid_strconv_ErrRange), ("strconv.ErrSyntax", laid_strconv_ErrSyntax)], narrowed := true }
def AttitudeReturnsUptoSaid : Prop := attitudeReturnsUptoRow.holds Tryz.pinned (OpenSpec.upto attitudeReturnsSpec)

/-- 'garboardlaw16.AttitudeExtents', WHERE WHAT IT READS IS OF BULK AT MOST 1048576: true; the input reads as it did. -/
def attitudeExtentsUptoRow : OpenClaim := { program := "ytgbabmkclojgeaagreatdoor", sum := "354628077b474410e6dbd1515463c6d1847ba02cae998249f7e42e2cb4a1a9b6", func := "garboard/garboardlaw16.AttitudeExtents", spec := "attitudeExtents", inPlace := ["internal/bytealg.IndexByteString", "internal/bytealg.IndexString", "internal/abi.NoEscape", "internal/bytealg.MakeNoZero"], unfollowed := true, recurses := true, named := ["internal/bytealg.MaxLen", "strconv.ErrSyntax", "strconv.ErrRange", "internal/strconv.uint64pow10", "math/bits.deBruijn32tab", "math/bits.deBruijn64tab"], apart := false, laid := [("math/bits.deBruijn32tab", laid_math_bits_deBruijn32tab), ("math/bits.deBruijn64tab", laid_math_bits_deBruijn64tab), ("internal/strconv.uint64pow10", laid_internal_strconv_uint64pow10), ("strconv.ErrRange", laid_strconv_ErrRange), ("strconv.ErrSyntax", laid_strconv_ErrSyntax)], narrowed := true }
def AttitudeExtentsUptoSaid : Prop := attitudeExtentsUptoRow.holds Tryz.pinned (OpenSpec.upto attitudeExtentsSpec)

/-- 'garboardlaw16.AttitudeWithin', WHERE WHAT IT READS IS OF BULK AT MOST 1048576: true; the input reads as it did. -/
def attitudeWithinUptoRow : OpenClaim := { program := "ytgbabmkclojgeaagreatdoor", sum := "354628077b474410e6dbd1515463c6d1847ba02cae998249f7e42e2cb4a1a9b6", func := "garboard/garboardlaw16.AttitudeWithin", spec := "attitudeWithin", inPlace := ["internal/bytealg.IndexByteString", "internal/bytealg.IndexString", "internal/abi.NoEscape", "internal/bytealg.MakeNoZero"], unfollowed := true, recurses := true, named := ["internal/bytealg.MaxLen", "strconv.ErrSyntax", "strconv.ErrRange", "internal/strconv.uint64pow10", "math/bits.deBruijn32tab", "math/bits.deBruijn64tab"], apart := false, laid := [("math/bits.deBruijn32tab", laid_math_bits_deBruijn32tab), ("math/bits.deBruijn64tab", laid_math_bits_deBruijn64tab), ("internal/strconv.uint64pow10", laid_internal_strconv_uint64pow10), ("strconv.ErrRange", laid_strconv_ErrRange), ("strconv.ErrSyntax", laid_strconv_ErrSyntax)], narrowed := true }
def AttitudeWithinUptoSaid : Prop := attitudeWithinUptoRow.holds Tryz.pinned (OpenSpec.upto attitudeWithinSpec)

end Rows
end Go.Proofs.YtgbabmkclojgeaaGreatDoor
