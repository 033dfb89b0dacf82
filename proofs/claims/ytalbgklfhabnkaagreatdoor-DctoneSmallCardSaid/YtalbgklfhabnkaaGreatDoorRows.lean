/-
  NARROWER THAN 'FOR EVERY INPUT', by the rows' own cells (each row's printed sentence says how): IrfftOne: laid · IrfftScale: laid · IrfftGiven: laid · DctoneSmall: laid · DctoneScale: laid · DctoneGiven: laid · DcttwoOne: laid · DcttwoScale: laid · DcttwoGiven: laid · DstOne: laid · DstScale: laid · DstGiven: laid.
  DERIVED. THE GIVEN ROWS OF THIS SEAT. 12 by the template 'for every input the law returns true; each argument reads behind the call as it read before'; 0 by the template 'total and deterministic' (their statements: YtalbgklfhabnkaaGreatDoorTotals.lean).
  GIVEN WITH THE SEED: the statements are not yours to turn. If you find one false, say at which input.
  Laid BY PROGRAM, IN A SANDBOX (cutbox-rows.mjs): the forced cells as the released guide's own fill.sh prints them over the translation 55522d4b85ea9501… (all of the seat's roots in one cut). By AI agents, Wed Nov 11 2026. No macro, syntax, notation, axiom, sorry.
-/
import Derived.Test.YtalbgklfhabnkaaGreatDoorChecked
import GoSem.Claim
import GoSem.ClaimJoined
import GoSem.ClaimMapViews
import Derived.JoinedTies
import Derived.KernelRfl
namespace Go.Proofs.YtalbgklfhabnkaaGreatDoor
/- THE CELL 'sum', in the pinned program and in every row, IS THE sha256 OF THE DUMP (.gsa) THAT YtalbgklfhabnkaaGreatDoorProg.lean LOADS. Nothing in Lean hashes anything: it is a label: what it is worth is what the hold of that sum in a sandbox is worth. -/
noncomputable def Tryz.pinned : Pinned := { name := "ytalbgklfhabnkaagreatdoor", sum := "55522d4b85ea9501e2222dd7787ef71b448f79925820b5631026c427608a2cad", checked := Tryz.checked }
namespace Rows
def none {H : Type} : Left H := { results := [], args := [] }

/- WHAT THE LISTED PACKAGE-LEVEL VARIABLES READ AS WHEN THE CALL BEGINS. Each datum BY PROGRAM (the guide's laid-datum.mjs) off the statement by which the dump's own 'gosem.cut.vars' lays the variable. In a bare row this is a premise. The card (YtalbgklfhabnkaaGreatDoorCards.lean) ties it to the program's text. -/
def laid_math_bits_deBruijn32tab {H : Type} : DataW H := .agg [.lit (.int .u8 0), .lit (.int .u8 1), .lit (.int .u8 28), .lit (.int .u8 2), .lit (.int .u8 29), .lit (.int .u8 14), .lit (.int .u8 24), .lit (.int .u8 3), .lit (.int .u8 30), .lit (.int .u8 22), .lit (.int .u8 20), .lit (.int .u8 15), .lit (.int .u8 25), .lit (.int .u8 17), .lit (.int .u8 4), .lit (.int .u8 8), .lit (.int .u8 31), .lit (.int .u8 27), .lit (.int .u8 13), .lit (.int .u8 23), .lit (.int .u8 21), .lit (.int .u8 19), .lit (.int .u8 16), .lit (.int .u8 7), .lit (.int .u8 26), .lit (.int .u8 12), .lit (.int .u8 18), .lit (.int .u8 6), .lit (.int .u8 11), .lit (.int .u8 5), .lit (.int .u8 10), .lit (.int .u8 9)]
def laid_math_bits_deBruijn64tab {H : Type} : DataW H := .agg [.lit (.int .u8 0), .lit (.int .u8 1), .lit (.int .u8 56), .lit (.int .u8 2), .lit (.int .u8 57), .lit (.int .u8 49), .lit (.int .u8 28), .lit (.int .u8 3), .lit (.int .u8 61), .lit (.int .u8 58), .lit (.int .u8 42), .lit (.int .u8 50), .lit (.int .u8 38), .lit (.int .u8 29), .lit (.int .u8 17), .lit (.int .u8 4), .lit (.int .u8 62), .lit (.int .u8 47), .lit (.int .u8 59), .lit (.int .u8 36), .lit (.int .u8 45), .lit (.int .u8 43), .lit (.int .u8 51), .lit (.int .u8 22), .lit (.int .u8 53), .lit (.int .u8 39), .lit (.int .u8 33), .lit (.int .u8 30), .lit (.int .u8 24), .lit (.int .u8 18), .lit (.int .u8 12), .lit (.int .u8 5), .lit (.int .u8 63), .lit (.int .u8 55), .lit (.int .u8 48), .lit (.int .u8 27), .lit (.int .u8 60), .lit (.int .u8 41), .lit (.int .u8 37), .lit (.int .u8 16), .lit (.int .u8 46), .lit (.int .u8 35), .lit (.int .u8 44), .lit (.int .u8 21), .lit (.int .u8 52), .lit (.int .u8 32), .lit (.int .u8 23), .lit (.int .u8 11), .lit (.int .u8 54), .lit (.int .u8 26), .lit (.int .u8 40), .lit (.int .u8 15), .lit (.int .u8 34), .lit (.int .u8 20), .lit (.int .u8 31), .lit (.int .u8 10), .lit (.int .u8 25), .lit (.int .u8 14), .lit (.int .u8 19), .lit (.int .u8 9), .lit (.int .u8 13), .lit (.int .u8 8), .lit (.int .u8 7), .lit (.int .u8 6)]
def laid_errors_errorType {H : Type} : DataW H := .iface "internal/reflectlite.rtype" (.agg [.ptr (.lit (.string [101, 114, 114, 111, 114]))])

/-- 'overtonelaw15.IrfftOne': WHATEVER THE INPUT: true; the input reads as it did. -/
def irfftOneSpec : ChangeSpec := { name := "irfftOne", fn := fun _ => fun
  | [d1, d2] => { results := [.lit (.bool true)], args := [d1, d2] }
  | _ => none }
def irfftOneRow : OpenClaim := { program := "ytalbgklfhabnkaagreatdoor", sum := "55522d4b85ea9501e2222dd7787ef71b448f79925820b5631026c427608a2cad", func := "overtone/overtonelaw15.IrfftOne", spec := "irfftOne", inPlace := ["math.Float64frombits", "math.Float64bits", "internal/reflectlite.TypeOf"], unfollowed := true, recurses := true, named := ["math/bits.deBruijn32tab", "math/bits.deBruijn64tab"], plainKeys := false, apart := false, laid := [("math/bits.deBruijn32tab", laid_math_bits_deBruijn32tab), ("math/bits.deBruijn64tab", laid_math_bits_deBruijn64tab)] }
def IrfftOneSaid : Prop := irfftOneRow.holds Tryz.pinned (OpenSpec.ofChange irfftOneSpec)

/-- ITS FALSE NEIGHBOUR: 'it returns false'. Refute it at one input. -/
def irfftOneWrong : ChangeSpec := { name := "irfftOne", fn := fun _ => fun
  | [d1, d2] => { results := [.lit (.bool false)], args := [d1, d2] }
  | _ => none }
def IrfftOneWrongFalsely : Prop := irfftOneRow.holds Tryz.pinned (OpenSpec.ofChange irfftOneWrong)

/-- 'overtonelaw15.IrfftScale': WHATEVER THE INPUT: true; the input reads as it did. -/
def irfftScaleSpec : ChangeSpec := { name := "irfftScale", fn := fun _ => fun
  | [d1, d2] => { results := [.lit (.bool true)], args := [d1, d2] }
  | _ => none }
def irfftScaleRow : OpenClaim := { program := "ytalbgklfhabnkaagreatdoor", sum := "55522d4b85ea9501e2222dd7787ef71b448f79925820b5631026c427608a2cad", func := "overtone/overtonelaw15.IrfftScale", spec := "irfftScale", inPlace := ["math.Float64frombits", "math.Float64bits", "internal/reflectlite.TypeOf"], unfollowed := true, recurses := true, named := ["math/bits.deBruijn32tab", "math/bits.deBruijn64tab"], plainKeys := false, apart := false, laid := [("math/bits.deBruijn32tab", laid_math_bits_deBruijn32tab), ("math/bits.deBruijn64tab", laid_math_bits_deBruijn64tab)] }
def IrfftScaleSaid : Prop := irfftScaleRow.holds Tryz.pinned (OpenSpec.ofChange irfftScaleSpec)

/-- ITS FALSE NEIGHBOUR: 'it returns false'. Refute it at one input. -/
def irfftScaleWrong : ChangeSpec := { name := "irfftScale", fn := fun _ => fun
  | [d1, d2] => { results := [.lit (.bool false)], args := [d1, d2] }
  | _ => none }
def IrfftScaleWrongFalsely : Prop := irfftScaleRow.holds Tryz.pinned (OpenSpec.ofChange irfftScaleWrong)

/-- 'overtonelaw15.IrfftGiven': WHATEVER THE INPUT: true; the input reads as it did. -/
def irfftGivenSpec : ChangeSpec := { name := "irfftGiven", fn := fun _ => fun
  | [d] => { results := [.lit (.bool true)], args := [d] }
  | _ => none }
def irfftGivenRow : OpenClaim := { program := "ytalbgklfhabnkaagreatdoor", sum := "55522d4b85ea9501e2222dd7787ef71b448f79925820b5631026c427608a2cad", func := "overtone/overtonelaw15.IrfftGiven", spec := "irfftGiven", inPlace := ["math.Float64frombits", "math.Float64bits", "internal/reflectlite.TypeOf"], unfollowed := true, recurses := true, named := ["math/bits.deBruijn32tab", "math/bits.deBruijn64tab"], plainKeys := false, apart := false, laid := [("math/bits.deBruijn32tab", laid_math_bits_deBruijn32tab), ("math/bits.deBruijn64tab", laid_math_bits_deBruijn64tab)] }
def IrfftGivenSaid : Prop := irfftGivenRow.holds Tryz.pinned (OpenSpec.ofChange irfftGivenSpec)

/-- ITS FALSE NEIGHBOUR: 'it returns false'. Refute it at one input. -/
def irfftGivenWrong : ChangeSpec := { name := "irfftGiven", fn := fun _ => fun
  | [d] => { results := [.lit (.bool false)], args := [d] }
  | _ => none }
def IrfftGivenWrongFalsely : Prop := irfftGivenRow.holds Tryz.pinned (OpenSpec.ofChange irfftGivenWrong)

/-- 'overtonelaw18.DctoneSmall': WHATEVER THE INPUT: true; the input reads as it did. -/
def dctoneSmallSpec : ChangeSpec := { name := "dctoneSmall", fn := fun _ => fun
  | [d1, d2, d3] => { results := [.lit (.bool true)], args := [d1, d2, d3] }
  | _ => none }
def dctoneSmallRow : OpenClaim := { program := "ytalbgklfhabnkaagreatdoor", sum := "55522d4b85ea9501e2222dd7787ef71b448f79925820b5631026c427608a2cad", func := "overtone/overtonelaw18.DctoneSmall", spec := "dctoneSmall", inPlace := ["math.Float64frombits", "math.Float64bits"], unfollowed := true, recurses := true, named := ["math/bits.deBruijn32tab", "math/bits.deBruijn64tab"], plainKeys := false, apart := false, laid := [("math/bits.deBruijn32tab", laid_math_bits_deBruijn32tab), ("math/bits.deBruijn64tab", laid_math_bits_deBruijn64tab)] }
def DctoneSmallSaid : Prop := dctoneSmallRow.holds Tryz.pinned (OpenSpec.ofChange dctoneSmallSpec)

/-- ITS FALSE NEIGHBOUR: 'it returns false'. Refute it at one input. -/
def dctoneSmallWrong : ChangeSpec := { name := "dctoneSmall", fn := fun _ => fun
  | [d1, d2, d3] => { results := [.lit (.bool false)], args := [d1, d2, d3] }
  | _ => none }
def DctoneSmallWrongFalsely : Prop := dctoneSmallRow.holds Tryz.pinned (OpenSpec.ofChange dctoneSmallWrong)

/-- 'overtonelaw18.DctoneScale': WHATEVER THE INPUT: true; the input reads as it did. -/
def dctoneScaleSpec : ChangeSpec := { name := "dctoneScale", fn := fun _ => fun
  | [d1, d2] => { results := [.lit (.bool true)], args := [d1, d2] }
  | _ => none }
def dctoneScaleRow : OpenClaim := { program := "ytalbgklfhabnkaagreatdoor", sum := "55522d4b85ea9501e2222dd7787ef71b448f79925820b5631026c427608a2cad", func := "overtone/overtonelaw18.DctoneScale", spec := "dctoneScale", inPlace := ["math.Float64frombits", "math.Float64bits"], unfollowed := true, recurses := true, named := ["math/bits.deBruijn32tab", "math/bits.deBruijn64tab"], plainKeys := false, apart := false, laid := [("math/bits.deBruijn32tab", laid_math_bits_deBruijn32tab), ("math/bits.deBruijn64tab", laid_math_bits_deBruijn64tab)] }
def DctoneScaleSaid : Prop := dctoneScaleRow.holds Tryz.pinned (OpenSpec.ofChange dctoneScaleSpec)

/-- ITS FALSE NEIGHBOUR: 'it returns false'. Refute it at one input. -/
def dctoneScaleWrong : ChangeSpec := { name := "dctoneScale", fn := fun _ => fun
  | [d1, d2] => { results := [.lit (.bool false)], args := [d1, d2] }
  | _ => none }
def DctoneScaleWrongFalsely : Prop := dctoneScaleRow.holds Tryz.pinned (OpenSpec.ofChange dctoneScaleWrong)

/-- 'overtonelaw18.DctoneGiven': WHATEVER THE INPUT: true; the input reads as it did. -/
def dctoneGivenSpec : ChangeSpec := { name := "dctoneGiven", fn := fun _ => fun
  | [d] => { results := [.lit (.bool true)], args := [d] }
  | _ => none }
def dctoneGivenRow : OpenClaim := { program := "ytalbgklfhabnkaagreatdoor", sum := "55522d4b85ea9501e2222dd7787ef71b448f79925820b5631026c427608a2cad", func := "overtone/overtonelaw18.DctoneGiven", spec := "dctoneGiven", inPlace := ["math.Float64frombits", "math.Float64bits"], unfollowed := true, recurses := true, named := ["math/bits.deBruijn32tab", "math/bits.deBruijn64tab"], plainKeys := false, apart := false, laid := [("math/bits.deBruijn32tab", laid_math_bits_deBruijn32tab), ("math/bits.deBruijn64tab", laid_math_bits_deBruijn64tab)] }
def DctoneGivenSaid : Prop := dctoneGivenRow.holds Tryz.pinned (OpenSpec.ofChange dctoneGivenSpec)

/-- ITS FALSE NEIGHBOUR: 'it returns false'. Refute it at one input. -/
def dctoneGivenWrong : ChangeSpec := { name := "dctoneGiven", fn := fun _ => fun
  | [d] => { results := [.lit (.bool false)], args := [d] }
  | _ => none }
def DctoneGivenWrongFalsely : Prop := dctoneGivenRow.holds Tryz.pinned (OpenSpec.ofChange dctoneGivenWrong)

/-- 'overtonelaw16.DcttwoOne': WHATEVER THE INPUT: true; the input reads as it did. -/
def dcttwoOneSpec : ChangeSpec := { name := "dcttwoOne", fn := fun _ => fun
  | [d1, d2] => { results := [.lit (.bool true)], args := [d1, d2] }
  | _ => none }
def dcttwoOneRow : OpenClaim := { program := "ytalbgklfhabnkaagreatdoor", sum := "55522d4b85ea9501e2222dd7787ef71b448f79925820b5631026c427608a2cad", func := "overtone/overtonelaw16.DcttwoOne", spec := "dcttwoOne", inPlace := ["math.Float64frombits", "math.Float64bits", "internal/reflectlite.ValueOf", "(internal/reflectlite.Value).Type", "(internal/reflectlite.Value).IsNil", "internal/reflectlite.TypeOf", "(internal/reflectlite.Value).Elem", "(internal/reflectlite.Value).Set"], unfollowed := true, recurses := true, named := ["math/bits.deBruijn32tab", "math/bits.deBruijn64tab", "errors.errorType"], plainKeys := false, apart := false, laid := [("math/bits.deBruijn32tab", laid_math_bits_deBruijn32tab), ("math/bits.deBruijn64tab", laid_math_bits_deBruijn64tab), ("errors.errorType", laid_errors_errorType)] }
def DcttwoOneSaid : Prop := dcttwoOneRow.holds Tryz.pinned (OpenSpec.ofChange dcttwoOneSpec)

/-- ITS FALSE NEIGHBOUR: 'it returns false'. Refute it at one input. -/
def dcttwoOneWrong : ChangeSpec := { name := "dcttwoOne", fn := fun _ => fun
  | [d1, d2] => { results := [.lit (.bool false)], args := [d1, d2] }
  | _ => none }
def DcttwoOneWrongFalsely : Prop := dcttwoOneRow.holds Tryz.pinned (OpenSpec.ofChange dcttwoOneWrong)

/-- 'overtonelaw16.DcttwoScale': WHATEVER THE INPUT: true; the input reads as it did. -/
def dcttwoScaleSpec : ChangeSpec := { name := "dcttwoScale", fn := fun _ => fun
  | [d1, d2] => { results := [.lit (.bool true)], args := [d1, d2] }
  | _ => none }
def dcttwoScaleRow : OpenClaim := { program := "ytalbgklfhabnkaagreatdoor", sum := "55522d4b85ea9501e2222dd7787ef71b448f79925820b5631026c427608a2cad", func := "overtone/overtonelaw16.DcttwoScale", spec := "dcttwoScale", inPlace := ["math.Float64frombits", "math.Float64bits", "internal/reflectlite.ValueOf", "(internal/reflectlite.Value).Type", "(internal/reflectlite.Value).IsNil", "internal/reflectlite.TypeOf", "(internal/reflectlite.Value).Elem", "(internal/reflectlite.Value).Set"], unfollowed := true, recurses := true, named := ["math/bits.deBruijn32tab", "math/bits.deBruijn64tab", "errors.errorType"], plainKeys := false, apart := false, laid := [("math/bits.deBruijn32tab", laid_math_bits_deBruijn32tab), ("math/bits.deBruijn64tab", laid_math_bits_deBruijn64tab), ("errors.errorType", laid_errors_errorType)] }
def DcttwoScaleSaid : Prop := dcttwoScaleRow.holds Tryz.pinned (OpenSpec.ofChange dcttwoScaleSpec)

/-- ITS FALSE NEIGHBOUR: 'it returns false'. Refute it at one input. -/
def dcttwoScaleWrong : ChangeSpec := { name := "dcttwoScale", fn := fun _ => fun
  | [d1, d2] => { results := [.lit (.bool false)], args := [d1, d2] }
  | _ => none }
def DcttwoScaleWrongFalsely : Prop := dcttwoScaleRow.holds Tryz.pinned (OpenSpec.ofChange dcttwoScaleWrong)

/-- 'overtonelaw16.DcttwoGiven': WHATEVER THE INPUT: true; the input reads as it did. -/
def dcttwoGivenSpec : ChangeSpec := { name := "dcttwoGiven", fn := fun _ => fun
  | [d] => { results := [.lit (.bool true)], args := [d] }
  | _ => none }
def dcttwoGivenRow : OpenClaim := { program := "ytalbgklfhabnkaagreatdoor", sum := "55522d4b85ea9501e2222dd7787ef71b448f79925820b5631026c427608a2cad", func := "overtone/overtonelaw16.DcttwoGiven", spec := "dcttwoGiven", inPlace := ["math.Float64frombits", "math.Float64bits", "internal/reflectlite.ValueOf", "(internal/reflectlite.Value).Type", "(internal/reflectlite.Value).IsNil", "internal/reflectlite.TypeOf", "(internal/reflectlite.Value).Elem", "(internal/reflectlite.Value).Set"], unfollowed := true, recurses := true, named := ["math/bits.deBruijn32tab", "math/bits.deBruijn64tab", "errors.errorType"], plainKeys := false, apart := false, laid := [("math/bits.deBruijn32tab", laid_math_bits_deBruijn32tab), ("math/bits.deBruijn64tab", laid_math_bits_deBruijn64tab), ("errors.errorType", laid_errors_errorType)] }
def DcttwoGivenSaid : Prop := dcttwoGivenRow.holds Tryz.pinned (OpenSpec.ofChange dcttwoGivenSpec)

/-- ITS FALSE NEIGHBOUR: 'it returns false'. Refute it at one input. -/
def dcttwoGivenWrong : ChangeSpec := { name := "dcttwoGiven", fn := fun _ => fun
  | [d] => { results := [.lit (.bool false)], args := [d] }
  | _ => none }
def DcttwoGivenWrongFalsely : Prop := dcttwoGivenRow.holds Tryz.pinned (OpenSpec.ofChange dcttwoGivenWrong)

/-- 'overtonelaw19.DstOne': WHATEVER THE INPUT: true; the input reads as it did. -/
def dstOneSpec : ChangeSpec := { name := "dstOne", fn := fun _ => fun
  | [d1, d2] => { results := [.lit (.bool true)], args := [d1, d2] }
  | _ => none }
def dstOneRow : OpenClaim := { program := "ytalbgklfhabnkaagreatdoor", sum := "55522d4b85ea9501e2222dd7787ef71b448f79925820b5631026c427608a2cad", func := "overtone/overtonelaw19.DstOne", spec := "dstOne", inPlace := ["math.Float64frombits", "math.Float64bits", "internal/reflectlite.ValueOf", "(internal/reflectlite.Value).Type", "(internal/reflectlite.Value).IsNil", "internal/reflectlite.TypeOf", "(internal/reflectlite.Value).Elem", "(internal/reflectlite.Value).Set"], unfollowed := true, recurses := true, named := ["math/bits.deBruijn32tab", "math/bits.deBruijn64tab", "errors.errorType"], plainKeys := false, apart := false, laid := [("math/bits.deBruijn32tab", laid_math_bits_deBruijn32tab), ("math/bits.deBruijn64tab", laid_math_bits_deBruijn64tab), ("errors.errorType", laid_errors_errorType)] }
def DstOneSaid : Prop := dstOneRow.holds Tryz.pinned (OpenSpec.ofChange dstOneSpec)

/-- ITS FALSE NEIGHBOUR: 'it returns false'. Refute it at one input. -/
def dstOneWrong : ChangeSpec := { name := "dstOne", fn := fun _ => fun
  | [d1, d2] => { results := [.lit (.bool false)], args := [d1, d2] }
  | _ => none }
def DstOneWrongFalsely : Prop := dstOneRow.holds Tryz.pinned (OpenSpec.ofChange dstOneWrong)

/-- 'overtonelaw19.DstScale': WHATEVER THE INPUT: true; the input reads as it did. -/
def dstScaleSpec : ChangeSpec := { name := "dstScale", fn := fun _ => fun
  | [d1, d2] => { results := [.lit (.bool true)], args := [d1, d2] }
  | _ => none }
def dstScaleRow : OpenClaim := { program := "ytalbgklfhabnkaagreatdoor", sum := "55522d4b85ea9501e2222dd7787ef71b448f79925820b5631026c427608a2cad", func := "overtone/overtonelaw19.DstScale", spec := "dstScale", inPlace := ["math.Float64frombits", "math.Float64bits", "internal/reflectlite.ValueOf", "(internal/reflectlite.Value).Type", "(internal/reflectlite.Value).IsNil", "internal/reflectlite.TypeOf", "(internal/reflectlite.Value).Elem", "(internal/reflectlite.Value).Set"], unfollowed := true, recurses := true, named := ["math/bits.deBruijn32tab", "math/bits.deBruijn64tab", "errors.errorType"], plainKeys := false, apart := false, laid := [("math/bits.deBruijn32tab", laid_math_bits_deBruijn32tab), ("math/bits.deBruijn64tab", laid_math_bits_deBruijn64tab), ("errors.errorType", laid_errors_errorType)] }
def DstScaleSaid : Prop := dstScaleRow.holds Tryz.pinned (OpenSpec.ofChange dstScaleSpec)

/-- ITS FALSE NEIGHBOUR: 'it returns false'. Refute it at one input. -/
def dstScaleWrong : ChangeSpec := { name := "dstScale", fn := fun _ => fun
  | [d1, d2] => { results := [.lit (.bool false)], args := [d1, d2] }
  | _ => none }
def DstScaleWrongFalsely : Prop := dstScaleRow.holds Tryz.pinned (OpenSpec.ofChange dstScaleWrong)

/-- 'overtonelaw19.DstGiven': WHATEVER THE INPUT: true; the input reads as it did. -/
def dstGivenSpec : ChangeSpec := { name := "dstGiven", fn := fun _ => fun
  | [d] => { results := [.lit (.bool true)], args := [d] }
  | _ => none }
def dstGivenRow : OpenClaim := { program := "ytalbgklfhabnkaagreatdoor", sum := "55522d4b85ea9501e2222dd7787ef71b448f79925820b5631026c427608a2cad", func := "overtone/overtonelaw19.DstGiven", spec := "dstGiven", inPlace := ["math.Float64frombits", "math.Float64bits", "internal/reflectlite.ValueOf", "(internal/reflectlite.Value).Type", "(internal/reflectlite.Value).IsNil", "internal/reflectlite.TypeOf", "(internal/reflectlite.Value).Elem", "(internal/reflectlite.Value).Set"], unfollowed := true, recurses := true, named := ["math/bits.deBruijn32tab", "math/bits.deBruijn64tab", "errors.errorType"], plainKeys := false, apart := false, laid := [("math/bits.deBruijn32tab", laid_math_bits_deBruijn32tab), ("math/bits.deBruijn64tab", laid_math_bits_deBruijn64tab), ("errors.errorType", laid_errors_errorType)] }
def DstGivenSaid : Prop := dstGivenRow.holds Tryz.pinned (OpenSpec.ofChange dstGivenSpec)

/-- ITS FALSE NEIGHBOUR: 'it returns false'. Refute it at one input. -/
def dstGivenWrong : ChangeSpec := { name := "dstGiven", fn := fun _ => fun
  | [d] => { results := [.lit (.bool false)], args := [d] }
  | _ => none }
def DstGivenWrongFalsely : Prop := dstGivenRow.holds Tryz.pinned (OpenSpec.ofChange dstGivenWrong)

/- THE SECOND FORM. 'bulk': how many values and letters a reading holds, each counted each time it is reached (what is shared counts as often as it is met; a slice's spare places count too). A statement '..UptoSaid' is the law's where the arguments, and the package variables that the reading takes, are together of bulk at most 1048576: NARROWER than '..Said'. Prove '..Said' where nothing that the law and all that it calls make is longer than what came in: it says more and counts as full. Else prove '..UptoSaid'. A law counts once. -/
mutual
def uptoBulk {H : Type} : DataW H → Nat
  | .lit (.string bytes) => bytes.length + 1
  | .lit _ => 1
  | .nil => 1
  | .ptr d => uptoBulk d + 1
  | .slice elems spare => uptoBulkAll elems + uptoBulkAll spare + 1
  | .agg parts => uptoBulkAll parts + 1
  | .iface _ d => uptoBulk d + 1
  | .map entries => uptoBulkEntries entries + 1
  | .held _ => 1
def uptoBulkAll {H : Type} : List (DataW H) → Nat
  | [] => 0
  | d :: r => uptoBulk d + uptoBulkAll r
def uptoBulkEntries {H : Type} : List (Lit × DataW H) → Nat
  | [] => 0
  | x :: r => uptoBulkEntry x + uptoBulkEntries r
def uptoBulkEntry {H : Type} : Lit × DataW H → Nat
  | (.string bytes, d) => bytes.length + uptoBulk d + 1
  | (_, d) => uptoBulk d + 1
 end
def uptoSmall : (H : Type) → List (DataW H) → Bool := fun _ ds => decide (uptoBulkAll ds ≤ 1048576)
def OpenSpec.upto (s : _root_.Go.ChangeSpec) : _root_.Go.OpenSpec := { _root_.Go.OpenSpec.ofChange s with cond := some uptoSmall }

/-- 'overtonelaw15.IrfftOne', WHERE WHAT IT READS IS OF BULK AT MOST 1048576: true; the input reads as it did. -/
def irfftOneUptoRow : OpenClaim := { program := "ytalbgklfhabnkaagreatdoor", sum := "55522d4b85ea9501e2222dd7787ef71b448f79925820b5631026c427608a2cad", func := "overtone/overtonelaw15.IrfftOne", spec := "irfftOne", inPlace := ["math.Float64frombits", "math.Float64bits", "internal/reflectlite.TypeOf"], unfollowed := true, recurses := true, named := ["math/bits.deBruijn32tab", "math/bits.deBruijn64tab"], plainKeys := false, apart := false, laid := [("math/bits.deBruijn32tab", laid_math_bits_deBruijn32tab), ("math/bits.deBruijn64tab", laid_math_bits_deBruijn64tab)], narrowed := true }
def IrfftOneUptoSaid : Prop := irfftOneUptoRow.holds Tryz.pinned (OpenSpec.upto irfftOneSpec)

/-- 'overtonelaw15.IrfftScale', WHERE WHAT IT READS IS OF BULK AT MOST 1048576: true; the input reads as it did. -/
def irfftScaleUptoRow : OpenClaim := { program := "ytalbgklfhabnkaagreatdoor", sum := "55522d4b85ea9501e2222dd7787ef71b448f79925820b5631026c427608a2cad", func := "overtone/overtonelaw15.IrfftScale", spec := "irfftScale", inPlace := ["math.Float64frombits", "math.Float64bits", "internal/reflectlite.TypeOf"], unfollowed := true, recurses := true, named := ["math/bits.deBruijn32tab", "math/bits.deBruijn64tab"], plainKeys := false, apart := false, laid := [("math/bits.deBruijn32tab", laid_math_bits_deBruijn32tab), ("math/bits.deBruijn64tab", laid_math_bits_deBruijn64tab)], narrowed := true }
def IrfftScaleUptoSaid : Prop := irfftScaleUptoRow.holds Tryz.pinned (OpenSpec.upto irfftScaleSpec)

/-- 'overtonelaw15.IrfftGiven', WHERE WHAT IT READS IS OF BULK AT MOST 1048576: true; the input reads as it did. -/
def irfftGivenUptoRow : OpenClaim := { program := "ytalbgklfhabnkaagreatdoor", sum := "55522d4b85ea9501e2222dd7787ef71b448f79925820b5631026c427608a2cad", func := "overtone/overtonelaw15.IrfftGiven", spec := "irfftGiven", inPlace := ["math.Float64frombits", "math.Float64bits", "internal/reflectlite.TypeOf"], unfollowed := true, recurses := true, named := ["math/bits.deBruijn32tab", "math/bits.deBruijn64tab"], plainKeys := false, apart := false, laid := [("math/bits.deBruijn32tab", laid_math_bits_deBruijn32tab), ("math/bits.deBruijn64tab", laid_math_bits_deBruijn64tab)], narrowed := true }
def IrfftGivenUptoSaid : Prop := irfftGivenUptoRow.holds Tryz.pinned (OpenSpec.upto irfftGivenSpec)

/-- 'overtonelaw18.DctoneSmall', WHERE WHAT IT READS IS OF BULK AT MOST 1048576: true; the input reads as it did. -/
def dctoneSmallUptoRow : OpenClaim := { program := "ytalbgklfhabnkaagreatdoor", sum := "55522d4b85ea9501e2222dd7787ef71b448f79925820b5631026c427608a2cad", func := "overtone/overtonelaw18.DctoneSmall", spec := "dctoneSmall", inPlace := ["math.Float64frombits", "math.Float64bits"], unfollowed := true, recurses := true, named := ["math/bits.deBruijn32tab", "math/bits.deBruijn64tab"], plainKeys := false, apart := false, laid := [("math/bits.deBruijn32tab", laid_math_bits_deBruijn32tab), ("math/bits.deBruijn64tab", laid_math_bits_deBruijn64tab)], narrowed := true }
def DctoneSmallUptoSaid : Prop := dctoneSmallUptoRow.holds Tryz.pinned (OpenSpec.upto dctoneSmallSpec)

/-- 'overtonelaw18.DctoneScale', WHERE WHAT IT READS IS OF BULK AT MOST 1048576: true; the input reads as it did. -/
def dctoneScaleUptoRow : OpenClaim := { program := "ytalbgklfhabnkaagreatdoor", sum := "55522d4b85ea9501e2222dd7787ef71b448f79925820b5631026c427608a2cad", func := "overtone/overtonelaw18.DctoneScale", spec := "dctoneScale", inPlace := ["math.Float64frombits", "math.Float64bits"], unfollowed := true, recurses := true, named := ["math/bits.deBruijn32tab", "math/bits.deBruijn64tab"], plainKeys := false, apart := false, laid := [("math/bits.deBruijn32tab", laid_math_bits_deBruijn32tab), ("math/bits.deBruijn64tab", laid_math_bits_deBruijn64tab)], narrowed := true }
def DctoneScaleUptoSaid : Prop := dctoneScaleUptoRow.holds Tryz.pinned (OpenSpec.upto dctoneScaleSpec)

/-- 'overtonelaw18.DctoneGiven', WHERE WHAT IT READS IS OF BULK AT MOST 1048576: true; the input reads as it did. -/
def dctoneGivenUptoRow : OpenClaim := { program := "ytalbgklfhabnkaagreatdoor", sum := "55522d4b85ea9501e2222dd7787ef71b448f79925820b5631026c427608a2cad", func := "overtone/overtonelaw18.DctoneGiven", spec := "dctoneGiven", inPlace := ["math.Float64frombits", "math.Float64bits"], unfollowed := true, recurses := true, named := ["math/bits.deBruijn32tab", "math/bits.deBruijn64tab"], plainKeys := false, apart := false, laid := [("math/bits.deBruijn32tab", laid_math_bits_deBruijn32tab), ("math/bits.deBruijn64tab", laid_math_bits_deBruijn64tab)], narrowed := true }
def DctoneGivenUptoSaid : Prop := dctoneGivenUptoRow.holds Tryz.pinned (OpenSpec.upto dctoneGivenSpec)

/-- 'overtonelaw16.DcttwoOne', WHERE WHAT IT READS IS OF BULK AT MOST 1048576: true; the input reads as it did. -/
def dcttwoOneUptoRow : OpenClaim := { program := "ytalbgklfhabnkaagreatdoor", sum := "55522d4b85ea9501e2222dd7787ef71b448f79925820b5631026c427608a2cad", func := "overtone/overtonelaw16.DcttwoOne", spec := "dcttwoOne", inPlace := ["math.Float64frombits", "math.Float64bits", "internal/reflectlite.ValueOf", "(internal/reflectlite.Value).Type", "(internal/reflectlite.Value).IsNil", "internal/reflectlite.TypeOf", "(internal/reflectlite.Value).Elem", "(internal/reflectlite.Value).Set"], unfollowed := true, recurses := true, named := ["math/bits.deBruijn32tab", "math/bits.deBruijn64tab", "errors.errorType"], plainKeys := false, apart := false, laid := [("math/bits.deBruijn32tab", laid_math_bits_deBruijn32tab), ("math/bits.deBruijn64tab", laid_math_bits_deBruijn64tab), ("errors.errorType", laid_errors_errorType)], narrowed := true }
def DcttwoOneUptoSaid : Prop := dcttwoOneUptoRow.holds Tryz.pinned (OpenSpec.upto dcttwoOneSpec)

/-- 'overtonelaw16.DcttwoScale', WHERE WHAT IT READS IS OF BULK AT MOST 1048576: true; the input reads as it did. -/
def dcttwoScaleUptoRow : OpenClaim := { program := "ytalbgklfhabnkaagreatdoor", sum := "55522d4b85ea9501e2222dd7787ef71b448f79925820b5631026c427608a2cad", func := "overtone/overtonelaw16.DcttwoScale", spec := "dcttwoScale", inPlace := ["math.Float64frombits", "math.Float64bits", "internal/reflectlite.ValueOf", "(internal/reflectlite.Value).Type", "(internal/reflectlite.Value).IsNil", "internal/reflectlite.TypeOf", "(internal/reflectlite.Value).Elem", "(internal/reflectlite.Value).Set"], unfollowed := true, recurses := true, named := ["math/bits.deBruijn32tab", "math/bits.deBruijn64tab", "errors.errorType"], plainKeys := false, apart := false, laid := [("math/bits.deBruijn32tab", laid_math_bits_deBruijn32tab), ("math/bits.deBruijn64tab", laid_math_bits_deBruijn64tab), ("errors.errorType", laid_errors_errorType)], narrowed := true }
def DcttwoScaleUptoSaid : Prop := dcttwoScaleUptoRow.holds Tryz.pinned (OpenSpec.upto dcttwoScaleSpec)

/-- 'overtonelaw16.DcttwoGiven', WHERE WHAT IT READS IS OF BULK AT MOST 1048576: true; the input reads as it did. -/
def dcttwoGivenUptoRow : OpenClaim := { program := "ytalbgklfhabnkaagreatdoor", sum := "55522d4b85ea9501e2222dd7787ef71b448f79925820b5631026c427608a2cad", func := "overtone/overtonelaw16.DcttwoGiven", spec := "dcttwoGiven", inPlace := ["math.Float64frombits", "math.Float64bits", "internal/reflectlite.ValueOf", "(internal/reflectlite.Value).Type", "(internal/reflectlite.Value).IsNil", "internal/reflectlite.TypeOf", "(internal/reflectlite.Value).Elem", "(internal/reflectlite.Value).Set"], unfollowed := true, recurses := true, named := ["math/bits.deBruijn32tab", "math/bits.deBruijn64tab", "errors.errorType"], plainKeys := false, apart := false, laid := [("math/bits.deBruijn32tab", laid_math_bits_deBruijn32tab), ("math/bits.deBruijn64tab", laid_math_bits_deBruijn64tab), ("errors.errorType", laid_errors_errorType)], narrowed := true }
def DcttwoGivenUptoSaid : Prop := dcttwoGivenUptoRow.holds Tryz.pinned (OpenSpec.upto dcttwoGivenSpec)

/-- 'overtonelaw19.DstOne', WHERE WHAT IT READS IS OF BULK AT MOST 1048576: true; the input reads as it did. -/
def dstOneUptoRow : OpenClaim := { program := "ytalbgklfhabnkaagreatdoor", sum := "55522d4b85ea9501e2222dd7787ef71b448f79925820b5631026c427608a2cad", func := "overtone/overtonelaw19.DstOne", spec := "dstOne", inPlace := ["math.Float64frombits", "math.Float64bits", "internal/reflectlite.ValueOf", "(internal/reflectlite.Value).Type", "(internal/reflectlite.Value).IsNil", "internal/reflectlite.TypeOf", "(internal/reflectlite.Value).Elem", "(internal/reflectlite.Value).Set"], unfollowed := true, recurses := true, named := ["math/bits.deBruijn32tab", "math/bits.deBruijn64tab", "errors.errorType"], plainKeys := false, apart := false, laid := [("math/bits.deBruijn32tab", laid_math_bits_deBruijn32tab), ("math/bits.deBruijn64tab", laid_math_bits_deBruijn64tab), ("errors.errorType", laid_errors_errorType)], narrowed := true }
def DstOneUptoSaid : Prop := dstOneUptoRow.holds Tryz.pinned (OpenSpec.upto dstOneSpec)

/-- 'overtonelaw19.DstScale', WHERE WHAT IT READS IS OF BULK AT MOST 1048576: true; the input reads as it did. -/
def dstScaleUptoRow : OpenClaim := { program := "ytalbgklfhabnkaagreatdoor", sum := "55522d4b85ea9501e2222dd7787ef71b448f79925820b5631026c427608a2cad", func := "overtone/overtonelaw19.DstScale", spec := "dstScale", inPlace := ["math.Float64frombits", "math.Float64bits", "internal/reflectlite.ValueOf", "(internal/reflectlite.Value).Type", "(internal/reflectlite.Value).IsNil", "internal/reflectlite.TypeOf", "(internal/reflectlite.Value).Elem", "(internal/reflectlite.Value).Set"], unfollowed := true, recurses := true, named := ["math/bits.deBruijn32tab", "math/bits.deBruijn64tab", "errors.errorType"], plainKeys := false, apart := false, laid := [("math/bits.deBruijn32tab", laid_math_bits_deBruijn32tab), ("math/bits.deBruijn64tab", laid_math_bits_deBruijn64tab), ("errors.errorType", laid_errors_errorType)], narrowed := true }
def DstScaleUptoSaid : Prop := dstScaleUptoRow.holds Tryz.pinned (OpenSpec.upto dstScaleSpec)

/-- 'overtonelaw19.DstGiven', WHERE WHAT IT READS IS OF BULK AT MOST 1048576: true; the input reads as it did. -/
def dstGivenUptoRow : OpenClaim := { program := "ytalbgklfhabnkaagreatdoor", sum := "55522d4b85ea9501e2222dd7787ef71b448f79925820b5631026c427608a2cad", func := "overtone/overtonelaw19.DstGiven", spec := "dstGiven", inPlace := ["math.Float64frombits", "math.Float64bits", "internal/reflectlite.ValueOf", "(internal/reflectlite.Value).Type", "(internal/reflectlite.Value).IsNil", "internal/reflectlite.TypeOf", "(internal/reflectlite.Value).Elem", "(internal/reflectlite.Value).Set"], unfollowed := true, recurses := true, named := ["math/bits.deBruijn32tab", "math/bits.deBruijn64tab", "errors.errorType"], plainKeys := false, apart := false, laid := [("math/bits.deBruijn32tab", laid_math_bits_deBruijn32tab), ("math/bits.deBruijn64tab", laid_math_bits_deBruijn64tab), ("errors.errorType", laid_errors_errorType)], narrowed := true }
def DstGivenUptoSaid : Prop := dstGivenUptoRow.holds Tryz.pinned (OpenSpec.upto dstGivenSpec)

end Rows
end Go.Proofs.YtalbgklfhabnkaaGreatDoor
