/-
  NARROWER THAN 'FOR EVERY INPUT', by the rows' own cells (each row's printed sentence says how): InvTells: laid · InvNear: laid · InvGiven: laid · InvOne: laid · RfftTells: laid · RfftNear: laid · RfftBins: laid · RfftOne: laid · RfftScale: laid · RfftGiven: laid · InvBack: laid · InvSwap: laid.
  DERIVED. THE GIVEN ROWS OF THIS SEAT. 12 by the template 'for every input the law returns true; each argument reads behind the call as it read before'; 0 by the template 'total and deterministic' (their statements: YtnbdoidccacdnaaGreatDoorTotals.lean).
  GIVEN WITH THE SEED: the statements are not yours to turn. If you find one false, say at which input.
  Laid BY PROGRAM, IN A SANDBOX (cutbox-rows.mjs): the forced cells as the released guide's own fill.sh prints them over the translation 55d286635437fe1f… (all of the seat's roots in one cut). By AI agents, Wed Nov 11 2026. No macro, syntax, notation, axiom, sorry.
-/
import Derived.Test.YtnbdoidccacdnaaGreatDoorChecked
import GoSem.Claim
import GoSem.ClaimJoined
import GoSem.ClaimMapViews
import Derived.JoinedTies
import Derived.KernelRfl
namespace Go.Proofs.YtnbdoidccacdnaaGreatDoor
/- THE CELL 'sum', in the pinned program and in every row, IS THE sha256 OF THE DUMP (.gsa) THAT YtnbdoidccacdnaaGreatDoorProg.lean LOADS. Nothing in Lean hashes anything: it is a label: what it is worth is what the hold of that sum in a sandbox is worth. -/
noncomputable def Tryz.pinned : Pinned := { name := "ytnbdoidccacdnaagreatdoor", sum := "55d286635437fe1faf9c5f58ec8c509f45006bb0b48fbd0536b4580ef28b0f13", checked := Tryz.checked }
namespace Rows
def none {H : Type} : Left H := { results := [], args := [] }

/- WHAT THE LISTED PACKAGE-LEVEL VARIABLES READ AS WHEN THE CALL BEGINS. Each datum BY PROGRAM (the guide's laid-datum.mjs) off the statement by which the dump's own 'gosem.cut.vars' lays the variable. In a bare row this is a premise. The card (YtnbdoidccacdnaaGreatDoorCards.lean) ties it to the program's text. -/
def laid_math_bits_deBruijn32tab {H : Type} : DataW H := .agg [.lit (.int .u8 0), .lit (.int .u8 1), .lit (.int .u8 28), .lit (.int .u8 2), .lit (.int .u8 29), .lit (.int .u8 14), .lit (.int .u8 24), .lit (.int .u8 3), .lit (.int .u8 30), .lit (.int .u8 22), .lit (.int .u8 20), .lit (.int .u8 15), .lit (.int .u8 25), .lit (.int .u8 17), .lit (.int .u8 4), .lit (.int .u8 8), .lit (.int .u8 31), .lit (.int .u8 27), .lit (.int .u8 13), .lit (.int .u8 23), .lit (.int .u8 21), .lit (.int .u8 19), .lit (.int .u8 16), .lit (.int .u8 7), .lit (.int .u8 26), .lit (.int .u8 12), .lit (.int .u8 18), .lit (.int .u8 6), .lit (.int .u8 11), .lit (.int .u8 5), .lit (.int .u8 10), .lit (.int .u8 9)]
def laid_math_bits_deBruijn64tab {H : Type} : DataW H := .agg [.lit (.int .u8 0), .lit (.int .u8 1), .lit (.int .u8 56), .lit (.int .u8 2), .lit (.int .u8 57), .lit (.int .u8 49), .lit (.int .u8 28), .lit (.int .u8 3), .lit (.int .u8 61), .lit (.int .u8 58), .lit (.int .u8 42), .lit (.int .u8 50), .lit (.int .u8 38), .lit (.int .u8 29), .lit (.int .u8 17), .lit (.int .u8 4), .lit (.int .u8 62), .lit (.int .u8 47), .lit (.int .u8 59), .lit (.int .u8 36), .lit (.int .u8 45), .lit (.int .u8 43), .lit (.int .u8 51), .lit (.int .u8 22), .lit (.int .u8 53), .lit (.int .u8 39), .lit (.int .u8 33), .lit (.int .u8 30), .lit (.int .u8 24), .lit (.int .u8 18), .lit (.int .u8 12), .lit (.int .u8 5), .lit (.int .u8 63), .lit (.int .u8 55), .lit (.int .u8 48), .lit (.int .u8 27), .lit (.int .u8 60), .lit (.int .u8 41), .lit (.int .u8 37), .lit (.int .u8 16), .lit (.int .u8 46), .lit (.int .u8 35), .lit (.int .u8 44), .lit (.int .u8 21), .lit (.int .u8 52), .lit (.int .u8 32), .lit (.int .u8 23), .lit (.int .u8 11), .lit (.int .u8 54), .lit (.int .u8 26), .lit (.int .u8 40), .lit (.int .u8 15), .lit (.int .u8 34), .lit (.int .u8 20), .lit (.int .u8 31), .lit (.int .u8 10), .lit (.int .u8 25), .lit (.int .u8 14), .lit (.int .u8 19), .lit (.int .u8 9), .lit (.int .u8 13), .lit (.int .u8 8), .lit (.int .u8 7), .lit (.int .u8 6)]

/-- 'overtonelaw13.InvTells': WHATEVER THE INPUT: true; the input reads as it did. -/
def invTellsSpec : ChangeSpec := { name := "invTells", fn := fun _ => fun
  | [d] => { results := [.lit (.bool true)], args := [d] }
  | _ => none }
def invTellsRow : OpenClaim := { program := "ytnbdoidccacdnaagreatdoor", sum := "55d286635437fe1faf9c5f58ec8c509f45006bb0b48fbd0536b4580ef28b0f13", func := "overtone/overtonelaw13.InvTells", spec := "invTells", inPlace := ["math.Float64frombits", "math.Float64bits", "internal/reflectlite.TypeOf"], unfollowed := true, recurses := true, named := ["math/bits.deBruijn32tab", "math/bits.deBruijn64tab"], plainKeys := false, apart := false, laid := [("math/bits.deBruijn32tab", laid_math_bits_deBruijn32tab), ("math/bits.deBruijn64tab", laid_math_bits_deBruijn64tab)] }
def InvTellsSaid : Prop := invTellsRow.holds Tryz.pinned (OpenSpec.ofChange invTellsSpec)

/-- ITS FALSE NEIGHBOUR: 'it returns false'. Refute it at one input. -/
def invTellsWrong : ChangeSpec := { name := "invTells", fn := fun _ => fun
  | [d] => { results := [.lit (.bool false)], args := [d] }
  | _ => none }
def InvTellsWrongFalsely : Prop := invTellsRow.holds Tryz.pinned (OpenSpec.ofChange invTellsWrong)

/-- 'overtonelaw13.InvNear': WHATEVER THE INPUT: true; the input reads as it did. -/
def invNearSpec : ChangeSpec := { name := "invNear", fn := fun _ => fun
  | [d] => { results := [.lit (.bool true)], args := [d] }
  | _ => none }
def invNearRow : OpenClaim := { program := "ytnbdoidccacdnaagreatdoor", sum := "55d286635437fe1faf9c5f58ec8c509f45006bb0b48fbd0536b4580ef28b0f13", func := "overtone/overtonelaw13.InvNear", spec := "invNear", inPlace := ["math.Float64frombits", "math.Float64bits", "internal/reflectlite.TypeOf"], unfollowed := true, recurses := true, named := ["math/bits.deBruijn32tab", "math/bits.deBruijn64tab"], plainKeys := false, apart := false, laid := [("math/bits.deBruijn32tab", laid_math_bits_deBruijn32tab), ("math/bits.deBruijn64tab", laid_math_bits_deBruijn64tab)] }
def InvNearSaid : Prop := invNearRow.holds Tryz.pinned (OpenSpec.ofChange invNearSpec)

/-- ITS FALSE NEIGHBOUR: 'it returns false'. Refute it at one input. -/
def invNearWrong : ChangeSpec := { name := "invNear", fn := fun _ => fun
  | [d] => { results := [.lit (.bool false)], args := [d] }
  | _ => none }
def InvNearWrongFalsely : Prop := invNearRow.holds Tryz.pinned (OpenSpec.ofChange invNearWrong)

/-- 'overtonelaw13.InvGiven': WHATEVER THE INPUT: true; the input reads as it did. -/
def invGivenSpec : ChangeSpec := { name := "invGiven", fn := fun _ => fun
  | [d] => { results := [.lit (.bool true)], args := [d] }
  | _ => none }
def invGivenRow : OpenClaim := { program := "ytnbdoidccacdnaagreatdoor", sum := "55d286635437fe1faf9c5f58ec8c509f45006bb0b48fbd0536b4580ef28b0f13", func := "overtone/overtonelaw13.InvGiven", spec := "invGiven", inPlace := ["math.Float64frombits", "math.Float64bits", "internal/reflectlite.TypeOf"], unfollowed := true, recurses := true, named := ["math/bits.deBruijn32tab", "math/bits.deBruijn64tab"], plainKeys := false, apart := false, laid := [("math/bits.deBruijn32tab", laid_math_bits_deBruijn32tab), ("math/bits.deBruijn64tab", laid_math_bits_deBruijn64tab)] }
def InvGivenSaid : Prop := invGivenRow.holds Tryz.pinned (OpenSpec.ofChange invGivenSpec)

/-- ITS FALSE NEIGHBOUR: 'it returns false'. Refute it at one input. -/
def invGivenWrong : ChangeSpec := { name := "invGiven", fn := fun _ => fun
  | [d] => { results := [.lit (.bool false)], args := [d] }
  | _ => none }
def InvGivenWrongFalsely : Prop := invGivenRow.holds Tryz.pinned (OpenSpec.ofChange invGivenWrong)

/-- 'overtonelaw13.InvOne': WHATEVER THE INPUT: true; the input reads as it did. -/
def invOneSpec : ChangeSpec := { name := "invOne", fn := fun _ => fun
  | [d1, d2, d3] => { results := [.lit (.bool true)], args := [d1, d2, d3] }
  | _ => none }
def invOneRow : OpenClaim := { program := "ytnbdoidccacdnaagreatdoor", sum := "55d286635437fe1faf9c5f58ec8c509f45006bb0b48fbd0536b4580ef28b0f13", func := "overtone/overtonelaw13.InvOne", spec := "invOne", inPlace := ["math.Float64frombits", "math.Float64bits", "internal/reflectlite.TypeOf"], unfollowed := true, recurses := true, named := ["math/bits.deBruijn32tab", "math/bits.deBruijn64tab"], plainKeys := false, apart := false, laid := [("math/bits.deBruijn32tab", laid_math_bits_deBruijn32tab), ("math/bits.deBruijn64tab", laid_math_bits_deBruijn64tab)] }
def InvOneSaid : Prop := invOneRow.holds Tryz.pinned (OpenSpec.ofChange invOneSpec)

/-- ITS FALSE NEIGHBOUR: 'it returns false'. Refute it at one input. -/
def invOneWrong : ChangeSpec := { name := "invOne", fn := fun _ => fun
  | [d1, d2, d3] => { results := [.lit (.bool false)], args := [d1, d2, d3] }
  | _ => none }
def InvOneWrongFalsely : Prop := invOneRow.holds Tryz.pinned (OpenSpec.ofChange invOneWrong)

/-- 'overtonelaw14.RfftTells': WHATEVER THE INPUT: true; the input reads as it did. -/
def rfftTellsSpec : ChangeSpec := { name := "rfftTells", fn := fun _ => fun
  | [d1, d2] => { results := [.lit (.bool true)], args := [d1, d2] }
  | _ => none }
def rfftTellsRow : OpenClaim := { program := "ytnbdoidccacdnaagreatdoor", sum := "55d286635437fe1faf9c5f58ec8c509f45006bb0b48fbd0536b4580ef28b0f13", func := "overtone/overtonelaw14.RfftTells", spec := "rfftTells", inPlace := ["math.Float64frombits", "math.Float64bits"], unfollowed := true, recurses := true, named := ["math/bits.deBruijn32tab", "math/bits.deBruijn64tab"], plainKeys := false, apart := false, laid := [("math/bits.deBruijn32tab", laid_math_bits_deBruijn32tab), ("math/bits.deBruijn64tab", laid_math_bits_deBruijn64tab)] }
def RfftTellsSaid : Prop := rfftTellsRow.holds Tryz.pinned (OpenSpec.ofChange rfftTellsSpec)

/-- ITS FALSE NEIGHBOUR: 'it returns false'. Refute it at one input. -/
def rfftTellsWrong : ChangeSpec := { name := "rfftTells", fn := fun _ => fun
  | [d1, d2] => { results := [.lit (.bool false)], args := [d1, d2] }
  | _ => none }
def RfftTellsWrongFalsely : Prop := rfftTellsRow.holds Tryz.pinned (OpenSpec.ofChange rfftTellsWrong)

/-- 'overtonelaw14.RfftNear': WHATEVER THE INPUT: true; the input reads as it did. -/
def rfftNearSpec : ChangeSpec := { name := "rfftNear", fn := fun _ => fun
  | [d] => { results := [.lit (.bool true)], args := [d] }
  | _ => none }
def rfftNearRow : OpenClaim := { program := "ytnbdoidccacdnaagreatdoor", sum := "55d286635437fe1faf9c5f58ec8c509f45006bb0b48fbd0536b4580ef28b0f13", func := "overtone/overtonelaw14.RfftNear", spec := "rfftNear", inPlace := ["math.Float64frombits", "math.Float64bits"], unfollowed := true, recurses := true, named := ["math/bits.deBruijn32tab", "math/bits.deBruijn64tab"], plainKeys := false, apart := false, laid := [("math/bits.deBruijn32tab", laid_math_bits_deBruijn32tab), ("math/bits.deBruijn64tab", laid_math_bits_deBruijn64tab)] }
def RfftNearSaid : Prop := rfftNearRow.holds Tryz.pinned (OpenSpec.ofChange rfftNearSpec)

/-- ITS FALSE NEIGHBOUR: 'it returns false'. Refute it at one input. -/
def rfftNearWrong : ChangeSpec := { name := "rfftNear", fn := fun _ => fun
  | [d] => { results := [.lit (.bool false)], args := [d] }
  | _ => none }
def RfftNearWrongFalsely : Prop := rfftNearRow.holds Tryz.pinned (OpenSpec.ofChange rfftNearWrong)

/-- 'overtonelaw14.RfftBins': WHATEVER THE INPUT: true; the input reads as it did. -/
def rfftBinsSpec : ChangeSpec := { name := "rfftBins", fn := fun _ => fun
  | [d1, d2] => { results := [.lit (.bool true)], args := [d1, d2] }
  | _ => none }
def rfftBinsRow : OpenClaim := { program := "ytnbdoidccacdnaagreatdoor", sum := "55d286635437fe1faf9c5f58ec8c509f45006bb0b48fbd0536b4580ef28b0f13", func := "overtone/overtonelaw14.RfftBins", spec := "rfftBins", inPlace := ["math.Float64frombits", "math.Float64bits"], unfollowed := true, recurses := true, named := ["math/bits.deBruijn32tab", "math/bits.deBruijn64tab"], plainKeys := false, apart := false, laid := [("math/bits.deBruijn32tab", laid_math_bits_deBruijn32tab), ("math/bits.deBruijn64tab", laid_math_bits_deBruijn64tab)] }
def RfftBinsSaid : Prop := rfftBinsRow.holds Tryz.pinned (OpenSpec.ofChange rfftBinsSpec)

/-- ITS FALSE NEIGHBOUR: 'it returns false'. Refute it at one input. -/
def rfftBinsWrong : ChangeSpec := { name := "rfftBins", fn := fun _ => fun
  | [d1, d2] => { results := [.lit (.bool false)], args := [d1, d2] }
  | _ => none }
def RfftBinsWrongFalsely : Prop := rfftBinsRow.holds Tryz.pinned (OpenSpec.ofChange rfftBinsWrong)

/-- 'overtonelaw14.RfftOne': WHATEVER THE INPUT: true; the input reads as it did. -/
def rfftOneSpec : ChangeSpec := { name := "rfftOne", fn := fun _ => fun
  | [d1, d2] => { results := [.lit (.bool true)], args := [d1, d2] }
  | _ => none }
def rfftOneRow : OpenClaim := { program := "ytnbdoidccacdnaagreatdoor", sum := "55d286635437fe1faf9c5f58ec8c509f45006bb0b48fbd0536b4580ef28b0f13", func := "overtone/overtonelaw14.RfftOne", spec := "rfftOne", inPlace := ["math.Float64frombits", "math.Float64bits"], unfollowed := true, recurses := true, named := ["math/bits.deBruijn32tab", "math/bits.deBruijn64tab"], plainKeys := false, apart := false, laid := [("math/bits.deBruijn32tab", laid_math_bits_deBruijn32tab), ("math/bits.deBruijn64tab", laid_math_bits_deBruijn64tab)] }
def RfftOneSaid : Prop := rfftOneRow.holds Tryz.pinned (OpenSpec.ofChange rfftOneSpec)

/-- ITS FALSE NEIGHBOUR: 'it returns false'. Refute it at one input. -/
def rfftOneWrong : ChangeSpec := { name := "rfftOne", fn := fun _ => fun
  | [d1, d2] => { results := [.lit (.bool false)], args := [d1, d2] }
  | _ => none }
def RfftOneWrongFalsely : Prop := rfftOneRow.holds Tryz.pinned (OpenSpec.ofChange rfftOneWrong)

/-- 'overtonelaw14.RfftScale': WHATEVER THE INPUT: true; the input reads as it did. -/
def rfftScaleSpec : ChangeSpec := { name := "rfftScale", fn := fun _ => fun
  | [d1, d2] => { results := [.lit (.bool true)], args := [d1, d2] }
  | _ => none }
def rfftScaleRow : OpenClaim := { program := "ytnbdoidccacdnaagreatdoor", sum := "55d286635437fe1faf9c5f58ec8c509f45006bb0b48fbd0536b4580ef28b0f13", func := "overtone/overtonelaw14.RfftScale", spec := "rfftScale", inPlace := ["math.Float64frombits", "math.Float64bits"], unfollowed := true, recurses := true, named := ["math/bits.deBruijn32tab", "math/bits.deBruijn64tab"], plainKeys := false, apart := false, laid := [("math/bits.deBruijn32tab", laid_math_bits_deBruijn32tab), ("math/bits.deBruijn64tab", laid_math_bits_deBruijn64tab)] }
def RfftScaleSaid : Prop := rfftScaleRow.holds Tryz.pinned (OpenSpec.ofChange rfftScaleSpec)

/-- ITS FALSE NEIGHBOUR: 'it returns false'. Refute it at one input. -/
def rfftScaleWrong : ChangeSpec := { name := "rfftScale", fn := fun _ => fun
  | [d1, d2] => { results := [.lit (.bool false)], args := [d1, d2] }
  | _ => none }
def RfftScaleWrongFalsely : Prop := rfftScaleRow.holds Tryz.pinned (OpenSpec.ofChange rfftScaleWrong)

/-- 'overtonelaw14.RfftGiven': WHATEVER THE INPUT: true; the input reads as it did. -/
def rfftGivenSpec : ChangeSpec := { name := "rfftGiven", fn := fun _ => fun
  | [d] => { results := [.lit (.bool true)], args := [d] }
  | _ => none }
def rfftGivenRow : OpenClaim := { program := "ytnbdoidccacdnaagreatdoor", sum := "55d286635437fe1faf9c5f58ec8c509f45006bb0b48fbd0536b4580ef28b0f13", func := "overtone/overtonelaw14.RfftGiven", spec := "rfftGiven", inPlace := ["math.Float64frombits", "math.Float64bits"], unfollowed := true, recurses := true, named := ["math/bits.deBruijn32tab", "math/bits.deBruijn64tab"], plainKeys := false, apart := false, laid := [("math/bits.deBruijn32tab", laid_math_bits_deBruijn32tab), ("math/bits.deBruijn64tab", laid_math_bits_deBruijn64tab)] }
def RfftGivenSaid : Prop := rfftGivenRow.holds Tryz.pinned (OpenSpec.ofChange rfftGivenSpec)

/-- ITS FALSE NEIGHBOUR: 'it returns false'. Refute it at one input. -/
def rfftGivenWrong : ChangeSpec := { name := "rfftGiven", fn := fun _ => fun
  | [d] => { results := [.lit (.bool false)], args := [d] }
  | _ => none }
def RfftGivenWrongFalsely : Prop := rfftGivenRow.holds Tryz.pinned (OpenSpec.ofChange rfftGivenWrong)

/-- 'overtonelaw13.InvBack': WHATEVER THE INPUT: true; the input reads as it did. -/
def invBackSpec : ChangeSpec := { name := "invBack", fn := fun _ => fun
  | [d] => { results := [.lit (.bool true)], args := [d] }
  | _ => none }
def invBackRow : OpenClaim := { program := "ytnbdoidccacdnaagreatdoor", sum := "55d286635437fe1faf9c5f58ec8c509f45006bb0b48fbd0536b4580ef28b0f13", func := "overtone/overtonelaw13.InvBack", spec := "invBack", inPlace := ["math.Float64frombits", "math.Float64bits", "internal/reflectlite.TypeOf"], unfollowed := true, recurses := true, named := ["math/bits.deBruijn32tab", "math/bits.deBruijn64tab"], plainKeys := false, apart := false, laid := [("math/bits.deBruijn32tab", laid_math_bits_deBruijn32tab), ("math/bits.deBruijn64tab", laid_math_bits_deBruijn64tab)] }
def InvBackSaid : Prop := invBackRow.holds Tryz.pinned (OpenSpec.ofChange invBackSpec)

/-- ITS FALSE NEIGHBOUR: 'it returns false'. Refute it at one input. -/
def invBackWrong : ChangeSpec := { name := "invBack", fn := fun _ => fun
  | [d] => { results := [.lit (.bool false)], args := [d] }
  | _ => none }
def InvBackWrongFalsely : Prop := invBackRow.holds Tryz.pinned (OpenSpec.ofChange invBackWrong)

/-- 'overtonelaw13.InvSwap': WHATEVER THE INPUT: true; the input reads as it did. -/
def invSwapSpec : ChangeSpec := { name := "invSwap", fn := fun _ => fun
  | [d] => { results := [.lit (.bool true)], args := [d] }
  | _ => none }
def invSwapRow : OpenClaim := { program := "ytnbdoidccacdnaagreatdoor", sum := "55d286635437fe1faf9c5f58ec8c509f45006bb0b48fbd0536b4580ef28b0f13", func := "overtone/overtonelaw13.InvSwap", spec := "invSwap", inPlace := ["math.Float64frombits", "math.Float64bits", "internal/reflectlite.TypeOf"], unfollowed := true, recurses := true, named := ["math/bits.deBruijn32tab", "math/bits.deBruijn64tab"], plainKeys := false, apart := false, laid := [("math/bits.deBruijn32tab", laid_math_bits_deBruijn32tab), ("math/bits.deBruijn64tab", laid_math_bits_deBruijn64tab)] }
def InvSwapSaid : Prop := invSwapRow.holds Tryz.pinned (OpenSpec.ofChange invSwapSpec)

/-- ITS FALSE NEIGHBOUR: 'it returns false'. Refute it at one input. -/
def invSwapWrong : ChangeSpec := { name := "invSwap", fn := fun _ => fun
  | [d] => { results := [.lit (.bool false)], args := [d] }
  | _ => none }
def InvSwapWrongFalsely : Prop := invSwapRow.holds Tryz.pinned (OpenSpec.ofChange invSwapWrong)

/- THE SECOND FORM. 'bulk': how many values and letters a reading holds, each counted each time it is reached (what is shared counts as often as it is met; a slice's spare places count too). A statement '..UptoSaid' is the law's where the arguments, and the package variables that the reading takes, are together of bulk at most 1048576: NARROWER than '..Said'. Prove '..Said' where nothing that the law and all that it calls make is longer than what came in: it says more and counts as full. Else prove '..UptoSaid'. A law counts once. -/
mutual
def uptoBulk {H : Type} : DataW H → Nat
  | .lit (.string bytes) => bytes.length + 1
  | .lit _ => 1
  | .nil => 1
  | .ptr d => uptoBulk d + 1
  | .slice elems spare => uptoBulkAll elems + uptoBulkAll spare + 1
  | .agg parts => uptoBulkAll parts + 1
  | .iface _ d => uptoBulk d + 1
  | .map entries => uptoBulkEntries entries + 1
  | .held _ => 1
def uptoBulkAll {H : Type} : List (DataW H) → Nat
  | [] => 0
  | d :: r => uptoBulk d + uptoBulkAll r
def uptoBulkEntries {H : Type} : List (Lit × DataW H) → Nat
  | [] => 0
  | x :: r => uptoBulkEntry x + uptoBulkEntries r
def uptoBulkEntry {H : Type} : Lit × DataW H → Nat
  | (.string bytes, d) => bytes.length + uptoBulk d + 1
  | (_, d) => uptoBulk d + 1
 end
def uptoSmall : (H : Type) → List (DataW H) → Bool := fun _ ds => decide (uptoBulkAll ds ≤ 1048576)
def OpenSpec.upto (s : _root_.Go.ChangeSpec) : _root_.Go.OpenSpec := { _root_.Go.OpenSpec.ofChange s with cond := some uptoSmall }

/-- 'overtonelaw13.InvTells', WHERE WHAT IT READS IS OF BULK AT MOST 1048576: true; the input reads as it did. -/
def invTellsUptoRow : OpenClaim := { program := "ytnbdoidccacdnaagreatdoor", sum := "55d286635437fe1faf9c5f58ec8c509f45006bb0b48fbd0536b4580ef28b0f13", func := "overtone/overtonelaw13.InvTells", spec := "invTells", inPlace := ["math.Float64frombits", "math.Float64bits", "internal/reflectlite.TypeOf"], unfollowed := true, recurses := true, named := ["math/bits.deBruijn32tab", "math/bits.deBruijn64tab"], plainKeys := false, apart := false, laid := [("math/bits.deBruijn32tab", laid_math_bits_deBruijn32tab), ("math/bits.deBruijn64tab", laid_math_bits_deBruijn64tab)], narrowed := true }
def InvTellsUptoSaid : Prop := invTellsUptoRow.holds Tryz.pinned (OpenSpec.upto invTellsSpec)

/-- 'overtonelaw13.InvNear', WHERE WHAT IT READS IS OF BULK AT MOST 1048576: true; the input reads as it did. -/
def invNearUptoRow : OpenClaim := { program := "ytnbdoidccacdnaagreatdoor", sum := "55d286635437fe1faf9c5f58ec8c509f45006bb0b48fbd0536b4580ef28b0f13", func := "overtone/overtonelaw13.InvNear", spec := "invNear", inPlace := ["math.Float64frombits", "math.Float64bits", "internal/reflectlite.TypeOf"], unfollowed := true, recurses := true, named := ["math/bits.deBruijn32tab", "math/bits.deBruijn64tab"], plainKeys := false, apart := false, laid := [("math/bits.deBruijn32tab", laid_math_bits_deBruijn32tab), ("math/bits.deBruijn64tab", laid_math_bits_deBruijn64tab)], narrowed := true }
def InvNearUptoSaid : Prop := invNearUptoRow.holds Tryz.pinned (OpenSpec.upto invNearSpec)

/-- 'overtonelaw13.InvGiven', WHERE WHAT IT READS IS OF BULK AT MOST 1048576: true; the input reads as it did. -/
def invGivenUptoRow : OpenClaim := { program := "ytnbdoidccacdnaagreatdoor", sum := "55d286635437fe1faf9c5f58ec8c509f45006bb0b48fbd0536b4580ef28b0f13", func := "overtone/overtonelaw13.InvGiven", spec := "invGiven", inPlace := ["math.Float64frombits", "math.Float64bits", "internal/reflectlite.TypeOf"], unfollowed := true, recurses := true, named := ["math/bits.deBruijn32tab", "math/bits.deBruijn64tab"], plainKeys := false, apart := false, laid := [("math/bits.deBruijn32tab", laid_math_bits_deBruijn32tab), ("math/bits.deBruijn64tab", laid_math_bits_deBruijn64tab)], narrowed := true }
def InvGivenUptoSaid : Prop := invGivenUptoRow.holds Tryz.pinned (OpenSpec.upto invGivenSpec)

/-- 'overtonelaw13.InvOne', WHERE WHAT IT READS IS OF BULK AT MOST 1048576: true; the input reads as it did. -/
def invOneUptoRow : OpenClaim := { program := "ytnbdoidccacdnaagreatdoor", sum := "55d286635437fe1faf9c5f58ec8c509f45006bb0b48fbd0536b4580ef28b0f13", func := "overtone/overtonelaw13.InvOne", spec := "invOne", inPlace := ["math.Float64frombits", "math.Float64bits", "internal/reflectlite.TypeOf"], unfollowed := true, recurses := true, named := ["math/bits.deBruijn32tab", "math/bits.deBruijn64tab"], plainKeys := false, apart := false, laid := [("math/bits.deBruijn32tab", laid_math_bits_deBruijn32tab), ("math/bits.deBruijn64tab", laid_math_bits_deBruijn64tab)], narrowed := true }
def InvOneUptoSaid : Prop := invOneUptoRow.holds Tryz.pinned (OpenSpec.upto invOneSpec)

/-- 'overtonelaw14.RfftTells', WHERE WHAT IT READS IS OF BULK AT MOST 1048576: true; the input reads as it did. -/
def rfftTellsUptoRow : OpenClaim := { program := "ytnbdoidccacdnaagreatdoor", sum := "55d286635437fe1faf9c5f58ec8c509f45006bb0b48fbd0536b4580ef28b0f13", func := "overtone/overtonelaw14.RfftTells", spec := "rfftTells", inPlace := ["math.Float64frombits", "math.Float64bits"], unfollowed := true, recurses := true, named := ["math/bits.deBruijn32tab", "math/bits.deBruijn64tab"], plainKeys := false, apart := false, laid := [("math/bits.deBruijn32tab", laid_math_bits_deBruijn32tab), ("math/bits.deBruijn64tab", laid_math_bits_deBruijn64tab)], narrowed := true }
def RfftTellsUptoSaid : Prop := rfftTellsUptoRow.holds Tryz.pinned (OpenSpec.upto rfftTellsSpec)

/-- 'overtonelaw14.RfftNear', WHERE WHAT IT READS IS OF BULK AT MOST 1048576: true; the input reads as it did. -/
def rfftNearUptoRow : OpenClaim := { program := "ytnbdoidccacdnaagreatdoor", sum := "55d286635437fe1faf9c5f58ec8c509f45006bb0b48fbd0536b4580ef28b0f13", func := "overtone/overtonelaw14.RfftNear", spec := "rfftNear", inPlace := ["math.Float64frombits", "math.Float64bits"], unfollowed := true, recurses := true, named := ["math/bits.deBruijn32tab", "math/bits.deBruijn64tab"], plainKeys := false, apart := false, laid := [("math/bits.deBruijn32tab", laid_math_bits_deBruijn32tab), ("math/bits.deBruijn64tab", laid_math_bits_deBruijn64tab)], narrowed := true }
def RfftNearUptoSaid : Prop := rfftNearUptoRow.holds Tryz.pinned (OpenSpec.upto rfftNearSpec)

/-- 'overtonelaw14.RfftBins', WHERE WHAT IT READS IS OF BULK AT MOST 1048576: true; the input reads as it did. -/
def rfftBinsUptoRow : OpenClaim := { program := "ytnbdoidccacdnaagreatdoor", sum := "55d286635437fe1faf9c5f58ec8c509f45006bb0b48fbd0536b4580ef28b0f13", func := "overtone/overtonelaw14.RfftBins", spec := "rfftBins", inPlace := ["math.Float64frombits", "math.Float64bits"], unfollowed := true, recurses := true, named := ["math/bits.deBruijn32tab", "math/bits.deBruijn64tab"], plainKeys := false, apart := false, laid := [("math/bits.deBruijn32tab", laid_math_bits_deBruijn32tab), ("math/bits.deBruijn64tab", laid_math_bits_deBruijn64tab)], narrowed := true }
def RfftBinsUptoSaid : Prop := rfftBinsUptoRow.holds Tryz.pinned (OpenSpec.upto rfftBinsSpec)

/-- 'overtonelaw14.RfftOne', WHERE WHAT IT READS IS OF BULK AT MOST 1048576: true; the input reads as it did. -/
def rfftOneUptoRow : OpenClaim := { program := "ytnbdoidccacdnaagreatdoor", sum := "55d286635437fe1faf9c5f58ec8c509f45006bb0b48fbd0536b4580ef28b0f13", func := "overtone/overtonelaw14.RfftOne", spec := "rfftOne", inPlace := ["math.Float64frombits", "math.Float64bits"], unfollowed := true, recurses := true, named := ["math/bits.deBruijn32tab", "math/bits.deBruijn64tab"], plainKeys := false, apart := false, laid := [("math/bits.deBruijn32tab", laid_math_bits_deBruijn32tab), ("math/bits.deBruijn64tab", laid_math_bits_deBruijn64tab)], narrowed := true }
def RfftOneUptoSaid : Prop := rfftOneUptoRow.holds Tryz.pinned (OpenSpec.upto rfftOneSpec)

/-- 'overtonelaw14.RfftScale', WHERE WHAT IT READS IS OF BULK AT MOST 1048576: true; the input reads as it did. -/
def rfftScaleUptoRow : OpenClaim := { program := "ytnbdoidccacdnaagreatdoor", sum := "55d286635437fe1faf9c5f58ec8c509f45006bb0b48fbd0536b4580ef28b0f13", func := "overtone/overtonelaw14.RfftScale", spec := "rfftScale", inPlace := ["math.Float64frombits", "math.Float64bits"], unfollowed := true, recurses := true, named := ["math/bits.deBruijn32tab", "math/bits.deBruijn64tab"], plainKeys := false, apart := false, laid := [("math/bits.deBruijn32tab", laid_math_bits_deBruijn32tab), ("math/bits.deBruijn64tab", laid_math_bits_deBruijn64tab)], narrowed := true }
def RfftScaleUptoSaid : Prop := rfftScaleUptoRow.holds Tryz.pinned (OpenSpec.upto rfftScaleSpec)

/-- 'overtonelaw14.RfftGiven', WHERE WHAT IT READS IS OF BULK AT MOST 1048576: true; the input reads as it did. -/
def rfftGivenUptoRow : OpenClaim := { program := "ytnbdoidccacdnaagreatdoor", sum := "55d286635437fe1faf9c5f58ec8c509f45006bb0b48fbd0536b4580ef28b0f13", func := "overtone/overtonelaw14.RfftGiven", spec := "rfftGiven", inPlace := ["math.Float64frombits", "math.Float64bits"], unfollowed := true, recurses := true, named := ["math/bits.deBruijn32tab", "math/bits.deBruijn64tab"], plainKeys := false, apart := false, laid := [("math/bits.deBruijn32tab", laid_math_bits_deBruijn32tab), ("math/bits.deBruijn64tab", laid_math_bits_deBruijn64tab)], narrowed := true }
def RfftGivenUptoSaid : Prop := rfftGivenUptoRow.holds Tryz.pinned (OpenSpec.upto rfftGivenSpec)

/-- 'overtonelaw13.InvBack', WHERE WHAT IT READS IS OF BULK AT MOST 1048576: true; the input reads as it did. -/
def invBackUptoRow : OpenClaim := { program := "ytnbdoidccacdnaagreatdoor", sum := "55d286635437fe1faf9c5f58ec8c509f45006bb0b48fbd0536b4580ef28b0f13", func := "overtone/overtonelaw13.InvBack", spec := "invBack", inPlace := ["math.Float64frombits", "math.Float64bits", "internal/reflectlite.TypeOf"], unfollowed := true, recurses := true, named := ["math/bits.deBruijn32tab", "math/bits.deBruijn64tab"], plainKeys := false, apart := false, laid := [("math/bits.deBruijn32tab", laid_math_bits_deBruijn32tab), ("math/bits.deBruijn64tab", laid_math_bits_deBruijn64tab)], narrowed := true }
def InvBackUptoSaid : Prop := invBackUptoRow.holds Tryz.pinned (OpenSpec.upto invBackSpec)

/-- 'overtonelaw13.InvSwap', WHERE WHAT IT READS IS OF BULK AT MOST 1048576: true; the input reads as it did. -/
def invSwapUptoRow : OpenClaim := { program := "ytnbdoidccacdnaagreatdoor", sum := "55d286635437fe1faf9c5f58ec8c509f45006bb0b48fbd0536b4580ef28b0f13", func := "overtone/overtonelaw13.InvSwap", spec := "invSwap", inPlace := ["math.Float64frombits", "math.Float64bits", "internal/reflectlite.TypeOf"], unfollowed := true, recurses := true, named := ["math/bits.deBruijn32tab", "math/bits.deBruijn64tab"], plainKeys := false, apart := false, laid := [("math/bits.deBruijn32tab", laid_math_bits_deBruijn32tab), ("math/bits.deBruijn64tab", laid_math_bits_deBruijn64tab)], narrowed := true }
def InvSwapUptoSaid : Prop := invSwapUptoRow.holds Tryz.pinned (OpenSpec.upto invSwapSpec)

end Rows
end Go.Proofs.YtnbdoidccacdnaaGreatDoor
