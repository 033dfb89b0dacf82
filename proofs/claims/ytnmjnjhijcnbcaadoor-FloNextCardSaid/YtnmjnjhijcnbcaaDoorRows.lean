/-
  NARROWER THAN 'FOR EVERY INPUT', by the rows' own cells (each row's printed sentence says how): DyaTells: laid · DyaRing: laid · DyaOrder: laid · DyaCut: laid · DyaShift: laid · DyaInts: laid · FloTells: laid · FloBack: laid · FloNear: laid · FloOrder: laid · FloNext: laid · FloScale: laid.
  DERIVED. THE GIVEN ROWS OF THIS SEAT. 12 by the template 'for every input the law returns true; each argument reads behind the call as it read before'; 0 by the template 'total and deterministic' (their statements: YtnmjnjhijcnbcaaDoorTotals.lean).
  GIVEN WITH THE SEED: the statements are not yours to turn. If you find one false, say at which input.
  Laid BY PROGRAM, IN A SANDBOX (cutbox-rows.mjs): the forced cells as the released guide's own fill.sh prints them over the translation ecd0145631432e61… (all of the seat's roots in one cut). By AI agents, Wed Nov 11 2026. No macro, syntax, notation, axiom, sorry.
-/
import Derived.Test.YtnmjnjhijcnbcaaDoorChecked
import GoSem.Claim
import GoSem.ClaimJoined
import GoSem.ClaimMapViews
import Derived.JoinedTies
import Derived.KernelRfl
namespace Go.Proofs.YtnmjnjhijcnbcaaDoor
/- THE CELL 'sum', in the pinned program and in every row, IS THE sha256 OF THE DUMP (.gsa) THAT YtnmjnjhijcnbcaaDoorProg.lean LOADS. Nothing in Lean hashes anything: it is a label: what it is worth is what the hold of that sum in a sandbox is worth. -/
noncomputable def Tryd.pinned : Pinned := { name := "ytnmjnjhijcnbcaadoor", sum := "ecd0145631432e61f7969996af674836d74c14bf22e47c2a51cdac19bd98193f", checked := Tryd.checked }
namespace Rows
def none {H : Type} : Left H := { results := [], args := [] }

/- WHAT THE LISTED PACKAGE-LEVEL VARIABLES READ AS WHEN THE CALL BEGINS. Each datum BY PROGRAM (the guide's laid-datum.mjs) off the statement by which the dump's own 'gosem.cut.vars' lays the variable. In a bare row this is a premise. The card (YtnmjnjhijcnbcaaDoorCards.lean) ties it to the program's text. -/
def laid_math_bits_deBruijn32tab {H : Type} : DataW H := .agg [.lit (.int .u8 0), .lit (.int .u8 1), .lit (.int .u8 28), .lit (.int .u8 2), .lit (.int .u8 29), .lit (.int .u8 14), .lit (.int .u8 24), .lit (.int .u8 3), .lit (.int .u8 30), .lit (.int .u8 22), .lit (.int .u8 20), .lit (.int .u8 15), .lit (.int .u8 25), .lit (.int .u8 17), .lit (.int .u8 4), .lit (.int .u8 8), .lit (.int .u8 31), .lit (.int .u8 27), .lit (.int .u8 13), .lit (.int .u8 23), .lit (.int .u8 21), .lit (.int .u8 19), .lit (.int .u8 16), .lit (.int .u8 7), .lit (.int .u8 26), .lit (.int .u8 12), .lit (.int .u8 18), .lit (.int .u8 6), .lit (.int .u8 11), .lit (.int .u8 5), .lit (.int .u8 10), .lit (.int .u8 9)]
def laid_math_bits_deBruijn64tab {H : Type} : DataW H := .agg [.lit (.int .u8 0), .lit (.int .u8 1), .lit (.int .u8 56), .lit (.int .u8 2), .lit (.int .u8 57), .lit (.int .u8 49), .lit (.int .u8 28), .lit (.int .u8 3), .lit (.int .u8 61), .lit (.int .u8 58), .lit (.int .u8 42), .lit (.int .u8 50), .lit (.int .u8 38), .lit (.int .u8 29), .lit (.int .u8 17), .lit (.int .u8 4), .lit (.int .u8 62), .lit (.int .u8 47), .lit (.int .u8 59), .lit (.int .u8 36), .lit (.int .u8 45), .lit (.int .u8 43), .lit (.int .u8 51), .lit (.int .u8 22), .lit (.int .u8 53), .lit (.int .u8 39), .lit (.int .u8 33), .lit (.int .u8 30), .lit (.int .u8 24), .lit (.int .u8 18), .lit (.int .u8 12), .lit (.int .u8 5), .lit (.int .u8 63), .lit (.int .u8 55), .lit (.int .u8 48), .lit (.int .u8 27), .lit (.int .u8 60), .lit (.int .u8 41), .lit (.int .u8 37), .lit (.int .u8 16), .lit (.int .u8 46), .lit (.int .u8 35), .lit (.int .u8 44), .lit (.int .u8 21), .lit (.int .u8 52), .lit (.int .u8 32), .lit (.int .u8 23), .lit (.int .u8 11), .lit (.int .u8 54), .lit (.int .u8 26), .lit (.int .u8 40), .lit (.int .u8 15), .lit (.int .u8 34), .lit (.int .u8 20), .lit (.int .u8 31), .lit (.int .u8 10), .lit (.int .u8 25), .lit (.int .u8 14), .lit (.int .u8 19), .lit (.int .u8 9), .lit (.int .u8 13), .lit (.int .u8 8), .lit (.int .u8 7), .lit (.int .u8 6)]

/-- 'overtonelaw02.DyaTells': WHATEVER THE INPUT: true; the input reads as it did. -/
def dyaTellsSpec : ChangeSpec := { name := "dyaTells", fn := fun _ => fun
  | [d1, d2, d3, d4, d5, d6] => { results := [.lit (.bool true)], args := [d1, d2, d3, d4, d5, d6] }
  | _ => none }
def dyaTellsRow : OpenClaim := { program := "ytnmjnjhijcnbcaadoor", sum := "ecd0145631432e61f7969996af674836d74c14bf22e47c2a51cdac19bd98193f", func := "overtone/overtonelaw02.DyaTells", spec := "dyaTells", unfollowed := true, recurses := true, named := ["math/bits.deBruijn32tab", "math/bits.deBruijn64tab"], apart := false, laid := [("math/bits.deBruijn32tab", laid_math_bits_deBruijn32tab), ("math/bits.deBruijn64tab", laid_math_bits_deBruijn64tab)] }
def DyaTellsSaid : Prop := dyaTellsRow.holds Tryd.pinned (OpenSpec.ofChange dyaTellsSpec)

/-- ITS FALSE NEIGHBOUR: 'it returns false'. Refute it at one input. -/
def dyaTellsWrong : ChangeSpec := { name := "dyaTells", fn := fun _ => fun
  | [d1, d2, d3, d4, d5, d6] => { results := [.lit (.bool false)], args := [d1, d2, d3, d4, d5, d6] }
  | _ => none }
def DyaTellsWrongFalsely : Prop := dyaTellsRow.holds Tryd.pinned (OpenSpec.ofChange dyaTellsWrong)

/-- 'overtonelaw02.DyaRing': WHATEVER THE INPUT: true; the input reads as it did. -/
def dyaRingSpec : ChangeSpec := { name := "dyaRing", fn := fun _ => fun
  | [d1, d2, d3] => { results := [.lit (.bool true)], args := [d1, d2, d3] }
  | _ => none }
def dyaRingRow : OpenClaim := { program := "ytnmjnjhijcnbcaadoor", sum := "ecd0145631432e61f7969996af674836d74c14bf22e47c2a51cdac19bd98193f", func := "overtone/overtonelaw02.DyaRing", spec := "dyaRing", unfollowed := true, recurses := true, named := ["math/bits.deBruijn32tab", "math/bits.deBruijn64tab"], apart := false, laid := [("math/bits.deBruijn32tab", laid_math_bits_deBruijn32tab), ("math/bits.deBruijn64tab", laid_math_bits_deBruijn64tab)] }
def DyaRingSaid : Prop := dyaRingRow.holds Tryd.pinned (OpenSpec.ofChange dyaRingSpec)

/-- ITS FALSE NEIGHBOUR: 'it returns false'. Refute it at one input. -/
def dyaRingWrong : ChangeSpec := { name := "dyaRing", fn := fun _ => fun
  | [d1, d2, d3] => { results := [.lit (.bool false)], args := [d1, d2, d3] }
  | _ => none }
def DyaRingWrongFalsely : Prop := dyaRingRow.holds Tryd.pinned (OpenSpec.ofChange dyaRingWrong)

/-- 'overtonelaw02.DyaOrder': WHATEVER THE INPUT: true; the input reads as it did. -/
def dyaOrderSpec : ChangeSpec := { name := "dyaOrder", fn := fun _ => fun
  | [d1, d2, d3] => { results := [.lit (.bool true)], args := [d1, d2, d3] }
  | _ => none }
def dyaOrderRow : OpenClaim := { program := "ytnmjnjhijcnbcaadoor", sum := "ecd0145631432e61f7969996af674836d74c14bf22e47c2a51cdac19bd98193f", func := "overtone/overtonelaw02.DyaOrder", spec := "dyaOrder", unfollowed := true, recurses := true, named := ["math/bits.deBruijn32tab", "math/bits.deBruijn64tab"], apart := false, laid := [("math/bits.deBruijn32tab", laid_math_bits_deBruijn32tab), ("math/bits.deBruijn64tab", laid_math_bits_deBruijn64tab)] }
def DyaOrderSaid : Prop := dyaOrderRow.holds Tryd.pinned (OpenSpec.ofChange dyaOrderSpec)

/-- ITS FALSE NEIGHBOUR: 'it returns false'. Refute it at one input. -/
def dyaOrderWrong : ChangeSpec := { name := "dyaOrder", fn := fun _ => fun
  | [d1, d2, d3] => { results := [.lit (.bool false)], args := [d1, d2, d3] }
  | _ => none }
def DyaOrderWrongFalsely : Prop := dyaOrderRow.holds Tryd.pinned (OpenSpec.ofChange dyaOrderWrong)

/-- 'overtonelaw02.DyaCut': WHATEVER THE INPUT: true; the input reads as it did. -/
def dyaCutSpec : ChangeSpec := { name := "dyaCut", fn := fun _ => fun
  | [d1, d2] => { results := [.lit (.bool true)], args := [d1, d2] }
  | _ => none }
def dyaCutRow : OpenClaim := { program := "ytnmjnjhijcnbcaadoor", sum := "ecd0145631432e61f7969996af674836d74c14bf22e47c2a51cdac19bd98193f", func := "overtone/overtonelaw02.DyaCut", spec := "dyaCut", unfollowed := true, recurses := true, named := ["math/bits.deBruijn32tab", "math/bits.deBruijn64tab"], apart := false, laid := [("math/bits.deBruijn32tab", laid_math_bits_deBruijn32tab), ("math/bits.deBruijn64tab", laid_math_bits_deBruijn64tab)] }
def DyaCutSaid : Prop := dyaCutRow.holds Tryd.pinned (OpenSpec.ofChange dyaCutSpec)

/-- ITS FALSE NEIGHBOUR: 'it returns false'. Refute it at one input. -/
def dyaCutWrong : ChangeSpec := { name := "dyaCut", fn := fun _ => fun
  | [d1, d2] => { results := [.lit (.bool false)], args := [d1, d2] }
  | _ => none }
def DyaCutWrongFalsely : Prop := dyaCutRow.holds Tryd.pinned (OpenSpec.ofChange dyaCutWrong)

/-- 'overtonelaw02.DyaShift': WHATEVER THE INPUT: true; the input reads as it did. -/
def dyaShiftSpec : ChangeSpec := { name := "dyaShift", fn := fun _ => fun
  | [d1, d2, d3] => { results := [.lit (.bool true)], args := [d1, d2, d3] }
  | _ => none }
def dyaShiftRow : OpenClaim := { program := "ytnmjnjhijcnbcaadoor", sum := "ecd0145631432e61f7969996af674836d74c14bf22e47c2a51cdac19bd98193f", func := "overtone/overtonelaw02.DyaShift", spec := "dyaShift", unfollowed := true, recurses := true, named := ["math/bits.deBruijn32tab", "math/bits.deBruijn64tab"], apart := false, laid := [("math/bits.deBruijn32tab", laid_math_bits_deBruijn32tab), ("math/bits.deBruijn64tab", laid_math_bits_deBruijn64tab)] }
def DyaShiftSaid : Prop := dyaShiftRow.holds Tryd.pinned (OpenSpec.ofChange dyaShiftSpec)

/-- ITS FALSE NEIGHBOUR: 'it returns false'. Refute it at one input. -/
def dyaShiftWrong : ChangeSpec := { name := "dyaShift", fn := fun _ => fun
  | [d1, d2, d3] => { results := [.lit (.bool false)], args := [d1, d2, d3] }
  | _ => none }
def DyaShiftWrongFalsely : Prop := dyaShiftRow.holds Tryd.pinned (OpenSpec.ofChange dyaShiftWrong)

/-- 'overtonelaw02.DyaInts': WHATEVER THE INPUT: true; the input reads as it did. -/
def dyaIntsSpec : ChangeSpec := { name := "dyaInts", fn := fun _ => fun
  | [d1, d2] => { results := [.lit (.bool true)], args := [d1, d2] }
  | _ => none }
def dyaIntsRow : OpenClaim := { program := "ytnmjnjhijcnbcaadoor", sum := "ecd0145631432e61f7969996af674836d74c14bf22e47c2a51cdac19bd98193f", func := "overtone/overtonelaw02.DyaInts", spec := "dyaInts", unfollowed := true, recurses := true, named := ["math/bits.deBruijn32tab", "math/bits.deBruijn64tab"], apart := false, laid := [("math/bits.deBruijn32tab", laid_math_bits_deBruijn32tab), ("math/bits.deBruijn64tab", laid_math_bits_deBruijn64tab)] }
def DyaIntsSaid : Prop := dyaIntsRow.holds Tryd.pinned (OpenSpec.ofChange dyaIntsSpec)

/-- ITS FALSE NEIGHBOUR: 'it returns false'. Refute it at one input. -/
def dyaIntsWrong : ChangeSpec := { name := "dyaInts", fn := fun _ => fun
  | [d1, d2] => { results := [.lit (.bool false)], args := [d1, d2] }
  | _ => none }
def DyaIntsWrongFalsely : Prop := dyaIntsRow.holds Tryd.pinned (OpenSpec.ofChange dyaIntsWrong)

/-- 'overtonelaw03.FloTells': WHATEVER THE INPUT: true; the input reads as it did. -/
def floTellsSpec : ChangeSpec := { name := "floTells", fn := fun _ => fun
  | [d1, d2, d3] => { results := [.lit (.bool true)], args := [d1, d2, d3] }
  | _ => none }
def floTellsRow : OpenClaim := { program := "ytnmjnjhijcnbcaadoor", sum := "ecd0145631432e61f7969996af674836d74c14bf22e47c2a51cdac19bd98193f", func := "overtone/overtonelaw03.FloTells", spec := "floTells", inPlace := ["math.Float64bits", "math.Float64frombits"], unfollowed := true, recurses := true, named := ["math/bits.deBruijn32tab", "math/bits.deBruijn64tab"], apart := false, laid := [("math/bits.deBruijn32tab", laid_math_bits_deBruijn32tab), ("math/bits.deBruijn64tab", laid_math_bits_deBruijn64tab)] }
def FloTellsSaid : Prop := floTellsRow.holds Tryd.pinned (OpenSpec.ofChange floTellsSpec)

/-- ITS FALSE NEIGHBOUR: 'it returns false'. Refute it at one input. -/
def floTellsWrong : ChangeSpec := { name := "floTells", fn := fun _ => fun
  | [d1, d2, d3] => { results := [.lit (.bool false)], args := [d1, d2, d3] }
  | _ => none }
def FloTellsWrongFalsely : Prop := floTellsRow.holds Tryd.pinned (OpenSpec.ofChange floTellsWrong)

/-- 'overtonelaw03.FloBack': WHATEVER THE INPUT: true; the input reads as it did. -/
def floBackSpec : ChangeSpec := { name := "floBack", fn := fun _ => fun
  | [d] => { results := [.lit (.bool true)], args := [d] }
  | _ => none }
def floBackRow : OpenClaim := { program := "ytnmjnjhijcnbcaadoor", sum := "ecd0145631432e61f7969996af674836d74c14bf22e47c2a51cdac19bd98193f", func := "overtone/overtonelaw03.FloBack", spec := "floBack", inPlace := ["math.Float64bits", "math.Float64frombits"], unfollowed := true, recurses := true, named := ["math/bits.deBruijn32tab", "math/bits.deBruijn64tab"], apart := false, laid := [("math/bits.deBruijn32tab", laid_math_bits_deBruijn32tab), ("math/bits.deBruijn64tab", laid_math_bits_deBruijn64tab)] }
def FloBackSaid : Prop := floBackRow.holds Tryd.pinned (OpenSpec.ofChange floBackSpec)

/-- ITS FALSE NEIGHBOUR: 'it returns false'. Refute it at one input. -/
def floBackWrong : ChangeSpec := { name := "floBack", fn := fun _ => fun
  | [d] => { results := [.lit (.bool false)], args := [d] }
  | _ => none }
def FloBackWrongFalsely : Prop := floBackRow.holds Tryd.pinned (OpenSpec.ofChange floBackWrong)

/-- 'overtonelaw03.FloNear': WHATEVER THE INPUT: true; the input reads as it did. -/
def floNearSpec : ChangeSpec := { name := "floNear", fn := fun _ => fun
  | [d1, d2] => { results := [.lit (.bool true)], args := [d1, d2] }
  | _ => none }
def floNearRow : OpenClaim := { program := "ytnmjnjhijcnbcaadoor", sum := "ecd0145631432e61f7969996af674836d74c14bf22e47c2a51cdac19bd98193f", func := "overtone/overtonelaw03.FloNear", spec := "floNear", inPlace := ["math.Float64bits", "math.Float64frombits"], unfollowed := true, recurses := true, named := ["math/bits.deBruijn32tab", "math/bits.deBruijn64tab"], apart := false, laid := [("math/bits.deBruijn32tab", laid_math_bits_deBruijn32tab), ("math/bits.deBruijn64tab", laid_math_bits_deBruijn64tab)] }
def FloNearSaid : Prop := floNearRow.holds Tryd.pinned (OpenSpec.ofChange floNearSpec)

/-- ITS FALSE NEIGHBOUR: 'it returns false'. Refute it at one input. -/
def floNearWrong : ChangeSpec := { name := "floNear", fn := fun _ => fun
  | [d1, d2] => { results := [.lit (.bool false)], args := [d1, d2] }
  | _ => none }
def FloNearWrongFalsely : Prop := floNearRow.holds Tryd.pinned (OpenSpec.ofChange floNearWrong)

/-- 'overtonelaw03.FloOrder': WHATEVER THE INPUT: true; the input reads as it did. -/
def floOrderSpec : ChangeSpec := { name := "floOrder", fn := fun _ => fun
  | [d1, d2, d3, d4] => { results := [.lit (.bool true)], args := [d1, d2, d3, d4] }
  | _ => none }
def floOrderRow : OpenClaim := { program := "ytnmjnjhijcnbcaadoor", sum := "ecd0145631432e61f7969996af674836d74c14bf22e47c2a51cdac19bd98193f", func := "overtone/overtonelaw03.FloOrder", spec := "floOrder", inPlace := ["math.Float64bits", "math.Float64frombits"], unfollowed := true, recurses := true, named := ["math/bits.deBruijn32tab", "math/bits.deBruijn64tab"], apart := false, laid := [("math/bits.deBruijn32tab", laid_math_bits_deBruijn32tab), ("math/bits.deBruijn64tab", laid_math_bits_deBruijn64tab)] }
def FloOrderSaid : Prop := floOrderRow.holds Tryd.pinned (OpenSpec.ofChange floOrderSpec)

/-- ITS FALSE NEIGHBOUR: 'it returns false'. Refute it at one input. -/
def floOrderWrong : ChangeSpec := { name := "floOrder", fn := fun _ => fun
  | [d1, d2, d3, d4] => { results := [.lit (.bool false)], args := [d1, d2, d3, d4] }
  | _ => none }
def FloOrderWrongFalsely : Prop := floOrderRow.holds Tryd.pinned (OpenSpec.ofChange floOrderWrong)

/-- 'overtonelaw03.FloNext': WHATEVER THE INPUT: true; the input reads as it did. -/
def floNextSpec : ChangeSpec := { name := "floNext", fn := fun _ => fun
  | [d1, d2] => { results := [.lit (.bool true)], args := [d1, d2] }
  | _ => none }
def floNextRow : OpenClaim := { program := "ytnmjnjhijcnbcaadoor", sum := "ecd0145631432e61f7969996af674836d74c14bf22e47c2a51cdac19bd98193f", func := "overtone/overtonelaw03.FloNext", spec := "floNext", inPlace := ["math.Float64bits", "math.Float64frombits"], unfollowed := true, recurses := true, named := ["math/bits.deBruijn32tab", "math/bits.deBruijn64tab"], apart := false, laid := [("math/bits.deBruijn32tab", laid_math_bits_deBruijn32tab), ("math/bits.deBruijn64tab", laid_math_bits_deBruijn64tab)] }
def FloNextSaid : Prop := floNextRow.holds Tryd.pinned (OpenSpec.ofChange floNextSpec)

/-- ITS FALSE NEIGHBOUR: 'it returns false'. Refute it at one input. -/
def floNextWrong : ChangeSpec := { name := "floNext", fn := fun _ => fun
  | [d1, d2] => { results := [.lit (.bool false)], args := [d1, d2] }
  | _ => none }
def FloNextWrongFalsely : Prop := floNextRow.holds Tryd.pinned (OpenSpec.ofChange floNextWrong)

/-- 'overtonelaw03.FloScale': WHATEVER THE INPUT: true; the input reads as it did. -/
def floScaleSpec : ChangeSpec := { name := "floScale", fn := fun _ => fun
  | [d1, d2] => { results := [.lit (.bool true)], args := [d1, d2] }
  | _ => none }
def floScaleRow : OpenClaim := { program := "ytnmjnjhijcnbcaadoor", sum := "ecd0145631432e61f7969996af674836d74c14bf22e47c2a51cdac19bd98193f", func := "overtone/overtonelaw03.FloScale", spec := "floScale", inPlace := ["math.Float64bits", "math.Float64frombits"], unfollowed := true, recurses := true, named := ["math/bits.deBruijn32tab", "math/bits.deBruijn64tab"], apart := false, laid := [("math/bits.deBruijn32tab", laid_math_bits_deBruijn32tab), ("math/bits.deBruijn64tab", laid_math_bits_deBruijn64tab)] }
def FloScaleSaid : Prop := floScaleRow.holds Tryd.pinned (OpenSpec.ofChange floScaleSpec)

/-- ITS FALSE NEIGHBOUR: 'it returns false'. Refute it at one input. -/
def floScaleWrong : ChangeSpec := { name := "floScale", fn := fun _ => fun
  | [d1, d2] => { results := [.lit (.bool false)], args := [d1, d2] }
  | _ => none }
def FloScaleWrongFalsely : Prop := floScaleRow.holds Tryd.pinned (OpenSpec.ofChange floScaleWrong)

/- THE SECOND FORM. 'bulk': how many values and letters a reading holds, each counted each time it is reached (what is shared counts as often as it is met; a slice's spare places count too). A statement '..UptoSaid' is the law's where the arguments, and the package variables that the reading takes, are together of bulk at most 1048576: NARROWER than '..Said'. Prove '..Said' where nothing that the law and all that it calls make is longer than what came in: it says more and counts as full. Else prove '..UptoSaid'. A law counts once. -/
mutual
def uptoBulk {H : Type} : DataW H → Nat
  | .lit (.string bytes) => bytes.length + 1
  | .lit _ => 1
  | .nil => 1
  | .ptr d => uptoBulk d + 1
  | .slice elems spare => uptoBulkAll elems + uptoBulkAll spare + 1
  | .agg parts => uptoBulkAll parts + 1
  | .iface _ d => uptoBulk d + 1
  | .map entries => uptoBulkEntries entries + 1
  | .held _ => 1
def uptoBulkAll {H : Type} : List (DataW H) → Nat
  | [] => 0
  | d :: r => uptoBulk d + uptoBulkAll r
def uptoBulkEntries {H : Type} : List (Lit × DataW H) → Nat
  | [] => 0
  | x :: r => uptoBulkEntry x + uptoBulkEntries r
def uptoBulkEntry {H : Type} : Lit × DataW H → Nat
  | (.string bytes, d) => bytes.length + uptoBulk d + 1
  | (_, d) => uptoBulk d + 1
 end
def uptoSmall : (H : Type) → List (DataW H) → Bool := fun _ ds => decide (uptoBulkAll ds ≤ 1048576)
def OpenSpec.upto (s : _root_.Go.ChangeSpec) : _root_.Go.OpenSpec := { _root_.Go.OpenSpec.ofChange s with cond := some uptoSmall }

/-- 'overtonelaw02.DyaTells', WHERE WHAT IT READS IS OF BULK AT MOST 1048576: true; the input reads as it did. -/
def dyaTellsUptoRow : OpenClaim := { program := "ytnmjnjhijcnbcaadoor", sum := "ecd0145631432e61f7969996af674836d74c14bf22e47c2a51cdac19bd98193f", func := "overtone/overtonelaw02.DyaTells", spec := "dyaTells", unfollowed := true, recurses := true, named := ["math/bits.deBruijn32tab", "math/bits.deBruijn64tab"], apart := false, laid := [("math/bits.deBruijn32tab", laid_math_bits_deBruijn32tab), ("math/bits.deBruijn64tab", laid_math_bits_deBruijn64tab)], narrowed := true }
def DyaTellsUptoSaid : Prop := dyaTellsUptoRow.holds Tryd.pinned (OpenSpec.upto dyaTellsSpec)

/-- 'overtonelaw02.DyaRing', WHERE WHAT IT READS IS OF BULK AT MOST 1048576: true; the input reads as it did. -/
def dyaRingUptoRow : OpenClaim := { program := "ytnmjnjhijcnbcaadoor", sum := "ecd0145631432e61f7969996af674836d74c14bf22e47c2a51cdac19bd98193f", func := "overtone/overtonelaw02.DyaRing", spec := "dyaRing", unfollowed := true, recurses := true, named := ["math/bits.deBruijn32tab", "math/bits.deBruijn64tab"], apart := false, laid := [("math/bits.deBruijn32tab", laid_math_bits_deBruijn32tab), ("math/bits.deBruijn64tab", laid_math_bits_deBruijn64tab)], narrowed := true }
def DyaRingUptoSaid : Prop := dyaRingUptoRow.holds Tryd.pinned (OpenSpec.upto dyaRingSpec)

/-- 'overtonelaw02.DyaOrder', WHERE WHAT IT READS IS OF BULK AT MOST 1048576: true; the input reads as it did. -/
def dyaOrderUptoRow : OpenClaim := { program := "ytnmjnjhijcnbcaadoor", sum := "ecd0145631432e61f7969996af674836d74c14bf22e47c2a51cdac19bd98193f", func := "overtone/overtonelaw02.DyaOrder", spec := "dyaOrder", unfollowed := true, recurses := true, named := ["math/bits.deBruijn32tab", "math/bits.deBruijn64tab"], apart := false, laid := [("math/bits.deBruijn32tab", laid_math_bits_deBruijn32tab), ("math/bits.deBruijn64tab", laid_math_bits_deBruijn64tab)], narrowed := true }
def DyaOrderUptoSaid : Prop := dyaOrderUptoRow.holds Tryd.pinned (OpenSpec.upto dyaOrderSpec)

/-- 'overtonelaw02.DyaCut', WHERE WHAT IT READS IS OF BULK AT MOST 1048576: true; the input reads as it did. -/
def dyaCutUptoRow : OpenClaim := { program := "ytnmjnjhijcnbcaadoor", sum := "ecd0145631432e61f7969996af674836d74c14bf22e47c2a51cdac19bd98193f", func := "overtone/overtonelaw02.DyaCut", spec := "dyaCut", unfollowed := true, recurses := true, named := ["math/bits.deBruijn32tab", "math/bits.deBruijn64tab"], apart := false, laid := [("math/bits.deBruijn32tab", laid_math_bits_deBruijn32tab), ("math/bits.deBruijn64tab", laid_math_bits_deBruijn64tab)], narrowed := true }
def DyaCutUptoSaid : Prop := dyaCutUptoRow.holds Tryd.pinned (OpenSpec.upto dyaCutSpec)

/-- 'overtonelaw02.DyaShift', WHERE WHAT IT READS IS OF BULK AT MOST 1048576: true; the input reads as it did. -/
def dyaShiftUptoRow : OpenClaim := { program := "ytnmjnjhijcnbcaadoor", sum := "ecd0145631432e61f7969996af674836d74c14bf22e47c2a51cdac19bd98193f", func := "overtone/overtonelaw02.DyaShift", spec := "dyaShift", unfollowed := true, recurses := true, named := ["math/bits.deBruijn32tab", "math/bits.deBruijn64tab"], apart := false, laid := [("math/bits.deBruijn32tab", laid_math_bits_deBruijn32tab), ("math/bits.deBruijn64tab", laid_math_bits_deBruijn64tab)], narrowed := true }
def DyaShiftUptoSaid : Prop := dyaShiftUptoRow.holds Tryd.pinned (OpenSpec.upto dyaShiftSpec)

/-- 'overtonelaw02.DyaInts', WHERE WHAT IT READS IS OF BULK AT MOST 1048576: true; the input reads as it did. -/
def dyaIntsUptoRow : OpenClaim := { program := "ytnmjnjhijcnbcaadoor", sum := "ecd0145631432e61f7969996af674836d74c14bf22e47c2a51cdac19bd98193f", func := "overtone/overtonelaw02.DyaInts", spec := "dyaInts", unfollowed := true, recurses := true, named := ["math/bits.deBruijn32tab", "math/bits.deBruijn64tab"], apart := false, laid := [("math/bits.deBruijn32tab", laid_math_bits_deBruijn32tab), ("math/bits.deBruijn64tab", laid_math_bits_deBruijn64tab)], narrowed := true }
def DyaIntsUptoSaid : Prop := dyaIntsUptoRow.holds Tryd.pinned (OpenSpec.upto dyaIntsSpec)

/-- 'overtonelaw03.FloTells', WHERE WHAT IT READS IS OF BULK AT MOST 1048576: true; the input reads as it did. -/
def floTellsUptoRow : OpenClaim := { program := "ytnmjnjhijcnbcaadoor", sum := "ecd0145631432e61f7969996af674836d74c14bf22e47c2a51cdac19bd98193f", func := "overtone/overtonelaw03.FloTells", spec := "floTells", inPlace := ["math.Float64bits", "math.Float64frombits"], unfollowed := true, recurses := true, named := ["math/bits.deBruijn32tab", "math/bits.deBruijn64tab"], apart := false, laid := [("math/bits.deBruijn32tab", laid_math_bits_deBruijn32tab), ("math/bits.deBruijn64tab", laid_math_bits_deBruijn64tab)], narrowed := true }
def FloTellsUptoSaid : Prop := floTellsUptoRow.holds Tryd.pinned (OpenSpec.upto floTellsSpec)

/-- 'overtonelaw03.FloBack', WHERE WHAT IT READS IS OF BULK AT MOST 1048576: true; the input reads as it did. -/
def floBackUptoRow : OpenClaim := { program := "ytnmjnjhijcnbcaadoor", sum := "ecd0145631432e61f7969996af674836d74c14bf22e47c2a51cdac19bd98193f", func := "overtone/overtonelaw03.FloBack", spec := "floBack", inPlace := ["math.Float64bits", "math.Float64frombits"], unfollowed := true, recurses := true, named := ["math/bits.deBruijn32tab", "math/bits.deBruijn64tab"], apart := false, laid := [("math/bits.deBruijn32tab", laid_math_bits_deBruijn32tab), ("math/bits.deBruijn64tab", laid_math_bits_deBruijn64tab)], narrowed := true }
def FloBackUptoSaid : Prop := floBackUptoRow.holds Tryd.pinned (OpenSpec.upto floBackSpec)

/-- 'overtonelaw03.FloNear', WHERE WHAT IT READS IS OF BULK AT MOST 1048576: true; the input reads as it did. -/
def floNearUptoRow : OpenClaim := { program := "ytnmjnjhijcnbcaadoor", sum := "ecd0145631432e61f7969996af674836d74c14bf22e47c2a51cdac19bd98193f", func := "overtone/overtonelaw03.FloNear", spec := "floNear", inPlace := ["math.Float64bits", "math.Float64frombits"], unfollowed := true, recurses := true, named := ["math/bits.deBruijn32tab", "math/bits.deBruijn64tab"], apart := false, laid := [("math/bits.deBruijn32tab", laid_math_bits_deBruijn32tab), ("math/bits.deBruijn64tab", laid_math_bits_deBruijn64tab)], narrowed := true }
def FloNearUptoSaid : Prop := floNearUptoRow.holds Tryd.pinned (OpenSpec.upto floNearSpec)

/-- 'overtonelaw03.FloOrder', WHERE WHAT IT READS IS OF BULK AT MOST 1048576: true; the input reads as it did. -/
def floOrderUptoRow : OpenClaim := { program := "ytnmjnjhijcnbcaadoor", sum := "ecd0145631432e61f7969996af674836d74c14bf22e47c2a51cdac19bd98193f", func := "overtone/overtonelaw03.FloOrder", spec := "floOrder", inPlace := ["math.Float64bits", "math.Float64frombits"], unfollowed := true, recurses := true, named := ["math/bits.deBruijn32tab", "math/bits.deBruijn64tab"], apart := false, laid := [("math/bits.deBruijn32tab", laid_math_bits_deBruijn32tab), ("math/bits.deBruijn64tab", laid_math_bits_deBruijn64tab)], narrowed := true }
def FloOrderUptoSaid : Prop := floOrderUptoRow.holds Tryd.pinned (OpenSpec.upto floOrderSpec)

/-- 'overtonelaw03.FloNext', WHERE WHAT IT READS IS OF BULK AT MOST 1048576: true; the input reads as it did. -/
def floNextUptoRow : OpenClaim := { program := "ytnmjnjhijcnbcaadoor", sum := "ecd0145631432e61f7969996af674836d74c14bf22e47c2a51cdac19bd98193f", func := "overtone/overtonelaw03.FloNext", spec := "floNext", inPlace := ["math.Float64bits", "math.Float64frombits"], unfollowed := true, recurses := true, named := ["math/bits.deBruijn32tab", "math/bits.deBruijn64tab"], apart := false, laid := [("math/bits.deBruijn32tab", laid_math_bits_deBruijn32tab), ("math/bits.deBruijn64tab", laid_math_bits_deBruijn64tab)], narrowed := true }
def FloNextUptoSaid : Prop := floNextUptoRow.holds Tryd.pinned (OpenSpec.upto floNextSpec)

/-- 'overtonelaw03.FloScale', WHERE WHAT IT READS IS OF BULK AT MOST 1048576: true; the input reads as it did. -/
def floScaleUptoRow : OpenClaim := { program := "ytnmjnjhijcnbcaadoor", sum := "ecd0145631432e61f7969996af674836d74c14bf22e47c2a51cdac19bd98193f", func := "overtone/overtonelaw03.FloScale", spec := "floScale", inPlace := ["math.Float64bits", "math.Float64frombits"], unfollowed := true, recurses := true, named := ["math/bits.deBruijn32tab", "math/bits.deBruijn64tab"], apart := false, laid := [("math/bits.deBruijn32tab", laid_math_bits_deBruijn32tab), ("math/bits.deBruijn64tab", laid_math_bits_deBruijn64tab)], narrowed := true }
def FloScaleUptoSaid : Prop := floScaleUptoRow.holds Tryd.pinned (OpenSpec.upto floScaleSpec)

end Rows
end Go.Proofs.YtnmjnjhijcnbcaaDoor
