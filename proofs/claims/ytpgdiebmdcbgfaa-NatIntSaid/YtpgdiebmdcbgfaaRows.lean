/-
  No cell of these rows narrows 'for every input' (looked for: loops, veiled, ifaces, maps, wideKeys, modest, calm, conditions, laid).
  DERIVED. THE GIVEN ROWS OF THIS SEAT. 6 by the template 'for every input the law returns true; each argument reads behind the call as it read before'; 0 by the template 'total and deterministic' (their statements: YtpgdiebmdcbgfaaTotals.lean).
  GIVEN WITH THE SEED: the statements are not yours to turn. If you find one false, say at which input.
  Laid BY PROGRAM, IN A SANDBOX (cutbox-rows.mjs): the forced cells as the released guide's own fill.sh prints them over the translation ffefd2b6f7560dc5… (all of the seat's roots in one cut). By AI agents, Wed Nov 11 2026. No macro, syntax, notation, axiom, sorry.
-/
import Derived.Test.YtpgdiebmdcbgfaaChecked
import GoSem.Claim
import GoSem.ClaimJoined
import GoSem.ClaimMapViews
import Derived.JoinedTies
import Derived.KernelRfl
namespace Go.Proofs.Ytpgdiebmdcbgfaa
/- THE CELL 'sum', in the pinned program and in every row, IS THE sha256 OF THE DUMP (.gsa) THAT YtpgdiebmdcbgfaaProg.lean LOADS. Nothing in Lean hashes anything: it is a label: what it is worth is what the hold of that sum in a sandbox is worth. -/
noncomputable def Try.pinned : Pinned := { name := "ytpgdiebmdcbgfaa", sum := "ffefd2b6f7560dc547b518bbb00038ed4a9634d7a927e164d3998f95f65b5b4a", checked := Try.checked }
namespace Rows
def none {H : Type} : Left H := { results := [], args := [] }

/-- 'overtonelaw01.NatTells': WHATEVER THE INPUT: true; the input reads as it did. -/
def natTellsSpec : ChangeSpec := { name := "natTells", fn := fun _ => fun
  | [d1, d2, d3, d4, d5] => { results := [.lit (.bool true)], args := [d1, d2, d3, d4, d5] }
  | _ => none }
def natTellsRow : OpenClaim := { program := "ytpgdiebmdcbgfaa", sum := "ffefd2b6f7560dc547b518bbb00038ed4a9634d7a927e164d3998f95f65b5b4a", func := "overtone/overtonelaw01.NatTells", spec := "natTells", unfollowed := true, recurses := true, apart := false }
def NatTellsSaid : Prop := natTellsRow.holds Try.pinned (OpenSpec.ofChange natTellsSpec)

/-- ITS FALSE NEIGHBOUR: 'it returns false'. Refute it at one input. -/
def natTellsWrong : ChangeSpec := { name := "natTells", fn := fun _ => fun
  | [d1, d2, d3, d4, d5] => { results := [.lit (.bool false)], args := [d1, d2, d3, d4, d5] }
  | _ => none }
def NatTellsWrongFalsely : Prop := natTellsRow.holds Try.pinned (OpenSpec.ofChange natTellsWrong)

/-- 'overtonelaw01.NatRing': WHATEVER THE INPUT: true; the input reads as it did. -/
def natRingSpec : ChangeSpec := { name := "natRing", fn := fun _ => fun
  | [d1, d2, d3] => { results := [.lit (.bool true)], args := [d1, d2, d3] }
  | _ => none }
def natRingRow : OpenClaim := { program := "ytpgdiebmdcbgfaa", sum := "ffefd2b6f7560dc547b518bbb00038ed4a9634d7a927e164d3998f95f65b5b4a", func := "overtone/overtonelaw01.NatRing", spec := "natRing", unfollowed := true, recurses := true, apart := false }
def NatRingSaid : Prop := natRingRow.holds Try.pinned (OpenSpec.ofChange natRingSpec)

/-- ITS FALSE NEIGHBOUR: 'it returns false'. Refute it at one input. -/
def natRingWrong : ChangeSpec := { name := "natRing", fn := fun _ => fun
  | [d1, d2, d3] => { results := [.lit (.bool false)], args := [d1, d2, d3] }
  | _ => none }
def NatRingWrongFalsely : Prop := natRingRow.holds Try.pinned (OpenSpec.ofChange natRingWrong)

/-- 'overtonelaw01.NatSub': WHATEVER THE INPUT: true; the input reads as it did. -/
def natSubSpec : ChangeSpec := { name := "natSub", fn := fun _ => fun
  | [d1, d2] => { results := [.lit (.bool true)], args := [d1, d2] }
  | _ => none }
def natSubRow : OpenClaim := { program := "ytpgdiebmdcbgfaa", sum := "ffefd2b6f7560dc547b518bbb00038ed4a9634d7a927e164d3998f95f65b5b4a", func := "overtone/overtonelaw01.NatSub", spec := "natSub", unfollowed := true, recurses := true, apart := false }
def NatSubSaid : Prop := natSubRow.holds Try.pinned (OpenSpec.ofChange natSubSpec)

/-- ITS FALSE NEIGHBOUR: 'it returns false'. Refute it at one input. -/
def natSubWrong : ChangeSpec := { name := "natSub", fn := fun _ => fun
  | [d1, d2] => { results := [.lit (.bool false)], args := [d1, d2] }
  | _ => none }
def NatSubWrongFalsely : Prop := natSubRow.holds Try.pinned (OpenSpec.ofChange natSubWrong)

/-- 'overtonelaw01.NatShift': WHATEVER THE INPUT: true; the input reads as it did. -/
def natShiftSpec : ChangeSpec := { name := "natShift", fn := fun _ => fun
  | [d1, d2] => { results := [.lit (.bool true)], args := [d1, d2] }
  | _ => none }
def natShiftRow : OpenClaim := { program := "ytpgdiebmdcbgfaa", sum := "ffefd2b6f7560dc547b518bbb00038ed4a9634d7a927e164d3998f95f65b5b4a", func := "overtone/overtonelaw01.NatShift", spec := "natShift", unfollowed := true, recurses := true, apart := false }
def NatShiftSaid : Prop := natShiftRow.holds Try.pinned (OpenSpec.ofChange natShiftSpec)

/-- ITS FALSE NEIGHBOUR: 'it returns false'. Refute it at one input. -/
def natShiftWrong : ChangeSpec := { name := "natShift", fn := fun _ => fun
  | [d1, d2] => { results := [.lit (.bool false)], args := [d1, d2] }
  | _ => none }
def NatShiftWrongFalsely : Prop := natShiftRow.holds Try.pinned (OpenSpec.ofChange natShiftWrong)

/-- 'overtonelaw01.NatRoot': WHATEVER THE INPUT: true; the input reads as it did. -/
def natRootSpec : ChangeSpec := { name := "natRoot", fn := fun _ => fun
  | [d] => { results := [.lit (.bool true)], args := [d] }
  | _ => none }
def natRootRow : OpenClaim := { program := "ytpgdiebmdcbgfaa", sum := "ffefd2b6f7560dc547b518bbb00038ed4a9634d7a927e164d3998f95f65b5b4a", func := "overtone/overtonelaw01.NatRoot", spec := "natRoot", unfollowed := true, recurses := true, apart := false }
def NatRootSaid : Prop := natRootRow.holds Try.pinned (OpenSpec.ofChange natRootSpec)

/-- ITS FALSE NEIGHBOUR: 'it returns false'. Refute it at one input. -/
def natRootWrong : ChangeSpec := { name := "natRoot", fn := fun _ => fun
  | [d] => { results := [.lit (.bool false)], args := [d] }
  | _ => none }
def NatRootWrongFalsely : Prop := natRootRow.holds Try.pinned (OpenSpec.ofChange natRootWrong)

/-- 'overtonelaw01.NatInt': WHATEVER THE INPUT: true; the input reads as it did. -/
def natIntSpec : ChangeSpec := { name := "natInt", fn := fun _ => fun
  | [d1, d2] => { results := [.lit (.bool true)], args := [d1, d2] }
  | _ => none }
def natIntRow : OpenClaim := { program := "ytpgdiebmdcbgfaa", sum := "ffefd2b6f7560dc547b518bbb00038ed4a9634d7a927e164d3998f95f65b5b4a", func := "overtone/overtonelaw01.NatInt", spec := "natInt", unfollowed := true, recurses := true, apart := false }
def NatIntSaid : Prop := natIntRow.holds Try.pinned (OpenSpec.ofChange natIntSpec)

/-- ITS FALSE NEIGHBOUR: 'it returns false'. Refute it at one input. -/
def natIntWrong : ChangeSpec := { name := "natInt", fn := fun _ => fun
  | [d1, d2] => { results := [.lit (.bool false)], args := [d1, d2] }
  | _ => none }
def NatIntWrongFalsely : Prop := natIntRow.holds Try.pinned (OpenSpec.ofChange natIntWrong)

/- THE SECOND FORM. 'bulk': how many values and letters a reading holds, each counted each time it is reached (what is shared counts as often as it is met; a slice's spare places count too). A statement '..UptoSaid' is the law's where the arguments, and the package variables that the reading takes, are together of bulk at most 1048576: NARROWER than '..Said'. Prove '..Said' where nothing that the law and all that it calls make is longer than what came in: it says more and counts as full. Else prove '..UptoSaid'. A law counts once. -/
mutual
def uptoBulk {H : Type} : DataW H → Nat
  | .lit (.string bytes) => bytes.length + 1
  | .lit _ => 1
  | .nil => 1
  | .ptr d => uptoBulk d + 1
  | .slice elems spare => uptoBulkAll elems + uptoBulkAll spare + 1
  | .agg parts => uptoBulkAll parts + 1
  | .iface _ d => uptoBulk d + 1
  | .map entries => uptoBulkEntries entries + 1
  | .held _ => 1
def uptoBulkAll {H : Type} : List (DataW H) → Nat
  | [] => 0
  | d :: r => uptoBulk d + uptoBulkAll r
def uptoBulkEntries {H : Type} : List (Lit × DataW H) → Nat
  | [] => 0
  | x :: r => uptoBulkEntry x + uptoBulkEntries r
def uptoBulkEntry {H : Type} : Lit × DataW H → Nat
  | (.string bytes, d) => bytes.length + uptoBulk d + 1
  | (_, d) => uptoBulk d + 1
 end
def uptoSmall : (H : Type) → List (DataW H) → Bool := fun _ ds => decide (uptoBulkAll ds ≤ 1048576)
def OpenSpec.upto (s : _root_.Go.ChangeSpec) : _root_.Go.OpenSpec := { _root_.Go.OpenSpec.ofChange s with cond := some uptoSmall }

/-- 'overtonelaw01.NatTells', WHERE WHAT IT READS IS OF BULK AT MOST 1048576: true; the input reads as it did. -/
def natTellsUptoRow : OpenClaim := { program := "ytpgdiebmdcbgfaa", sum := "ffefd2b6f7560dc547b518bbb00038ed4a9634d7a927e164d3998f95f65b5b4a", func := "overtone/overtonelaw01.NatTells", spec := "natTells", unfollowed := true, recurses := true, apart := false, narrowed := true }
def NatTellsUptoSaid : Prop := natTellsUptoRow.holds Try.pinned (OpenSpec.upto natTellsSpec)

/-- 'overtonelaw01.NatRing', WHERE WHAT IT READS IS OF BULK AT MOST 1048576: true; the input reads as it did. -/
def natRingUptoRow : OpenClaim := { program := "ytpgdiebmdcbgfaa", sum := "ffefd2b6f7560dc547b518bbb00038ed4a9634d7a927e164d3998f95f65b5b4a", func := "overtone/overtonelaw01.NatRing", spec := "natRing", unfollowed := true, recurses := true, apart := false, narrowed := true }
def NatRingUptoSaid : Prop := natRingUptoRow.holds Try.pinned (OpenSpec.upto natRingSpec)

/-- 'overtonelaw01.NatSub', WHERE WHAT IT READS IS OF BULK AT MOST 1048576: true; the input reads as it did. -/
def natSubUptoRow : OpenClaim := { program := "ytpgdiebmdcbgfaa", sum := "ffefd2b6f7560dc547b518bbb00038ed4a9634d7a927e164d3998f95f65b5b4a", func := "overtone/overtonelaw01.NatSub", spec := "natSub", unfollowed := true, recurses := true, apart := false, narrowed := true }
def NatSubUptoSaid : Prop := natSubUptoRow.holds Try.pinned (OpenSpec.upto natSubSpec)

/-- 'overtonelaw01.NatShift', WHERE WHAT IT READS IS OF BULK AT MOST 1048576: true; the input reads as it did. -/
def natShiftUptoRow : OpenClaim := { program := "ytpgdiebmdcbgfaa", sum := "ffefd2b6f7560dc547b518bbb00038ed4a9634d7a927e164d3998f95f65b5b4a", func := "overtone/overtonelaw01.NatShift", spec := "natShift", unfollowed := true, recurses := true, apart := false, narrowed := true }
def NatShiftUptoSaid : Prop := natShiftUptoRow.holds Try.pinned (OpenSpec.upto natShiftSpec)

/-- 'overtonelaw01.NatRoot', WHERE WHAT IT READS IS OF BULK AT MOST 1048576: true; the input reads as it did. -/
def natRootUptoRow : OpenClaim := { program := "ytpgdiebmdcbgfaa", sum := "ffefd2b6f7560dc547b518bbb00038ed4a9634d7a927e164d3998f95f65b5b4a", func := "overtone/overtonelaw01.NatRoot", spec := "natRoot", unfollowed := true, recurses := true, apart := false, narrowed := true }
def NatRootUptoSaid : Prop := natRootUptoRow.holds Try.pinned (OpenSpec.upto natRootSpec)

/-- 'overtonelaw01.NatInt', WHERE WHAT IT READS IS OF BULK AT MOST 1048576: true; the input reads as it did. -/
def natIntUptoRow : OpenClaim := { program := "ytpgdiebmdcbgfaa", sum := "ffefd2b6f7560dc547b518bbb00038ed4a9634d7a927e164d3998f95f65b5b4a", func := "overtone/overtonelaw01.NatInt", spec := "natInt", unfollowed := true, recurses := true, apart := false, narrowed := true }
def NatIntUptoSaid : Prop := natIntUptoRow.holds Try.pinned (OpenSpec.upto natIntSpec)

end Rows
end Go.Proofs.Ytpgdiebmdcbgfaa
