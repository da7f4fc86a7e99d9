/-
  No cell of these rows narrows 'for every input' (looked for: loops, veiled, ifaces, maps, wideKeys, modest, calm, conditions, laid).
  DERIVED. THE GIVEN ROWS OF THIS SEAT. 6 by the template 'for every input the law returns true; each argument reads behind the call as it read before'; 0 by the template 'total and deterministic' (their statements: YtjldddonpfopaaaGreatTotals.lean).
  GIVEN WITH THE SEED: the statements are not yours to turn. If you find one false, say at which input.
  Laid BY PROGRAM, IN A SANDBOX (cutbox-rows.mjs): the forced cells as the released guide's own fill.sh prints them over the translation b101f3fb231d4664… (all of the seat's roots in one cut). By AI agents, Wed Nov 11 2026. No macro, syntax, notation, axiom, sorry.
-/
import Derived.Test.YtjldddonpfopaaaGreatChecked
import GoSem.Claim
import GoSem.ClaimJoined
import GoSem.ClaimMapViews
import Derived.JoinedTies
import Derived.KernelRfl
namespace Go.Proofs.YtjldddonpfopaaaGreat
/- THE CELL 'sum', in the pinned program and in every row, IS THE sha256 OF THE DUMP (.gsa) THAT YtjldddonpfopaaaGreatProg.lean LOADS. Nothing in Lean hashes anything: it is a label: what it is worth is what the hold of that sum in a sandbox is worth. -/
noncomputable def Tryz.pinned : Pinned := { name := "ytjldddonpfopaaagreat", sum := "b101f3fb231d466475069e81c4aa909762a1dd778db32b9c9f76451fc4dec8b9", checked := Tryz.checked }
namespace Rows
def none {H : Type} : Left H := { results := [], args := [] }

/-- 'stepladderlaw18.CheckParts': WHATEVER THE INPUT: true; the input reads as it did. -/
def checkPartsSpec : ChangeSpec := { name := "checkParts", fn := fun _ => fun
  | [d1, d2] => { results := [.lit (.bool true)], args := [d1, d2] }
  | _ => none }
def checkPartsRow : OpenClaim := { program := "ytjldddonpfopaaagreat", sum := "b101f3fb231d466475069e81c4aa909762a1dd778db32b9c9f76451fc4dec8b9", func := "stepladder/stepladderlaw18.CheckParts", spec := "checkParts", inPlace := ["math/bits.Add64", "math/bits.Sub64", "internal/bytealg.Compare"], unfollowed := true, recurses := true, apart := false }
def CheckPartsSaid : Prop := checkPartsRow.holds Tryz.pinned (OpenSpec.ofChange checkPartsSpec)

/-- ITS FALSE NEIGHBOUR: 'it returns false'. Refute it at one input. -/
def checkPartsWrong : ChangeSpec := { name := "checkParts", fn := fun _ => fun
  | [d1, d2] => { results := [.lit (.bool false)], args := [d1, d2] }
  | _ => none }
def CheckPartsWrongFalsely : Prop := checkPartsRow.holds Tryz.pinned (OpenSpec.ofChange checkPartsWrong)

/-- 'stepladderlaw18.CheckLess': WHATEVER THE INPUT: true; the input reads as it did. -/
def checkLessSpec : ChangeSpec := { name := "checkLess", fn := fun _ => fun
  | [d1, d2] => { results := [.lit (.bool true)], args := [d1, d2] }
  | _ => none }
def checkLessRow : OpenClaim := { program := "ytjldddonpfopaaagreat", sum := "b101f3fb231d466475069e81c4aa909762a1dd778db32b9c9f76451fc4dec8b9", func := "stepladder/stepladderlaw18.CheckLess", spec := "checkLess", inPlace := ["math/bits.Add64", "math/bits.Sub64", "internal/bytealg.Compare"], unfollowed := true, recurses := true, apart := false }
def CheckLessSaid : Prop := checkLessRow.holds Tryz.pinned (OpenSpec.ofChange checkLessSpec)

/-- ITS FALSE NEIGHBOUR: 'it returns false'. Refute it at one input. -/
def checkLessWrong : ChangeSpec := { name := "checkLess", fn := fun _ => fun
  | [d1, d2] => { results := [.lit (.bool false)], args := [d1, d2] }
  | _ => none }
def CheckLessWrongFalsely : Prop := checkLessRow.holds Tryz.pinned (OpenSpec.ofChange checkLessWrong)

/-- 'stepladderlaw18.CheckOther': WHATEVER THE INPUT: true; the input reads as it did. -/
def checkOtherSpec : ChangeSpec := { name := "checkOther", fn := fun _ => fun
  | [d1, d2, d3, d4] => { results := [.lit (.bool true)], args := [d1, d2, d3, d4] }
  | _ => none }
def checkOtherRow : OpenClaim := { program := "ytjldddonpfopaaagreat", sum := "b101f3fb231d466475069e81c4aa909762a1dd778db32b9c9f76451fc4dec8b9", func := "stepladder/stepladderlaw18.CheckOther", spec := "checkOther", inPlace := ["math/bits.Add64", "math/bits.Sub64", "internal/bytealg.Compare"], unfollowed := true, recurses := true, apart := false }
def CheckOtherSaid : Prop := checkOtherRow.holds Tryz.pinned (OpenSpec.ofChange checkOtherSpec)

/-- ITS FALSE NEIGHBOUR: 'it returns false'. Refute it at one input. -/
def checkOtherWrong : ChangeSpec := { name := "checkOther", fn := fun _ => fun
  | [d1, d2, d3, d4] => { results := [.lit (.bool false)], args := [d1, d2, d3, d4] }
  | _ => none }
def CheckOtherWrongFalsely : Prop := checkOtherRow.holds Tryz.pinned (OpenSpec.ofChange checkOtherWrong)

/-- 'stepladderlaw18.CheckDiffer': WHATEVER THE INPUT: true; the input reads as it did. -/
def checkDifferSpec : ChangeSpec := { name := "checkDiffer", fn := fun _ => fun
  | [d1, d2] => { results := [.lit (.bool true)], args := [d1, d2] }
  | _ => none }
def checkDifferRow : OpenClaim := { program := "ytjldddonpfopaaagreat", sum := "b101f3fb231d466475069e81c4aa909762a1dd778db32b9c9f76451fc4dec8b9", func := "stepladder/stepladderlaw18.CheckDiffer", spec := "checkDiffer", inPlace := ["math/bits.Add64", "math/bits.Sub64", "internal/bytealg.Compare"], unfollowed := true, recurses := true, apart := false }
def CheckDifferSaid : Prop := checkDifferRow.holds Tryz.pinned (OpenSpec.ofChange checkDifferSpec)

/-- ITS FALSE NEIGHBOUR: 'it returns false'. Refute it at one input. -/
def checkDifferWrong : ChangeSpec := { name := "checkDiffer", fn := fun _ => fun
  | [d1, d2] => { results := [.lit (.bool false)], args := [d1, d2] }
  | _ => none }
def CheckDifferWrongFalsely : Prop := checkDifferRow.holds Tryz.pinned (OpenSpec.ofChange checkDifferWrong)

/-- 'stepladderlaw18.CheckTells': WHATEVER THE INPUT: true; the input reads as it did. -/
def checkTellsSpec : ChangeSpec := { name := "checkTells", fn := fun _ => fun
  | [d1, d2, d3, d4] => { results := [.lit (.bool true)], args := [d1, d2, d3, d4] }
  | _ => none }
def checkTellsRow : OpenClaim := { program := "ytjldddonpfopaaagreat", sum := "b101f3fb231d466475069e81c4aa909762a1dd778db32b9c9f76451fc4dec8b9", func := "stepladder/stepladderlaw18.CheckTells", spec := "checkTells", inPlace := ["math/bits.Add64", "math/bits.Sub64", "internal/bytealg.Compare"], unfollowed := true, recurses := true, apart := false }
def CheckTellsSaid : Prop := checkTellsRow.holds Tryz.pinned (OpenSpec.ofChange checkTellsSpec)

/-- ITS FALSE NEIGHBOUR: 'it returns false'. Refute it at one input. -/
def checkTellsWrong : ChangeSpec := { name := "checkTells", fn := fun _ => fun
  | [d1, d2, d3, d4] => { results := [.lit (.bool false)], args := [d1, d2, d3, d4] }
  | _ => none }
def CheckTellsWrongFalsely : Prop := checkTellsRow.holds Tryz.pinned (OpenSpec.ofChange checkTellsWrong)

/-- 'stepladderlaw18.CheckAncestry': WHATEVER THE INPUT: true; the input reads as it did. -/
def checkAncestrySpec : ChangeSpec := { name := "checkAncestry", fn := fun _ => fun
  | [d1, d2, d3] => { results := [.lit (.bool true)], args := [d1, d2, d3] }
  | _ => none }
def checkAncestryRow : OpenClaim := { program := "ytjldddonpfopaaagreat", sum := "b101f3fb231d466475069e81c4aa909762a1dd778db32b9c9f76451fc4dec8b9", func := "stepladder/stepladderlaw18.CheckAncestry", spec := "checkAncestry", inPlace := ["math/bits.Add64", "math/bits.Sub64", "internal/bytealg.Compare"], unfollowed := true, recurses := true, apart := false }
def CheckAncestrySaid : Prop := checkAncestryRow.holds Tryz.pinned (OpenSpec.ofChange checkAncestrySpec)

/-- ITS FALSE NEIGHBOUR: 'it returns false'. Refute it at one input. -/
def checkAncestryWrong : ChangeSpec := { name := "checkAncestry", fn := fun _ => fun
  | [d1, d2, d3] => { results := [.lit (.bool false)], args := [d1, d2, d3] }
  | _ => none }
def CheckAncestryWrongFalsely : Prop := checkAncestryRow.holds Tryz.pinned (OpenSpec.ofChange checkAncestryWrong)

/- THE SECOND FORM. 'bulk': how many values and letters a reading holds, each counted each time it is reached (what is shared counts as often as it is met; a slice's spare places count too). A statement '..UptoSaid' is the law's where the arguments, and the package variables that the reading takes, are together of bulk at most 1048576: NARROWER than '..Said'. Prove '..Said' where nothing that the law and all that it calls make is longer than what came in: it says more and counts as full. Else prove '..UptoSaid'. A law counts once. -/
mutual
def uptoBulk {H : Type} : DataW H → Nat
  | .lit (.string bytes) => bytes.length + 1
  | .lit _ => 1
  | .nil => 1
  | .ptr d => uptoBulk d + 1
  | .slice elems spare => uptoBulkAll elems + uptoBulkAll spare + 1
  | .agg parts => uptoBulkAll parts + 1
  | .iface _ d => uptoBulk d + 1
  | .map entries => uptoBulkEntries entries + 1
  | .held _ => 1
def uptoBulkAll {H : Type} : List (DataW H) → Nat
  | [] => 0
  | d :: r => uptoBulk d + uptoBulkAll r
def uptoBulkEntries {H : Type} : List (Lit × DataW H) → Nat
  | [] => 0
  | x :: r => uptoBulkEntry x + uptoBulkEntries r
def uptoBulkEntry {H : Type} : Lit × DataW H → Nat
  | (.string bytes, d) => bytes.length + uptoBulk d + 1
  | (_, d) => uptoBulk d + 1
 end
def uptoSmall : (H : Type) → List (DataW H) → Bool := fun _ ds => decide (uptoBulkAll ds ≤ 1048576)
def OpenSpec.upto (s : _root_.Go.ChangeSpec) : _root_.Go.OpenSpec := { _root_.Go.OpenSpec.ofChange s with cond := some uptoSmall }

/-- 'stepladderlaw18.CheckParts', WHERE WHAT IT READS IS OF BULK AT MOST 1048576: true; the input reads as it did. -/
def checkPartsUptoRow : OpenClaim := { program := "ytjldddonpfopaaagreat", sum := "b101f3fb231d466475069e81c4aa909762a1dd778db32b9c9f76451fc4dec8b9", func := "stepladder/stepladderlaw18.CheckParts", spec := "checkParts", inPlace := ["math/bits.Add64", "math/bits.Sub64", "internal/bytealg.Compare"], unfollowed := true, recurses := true, apart := false, narrowed := true }
def CheckPartsUptoSaid : Prop := checkPartsUptoRow.holds Tryz.pinned (OpenSpec.upto checkPartsSpec)

/-- 'stepladderlaw18.CheckLess', WHERE WHAT IT READS IS OF BULK AT MOST 1048576: true; the input reads as it did. -/
def checkLessUptoRow : OpenClaim := { program := "ytjldddonpfopaaagreat", sum := "b101f3fb231d466475069e81c4aa909762a1dd778db32b9c9f76451fc4dec8b9", func := "stepladder/stepladderlaw18.CheckLess", spec := "checkLess", inPlace := ["math/bits.Add64", "math/bits.Sub64", "internal/bytealg.Compare"], unfollowed := true, recurses := true, apart := false, narrowed := true }
def CheckLessUptoSaid : Prop := checkLessUptoRow.holds Tryz.pinned (OpenSpec.upto checkLessSpec)

/-- 'stepladderlaw18.CheckOther', WHERE WHAT IT READS IS OF BULK AT MOST 1048576: true; the input reads as it did. -/
def checkOtherUptoRow : OpenClaim := { program := "ytjldddonpfopaaagreat", sum := "b101f3fb231d466475069e81c4aa909762a1dd778db32b9c9f76451fc4dec8b9", func := "stepladder/stepladderlaw18.CheckOther", spec := "checkOther", inPlace := ["math/bits.Add64", "math/bits.Sub64", "internal/bytealg.Compare"], unfollowed := true, recurses := true, apart := false, narrowed := true }
def CheckOtherUptoSaid : Prop := checkOtherUptoRow.holds Tryz.pinned (OpenSpec.upto checkOtherSpec)

/-- 'stepladderlaw18.CheckDiffer', WHERE WHAT IT READS IS OF BULK AT MOST 1048576: true; the input reads as it did. -/
def checkDifferUptoRow : OpenClaim := { program := "ytjldddonpfopaaagreat", sum := "b101f3fb231d466475069e81c4aa909762a1dd778db32b9c9f76451fc4dec8b9", func := "stepladder/stepladderlaw18.CheckDiffer", spec := "checkDiffer", inPlace := ["math/bits.Add64", "math/bits.Sub64", "internal/bytealg.Compare"], unfollowed := true, recurses := true, apart := false, narrowed := true }
def CheckDifferUptoSaid : Prop := checkDifferUptoRow.holds Tryz.pinned (OpenSpec.upto checkDifferSpec)

/-- 'stepladderlaw18.CheckTells', WHERE WHAT IT READS IS OF BULK AT MOST 1048576: true; the input reads as it did. -/
def checkTellsUptoRow : OpenClaim := { program := "ytjldddonpfopaaagreat", sum := "b101f3fb231d466475069e81c4aa909762a1dd778db32b9c9f76451fc4dec8b9", func := "stepladder/stepladderlaw18.CheckTells", spec := "checkTells", inPlace := ["math/bits.Add64", "math/bits.Sub64", "internal/bytealg.Compare"], unfollowed := true, recurses := true, apart := false, narrowed := true }
def CheckTellsUptoSaid : Prop := checkTellsUptoRow.holds Tryz.pinned (OpenSpec.upto checkTellsSpec)

/-- 'stepladderlaw18.CheckAncestry', WHERE WHAT IT READS IS OF BULK AT MOST 1048576: true; the input reads as it did. -/
def checkAncestryUptoRow : OpenClaim := { program := "ytjldddonpfopaaagreat", sum := "b101f3fb231d466475069e81c4aa909762a1dd778db32b9c9f76451fc4dec8b9", func := "stepladder/stepladderlaw18.CheckAncestry", spec := "checkAncestry", inPlace := ["math/bits.Add64", "math/bits.Sub64", "internal/bytealg.Compare"], unfollowed := true, recurses := true, apart := false, narrowed := true }
def CheckAncestryUptoSaid : Prop := checkAncestryUptoRow.holds Tryz.pinned (OpenSpec.upto checkAncestrySpec)

end Rows
end Go.Proofs.YtjldddonpfopaaaGreat
