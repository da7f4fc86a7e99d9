/-
  No cell of these rows narrows 'for every input' (looked for: loops, veiled, ifaces, maps, wideKeys, modest, calm, conditions, laid).
  DERIVED. THE GIVEN ROWS OF THIS SEAT. 10 by the template 'for every input the law returns true; each argument reads behind the call as it read before'; 0 by the template 'total and deterministic' (their statements: YtikaeepohlkjdaaGreatTotals.lean).
  GIVEN WITH THE SEED: the statements are not yours to turn. If you find one false, say at which input.
  Laid BY PROGRAM, IN A SANDBOX (cutbox-rows.mjs): the forced cells as the released guide's own fill.sh prints them over the translation 119fae8848ba435f… (all of the seat's roots in one cut). By AI agents, Wed Nov 11 2026. No macro, syntax, notation, axiom, sorry.
-/
import Derived.Test.YtikaeepohlkjdaaGreatChecked
import GoSem.Claim
import GoSem.ClaimJoined
import GoSem.ClaimMapViews
import Derived.JoinedTies
import Derived.KernelRfl
namespace Go.Proofs.YtikaeepohlkjdaaGreat
/- THE CELL 'sum', in the pinned program and in every row, IS THE sha256 OF THE DUMP (.gsa) THAT YtikaeepohlkjdaaGreatProg.lean LOADS. Nothing in Lean hashes anything: it is a label: what it is worth is what the hold of that sum in a sandbox is worth. -/
noncomputable def Tryz.pinned : Pinned := { name := "ytikaeepohlkjdaagreat", sum := "119fae8848ba435f0fbe98c8bfabc922e0321845ed6961bc455910bc986a171f", checked := Tryz.checked }
namespace Rows
def none {H : Type} : Left H := { results := [], args := [] }

/-- 'stepladdertop.TopChoice': WHATEVER THE INPUT: true; the input reads as it did. -/
def topChoiceSpec : ChangeSpec := { name := "topChoice", fn := fun _ => fun
  | [d1, d2, d3, d4] => { results := [.lit (.bool true)], args := [d1, d2, d3, d4] }
  | _ => none }
def topChoiceRow : OpenClaim := { program := "ytikaeepohlkjdaagreat", sum := "119fae8848ba435f0fbe98c8bfabc922e0321845ed6961bc455910bc986a171f", func := "stepladder/stepladdertop.TopChoice", spec := "topChoice", inPlace := ["math/bits.Add64", "math/bits.Sub64", "internal/bytealg.Compare"], unfollowed := true, recurses := true, apart := false }
def TopChoiceSaid : Prop := topChoiceRow.holds Tryz.pinned (OpenSpec.ofChange topChoiceSpec)

/-- ITS FALSE NEIGHBOUR: 'it returns false'. Refute it at one input. -/
def topChoiceWrong : ChangeSpec := { name := "topChoice", fn := fun _ => fun
  | [d1, d2, d3, d4] => { results := [.lit (.bool false)], args := [d1, d2, d3, d4] }
  | _ => none }
def TopChoiceWrongFalsely : Prop := topChoiceRow.holds Tryz.pinned (OpenSpec.ofChange topChoiceWrong)

/-- 'stepladdertop.TopAncestry': WHATEVER THE INPUT: true; the input reads as it did. -/
def topAncestrySpec : ChangeSpec := { name := "topAncestry", fn := fun _ => fun
  | [d1, d2, d3, d4, d5] => { results := [.lit (.bool true)], args := [d1, d2, d3, d4, d5] }
  | _ => none }
def topAncestryRow : OpenClaim := { program := "ytikaeepohlkjdaagreat", sum := "119fae8848ba435f0fbe98c8bfabc922e0321845ed6961bc455910bc986a171f", func := "stepladder/stepladdertop.TopAncestry", spec := "topAncestry", inPlace := ["math/bits.Add64", "math/bits.Sub64", "internal/bytealg.Compare"], unfollowed := true, recurses := true, apart := false }
def TopAncestrySaid : Prop := topAncestryRow.holds Tryz.pinned (OpenSpec.ofChange topAncestrySpec)

/-- ITS FALSE NEIGHBOUR: 'it returns false'. Refute it at one input. -/
def topAncestryWrong : ChangeSpec := { name := "topAncestry", fn := fun _ => fun
  | [d1, d2, d3, d4, d5] => { results := [.lit (.bool false)], args := [d1, d2, d3, d4, d5] }
  | _ => none }
def TopAncestryWrongFalsely : Prop := topAncestryRow.holds Tryz.pinned (OpenSpec.ofChange topAncestryWrong)

/-- 'stepladderlaw22.ClientNew': WHATEVER THE INPUT: true; the input reads as it did. -/
def clientNewSpec : ChangeSpec := { name := "clientNew", fn := fun _ => fun
  | [d1, d2, d3] => { results := [.lit (.bool true)], args := [d1, d2, d3] }
  | _ => none }
def clientNewRow : OpenClaim := { program := "ytikaeepohlkjdaagreat", sum := "119fae8848ba435f0fbe98c8bfabc922e0321845ed6961bc455910bc986a171f", func := "stepladder/stepladderlaw22.ClientNew", spec := "clientNew", inPlace := ["math/bits.Add64", "math/bits.Sub64", "internal/bytealg.Compare"], unfollowed := true, recurses := true, apart := false }
def ClientNewSaid : Prop := clientNewRow.holds Tryz.pinned (OpenSpec.ofChange clientNewSpec)

/-- ITS FALSE NEIGHBOUR: 'it returns false'. Refute it at one input. -/
def clientNewWrong : ChangeSpec := { name := "clientNew", fn := fun _ => fun
  | [d1, d2, d3] => { results := [.lit (.bool false)], args := [d1, d2, d3] }
  | _ => none }
def ClientNewWrongFalsely : Prop := clientNewRow.holds Tryz.pinned (OpenSpec.ofChange clientNewWrong)

/-- 'stepladderlaw22.ClientLost': WHATEVER THE INPUT: true; the input reads as it did. -/
def clientLostSpec : ChangeSpec := { name := "clientLost", fn := fun _ => fun
  | [d1, d2, d3] => { results := [.lit (.bool true)], args := [d1, d2, d3] }
  | _ => none }
def clientLostRow : OpenClaim := { program := "ytikaeepohlkjdaagreat", sum := "119fae8848ba435f0fbe98c8bfabc922e0321845ed6961bc455910bc986a171f", func := "stepladder/stepladderlaw22.ClientLost", spec := "clientLost", inPlace := ["math/bits.Add64", "math/bits.Sub64", "internal/bytealg.Compare"], unfollowed := true, recurses := true, apart := false }
def ClientLostSaid : Prop := clientLostRow.holds Tryz.pinned (OpenSpec.ofChange clientLostSpec)

/-- ITS FALSE NEIGHBOUR: 'it returns false'. Refute it at one input. -/
def clientLostWrong : ChangeSpec := { name := "clientLost", fn := fun _ => fun
  | [d1, d2, d3] => { results := [.lit (.bool false)], args := [d1, d2, d3] }
  | _ => none }
def ClientLostWrongFalsely : Prop := clientLostRow.holds Tryz.pinned (OpenSpec.ofChange clientLostWrong)

/-- 'stepladderlaw22.ClientOpen': WHATEVER THE INPUT: true; the input reads as it did. -/
def clientOpenSpec : ChangeSpec := { name := "clientOpen", fn := fun _ => fun
  | [d1, d2, d3, d4] => { results := [.lit (.bool true)], args := [d1, d2, d3, d4] }
  | _ => none }
def clientOpenRow : OpenClaim := { program := "ytikaeepohlkjdaagreat", sum := "119fae8848ba435f0fbe98c8bfabc922e0321845ed6961bc455910bc986a171f", func := "stepladder/stepladderlaw22.ClientOpen", spec := "clientOpen", inPlace := ["math/bits.Add64", "math/bits.Sub64", "internal/bytealg.Compare"], unfollowed := true, recurses := true, apart := false }
def ClientOpenSaid : Prop := clientOpenRow.holds Tryz.pinned (OpenSpec.ofChange clientOpenSpec)

/-- ITS FALSE NEIGHBOUR: 'it returns false'. Refute it at one input. -/
def clientOpenWrong : ChangeSpec := { name := "clientOpen", fn := fun _ => fun
  | [d1, d2, d3, d4] => { results := [.lit (.bool false)], args := [d1, d2, d3, d4] }
  | _ => none }
def ClientOpenWrongFalsely : Prop := clientOpenRow.holds Tryz.pinned (OpenSpec.ofChange clientOpenWrong)

/-- 'stepladderlaw22.ClientRun': WHATEVER THE INPUT: true; the input reads as it did. -/
def clientRunSpec : ChangeSpec := { name := "clientRun", fn := fun _ => fun
  | [d1, d2, d3] => { results := [.lit (.bool true)], args := [d1, d2, d3] }
  | _ => none }
def clientRunRow : OpenClaim := { program := "ytikaeepohlkjdaagreat", sum := "119fae8848ba435f0fbe98c8bfabc922e0321845ed6961bc455910bc986a171f", func := "stepladder/stepladderlaw22.ClientRun", spec := "clientRun", inPlace := ["math/bits.Add64", "math/bits.Sub64", "internal/bytealg.Compare"], unfollowed := true, recurses := true, apart := false }
def ClientRunSaid : Prop := clientRunRow.holds Tryz.pinned (OpenSpec.ofChange clientRunSpec)

/-- ITS FALSE NEIGHBOUR: 'it returns false'. Refute it at one input. -/
def clientRunWrong : ChangeSpec := { name := "clientRun", fn := fun _ => fun
  | [d1, d2, d3] => { results := [.lit (.bool false)], args := [d1, d2, d3] }
  | _ => none }
def ClientRunWrongFalsely : Prop := clientRunRow.holds Tryz.pinned (OpenSpec.ofChange clientRunWrong)

/-- 'stepladderlaw22.ClientFolds': WHATEVER THE INPUT: true; the input reads as it did. -/
def clientFoldsSpec : ChangeSpec := { name := "clientFolds", fn := fun _ => fun
  | [d1, d2, d3] => { results := [.lit (.bool true)], args := [d1, d2, d3] }
  | _ => none }
def clientFoldsRow : OpenClaim := { program := "ytikaeepohlkjdaagreat", sum := "119fae8848ba435f0fbe98c8bfabc922e0321845ed6961bc455910bc986a171f", func := "stepladder/stepladderlaw22.ClientFolds", spec := "clientFolds", inPlace := ["math/bits.Add64", "math/bits.Sub64", "internal/bytealg.Compare"], unfollowed := true, recurses := true, apart := false }
def ClientFoldsSaid : Prop := clientFoldsRow.holds Tryz.pinned (OpenSpec.ofChange clientFoldsSpec)

/-- ITS FALSE NEIGHBOUR: 'it returns false'. Refute it at one input. -/
def clientFoldsWrong : ChangeSpec := { name := "clientFolds", fn := fun _ => fun
  | [d1, d2, d3] => { results := [.lit (.bool false)], args := [d1, d2, d3] }
  | _ => none }
def ClientFoldsWrongFalsely : Prop := clientFoldsRow.holds Tryz.pinned (OpenSpec.ofChange clientFoldsWrong)

/-- 'stepladderlaw22.ClientTells': WHATEVER THE INPUT: true; the input reads as it did. -/
def clientTellsSpec : ChangeSpec := { name := "clientTells", fn := fun _ => fun
  | [d1, d2, d3, d4, d5, d6, d7, d8] => { results := [.lit (.bool true)], args := [d1, d2, d3, d4, d5, d6, d7, d8] }
  | _ => none }
def clientTellsRow : OpenClaim := { program := "ytikaeepohlkjdaagreat", sum := "119fae8848ba435f0fbe98c8bfabc922e0321845ed6961bc455910bc986a171f", func := "stepladder/stepladderlaw22.ClientTells", spec := "clientTells", inPlace := ["math/bits.Add64", "math/bits.Sub64", "internal/bytealg.Compare"], unfollowed := true, recurses := true, apart := false }
def ClientTellsSaid : Prop := clientTellsRow.holds Tryz.pinned (OpenSpec.ofChange clientTellsSpec)

/-- ITS FALSE NEIGHBOUR: 'it returns false'. Refute it at one input. -/
def clientTellsWrong : ChangeSpec := { name := "clientTells", fn := fun _ => fun
  | [d1, d2, d3, d4, d5, d6, d7, d8] => { results := [.lit (.bool false)], args := [d1, d2, d3, d4, d5, d6, d7, d8] }
  | _ => none }
def ClientTellsWrongFalsely : Prop := clientTellsRow.holds Tryz.pinned (OpenSpec.ofChange clientTellsWrong)

/-- 'stepladderlaw22.ClientAt': WHATEVER THE INPUT: true; the input reads as it did. -/
def clientAtSpec : ChangeSpec := { name := "clientAt", fn := fun _ => fun
  | [d1, d2, d3, d4, d5, d6] => { results := [.lit (.bool true)], args := [d1, d2, d3, d4, d5, d6] }
  | _ => none }
def clientAtRow : OpenClaim := { program := "ytikaeepohlkjdaagreat", sum := "119fae8848ba435f0fbe98c8bfabc922e0321845ed6961bc455910bc986a171f", func := "stepladder/stepladderlaw22.ClientAt", spec := "clientAt", inPlace := ["math/bits.Add64", "math/bits.Sub64", "internal/bytealg.Compare"], unfollowed := true, recurses := true, apart := false }
def ClientAtSaid : Prop := clientAtRow.holds Tryz.pinned (OpenSpec.ofChange clientAtSpec)

/-- ITS FALSE NEIGHBOUR: 'it returns false'. Refute it at one input. -/
def clientAtWrong : ChangeSpec := { name := "clientAt", fn := fun _ => fun
  | [d1, d2, d3, d4, d5, d6] => { results := [.lit (.bool false)], args := [d1, d2, d3, d4, d5, d6] }
  | _ => none }
def ClientAtWrongFalsely : Prop := clientAtRow.holds Tryz.pinned (OpenSpec.ofChange clientAtWrong)

/-- 'stepladderlaw22.ClientSure': WHATEVER THE INPUT: true; the input reads as it did. -/
def clientSureSpec : ChangeSpec := { name := "clientSure", fn := fun _ => fun
  | [d1, d2, d3, d4, d5] => { results := [.lit (.bool true)], args := [d1, d2, d3, d4, d5] }
  | _ => none }
def clientSureRow : OpenClaim := { program := "ytikaeepohlkjdaagreat", sum := "119fae8848ba435f0fbe98c8bfabc922e0321845ed6961bc455910bc986a171f", func := "stepladder/stepladderlaw22.ClientSure", spec := "clientSure", inPlace := ["math/bits.Add64", "math/bits.Sub64", "internal/bytealg.Compare"], unfollowed := true, recurses := true, apart := false }
def ClientSureSaid : Prop := clientSureRow.holds Tryz.pinned (OpenSpec.ofChange clientSureSpec)

/-- ITS FALSE NEIGHBOUR: 'it returns false'. Refute it at one input. -/
def clientSureWrong : ChangeSpec := { name := "clientSure", fn := fun _ => fun
  | [d1, d2, d3, d4, d5] => { results := [.lit (.bool false)], args := [d1, d2, d3, d4, d5] }
  | _ => none }
def ClientSureWrongFalsely : Prop := clientSureRow.holds Tryz.pinned (OpenSpec.ofChange clientSureWrong)

/- THE SECOND FORM. 'bulk': how many values and letters a reading holds, each counted each time it is reached (what is shared counts as often as it is met; a slice's spare places count too). A statement '..UptoSaid' is the law's where the arguments, and the package variables that the reading takes, are together of bulk at most 1048576: NARROWER than '..Said'. Prove '..Said' where nothing that the law and all that it calls make is longer than what came in: it says more and counts as full. Else prove '..UptoSaid'. A law counts once. -/
mutual
def uptoBulk {H : Type} : DataW H → Nat
  | .lit (.string bytes) => bytes.length + 1
  | .lit _ => 1
  | .nil => 1
  | .ptr d => uptoBulk d + 1
  | .slice elems spare => uptoBulkAll elems + uptoBulkAll spare + 1
  | .agg parts => uptoBulkAll parts + 1
  | .iface _ d => uptoBulk d + 1
  | .map entries => uptoBulkEntries entries + 1
  | .held _ => 1
def uptoBulkAll {H : Type} : List (DataW H) → Nat
  | [] => 0
  | d :: r => uptoBulk d + uptoBulkAll r
def uptoBulkEntries {H : Type} : List (Lit × DataW H) → Nat
  | [] => 0
  | x :: r => uptoBulkEntry x + uptoBulkEntries r
def uptoBulkEntry {H : Type} : Lit × DataW H → Nat
  | (.string bytes, d) => bytes.length + uptoBulk d + 1
  | (_, d) => uptoBulk d + 1
 end
def uptoSmall : (H : Type) → List (DataW H) → Bool := fun _ ds => decide (uptoBulkAll ds ≤ 1048576)
def OpenSpec.upto (s : _root_.Go.ChangeSpec) : _root_.Go.OpenSpec := { _root_.Go.OpenSpec.ofChange s with cond := some uptoSmall }

/-- 'stepladdertop.TopChoice', WHERE WHAT IT READS IS OF BULK AT MOST 1048576: true; the input reads as it did. -/
def topChoiceUptoRow : OpenClaim := { program := "ytikaeepohlkjdaagreat", sum := "119fae8848ba435f0fbe98c8bfabc922e0321845ed6961bc455910bc986a171f", func := "stepladder/stepladdertop.TopChoice", spec := "topChoice", inPlace := ["math/bits.Add64", "math/bits.Sub64", "internal/bytealg.Compare"], unfollowed := true, recurses := true, apart := false, narrowed := true }
def TopChoiceUptoSaid : Prop := topChoiceUptoRow.holds Tryz.pinned (OpenSpec.upto topChoiceSpec)

/-- 'stepladdertop.TopAncestry', WHERE WHAT IT READS IS OF BULK AT MOST 1048576: true; the input reads as it did. -/
def topAncestryUptoRow : OpenClaim := { program := "ytikaeepohlkjdaagreat", sum := "119fae8848ba435f0fbe98c8bfabc922e0321845ed6961bc455910bc986a171f", func := "stepladder/stepladdertop.TopAncestry", spec := "topAncestry", inPlace := ["math/bits.Add64", "math/bits.Sub64", "internal/bytealg.Compare"], unfollowed := true, recurses := true, apart := false, narrowed := true }
def TopAncestryUptoSaid : Prop := topAncestryUptoRow.holds Tryz.pinned (OpenSpec.upto topAncestrySpec)

/-- 'stepladderlaw22.ClientNew', WHERE WHAT IT READS IS OF BULK AT MOST 1048576: true; the input reads as it did. -/
def clientNewUptoRow : OpenClaim := { program := "ytikaeepohlkjdaagreat", sum := "119fae8848ba435f0fbe98c8bfabc922e0321845ed6961bc455910bc986a171f", func := "stepladder/stepladderlaw22.ClientNew", spec := "clientNew", inPlace := ["math/bits.Add64", "math/bits.Sub64", "internal/bytealg.Compare"], unfollowed := true, recurses := true, apart := false, narrowed := true }
def ClientNewUptoSaid : Prop := clientNewUptoRow.holds Tryz.pinned (OpenSpec.upto clientNewSpec)

/-- 'stepladderlaw22.ClientLost', WHERE WHAT IT READS IS OF BULK AT MOST 1048576: true; the input reads as it did. -/
def clientLostUptoRow : OpenClaim := { program := "ytikaeepohlkjdaagreat", sum := "119fae8848ba435f0fbe98c8bfabc922e0321845ed6961bc455910bc986a171f", func := "stepladder/stepladderlaw22.ClientLost", spec := "clientLost", inPlace := ["math/bits.Add64", "math/bits.Sub64", "internal/bytealg.Compare"], unfollowed := true, recurses := true, apart := false, narrowed := true }
def ClientLostUptoSaid : Prop := clientLostUptoRow.holds Tryz.pinned (OpenSpec.upto clientLostSpec)

/-- 'stepladderlaw22.ClientOpen', WHERE WHAT IT READS IS OF BULK AT MOST 1048576: true; the input reads as it did. -/
def clientOpenUptoRow : OpenClaim := { program := "ytikaeepohlkjdaagreat", sum := "119fae8848ba435f0fbe98c8bfabc922e0321845ed6961bc455910bc986a171f", func := "stepladder/stepladderlaw22.ClientOpen", spec := "clientOpen", inPlace := ["math/bits.Add64", "math/bits.Sub64", "internal/bytealg.Compare"], unfollowed := true, recurses := true, apart := false, narrowed := true }
def ClientOpenUptoSaid : Prop := clientOpenUptoRow.holds Tryz.pinned (OpenSpec.upto clientOpenSpec)

/-- 'stepladderlaw22.ClientRun', WHERE WHAT IT READS IS OF BULK AT MOST 1048576: true; the input reads as it did. -/
def clientRunUptoRow : OpenClaim := { program := "ytikaeepohlkjdaagreat", sum := "119fae8848ba435f0fbe98c8bfabc922e0321845ed6961bc455910bc986a171f", func := "stepladder/stepladderlaw22.ClientRun", spec := "clientRun", inPlace := ["math/bits.Add64", "math/bits.Sub64", "internal/bytealg.Compare"], unfollowed := true, recurses := true, apart := false, narrowed := true }
def ClientRunUptoSaid : Prop := clientRunUptoRow.holds Tryz.pinned (OpenSpec.upto clientRunSpec)

/-- 'stepladderlaw22.ClientFolds', WHERE WHAT IT READS IS OF BULK AT MOST 1048576: true; the input reads as it did. -/
def clientFoldsUptoRow : OpenClaim := { program := "ytikaeepohlkjdaagreat", sum := "119fae8848ba435f0fbe98c8bfabc922e0321845ed6961bc455910bc986a171f", func := "stepladder/stepladderlaw22.ClientFolds", spec := "clientFolds", inPlace := ["math/bits.Add64", "math/bits.Sub64", "internal/bytealg.Compare"], unfollowed := true, recurses := true, apart := false, narrowed := true }
def ClientFoldsUptoSaid : Prop := clientFoldsUptoRow.holds Tryz.pinned (OpenSpec.upto clientFoldsSpec)

/-- 'stepladderlaw22.ClientTells', WHERE WHAT IT READS IS OF BULK AT MOST 1048576: true; the input reads as it did. -/
def clientTellsUptoRow : OpenClaim := { program := "ytikaeepohlkjdaagreat", sum := "119fae8848ba435f0fbe98c8bfabc922e0321845ed6961bc455910bc986a171f", func := "stepladder/stepladderlaw22.ClientTells", spec := "clientTells", inPlace := ["math/bits.Add64", "math/bits.Sub64", "internal/bytealg.Compare"], unfollowed := true, recurses := true, apart := false, narrowed := true }
def ClientTellsUptoSaid : Prop := clientTellsUptoRow.holds Tryz.pinned (OpenSpec.upto clientTellsSpec)

/-- 'stepladderlaw22.ClientAt', WHERE WHAT IT READS IS OF BULK AT MOST 1048576: true; the input reads as it did. -/
def clientAtUptoRow : OpenClaim := { program := "ytikaeepohlkjdaagreat", sum := "119fae8848ba435f0fbe98c8bfabc922e0321845ed6961bc455910bc986a171f", func := "stepladder/stepladderlaw22.ClientAt", spec := "clientAt", inPlace := ["math/bits.Add64", "math/bits.Sub64", "internal/bytealg.Compare"], unfollowed := true, recurses := true, apart := false, narrowed := true }
def ClientAtUptoSaid : Prop := clientAtUptoRow.holds Tryz.pinned (OpenSpec.upto clientAtSpec)

/-- 'stepladderlaw22.ClientSure', WHERE WHAT IT READS IS OF BULK AT MOST 1048576: true; the input reads as it did. -/
def clientSureUptoRow : OpenClaim := { program := "ytikaeepohlkjdaagreat", sum := "119fae8848ba435f0fbe98c8bfabc922e0321845ed6961bc455910bc986a171f", func := "stepladder/stepladderlaw22.ClientSure", spec := "clientSure", inPlace := ["math/bits.Add64", "math/bits.Sub64", "internal/bytealg.Compare"], unfollowed := true, recurses := true, apart := false, narrowed := true }
def ClientSureUptoSaid : Prop := clientSureUptoRow.holds Tryz.pinned (OpenSpec.upto clientSureSpec)

end Rows
end Go.Proofs.YtikaeepohlkjdaaGreat
