/-
  No cell of these rows narrows 'for every input' (looked for: loops, veiled, ifaces, maps, wideKeys, modest, calm, conditions, laid).
  DERIVED. THE GIVEN ROWS OF THIS SEAT. 7 by the template 'for every input the law returns true; each argument reads behind the call as it read before'; 0 by the template 'total and deterministic' (their statements: YtgoiacajjicjcaaGreatTotals.lean).
  GIVEN WITH THE SEED: the statements are not yours to turn. If you find one false, say at which input.
  Laid BY PROGRAM, IN A SANDBOX (cutbox-rows.mjs): the forced cells as the released guide's own fill.sh prints them over the translation 919322d170270fc9… (all of the seat's roots in one cut). By AI agents, Wed Nov 11 2026. No macro, syntax, notation, axiom, sorry.
-/
import Derived.Test.YtgoiacajjicjcaaGreatChecked
import GoSem.Claim
import GoSem.ClaimJoined
import GoSem.ClaimMapViews
import Derived.JoinedTies
import Derived.KernelRfl
namespace Go.Proofs.YtgoiacajjicjcaaGreat
/- THE CELL 'sum', in the pinned program and in every row, IS THE sha256 OF THE DUMP (.gsa) THAT YtgoiacajjicjcaaGreatProg.lean LOADS. Nothing in Lean hashes anything: it is a label: what it is worth is what the hold of that sum in a sandbox is worth. -/
noncomputable def Tryz.pinned : Pinned := { name := "ytgoiacajjicjcaagreat", sum := "919322d170270fc9801bce2fd6999c88e53060b67fbb17fb43acec56b2a2a362", checked := Tryz.checked }
namespace Rows
def none {H : Type} : Left H := { results := [], args := [] }

/-- 'stepladderlaw11.BlockTells': WHATEVER THE INPUT: true; the input reads as it did. -/
def blockTellsSpec : ChangeSpec := { name := "blockTells", fn := fun _ => fun
  | [d1, d2, d3, d4, d5, d6] => { results := [.lit (.bool true)], args := [d1, d2, d3, d4, d5, d6] }
  | _ => none }
def blockTellsRow : OpenClaim := { program := "ytgoiacajjicjcaagreat", sum := "919322d170270fc9801bce2fd6999c88e53060b67fbb17fb43acec56b2a2a362", func := "stepladder/stepladderlaw11.BlockTells", spec := "blockTells", inPlace := ["math/bits.Add64", "math/bits.Sub64", "internal/bytealg.Compare"], unfollowed := true, recurses := true, apart := false }
def BlockTellsSaid : Prop := blockTellsRow.holds Tryz.pinned (OpenSpec.ofChange blockTellsSpec)

/-- ITS FALSE NEIGHBOUR: 'it returns false'. Refute it at one input. -/
def blockTellsWrong : ChangeSpec := { name := "blockTells", fn := fun _ => fun
  | [d1, d2, d3, d4, d5, d6] => { results := [.lit (.bool false)], args := [d1, d2, d3, d4, d5, d6] }
  | _ => none }
def BlockTellsWrongFalsely : Prop := blockTellsRow.holds Tryz.pinned (OpenSpec.ofChange blockTellsWrong)

/-- 'stepladderlaw11.BlockOther': WHATEVER THE INPUT: true; the input reads as it did. -/
def blockOtherSpec : ChangeSpec := { name := "blockOther", fn := fun _ => fun
  | [d1, d2, d3, d4] => { results := [.lit (.bool true)], args := [d1, d2, d3, d4] }
  | _ => none }
def blockOtherRow : OpenClaim := { program := "ytgoiacajjicjcaagreat", sum := "919322d170270fc9801bce2fd6999c88e53060b67fbb17fb43acec56b2a2a362", func := "stepladder/stepladderlaw11.BlockOther", spec := "blockOther", inPlace := ["math/bits.Add64", "math/bits.Sub64", "internal/bytealg.Compare"], unfollowed := true, recurses := true, apart := false }
def BlockOtherSaid : Prop := blockOtherRow.holds Tryz.pinned (OpenSpec.ofChange blockOtherSpec)

/-- ITS FALSE NEIGHBOUR: 'it returns false'. Refute it at one input. -/
def blockOtherWrong : ChangeSpec := { name := "blockOther", fn := fun _ => fun
  | [d1, d2, d3, d4] => { results := [.lit (.bool false)], args := [d1, d2, d3, d4] }
  | _ => none }
def BlockOtherWrongFalsely : Prop := blockOtherRow.holds Tryz.pinned (OpenSpec.ofChange blockOtherWrong)

/-- 'stepladderlaw11.BlockFirst': WHATEVER THE INPUT: true; the input reads as it did. -/
def blockFirstSpec : ChangeSpec := { name := "blockFirst", fn := fun _ => fun
  | [d1, d2] => { results := [.lit (.bool true)], args := [d1, d2] }
  | _ => none }
def blockFirstRow : OpenClaim := { program := "ytgoiacajjicjcaagreat", sum := "919322d170270fc9801bce2fd6999c88e53060b67fbb17fb43acec56b2a2a362", func := "stepladder/stepladderlaw11.BlockFirst", spec := "blockFirst", inPlace := ["math/bits.Add64", "math/bits.Sub64", "internal/bytealg.Compare"], unfollowed := true, recurses := true, apart := false }
def BlockFirstSaid : Prop := blockFirstRow.holds Tryz.pinned (OpenSpec.ofChange blockFirstSpec)

/-- ITS FALSE NEIGHBOUR: 'it returns false'. Refute it at one input. -/
def blockFirstWrong : ChangeSpec := { name := "blockFirst", fn := fun _ => fun
  | [d1, d2] => { results := [.lit (.bool false)], args := [d1, d2] }
  | _ => none }
def BlockFirstWrongFalsely : Prop := blockFirstRow.holds Tryz.pinned (OpenSpec.ofChange blockFirstWrong)

/-- 'stepladderlaw11.BlockNext': WHATEVER THE INPUT: true; the input reads as it did. -/
def blockNextSpec : ChangeSpec := { name := "blockNext", fn := fun _ => fun
  | [d1, d2, d3, d4, d5] => { results := [.lit (.bool true)], args := [d1, d2, d3, d4, d5] }
  | _ => none }
def blockNextRow : OpenClaim := { program := "ytgoiacajjicjcaagreat", sum := "919322d170270fc9801bce2fd6999c88e53060b67fbb17fb43acec56b2a2a362", func := "stepladder/stepladderlaw11.BlockNext", spec := "blockNext", inPlace := ["math/bits.Add64", "math/bits.Sub64", "internal/bytealg.Compare"], unfollowed := true, recurses := true, apart := false }
def BlockNextSaid : Prop := blockNextRow.holds Tryz.pinned (OpenSpec.ofChange blockNextSpec)

/-- ITS FALSE NEIGHBOUR: 'it returns false'. Refute it at one input. -/
def blockNextWrong : ChangeSpec := { name := "blockNext", fn := fun _ => fun
  | [d1, d2, d3, d4, d5] => { results := [.lit (.bool false)], args := [d1, d2, d3, d4, d5] }
  | _ => none }
def BlockNextWrongFalsely : Prop := blockNextRow.holds Tryz.pinned (OpenSpec.ofChange blockNextWrong)

/-- 'stepladderlaw11.BlockTwice': WHATEVER THE INPUT: true; the input reads as it did. -/
def blockTwiceSpec : ChangeSpec := { name := "blockTwice", fn := fun _ => fun
  | [d1, d2, d3] => { results := [.lit (.bool true)], args := [d1, d2, d3] }
  | _ => none }
def blockTwiceRow : OpenClaim := { program := "ytgoiacajjicjcaagreat", sum := "919322d170270fc9801bce2fd6999c88e53060b67fbb17fb43acec56b2a2a362", func := "stepladder/stepladderlaw11.BlockTwice", spec := "blockTwice", inPlace := ["math/bits.Add64", "math/bits.Sub64", "internal/bytealg.Compare"], unfollowed := true, recurses := true, apart := false }
def BlockTwiceSaid : Prop := blockTwiceRow.holds Tryz.pinned (OpenSpec.ofChange blockTwiceSpec)

/-- ITS FALSE NEIGHBOUR: 'it returns false'. Refute it at one input. -/
def blockTwiceWrong : ChangeSpec := { name := "blockTwice", fn := fun _ => fun
  | [d1, d2, d3] => { results := [.lit (.bool false)], args := [d1, d2, d3] }
  | _ => none }
def BlockTwiceWrongFalsely : Prop := blockTwiceRow.holds Tryz.pinned (OpenSpec.ofChange blockTwiceWrong)

/-- 'stepladderlaw11.BlockPushes': WHATEVER THE INPUT: true; the input reads as it did. -/
def blockPushesSpec : ChangeSpec := { name := "blockPushes", fn := fun _ => fun
  | [d1, d2, d3] => { results := [.lit (.bool true)], args := [d1, d2, d3] }
  | _ => none }
def blockPushesRow : OpenClaim := { program := "ytgoiacajjicjcaagreat", sum := "919322d170270fc9801bce2fd6999c88e53060b67fbb17fb43acec56b2a2a362", func := "stepladder/stepladderlaw11.BlockPushes", spec := "blockPushes", inPlace := ["math/bits.Add64", "math/bits.Sub64", "internal/bytealg.Compare"], unfollowed := true, recurses := true, apart := false }
def BlockPushesSaid : Prop := blockPushesRow.holds Tryz.pinned (OpenSpec.ofChange blockPushesSpec)

/-- ITS FALSE NEIGHBOUR: 'it returns false'. Refute it at one input. -/
def blockPushesWrong : ChangeSpec := { name := "blockPushes", fn := fun _ => fun
  | [d1, d2, d3] => { results := [.lit (.bool false)], args := [d1, d2, d3] }
  | _ => none }
def BlockPushesWrongFalsely : Prop := blockPushesRow.holds Tryz.pinned (OpenSpec.ofChange blockPushesWrong)

/-- 'stepladderlaw11.BlockMines': WHATEVER THE INPUT: true; the input reads as it did. -/
def blockMinesSpec : ChangeSpec := { name := "blockMines", fn := fun _ => fun
  | [d1, d2, d3, d4] => { results := [.lit (.bool true)], args := [d1, d2, d3, d4] }
  | _ => none }
def blockMinesRow : OpenClaim := { program := "ytgoiacajjicjcaagreat", sum := "919322d170270fc9801bce2fd6999c88e53060b67fbb17fb43acec56b2a2a362", func := "stepladder/stepladderlaw11.BlockMines", spec := "blockMines", inPlace := ["math/bits.Add64", "math/bits.Sub64", "internal/bytealg.Compare"], unfollowed := true, recurses := true, apart := false }
def BlockMinesSaid : Prop := blockMinesRow.holds Tryz.pinned (OpenSpec.ofChange blockMinesSpec)

/-- ITS FALSE NEIGHBOUR: 'it returns false'. Refute it at one input. -/
def blockMinesWrong : ChangeSpec := { name := "blockMines", fn := fun _ => fun
  | [d1, d2, d3, d4] => { results := [.lit (.bool false)], args := [d1, d2, d3, d4] }
  | _ => none }
def BlockMinesWrongFalsely : Prop := blockMinesRow.holds Tryz.pinned (OpenSpec.ofChange blockMinesWrong)

/- THE SECOND FORM. 'bulk': how many values and letters a reading holds, each counted each time it is reached (what is shared counts as often as it is met; a slice's spare places count too). A statement '..UptoSaid' is the law's where the arguments, and the package variables that the reading takes, are together of bulk at most 1048576: NARROWER than '..Said'. Prove '..Said' where nothing that the law and all that it calls make is longer than what came in: it says more and counts as full. Else prove '..UptoSaid'. A law counts once. -/
mutual
def uptoBulk {H : Type} : DataW H → Nat
  | .lit (.string bytes) => bytes.length + 1
  | .lit _ => 1
  | .nil => 1
  | .ptr d => uptoBulk d + 1
  | .slice elems spare => uptoBulkAll elems + uptoBulkAll spare + 1
  | .agg parts => uptoBulkAll parts + 1
  | .iface _ d => uptoBulk d + 1
  | .map entries => uptoBulkEntries entries + 1
  | .held _ => 1
def uptoBulkAll {H : Type} : List (DataW H) → Nat
  | [] => 0
  | d :: r => uptoBulk d + uptoBulkAll r
def uptoBulkEntries {H : Type} : List (Lit × DataW H) → Nat
  | [] => 0
  | x :: r => uptoBulkEntry x + uptoBulkEntries r
def uptoBulkEntry {H : Type} : Lit × DataW H → Nat
  | (.string bytes, d) => bytes.length + uptoBulk d + 1
  | (_, d) => uptoBulk d + 1
 end
def uptoSmall : (H : Type) → List (DataW H) → Bool := fun _ ds => decide (uptoBulkAll ds ≤ 1048576)
def OpenSpec.upto (s : _root_.Go.ChangeSpec) : _root_.Go.OpenSpec := { _root_.Go.OpenSpec.ofChange s with cond := some uptoSmall }

/-- 'stepladderlaw11.BlockTells', WHERE WHAT IT READS IS OF BULK AT MOST 1048576: true; the input reads as it did. -/
def blockTellsUptoRow : OpenClaim := { program := "ytgoiacajjicjcaagreat", sum := "919322d170270fc9801bce2fd6999c88e53060b67fbb17fb43acec56b2a2a362", func := "stepladder/stepladderlaw11.BlockTells", spec := "blockTells", inPlace := ["math/bits.Add64", "math/bits.Sub64", "internal/bytealg.Compare"], unfollowed := true, recurses := true, apart := false, narrowed := true }
def BlockTellsUptoSaid : Prop := blockTellsUptoRow.holds Tryz.pinned (OpenSpec.upto blockTellsSpec)

/-- 'stepladderlaw11.BlockOther', WHERE WHAT IT READS IS OF BULK AT MOST 1048576: true; the input reads as it did. -/
def blockOtherUptoRow : OpenClaim := { program := "ytgoiacajjicjcaagreat", sum := "919322d170270fc9801bce2fd6999c88e53060b67fbb17fb43acec56b2a2a362", func := "stepladder/stepladderlaw11.BlockOther", spec := "blockOther", inPlace := ["math/bits.Add64", "math/bits.Sub64", "internal/bytealg.Compare"], unfollowed := true, recurses := true, apart := false, narrowed := true }
def BlockOtherUptoSaid : Prop := blockOtherUptoRow.holds Tryz.pinned (OpenSpec.upto blockOtherSpec)

/-- 'stepladderlaw11.BlockFirst', WHERE WHAT IT READS IS OF BULK AT MOST 1048576: true; the input reads as it did. -/
def blockFirstUptoRow : OpenClaim := { program := "ytgoiacajjicjcaagreat", sum := "919322d170270fc9801bce2fd6999c88e53060b67fbb17fb43acec56b2a2a362", func := "stepladder/stepladderlaw11.BlockFirst", spec := "blockFirst", inPlace := ["math/bits.Add64", "math/bits.Sub64", "internal/bytealg.Compare"], unfollowed := true, recurses := true, apart := false, narrowed := true }
def BlockFirstUptoSaid : Prop := blockFirstUptoRow.holds Tryz.pinned (OpenSpec.upto blockFirstSpec)

/-- 'stepladderlaw11.BlockNext', WHERE WHAT IT READS IS OF BULK AT MOST 1048576: true; the input reads as it did. -/
def blockNextUptoRow : OpenClaim := { program := "ytgoiacajjicjcaagreat", sum := "919322d170270fc9801bce2fd6999c88e53060b67fbb17fb43acec56b2a2a362", func := "stepladder/stepladderlaw11.BlockNext", spec := "blockNext", inPlace := ["math/bits.Add64", "math/bits.Sub64", "internal/bytealg.Compare"], unfollowed := true, recurses := true, apart := false, narrowed := true }
def BlockNextUptoSaid : Prop := blockNextUptoRow.holds Tryz.pinned (OpenSpec.upto blockNextSpec)

/-- 'stepladderlaw11.BlockTwice', WHERE WHAT IT READS IS OF BULK AT MOST 1048576: true; the input reads as it did. -/
def blockTwiceUptoRow : OpenClaim := { program := "ytgoiacajjicjcaagreat", sum := "919322d170270fc9801bce2fd6999c88e53060b67fbb17fb43acec56b2a2a362", func := "stepladder/stepladderlaw11.BlockTwice", spec := "blockTwice", inPlace := ["math/bits.Add64", "math/bits.Sub64", "internal/bytealg.Compare"], unfollowed := true, recurses := true, apart := false, narrowed := true }
def BlockTwiceUptoSaid : Prop := blockTwiceUptoRow.holds Tryz.pinned (OpenSpec.upto blockTwiceSpec)

/-- 'stepladderlaw11.BlockPushes', WHERE WHAT IT READS IS OF BULK AT MOST 1048576: true; the input reads as it did. -/
def blockPushesUptoRow : OpenClaim := { program := "ytgoiacajjicjcaagreat", sum := "919322d170270fc9801bce2fd6999c88e53060b67fbb17fb43acec56b2a2a362", func := "stepladder/stepladderlaw11.BlockPushes", spec := "blockPushes", inPlace := ["math/bits.Add64", "math/bits.Sub64", "internal/bytealg.Compare"], unfollowed := true, recurses := true, apart := false, narrowed := true }
def BlockPushesUptoSaid : Prop := blockPushesUptoRow.holds Tryz.pinned (OpenSpec.upto blockPushesSpec)

/-- 'stepladderlaw11.BlockMines', WHERE WHAT IT READS IS OF BULK AT MOST 1048576: true; the input reads as it did. -/
def blockMinesUptoRow : OpenClaim := { program := "ytgoiacajjicjcaagreat", sum := "919322d170270fc9801bce2fd6999c88e53060b67fbb17fb43acec56b2a2a362", func := "stepladder/stepladderlaw11.BlockMines", spec := "blockMines", inPlace := ["math/bits.Add64", "math/bits.Sub64", "internal/bytealg.Compare"], unfollowed := true, recurses := true, apart := false, narrowed := true }
def BlockMinesUptoSaid : Prop := blockMinesUptoRow.holds Tryz.pinned (OpenSpec.upto blockMinesSpec)

end Rows
end Go.Proofs.YtgoiacajjicjcaaGreat
