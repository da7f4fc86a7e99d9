/-
  No cell of these rows narrows 'for every input' (looked for: loops, veiled, ifaces, maps, wideKeys, modest, calm, conditions, laid).
  DERIVED. THE GIVEN ROWS OF THIS SEAT. 7 by the template 'for every input the law returns true; each argument reads behind the call as it read before'; 0 by the template 'total and deterministic' (their statements: YtdeghaedeefooaaGreatTotals.lean).
  GIVEN WITH THE SEED: the statements are not yours to turn. If you find one false, say at which input.
  Laid BY PROGRAM, IN A SANDBOX (cutbox-rows.mjs): the forced cells as the released guide's own fill.sh prints them over the translation 92c189352bc20203… (all of the seat's roots in one cut). By AI agents, Wed Nov 11 2026. No macro, syntax, notation, axiom, sorry.
-/
import Derived.Test.YtdeghaedeefooaaGreatChecked
import GoSem.Claim
import GoSem.ClaimJoined
import GoSem.ClaimMapViews
import Derived.JoinedTies
import Derived.KernelRfl
namespace Go.Proofs.YtdeghaedeefooaaGreat
/- THE CELL 'sum', in the pinned program and in every row, IS THE sha256 OF THE DUMP (.gsa) THAT YtdeghaedeefooaaGreatProg.lean LOADS. Nothing in Lean hashes anything: it is a label: what it is worth is what the hold of that sum in a sandbox is worth. -/
noncomputable def Tryz.pinned : Pinned := { name := "ytdeghaedeefooaagreat", sum := "92c189352bc20203119db5f4c5cb08a46446028c21908cea3cb2dd3662573b12", checked := Tryz.checked }
namespace Rows
def none {H : Type} : Left H := { results := [], args := [] }

/-- 'stepladderlaw19.ScoreTells': WHATEVER THE INPUT: true; the input reads as it did. -/
def scoreTellsSpec : ChangeSpec := { name := "scoreTells", fn := fun _ => fun
  | [d1, d2, d3, d4, d5] => { results := [.lit (.bool true)], args := [d1, d2, d3, d4, d5] }
  | _ => none }
def scoreTellsRow : OpenClaim := { program := "ytdeghaedeefooaagreat", sum := "92c189352bc20203119db5f4c5cb08a46446028c21908cea3cb2dd3662573b12", func := "stepladder/stepladderlaw19.ScoreTells", spec := "scoreTells", inPlace := ["math/bits.Add64", "math/bits.Sub64", "internal/bytealg.Compare"], unfollowed := true, recurses := true, apart := false }
def ScoreTellsSaid : Prop := scoreTellsRow.holds Tryz.pinned (OpenSpec.ofChange scoreTellsSpec)

/-- ITS FALSE NEIGHBOUR: 'it returns false'. Refute it at one input. -/
def scoreTellsWrong : ChangeSpec := { name := "scoreTells", fn := fun _ => fun
  | [d1, d2, d3, d4, d5] => { results := [.lit (.bool false)], args := [d1, d2, d3, d4, d5] }
  | _ => none }
def ScoreTellsWrongFalsely : Prop := scoreTellsRow.holds Tryz.pinned (OpenSpec.ofChange scoreTellsWrong)

/-- 'stepladderlaw19.ScoreChoice': WHATEVER THE INPUT: true; the input reads as it did. -/
def scoreChoiceSpec : ChangeSpec := { name := "scoreChoice", fn := fun _ => fun
  | [d1, d2] => { results := [.lit (.bool true)], args := [d1, d2] }
  | _ => none }
def scoreChoiceRow : OpenClaim := { program := "ytdeghaedeefooaagreat", sum := "92c189352bc20203119db5f4c5cb08a46446028c21908cea3cb2dd3662573b12", func := "stepladder/stepladderlaw19.ScoreChoice", spec := "scoreChoice", inPlace := ["math/bits.Add64", "math/bits.Sub64", "internal/bytealg.Compare"], unfollowed := true, recurses := true, apart := false }
def ScoreChoiceSaid : Prop := scoreChoiceRow.holds Tryz.pinned (OpenSpec.ofChange scoreChoiceSpec)

/-- ITS FALSE NEIGHBOUR: 'it returns false'. Refute it at one input. -/
def scoreChoiceWrong : ChangeSpec := { name := "scoreChoice", fn := fun _ => fun
  | [d1, d2] => { results := [.lit (.bool false)], args := [d1, d2] }
  | _ => none }
def ScoreChoiceWrongFalsely : Prop := scoreChoiceRow.holds Tryz.pinned (OpenSpec.ofChange scoreChoiceWrong)

/-- 'stepladderlaw19.ScoreTurned': WHATEVER THE INPUT: true; the input reads as it did. -/
def scoreTurnedSpec : ChangeSpec := { name := "scoreTurned", fn := fun _ => fun
  | [d1, d2] => { results := [.lit (.bool true)], args := [d1, d2] }
  | _ => none }
def scoreTurnedRow : OpenClaim := { program := "ytdeghaedeefooaagreat", sum := "92c189352bc20203119db5f4c5cb08a46446028c21908cea3cb2dd3662573b12", func := "stepladder/stepladderlaw19.ScoreTurned", spec := "scoreTurned", inPlace := ["math/bits.Add64", "math/bits.Sub64", "internal/bytealg.Compare"], unfollowed := true, recurses := true, apart := false }
def ScoreTurnedSaid : Prop := scoreTurnedRow.holds Tryz.pinned (OpenSpec.ofChange scoreTurnedSpec)

/-- ITS FALSE NEIGHBOUR: 'it returns false'. Refute it at one input. -/
def scoreTurnedWrong : ChangeSpec := { name := "scoreTurned", fn := fun _ => fun
  | [d1, d2] => { results := [.lit (.bool false)], args := [d1, d2] }
  | _ => none }
def ScoreTurnedWrongFalsely : Prop := scoreTurnedRow.holds Tryz.pinned (OpenSpec.ofChange scoreTurnedWrong)

/-- 'stepladderlaw19.ScoreLevels': WHATEVER THE INPUT: true; the input reads as it did. -/
def scoreLevelsSpec : ChangeSpec := { name := "scoreLevels", fn := fun _ => fun
  | [d1, d2, d3, d4] => { results := [.lit (.bool true)], args := [d1, d2, d3, d4] }
  | _ => none }
def scoreLevelsRow : OpenClaim := { program := "ytdeghaedeefooaagreat", sum := "92c189352bc20203119db5f4c5cb08a46446028c21908cea3cb2dd3662573b12", func := "stepladder/stepladderlaw19.ScoreLevels", spec := "scoreLevels", inPlace := ["math/bits.Add64", "math/bits.Sub64", "internal/bytealg.Compare"], unfollowed := true, recurses := true, apart := false }
def ScoreLevelsSaid : Prop := scoreLevelsRow.holds Tryz.pinned (OpenSpec.ofChange scoreLevelsSpec)

/-- ITS FALSE NEIGHBOUR: 'it returns false'. Refute it at one input. -/
def scoreLevelsWrong : ChangeSpec := { name := "scoreLevels", fn := fun _ => fun
  | [d1, d2, d3, d4] => { results := [.lit (.bool false)], args := [d1, d2, d3, d4] }
  | _ => none }
def ScoreLevelsWrongFalsely : Prop := scoreLevelsRow.holds Tryz.pinned (OpenSpec.ofChange scoreLevelsWrong)

/-- 'stepladderlaw19.ScoreFolds': WHATEVER THE INPUT: true; the input reads as it did. -/
def scoreFoldsSpec : ChangeSpec := { name := "scoreFolds", fn := fun _ => fun
  | [d1, d2] => { results := [.lit (.bool true)], args := [d1, d2] }
  | _ => none }
def scoreFoldsRow : OpenClaim := { program := "ytdeghaedeefooaagreat", sum := "92c189352bc20203119db5f4c5cb08a46446028c21908cea3cb2dd3662573b12", func := "stepladder/stepladderlaw19.ScoreFolds", spec := "scoreFolds", inPlace := ["math/bits.Add64", "math/bits.Sub64", "internal/bytealg.Compare"], unfollowed := true, recurses := true, apart := false }
def ScoreFoldsSaid : Prop := scoreFoldsRow.holds Tryz.pinned (OpenSpec.ofChange scoreFoldsSpec)

/-- ITS FALSE NEIGHBOUR: 'it returns false'. Refute it at one input. -/
def scoreFoldsWrong : ChangeSpec := { name := "scoreFolds", fn := fun _ => fun
  | [d1, d2] => { results := [.lit (.bool false)], args := [d1, d2] }
  | _ => none }
def ScoreFoldsWrongFalsely : Prop := scoreFoldsRow.holds Tryz.pinned (OpenSpec.ofChange scoreFoldsWrong)

/-- 'stepladderlaw19.ScoreFlat': WHATEVER THE INPUT: true; the input reads as it did. -/
def scoreFlatSpec : ChangeSpec := { name := "scoreFlat", fn := fun _ => fun
  | [d1, d2, d3] => { results := [.lit (.bool true)], args := [d1, d2, d3] }
  | _ => none }
def scoreFlatRow : OpenClaim := { program := "ytdeghaedeefooaagreat", sum := "92c189352bc20203119db5f4c5cb08a46446028c21908cea3cb2dd3662573b12", func := "stepladder/stepladderlaw19.ScoreFlat", spec := "scoreFlat", inPlace := ["math/bits.Add64", "math/bits.Sub64", "internal/bytealg.Compare"], unfollowed := true, recurses := true, apart := false }
def ScoreFlatSaid : Prop := scoreFlatRow.holds Tryz.pinned (OpenSpec.ofChange scoreFlatSpec)

/-- ITS FALSE NEIGHBOUR: 'it returns false'. Refute it at one input. -/
def scoreFlatWrong : ChangeSpec := { name := "scoreFlat", fn := fun _ => fun
  | [d1, d2, d3] => { results := [.lit (.bool false)], args := [d1, d2, d3] }
  | _ => none }
def ScoreFlatWrongFalsely : Prop := scoreFlatRow.holds Tryz.pinned (OpenSpec.ofChange scoreFlatWrong)

/-- 'stepladderlaw19.ScoreOnce': WHATEVER THE INPUT: true; the input reads as it did. -/
def scoreOnceSpec : ChangeSpec := { name := "scoreOnce", fn := fun _ => fun
  | [d1, d2] => { results := [.lit (.bool true)], args := [d1, d2] }
  | _ => none }
def scoreOnceRow : OpenClaim := { program := "ytdeghaedeefooaagreat", sum := "92c189352bc20203119db5f4c5cb08a46446028c21908cea3cb2dd3662573b12", func := "stepladder/stepladderlaw19.ScoreOnce", spec := "scoreOnce", inPlace := ["math/bits.Add64", "math/bits.Sub64", "internal/bytealg.Compare"], unfollowed := true, recurses := true, apart := false }
def ScoreOnceSaid : Prop := scoreOnceRow.holds Tryz.pinned (OpenSpec.ofChange scoreOnceSpec)

/-- ITS FALSE NEIGHBOUR: 'it returns false'. Refute it at one input. -/
def scoreOnceWrong : ChangeSpec := { name := "scoreOnce", fn := fun _ => fun
  | [d1, d2] => { results := [.lit (.bool false)], args := [d1, d2] }
  | _ => none }
def ScoreOnceWrongFalsely : Prop := scoreOnceRow.holds Tryz.pinned (OpenSpec.ofChange scoreOnceWrong)

/- THE SECOND FORM. 'bulk': how many values and letters a reading holds, each counted each time it is reached (what is shared counts as often as it is met; a slice's spare places count too). A statement '..UptoSaid' is the law's where the arguments, and the package variables that the reading takes, are together of bulk at most 1048576: NARROWER than '..Said'. Prove '..Said' where nothing that the law and all that it calls make is longer than what came in: it says more and counts as full. Else prove '..UptoSaid'. A law counts once. -/
mutual
def uptoBulk {H : Type} : DataW H → Nat
  | .lit (.string bytes) => bytes.length + 1
  | .lit _ => 1
  | .nil => 1
  | .ptr d => uptoBulk d + 1
  | .slice elems spare => uptoBulkAll elems + uptoBulkAll spare + 1
  | .agg parts => uptoBulkAll parts + 1
  | .iface _ d => uptoBulk d + 1
  | .map entries => uptoBulkEntries entries + 1
  | .held _ => 1
def uptoBulkAll {H : Type} : List (DataW H) → Nat
  | [] => 0
  | d :: r => uptoBulk d + uptoBulkAll r
def uptoBulkEntries {H : Type} : List (Lit × DataW H) → Nat
  | [] => 0
  | x :: r => uptoBulkEntry x + uptoBulkEntries r
def uptoBulkEntry {H : Type} : Lit × DataW H → Nat
  | (.string bytes, d) => bytes.length + uptoBulk d + 1
  | (_, d) => uptoBulk d + 1
 end
def uptoSmall : (H : Type) → List (DataW H) → Bool := fun _ ds => decide (uptoBulkAll ds ≤ 1048576)
def OpenSpec.upto (s : _root_.Go.ChangeSpec) : _root_.Go.OpenSpec := { _root_.Go.OpenSpec.ofChange s with cond := some uptoSmall }

/-- 'stepladderlaw19.ScoreTells', WHERE WHAT IT READS IS OF BULK AT MOST 1048576: true; the input reads as it did. -/
def scoreTellsUptoRow : OpenClaim := { program := "ytdeghaedeefooaagreat", sum := "92c189352bc20203119db5f4c5cb08a46446028c21908cea3cb2dd3662573b12", func := "stepladder/stepladderlaw19.ScoreTells", spec := "scoreTells", inPlace := ["math/bits.Add64", "math/bits.Sub64", "internal/bytealg.Compare"], unfollowed := true, recurses := true, apart := false, narrowed := true }
def ScoreTellsUptoSaid : Prop := scoreTellsUptoRow.holds Tryz.pinned (OpenSpec.upto scoreTellsSpec)

/-- 'stepladderlaw19.ScoreChoice', WHERE WHAT IT READS IS OF BULK AT MOST 1048576: true; the input reads as it did. -/
def scoreChoiceUptoRow : OpenClaim := { program := "ytdeghaedeefooaagreat", sum := "92c189352bc20203119db5f4c5cb08a46446028c21908cea3cb2dd3662573b12", func := "stepladder/stepladderlaw19.ScoreChoice", spec := "scoreChoice", inPlace := ["math/bits.Add64", "math/bits.Sub64", "internal/bytealg.Compare"], unfollowed := true, recurses := true, apart := false, narrowed := true }
def ScoreChoiceUptoSaid : Prop := scoreChoiceUptoRow.holds Tryz.pinned (OpenSpec.upto scoreChoiceSpec)

/-- 'stepladderlaw19.ScoreTurned', WHERE WHAT IT READS IS OF BULK AT MOST 1048576: true; the input reads as it did. -/
def scoreTurnedUptoRow : OpenClaim := { program := "ytdeghaedeefooaagreat", sum := "92c189352bc20203119db5f4c5cb08a46446028c21908cea3cb2dd3662573b12", func := "stepladder/stepladderlaw19.ScoreTurned", spec := "scoreTurned", inPlace := ["math/bits.Add64", "math/bits.Sub64", "internal/bytealg.Compare"], unfollowed := true, recurses := true, apart := false, narrowed := true }
def ScoreTurnedUptoSaid : Prop := scoreTurnedUptoRow.holds Tryz.pinned (OpenSpec.upto scoreTurnedSpec)

/-- 'stepladderlaw19.ScoreLevels', WHERE WHAT IT READS IS OF BULK AT MOST 1048576: true; the input reads as it did. -/
def scoreLevelsUptoRow : OpenClaim := { program := "ytdeghaedeefooaagreat", sum := "92c189352bc20203119db5f4c5cb08a46446028c21908cea3cb2dd3662573b12", func := "stepladder/stepladderlaw19.ScoreLevels", spec := "scoreLevels", inPlace := ["math/bits.Add64", "math/bits.Sub64", "internal/bytealg.Compare"], unfollowed := true, recurses := true, apart := false, narrowed := true }
def ScoreLevelsUptoSaid : Prop := scoreLevelsUptoRow.holds Tryz.pinned (OpenSpec.upto scoreLevelsSpec)

/-- 'stepladderlaw19.ScoreFolds', WHERE WHAT IT READS IS OF BULK AT MOST 1048576: true; the input reads as it did. -/
def scoreFoldsUptoRow : OpenClaim := { program := "ytdeghaedeefooaagreat", sum := "92c189352bc20203119db5f4c5cb08a46446028c21908cea3cb2dd3662573b12", func := "stepladder/stepladderlaw19.ScoreFolds", spec := "scoreFolds", inPlace := ["math/bits.Add64", "math/bits.Sub64", "internal/bytealg.Compare"], unfollowed := true, recurses := true, apart := false, narrowed := true }
def ScoreFoldsUptoSaid : Prop := scoreFoldsUptoRow.holds Tryz.pinned (OpenSpec.upto scoreFoldsSpec)

/-- 'stepladderlaw19.ScoreFlat', WHERE WHAT IT READS IS OF BULK AT MOST 1048576: true; the input reads as it did. -/
def scoreFlatUptoRow : OpenClaim := { program := "ytdeghaedeefooaagreat", sum := "92c189352bc20203119db5f4c5cb08a46446028c21908cea3cb2dd3662573b12", func := "stepladder/stepladderlaw19.ScoreFlat", spec := "scoreFlat", inPlace := ["math/bits.Add64", "math/bits.Sub64", "internal/bytealg.Compare"], unfollowed := true, recurses := true, apart := false, narrowed := true }
def ScoreFlatUptoSaid : Prop := scoreFlatUptoRow.holds Tryz.pinned (OpenSpec.upto scoreFlatSpec)

/-- 'stepladderlaw19.ScoreOnce', WHERE WHAT IT READS IS OF BULK AT MOST 1048576: true; the input reads as it did. -/
def scoreOnceUptoRow : OpenClaim := { program := "ytdeghaedeefooaagreat", sum := "92c189352bc20203119db5f4c5cb08a46446028c21908cea3cb2dd3662573b12", func := "stepladder/stepladderlaw19.ScoreOnce", spec := "scoreOnce", inPlace := ["math/bits.Add64", "math/bits.Sub64", "internal/bytealg.Compare"], unfollowed := true, recurses := true, apart := false, narrowed := true }
def ScoreOnceUptoSaid : Prop := scoreOnceUptoRow.holds Tryz.pinned (OpenSpec.upto scoreOnceSpec)

end Rows
end Go.Proofs.YtdeghaedeefooaaGreat
