/-
  No cell of these rows narrows 'for every input' (looked for: loops, veiled, ifaces, maps, wideKeys, modest, calm, conditions, laid).
  DERIVED. THE GIVEN ROWS OF THIS SEAT. 6 by the template 'for every input the law returns true; each argument reads behind the call as it read before'; 0 by the template 'total and deterministic' (their statements: YtmfgemnmelbflaaTotals.lean).
  GIVEN WITH THE SEED: the statements are not yours to turn. If you find one false, say at which input.
  Laid BY PROGRAM, IN A SANDBOX (cutbox-rows.mjs): the forced cells as the released guide's own fill.sh prints them over the translation 7baaa832f790ab6a… (all of the seat's roots in one cut). By AI agents, Wed Nov 11 2026. No macro, syntax, notation, axiom, sorry.
-/
import Derived.Test.YtmfgemnmelbflaaChecked
import GoSem.Claim
import GoSem.ClaimJoined
import GoSem.ClaimMapViews
import Derived.JoinedTies
import Derived.KernelRfl
namespace Go.Proofs.Ytmfgemnmelbflaa
/- THE CELL 'sum', in the pinned program and in every row, IS THE sha256 OF THE DUMP (.gsa) THAT YtmfgemnmelbflaaProg.lean LOADS. Nothing in Lean hashes anything: it is a label: what it is worth is what the hold of that sum in a sandbox is worth. -/
noncomputable def Try.pinned : Pinned := { name := "ytmfgemnmelbflaa", sum := "7baaa832f790ab6a05f2daf23cee43ed515a9dad5bc79bfb9c61475cf7613ac7", checked := Try.checked }
namespace Rows
def none {H : Type} : Left H := { results := [], args := [] }

/-- 'stepladderlaw10.PurseTells': WHATEVER THE INPUT: true; the input reads as it did. -/
def purseTellsSpec : ChangeSpec := { name := "purseTells", fn := fun _ => fun
  | [d1, d2, d3, d4] => { results := [.lit (.bool true)], args := [d1, d2, d3, d4] }
  | _ => none }
def purseTellsRow : OpenClaim := { program := "ytmfgemnmelbflaa", sum := "7baaa832f790ab6a05f2daf23cee43ed515a9dad5bc79bfb9c61475cf7613ac7", func := "stepladder/stepladderlaw10.PurseTells", spec := "purseTells", inPlace := ["internal/bytealg.Compare"], unfollowed := true, recurses := true, apart := false }
def PurseTellsSaid : Prop := purseTellsRow.holds Try.pinned (OpenSpec.ofChange purseTellsSpec)

/-- ITS FALSE NEIGHBOUR: 'it returns false'. Refute it at one input. -/
def purseTellsWrong : ChangeSpec := { name := "purseTells", fn := fun _ => fun
  | [d1, d2, d3, d4] => { results := [.lit (.bool false)], args := [d1, d2, d3, d4] }
  | _ => none }
def PurseTellsWrongFalsely : Prop := purseTellsRow.holds Try.pinned (OpenSpec.ofChange purseTellsWrong)

/-- 'stepladderlaw10.PurseStays': WHATEVER THE INPUT: true; the input reads as it did. -/
def purseStaysSpec : ChangeSpec := { name := "purseStays", fn := fun _ => fun
  | [d1, d2, d3] => { results := [.lit (.bool true)], args := [d1, d2, d3] }
  | _ => none }
def purseStaysRow : OpenClaim := { program := "ytmfgemnmelbflaa", sum := "7baaa832f790ab6a05f2daf23cee43ed515a9dad5bc79bfb9c61475cf7613ac7", func := "stepladder/stepladderlaw10.PurseStays", spec := "purseStays", inPlace := ["internal/bytealg.Compare"], unfollowed := true, recurses := true, apart := false }
def PurseStaysSaid : Prop := purseStaysRow.holds Try.pinned (OpenSpec.ofChange purseStaysSpec)

/-- ITS FALSE NEIGHBOUR: 'it returns false'. Refute it at one input. -/
def purseStaysWrong : ChangeSpec := { name := "purseStays", fn := fun _ => fun
  | [d1, d2, d3] => { results := [.lit (.bool false)], args := [d1, d2, d3] }
  | _ => none }
def PurseStaysWrongFalsely : Prop := purseStaysRow.holds Try.pinned (OpenSpec.ofChange purseStaysWrong)

/-- 'stepladderlaw10.PurseSpends': WHATEVER THE INPUT: true; the input reads as it did. -/
def purseSpendsSpec : ChangeSpec := { name := "purseSpends", fn := fun _ => fun
  | [d1, d2, d3] => { results := [.lit (.bool true)], args := [d1, d2, d3] }
  | _ => none }
def purseSpendsRow : OpenClaim := { program := "ytmfgemnmelbflaa", sum := "7baaa832f790ab6a05f2daf23cee43ed515a9dad5bc79bfb9c61475cf7613ac7", func := "stepladder/stepladderlaw10.PurseSpends", spec := "purseSpends", inPlace := ["internal/bytealg.Compare"], unfollowed := true, recurses := true, apart := false }
def PurseSpendsSaid : Prop := purseSpendsRow.holds Try.pinned (OpenSpec.ofChange purseSpendsSpec)

/-- ITS FALSE NEIGHBOUR: 'it returns false'. Refute it at one input. -/
def purseSpendsWrong : ChangeSpec := { name := "purseSpends", fn := fun _ => fun
  | [d1, d2, d3] => { results := [.lit (.bool false)], args := [d1, d2, d3] }
  | _ => none }
def PurseSpendsWrongFalsely : Prop := purseSpendsRow.holds Try.pinned (OpenSpec.ofChange purseSpendsWrong)

/-- 'stepladderlaw10.PurseOne': WHATEVER THE INPUT: true; the input reads as it did. -/
def purseOneSpec : ChangeSpec := { name := "purseOne", fn := fun _ => fun
  | [d1, d2, d3] => { results := [.lit (.bool true)], args := [d1, d2, d3] }
  | _ => none }
def purseOneRow : OpenClaim := { program := "ytmfgemnmelbflaa", sum := "7baaa832f790ab6a05f2daf23cee43ed515a9dad5bc79bfb9c61475cf7613ac7", func := "stepladder/stepladderlaw10.PurseOne", spec := "purseOne", inPlace := ["internal/bytealg.Compare"], unfollowed := true, recurses := true, apart := false }
def PurseOneSaid : Prop := purseOneRow.holds Try.pinned (OpenSpec.ofChange purseOneSpec)

/-- ITS FALSE NEIGHBOUR: 'it returns false'. Refute it at one input. -/
def purseOneWrong : ChangeSpec := { name := "purseOne", fn := fun _ => fun
  | [d1, d2, d3] => { results := [.lit (.bool false)], args := [d1, d2, d3] }
  | _ => none }
def PurseOneWrongFalsely : Prop := purseOneRow.holds Try.pinned (OpenSpec.ofChange purseOneWrong)

/-- 'stepladderlaw10.PurseFirst': WHATEVER THE INPUT: true; the input reads as it did. -/
def purseFirstSpec : ChangeSpec := { name := "purseFirst", fn := fun _ => fun
  | [d1, d2] => { results := [.lit (.bool true)], args := [d1, d2] }
  | _ => none }
def purseFirstRow : OpenClaim := { program := "ytmfgemnmelbflaa", sum := "7baaa832f790ab6a05f2daf23cee43ed515a9dad5bc79bfb9c61475cf7613ac7", func := "stepladder/stepladderlaw10.PurseFirst", spec := "purseFirst", inPlace := ["internal/bytealg.Compare"], unfollowed := true, recurses := true, apart := false }
def PurseFirstSaid : Prop := purseFirstRow.holds Try.pinned (OpenSpec.ofChange purseFirstSpec)

/-- ITS FALSE NEIGHBOUR: 'it returns false'. Refute it at one input. -/
def purseFirstWrong : ChangeSpec := { name := "purseFirst", fn := fun _ => fun
  | [d1, d2] => { results := [.lit (.bool false)], args := [d1, d2] }
  | _ => none }
def PurseFirstWrongFalsely : Prop := purseFirstRow.holds Try.pinned (OpenSpec.ofChange purseFirstWrong)

/-- 'stepladderlaw10.PurseFinds': WHATEVER THE INPUT: true; the input reads as it did. -/
def purseFindsSpec : ChangeSpec := { name := "purseFinds", fn := fun _ => fun
  | [d1, d2, d3] => { results := [.lit (.bool true)], args := [d1, d2, d3] }
  | _ => none }
def purseFindsRow : OpenClaim := { program := "ytmfgemnmelbflaa", sum := "7baaa832f790ab6a05f2daf23cee43ed515a9dad5bc79bfb9c61475cf7613ac7", func := "stepladder/stepladderlaw10.PurseFinds", spec := "purseFinds", inPlace := ["internal/bytealg.Compare"], unfollowed := true, recurses := true, apart := false }
def PurseFindsSaid : Prop := purseFindsRow.holds Try.pinned (OpenSpec.ofChange purseFindsSpec)

/-- ITS FALSE NEIGHBOUR: 'it returns false'. Refute it at one input. -/
def purseFindsWrong : ChangeSpec := { name := "purseFinds", fn := fun _ => fun
  | [d1, d2, d3] => { results := [.lit (.bool false)], args := [d1, d2, d3] }
  | _ => none }
def PurseFindsWrongFalsely : Prop := purseFindsRow.holds Try.pinned (OpenSpec.ofChange purseFindsWrong)

/- THE SECOND FORM. 'bulk': how many values and letters a reading holds, each counted each time it is reached (what is shared counts as often as it is met; a slice's spare places count too). A statement '..UptoSaid' is the law's where the arguments, and the package variables that the reading takes, are together of bulk at most 1048576: NARROWER than '..Said'. Prove '..Said' where nothing that the law and all that it calls make is longer than what came in: it says more and counts as full. Else prove '..UptoSaid'. A law counts once. -/
mutual
def uptoBulk {H : Type} : DataW H → Nat
  | .lit (.string bytes) => bytes.length + 1
  | .lit _ => 1
  | .nil => 1
  | .ptr d => uptoBulk d + 1
  | .slice elems spare => uptoBulkAll elems + uptoBulkAll spare + 1
  | .agg parts => uptoBulkAll parts + 1
  | .iface _ d => uptoBulk d + 1
  | .map entries => uptoBulkEntries entries + 1
  | .held _ => 1
def uptoBulkAll {H : Type} : List (DataW H) → Nat
  | [] => 0
  | d :: r => uptoBulk d + uptoBulkAll r
def uptoBulkEntries {H : Type} : List (Lit × DataW H) → Nat
  | [] => 0
  | x :: r => uptoBulkEntry x + uptoBulkEntries r
def uptoBulkEntry {H : Type} : Lit × DataW H → Nat
  | (.string bytes, d) => bytes.length + uptoBulk d + 1
  | (_, d) => uptoBulk d + 1
 end
def uptoSmall : (H : Type) → List (DataW H) → Bool := fun _ ds => decide (uptoBulkAll ds ≤ 1048576)
def OpenSpec.upto (s : _root_.Go.ChangeSpec) : _root_.Go.OpenSpec := { _root_.Go.OpenSpec.ofChange s with cond := some uptoSmall }

/-- 'stepladderlaw10.PurseTells', WHERE WHAT IT READS IS OF BULK AT MOST 1048576: true; the input reads as it did. -/
def purseTellsUptoRow : OpenClaim := { program := "ytmfgemnmelbflaa", sum := "7baaa832f790ab6a05f2daf23cee43ed515a9dad5bc79bfb9c61475cf7613ac7", func := "stepladder/stepladderlaw10.PurseTells", spec := "purseTells", inPlace := ["internal/bytealg.Compare"], unfollowed := true, recurses := true, apart := false, narrowed := true }
def PurseTellsUptoSaid : Prop := purseTellsUptoRow.holds Try.pinned (OpenSpec.upto purseTellsSpec)

/-- 'stepladderlaw10.PurseStays', WHERE WHAT IT READS IS OF BULK AT MOST 1048576: true; the input reads as it did. -/
def purseStaysUptoRow : OpenClaim := { program := "ytmfgemnmelbflaa", sum := "7baaa832f790ab6a05f2daf23cee43ed515a9dad5bc79bfb9c61475cf7613ac7", func := "stepladder/stepladderlaw10.PurseStays", spec := "purseStays", inPlace := ["internal/bytealg.Compare"], unfollowed := true, recurses := true, apart := false, narrowed := true }
def PurseStaysUptoSaid : Prop := purseStaysUptoRow.holds Try.pinned (OpenSpec.upto purseStaysSpec)

/-- 'stepladderlaw10.PurseSpends', WHERE WHAT IT READS IS OF BULK AT MOST 1048576: true; the input reads as it did. -/
def purseSpendsUptoRow : OpenClaim := { program := "ytmfgemnmelbflaa", sum := "7baaa832f790ab6a05f2daf23cee43ed515a9dad5bc79bfb9c61475cf7613ac7", func := "stepladder/stepladderlaw10.PurseSpends", spec := "purseSpends", inPlace := ["internal/bytealg.Compare"], unfollowed := true, recurses := true, apart := false, narrowed := true }
def PurseSpendsUptoSaid : Prop := purseSpendsUptoRow.holds Try.pinned (OpenSpec.upto purseSpendsSpec)

/-- 'stepladderlaw10.PurseOne', WHERE WHAT IT READS IS OF BULK AT MOST 1048576: true; the input reads as it did. -/
def purseOneUptoRow : OpenClaim := { program := "ytmfgemnmelbflaa", sum := "7baaa832f790ab6a05f2daf23cee43ed515a9dad5bc79bfb9c61475cf7613ac7", func := "stepladder/stepladderlaw10.PurseOne", spec := "purseOne", inPlace := ["internal/bytealg.Compare"], unfollowed := true, recurses := true, apart := false, narrowed := true }
def PurseOneUptoSaid : Prop := purseOneUptoRow.holds Try.pinned (OpenSpec.upto purseOneSpec)

/-- 'stepladderlaw10.PurseFirst', WHERE WHAT IT READS IS OF BULK AT MOST 1048576: true; the input reads as it did. -/
def purseFirstUptoRow : OpenClaim := { program := "ytmfgemnmelbflaa", sum := "7baaa832f790ab6a05f2daf23cee43ed515a9dad5bc79bfb9c61475cf7613ac7", func := "stepladder/stepladderlaw10.PurseFirst", spec := "purseFirst", inPlace := ["internal/bytealg.Compare"], unfollowed := true, recurses := true, apart := false, narrowed := true }
def PurseFirstUptoSaid : Prop := purseFirstUptoRow.holds Try.pinned (OpenSpec.upto purseFirstSpec)

/-- 'stepladderlaw10.PurseFinds', WHERE WHAT IT READS IS OF BULK AT MOST 1048576: true; the input reads as it did. -/
def purseFindsUptoRow : OpenClaim := { program := "ytmfgemnmelbflaa", sum := "7baaa832f790ab6a05f2daf23cee43ed515a9dad5bc79bfb9c61475cf7613ac7", func := "stepladder/stepladderlaw10.PurseFinds", spec := "purseFinds", inPlace := ["internal/bytealg.Compare"], unfollowed := true, recurses := true, apart := false, narrowed := true }
def PurseFindsUptoSaid : Prop := purseFindsUptoRow.holds Try.pinned (OpenSpec.upto purseFindsSpec)

end Rows
end Go.Proofs.Ytmfgemnmelbflaa
