/-
  No cell of these rows narrows 'for every input' (looked for: loops, veiled, ifaces, maps, wideKeys, modest, calm, conditions, laid).
  DERIVED. THE GIVEN ROWS OF THIS SEAT. 7 by the template 'for every input the law returns true; each argument reads behind the call as it read before'; 0 by the template 'total and deterministic' (their statements: YtfepfajcdkllfaaGreatTotals.lean).
  GIVEN WITH THE SEED: the statements are not yours to turn. If you find one false, say at which input.
  Laid BY PROGRAM, IN A SANDBOX (cutbox-rows.mjs): the forced cells as the released guide's own fill.sh prints them over the translation 17bc64aac79e41e8… (all of the seat's roots in one cut). By AI agents, Wed Nov 11 2026. No macro, syntax, notation, axiom, sorry.
-/
import Derived.Test.YtfepfajcdkllfaaGreatChecked
import GoSem.Claim
import GoSem.ClaimJoined
import GoSem.ClaimMapViews
import Derived.JoinedTies
import Derived.KernelRfl
namespace Go.Proofs.YtfepfajcdkllfaaGreat
/- THE CELL 'sum', in the pinned program and in every row, IS THE sha256 OF THE DUMP (.gsa) THAT YtfepfajcdkllfaaGreatProg.lean LOADS. Nothing in Lean hashes anything: it is a label: what it is worth is what the hold of that sum in a sandbox is worth. -/
noncomputable def Tryz.pinned : Pinned := { name := "ytfepfajcdkllfaagreat", sum := "17bc64aac79e41e8099283ddad2e84ca5eeeb8a8537c88987937eed1899d08b5", checked := Tryz.checked }
namespace Rows
def none {H : Type} : Left H := { results := [], args := [] }

/-- 'stepladderlaw12.ChainGrows': WHATEVER THE INPUT: true; the input reads as it did. -/
def chainGrowsSpec : ChangeSpec := { name := "chainGrows", fn := fun _ => fun
  | [d1, d2, d3, d4] => { results := [.lit (.bool true)], args := [d1, d2, d3, d4] }
  | _ => none }
def chainGrowsRow : OpenClaim := { program := "ytfepfajcdkllfaagreat", sum := "17bc64aac79e41e8099283ddad2e84ca5eeeb8a8537c88987937eed1899d08b5", func := "stepladder/stepladderlaw12.ChainGrows", spec := "chainGrows", inPlace := ["math/bits.Add64", "math/bits.Sub64", "internal/bytealg.Compare"], unfollowed := true, recurses := true, apart := false }
def ChainGrowsSaid : Prop := chainGrowsRow.holds Tryz.pinned (OpenSpec.ofChange chainGrowsSpec)

/-- ITS FALSE NEIGHBOUR: 'it returns false'. Refute it at one input. -/
def chainGrowsWrong : ChangeSpec := { name := "chainGrows", fn := fun _ => fun
  | [d1, d2, d3, d4] => { results := [.lit (.bool false)], args := [d1, d2, d3, d4] }
  | _ => none }
def ChainGrowsWrongFalsely : Prop := chainGrowsRow.holds Tryz.pinned (OpenSpec.ofChange chainGrowsWrong)

/-- 'stepladderlaw12.ChainLinks': WHATEVER THE INPUT: true; the input reads as it did. -/
def chainLinksSpec : ChangeSpec := { name := "chainLinks", fn := fun _ => fun
  | [d1, d2, d3] => { results := [.lit (.bool true)], args := [d1, d2, d3] }
  | _ => none }
def chainLinksRow : OpenClaim := { program := "ytfepfajcdkllfaagreat", sum := "17bc64aac79e41e8099283ddad2e84ca5eeeb8a8537c88987937eed1899d08b5", func := "stepladder/stepladderlaw12.ChainLinks", spec := "chainLinks", inPlace := ["math/bits.Add64", "math/bits.Sub64", "internal/bytealg.Compare"], unfollowed := true, recurses := true, apart := false }
def ChainLinksSaid : Prop := chainLinksRow.holds Tryz.pinned (OpenSpec.ofChange chainLinksSpec)

/-- ITS FALSE NEIGHBOUR: 'it returns false'. Refute it at one input. -/
def chainLinksWrong : ChangeSpec := { name := "chainLinks", fn := fun _ => fun
  | [d1, d2, d3] => { results := [.lit (.bool false)], args := [d1, d2, d3] }
  | _ => none }
def ChainLinksWrongFalsely : Prop := chainLinksRow.holds Tryz.pinned (OpenSpec.ofChange chainLinksWrong)

/-- 'stepladderlaw12.ChainSpoiled': WHATEVER THE INPUT: true; the input reads as it did. -/
def chainSpoiledSpec : ChangeSpec := { name := "chainSpoiled", fn := fun _ => fun
  | [d1, d2, d3] => { results := [.lit (.bool true)], args := [d1, d2, d3] }
  | _ => none }
def chainSpoiledRow : OpenClaim := { program := "ytfepfajcdkllfaagreat", sum := "17bc64aac79e41e8099283ddad2e84ca5eeeb8a8537c88987937eed1899d08b5", func := "stepladder/stepladderlaw12.ChainSpoiled", spec := "chainSpoiled", inPlace := ["math/bits.Add64", "math/bits.Sub64", "internal/bytealg.Compare"], unfollowed := true, recurses := true, apart := false }
def ChainSpoiledSaid : Prop := chainSpoiledRow.holds Tryz.pinned (OpenSpec.ofChange chainSpoiledSpec)

/-- ITS FALSE NEIGHBOUR: 'it returns false'. Refute it at one input. -/
def chainSpoiledWrong : ChangeSpec := { name := "chainSpoiled", fn := fun _ => fun
  | [d1, d2, d3] => { results := [.lit (.bool false)], args := [d1, d2, d3] }
  | _ => none }
def ChainSpoiledWrongFalsely : Prop := chainSpoiledRow.holds Tryz.pinned (OpenSpec.ofChange chainSpoiledWrong)

/-- 'stepladderlaw12.ChainPushes': WHATEVER THE INPUT: true; the input reads as it did. -/
def chainPushesSpec : ChangeSpec := { name := "chainPushes", fn := fun _ => fun
  | [d1, d2] => { results := [.lit (.bool true)], args := [d1, d2] }
  | _ => none }
def chainPushesRow : OpenClaim := { program := "ytfepfajcdkllfaagreat", sum := "17bc64aac79e41e8099283ddad2e84ca5eeeb8a8537c88987937eed1899d08b5", func := "stepladder/stepladderlaw12.ChainPushes", spec := "chainPushes", inPlace := ["math/bits.Add64", "math/bits.Sub64", "internal/bytealg.Compare"], unfollowed := true, recurses := true, apart := false }
def ChainPushesSaid : Prop := chainPushesRow.holds Tryz.pinned (OpenSpec.ofChange chainPushesSpec)

/-- ITS FALSE NEIGHBOUR: 'it returns false'. Refute it at one input. -/
def chainPushesWrong : ChangeSpec := { name := "chainPushes", fn := fun _ => fun
  | [d1, d2] => { results := [.lit (.bool false)], args := [d1, d2] }
  | _ => none }
def ChainPushesWrongFalsely : Prop := chainPushesRow.holds Tryz.pinned (OpenSpec.ofChange chainPushesWrong)

/-- 'stepladderlaw12.ChainFinds': WHATEVER THE INPUT: true; the input reads as it did. -/
def chainFindsSpec : ChangeSpec := { name := "chainFinds", fn := fun _ => fun
  | [d1, d2, d3] => { results := [.lit (.bool true)], args := [d1, d2, d3] }
  | _ => none }
def chainFindsRow : OpenClaim := { program := "ytfepfajcdkllfaagreat", sum := "17bc64aac79e41e8099283ddad2e84ca5eeeb8a8537c88987937eed1899d08b5", func := "stepladder/stepladderlaw12.ChainFinds", spec := "chainFinds", inPlace := ["math/bits.Add64", "math/bits.Sub64", "internal/bytealg.Compare"], unfollowed := true, recurses := true, apart := false }
def ChainFindsSaid : Prop := chainFindsRow.holds Tryz.pinned (OpenSpec.ofChange chainFindsSpec)

/-- ITS FALSE NEIGHBOUR: 'it returns false'. Refute it at one input. -/
def chainFindsWrong : ChangeSpec := { name := "chainFinds", fn := fun _ => fun
  | [d1, d2, d3] => { results := [.lit (.bool false)], args := [d1, d2, d3] }
  | _ => none }
def ChainFindsWrongFalsely : Prop := chainFindsRow.holds Tryz.pinned (OpenSpec.ofChange chainFindsWrong)

/-- 'stepladderlaw12.ChainTells': WHATEVER THE INPUT: true; the input reads as it did. -/
def chainTellsSpec : ChangeSpec := { name := "chainTells", fn := fun _ => fun
  | [d1, d2, d3, d4, d5, d6] => { results := [.lit (.bool true)], args := [d1, d2, d3, d4, d5, d6] }
  | _ => none }
def chainTellsRow : OpenClaim := { program := "ytfepfajcdkllfaagreat", sum := "17bc64aac79e41e8099283ddad2e84ca5eeeb8a8537c88987937eed1899d08b5", func := "stepladder/stepladderlaw12.ChainTells", spec := "chainTells", inPlace := ["math/bits.Add64", "math/bits.Sub64", "internal/bytealg.Compare"], unfollowed := true, recurses := true, apart := false }
def ChainTellsSaid : Prop := chainTellsRow.holds Tryz.pinned (OpenSpec.ofChange chainTellsSpec)

/-- ITS FALSE NEIGHBOUR: 'it returns false'. Refute it at one input. -/
def chainTellsWrong : ChangeSpec := { name := "chainTells", fn := fun _ => fun
  | [d1, d2, d3, d4, d5, d6] => { results := [.lit (.bool false)], args := [d1, d2, d3, d4, d5, d6] }
  | _ => none }
def ChainTellsWrongFalsely : Prop := chainTellsRow.holds Tryz.pinned (OpenSpec.ofChange chainTellsWrong)

/-- 'stepladderlaw12.ChainStands': WHATEVER THE INPUT: true; the input reads as it did. -/
def chainStandsSpec : ChangeSpec := { name := "chainStands", fn := fun _ => fun
  | [d1, d2] => { results := [.lit (.bool true)], args := [d1, d2] }
  | _ => none }
def chainStandsRow : OpenClaim := { program := "ytfepfajcdkllfaagreat", sum := "17bc64aac79e41e8099283ddad2e84ca5eeeb8a8537c88987937eed1899d08b5", func := "stepladder/stepladderlaw12.ChainStands", spec := "chainStands", inPlace := ["math/bits.Add64", "math/bits.Sub64", "internal/bytealg.Compare"], unfollowed := true, recurses := true, apart := false }
def ChainStandsSaid : Prop := chainStandsRow.holds Tryz.pinned (OpenSpec.ofChange chainStandsSpec)

/-- ITS FALSE NEIGHBOUR: 'it returns false'. Refute it at one input. -/
def chainStandsWrong : ChangeSpec := { name := "chainStands", fn := fun _ => fun
  | [d1, d2] => { results := [.lit (.bool false)], args := [d1, d2] }
  | _ => none }
def ChainStandsWrongFalsely : Prop := chainStandsRow.holds Tryz.pinned (OpenSpec.ofChange chainStandsWrong)

/- THE SECOND FORM. 'bulk': how many values and letters a reading holds, each counted each time it is reached (what is shared counts as often as it is met; a slice's spare places count too). A statement '..UptoSaid' is the law's where the arguments, and the package variables that the reading takes, are together of bulk at most 1048576: NARROWER than '..Said'. Prove '..Said' where nothing that the law and all that it calls make is longer than what came in: it says more and counts as full. Else prove '..UptoSaid'. A law counts once. -/
mutual
def uptoBulk {H : Type} : DataW H → Nat
  | .lit (.string bytes) => bytes.length + 1
  | .lit _ => 1
  | .nil => 1
  | .ptr d => uptoBulk d + 1
  | .slice elems spare => uptoBulkAll elems + uptoBulkAll spare + 1
  | .agg parts => uptoBulkAll parts + 1
  | .iface _ d => uptoBulk d + 1
  | .map entries => uptoBulkEntries entries + 1
  | .held _ => 1
def uptoBulkAll {H : Type} : List (DataW H) → Nat
  | [] => 0
  | d :: r => uptoBulk d + uptoBulkAll r
def uptoBulkEntries {H : Type} : List (Lit × DataW H) → Nat
  | [] => 0
  | x :: r => uptoBulkEntry x + uptoBulkEntries r
def uptoBulkEntry {H : Type} : Lit × DataW H → Nat
  | (.string bytes, d) => bytes.length + uptoBulk d + 1
  | (_, d) => uptoBulk d + 1
 end
def uptoSmall : (H : Type) → List (DataW H) → Bool := fun _ ds => decide (uptoBulkAll ds ≤ 1048576)
def OpenSpec.upto (s : _root_.Go.ChangeSpec) : _root_.Go.OpenSpec := { _root_.Go.OpenSpec.ofChange s with cond := some uptoSmall }

/-- 'stepladderlaw12.ChainGrows', WHERE WHAT IT READS IS OF BULK AT MOST 1048576: true; the input reads as it did. -/
def chainGrowsUptoRow : OpenClaim := { program := "ytfepfajcdkllfaagreat", sum := "17bc64aac79e41e8099283ddad2e84ca5eeeb8a8537c88987937eed1899d08b5", func := "stepladder/stepladderlaw12.ChainGrows", spec := "chainGrows", inPlace := ["math/bits.Add64", "math/bits.Sub64", "internal/bytealg.Compare"], unfollowed := true, recurses := true, apart := false, narrowed := true }
def ChainGrowsUptoSaid : Prop := chainGrowsUptoRow.holds Tryz.pinned (OpenSpec.upto chainGrowsSpec)

/-- 'stepladderlaw12.ChainLinks', WHERE WHAT IT READS IS OF BULK AT MOST 1048576: true; the input reads as it did. -/
def chainLinksUptoRow : OpenClaim := { program := "ytfepfajcdkllfaagreat", sum := "17bc64aac79e41e8099283ddad2e84ca5eeeb8a8537c88987937eed1899d08b5", func := "stepladder/stepladderlaw12.ChainLinks", spec := "chainLinks", inPlace := ["math/bits.Add64", "math/bits.Sub64", "internal/bytealg.Compare"], unfollowed := true, recurses := true, apart := false, narrowed := true }
def ChainLinksUptoSaid : Prop := chainLinksUptoRow.holds Tryz.pinned (OpenSpec.upto chainLinksSpec)

/-- 'stepladderlaw12.ChainSpoiled', WHERE WHAT IT READS IS OF BULK AT MOST 1048576: true; the input reads as it did. -/
def chainSpoiledUptoRow : OpenClaim := { program := "ytfepfajcdkllfaagreat", sum := "17bc64aac79e41e8099283ddad2e84ca5eeeb8a8537c88987937eed1899d08b5", func := "stepladder/stepladderlaw12.ChainSpoiled", spec := "chainSpoiled", inPlace := ["math/bits.Add64", "math/bits.Sub64", "internal/bytealg.Compare"], unfollowed := true, recurses := true, apart := false, narrowed := true }
def ChainSpoiledUptoSaid : Prop := chainSpoiledUptoRow.holds Tryz.pinned (OpenSpec.upto chainSpoiledSpec)

/-- 'stepladderlaw12.ChainPushes', WHERE WHAT IT READS IS OF BULK AT MOST 1048576: true; the input reads as it did. -/
def chainPushesUptoRow : OpenClaim := { program := "ytfepfajcdkllfaagreat", sum := "17bc64aac79e41e8099283ddad2e84ca5eeeb8a8537c88987937eed1899d08b5", func := "stepladder/stepladderlaw12.ChainPushes", spec := "chainPushes", inPlace := ["math/bits.Add64", "math/bits.Sub64", "internal/bytealg.Compare"], unfollowed := true, recurses := true, apart := false, narrowed := true }
def ChainPushesUptoSaid : Prop := chainPushesUptoRow.holds Tryz.pinned (OpenSpec.upto chainPushesSpec)

/-- 'stepladderlaw12.ChainFinds', WHERE WHAT IT READS IS OF BULK AT MOST 1048576: true; the input reads as it did. -/
def chainFindsUptoRow : OpenClaim := { program := "ytfepfajcdkllfaagreat", sum := "17bc64aac79e41e8099283ddad2e84ca5eeeb8a8537c88987937eed1899d08b5", func := "stepladder/stepladderlaw12.ChainFinds", spec := "chainFinds", inPlace := ["math/bits.Add64", "math/bits.Sub64", "internal/bytealg.Compare"], unfollowed := true, recurses := true, apart := false, narrowed := true }
def ChainFindsUptoSaid : Prop := chainFindsUptoRow.holds Tryz.pinned (OpenSpec.upto chainFindsSpec)

/-- 'stepladderlaw12.ChainTells', WHERE WHAT IT READS IS OF BULK AT MOST 1048576: true; the input reads as it did. -/
def chainTellsUptoRow : OpenClaim := { program := "ytfepfajcdkllfaagreat", sum := "17bc64aac79e41e8099283ddad2e84ca5eeeb8a8537c88987937eed1899d08b5", func := "stepladder/stepladderlaw12.ChainTells", spec := "chainTells", inPlace := ["math/bits.Add64", "math/bits.Sub64", "internal/bytealg.Compare"], unfollowed := true, recurses := true, apart := false, narrowed := true }
def ChainTellsUptoSaid : Prop := chainTellsUptoRow.holds Tryz.pinned (OpenSpec.upto chainTellsSpec)

/-- 'stepladderlaw12.ChainStands', WHERE WHAT IT READS IS OF BULK AT MOST 1048576: true; the input reads as it did. -/
def chainStandsUptoRow : OpenClaim := { program := "ytfepfajcdkllfaagreat", sum := "17bc64aac79e41e8099283ddad2e84ca5eeeb8a8537c88987937eed1899d08b5", func := "stepladder/stepladderlaw12.ChainStands", spec := "chainStands", inPlace := ["math/bits.Add64", "math/bits.Sub64", "internal/bytealg.Compare"], unfollowed := true, recurses := true, apart := false, narrowed := true }
def ChainStandsUptoSaid : Prop := chainStandsUptoRow.holds Tryz.pinned (OpenSpec.upto chainStandsSpec)

end Rows
end Go.Proofs.YtfepfajcdkllfaaGreat
