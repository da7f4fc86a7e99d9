/-
  No cell of these rows narrows 'for every input' (looked for: loops, veiled, ifaces, maps, wideKeys, modest, calm, conditions, laid).
  DERIVED. THE GIVEN ROWS OF THIS SEAT. 8 by the template 'for every input the law returns true; each argument reads behind the call as it read before'; 0 by the template 'total and deterministic' (their statements: YtjjlfapfjjkomaaGreatTotals.lean).
  GIVEN WITH THE SEED: the statements are not yours to turn. If you find one false, say at which input.
  Laid BY PROGRAM, IN A SANDBOX (cutbox-rows.mjs): the forced cells as the released guide's own fill.sh prints them over the translation 6447824f5a68e43f… (all of the seat's roots in one cut). By AI agents, Wed Nov 11 2026. No macro, syntax, notation, axiom, sorry.
-/
import Derived.Test.YtjjlfapfjjkomaaGreatChecked
import GoSem.Claim
import GoSem.ClaimJoined
import GoSem.ClaimMapViews
import Derived.JoinedTies
import Derived.KernelRfl
namespace Go.Proofs.YtjjlfapfjjkomaaGreat
/- THE CELL 'sum', in the pinned program and in every row, IS THE sha256 OF THE DUMP (.gsa) THAT YtjjlfapfjjkomaaGreatProg.lean LOADS. Nothing in Lean hashes anything: it is a label: what it is worth is what the hold of that sum in a sandbox is worth. -/
noncomputable def Tryz.pinned : Pinned := { name := "ytjjlfapfjjkomaagreat", sum := "6447824f5a68e43fde97217e8706c8d1b190bef9565ac8bbfea3222a0fe085ab", checked := Tryz.checked }
namespace Rows
def none {H : Type} : Left H := { results := [], args := [] }

/-- 'stepladderlaw17.ProofTells': WHATEVER THE INPUT: true; the input reads as it did. -/
def proofTellsSpec : ChangeSpec := { name := "proofTells", fn := fun _ => fun
  | [d1, d2, d3, d4, d5, d6, d7] => { results := [.lit (.bool true)], args := [d1, d2, d3, d4, d5, d6, d7] }
  | _ => none }
def proofTellsRow : OpenClaim := { program := "ytjjlfapfjjkomaagreat", sum := "6447824f5a68e43fde97217e8706c8d1b190bef9565ac8bbfea3222a0fe085ab", func := "stepladder/stepladderlaw17.ProofTells", spec := "proofTells", inPlace := ["math/bits.Add64", "math/bits.Sub64", "internal/bytealg.Compare"], unfollowed := true, recurses := true, apart := false }
def ProofTellsSaid : Prop := proofTellsRow.holds Tryz.pinned (OpenSpec.ofChange proofTellsSpec)

/-- ITS FALSE NEIGHBOUR: 'it returns false'. Refute it at one input. -/
def proofTellsWrong : ChangeSpec := { name := "proofTells", fn := fun _ => fun
  | [d1, d2, d3, d4, d5, d6, d7] => { results := [.lit (.bool false)], args := [d1, d2, d3, d4, d5, d6, d7] }
  | _ => none }
def ProofTellsWrongFalsely : Prop := proofTellsRow.holds Tryz.pinned (OpenSpec.ofChange proofTellsWrong)

/-- 'stepladderlaw17.ProofBack': WHATEVER THE INPUT: true; the input reads as it did. -/
def proofBackSpec : ChangeSpec := { name := "proofBack", fn := fun _ => fun
  | [d1, d2, d3, d4, d5] => { results := [.lit (.bool true)], args := [d1, d2, d3, d4, d5] }
  | _ => none }
def proofBackRow : OpenClaim := { program := "ytjjlfapfjjkomaagreat", sum := "6447824f5a68e43fde97217e8706c8d1b190bef9565ac8bbfea3222a0fe085ab", func := "stepladder/stepladderlaw17.ProofBack", spec := "proofBack", inPlace := ["math/bits.Add64", "math/bits.Sub64", "internal/bytealg.Compare"], unfollowed := true, recurses := true, apart := false }
def ProofBackSaid : Prop := proofBackRow.holds Tryz.pinned (OpenSpec.ofChange proofBackSpec)

/-- ITS FALSE NEIGHBOUR: 'it returns false'. Refute it at one input. -/
def proofBackWrong : ChangeSpec := { name := "proofBack", fn := fun _ => fun
  | [d1, d2, d3, d4, d5] => { results := [.lit (.bool false)], args := [d1, d2, d3, d4, d5] }
  | _ => none }
def ProofBackWrongFalsely : Prop := proofBackRow.holds Tryz.pinned (OpenSpec.ofChange proofBackWrong)

/-- 'stepladderlaw17.ProofChain': WHATEVER THE INPUT: true; the input reads as it did. -/
def proofChainSpec : ChangeSpec := { name := "proofChain", fn := fun _ => fun
  | [d1, d2, d3, d4] => { results := [.lit (.bool true)], args := [d1, d2, d3, d4] }
  | _ => none }
def proofChainRow : OpenClaim := { program := "ytjjlfapfjjkomaagreat", sum := "6447824f5a68e43fde97217e8706c8d1b190bef9565ac8bbfea3222a0fe085ab", func := "stepladder/stepladderlaw17.ProofChain", spec := "proofChain", inPlace := ["math/bits.Add64", "math/bits.Sub64", "internal/bytealg.Compare"], unfollowed := true, recurses := true, apart := false }
def ProofChainSaid : Prop := proofChainRow.holds Tryz.pinned (OpenSpec.ofChange proofChainSpec)

/-- ITS FALSE NEIGHBOUR: 'it returns false'. Refute it at one input. -/
def proofChainWrong : ChangeSpec := { name := "proofChain", fn := fun _ => fun
  | [d1, d2, d3, d4] => { results := [.lit (.bool false)], args := [d1, d2, d3, d4] }
  | _ => none }
def ProofChainWrongFalsely : Prop := proofChainRow.holds Tryz.pinned (OpenSpec.ofChange proofChainWrong)

/-- 'stepladderlaw17.ProofWay': WHATEVER THE INPUT: true; the input reads as it did. -/
def proofWaySpec : ChangeSpec := { name := "proofWay", fn := fun _ => fun
  | [d1, d2, d3, d4, d5] => { results := [.lit (.bool true)], args := [d1, d2, d3, d4, d5] }
  | _ => none }
def proofWayRow : OpenClaim := { program := "ytjjlfapfjjkomaagreat", sum := "6447824f5a68e43fde97217e8706c8d1b190bef9565ac8bbfea3222a0fe085ab", func := "stepladder/stepladderlaw17.ProofWay", spec := "proofWay", inPlace := ["math/bits.Add64", "math/bits.Sub64", "internal/bytealg.Compare"], unfollowed := true, recurses := true, apart := false }
def ProofWaySaid : Prop := proofWayRow.holds Tryz.pinned (OpenSpec.ofChange proofWaySpec)

/-- ITS FALSE NEIGHBOUR: 'it returns false'. Refute it at one input. -/
def proofWayWrong : ChangeSpec := { name := "proofWay", fn := fun _ => fun
  | [d1, d2, d3, d4, d5] => { results := [.lit (.bool false)], args := [d1, d2, d3, d4, d5] }
  | _ => none }
def ProofWayWrongFalsely : Prop := proofWayRow.holds Tryz.pinned (OpenSpec.ofChange proofWayWrong)

/-- 'stepladderlaw17.ProofCut': WHATEVER THE INPUT: true; the input reads as it did. -/
def proofCutSpec : ChangeSpec := { name := "proofCut", fn := fun _ => fun
  | [d1, d2, d3] => { results := [.lit (.bool true)], args := [d1, d2, d3] }
  | _ => none }
def proofCutRow : OpenClaim := { program := "ytjjlfapfjjkomaagreat", sum := "6447824f5a68e43fde97217e8706c8d1b190bef9565ac8bbfea3222a0fe085ab", func := "stepladder/stepladderlaw17.ProofCut", spec := "proofCut", inPlace := ["math/bits.Add64", "math/bits.Sub64", "internal/bytealg.Compare"], unfollowed := true, recurses := true, apart := false }
def ProofCutSaid : Prop := proofCutRow.holds Tryz.pinned (OpenSpec.ofChange proofCutSpec)

/-- ITS FALSE NEIGHBOUR: 'it returns false'. Refute it at one input. -/
def proofCutWrong : ChangeSpec := { name := "proofCut", fn := fun _ => fun
  | [d1, d2, d3] => { results := [.lit (.bool false)], args := [d1, d2, d3] }
  | _ => none }
def ProofCutWrongFalsely : Prop := proofCutRow.holds Tryz.pinned (OpenSpec.ofChange proofCutWrong)

/-- 'stepladderlaw17.ProofMore': WHATEVER THE INPUT: true; the input reads as it did. -/
def proofMoreSpec : ChangeSpec := { name := "proofMore", fn := fun _ => fun
  | [d1, d2, d3, d4] => { results := [.lit (.bool true)], args := [d1, d2, d3, d4] }
  | _ => none }
def proofMoreRow : OpenClaim := { program := "ytjjlfapfjjkomaagreat", sum := "6447824f5a68e43fde97217e8706c8d1b190bef9565ac8bbfea3222a0fe085ab", func := "stepladder/stepladderlaw17.ProofMore", spec := "proofMore", inPlace := ["math/bits.Add64", "math/bits.Sub64", "internal/bytealg.Compare"], unfollowed := true, recurses := true, apart := false }
def ProofMoreSaid : Prop := proofMoreRow.holds Tryz.pinned (OpenSpec.ofChange proofMoreSpec)

/-- ITS FALSE NEIGHBOUR: 'it returns false'. Refute it at one input. -/
def proofMoreWrong : ChangeSpec := { name := "proofMore", fn := fun _ => fun
  | [d1, d2, d3, d4] => { results := [.lit (.bool false)], args := [d1, d2, d3, d4] }
  | _ => none }
def ProofMoreWrongFalsely : Prop := proofMoreRow.holds Tryz.pinned (OpenSpec.ofChange proofMoreWrong)

/-- 'stepladderlaw17.ProofSizes': WHATEVER THE INPUT: true; the input reads as it did. -/
def proofSizesSpec : ChangeSpec := { name := "proofSizes", fn := fun _ => fun
  | [d1, d2, d3, d4] => { results := [.lit (.bool true)], args := [d1, d2, d3, d4] }
  | _ => none }
def proofSizesRow : OpenClaim := { program := "ytjjlfapfjjkomaagreat", sum := "6447824f5a68e43fde97217e8706c8d1b190bef9565ac8bbfea3222a0fe085ab", func := "stepladder/stepladderlaw17.ProofSizes", spec := "proofSizes", inPlace := ["math/bits.Add64", "math/bits.Sub64", "internal/bytealg.Compare"], unfollowed := true, recurses := true, apart := false }
def ProofSizesSaid : Prop := proofSizesRow.holds Tryz.pinned (OpenSpec.ofChange proofSizesSpec)

/-- ITS FALSE NEIGHBOUR: 'it returns false'. Refute it at one input. -/
def proofSizesWrong : ChangeSpec := { name := "proofSizes", fn := fun _ => fun
  | [d1, d2, d3, d4] => { results := [.lit (.bool false)], args := [d1, d2, d3, d4] }
  | _ => none }
def ProofSizesWrongFalsely : Prop := proofSizesRow.holds Tryz.pinned (OpenSpec.ofChange proofSizesWrong)

/-- 'stepladderlaw18.CheckHolds': WHATEVER THE INPUT: true; the input reads as it did. -/
def checkHoldsSpec : ChangeSpec := { name := "checkHolds", fn := fun _ => fun
  | [d1, d2, d3, d4] => { results := [.lit (.bool true)], args := [d1, d2, d3, d4] }
  | _ => none }
def checkHoldsRow : OpenClaim := { program := "ytjjlfapfjjkomaagreat", sum := "6447824f5a68e43fde97217e8706c8d1b190bef9565ac8bbfea3222a0fe085ab", func := "stepladder/stepladderlaw18.CheckHolds", spec := "checkHolds", inPlace := ["math/bits.Add64", "math/bits.Sub64", "internal/bytealg.Compare"], unfollowed := true, recurses := true, apart := false }
def CheckHoldsSaid : Prop := checkHoldsRow.holds Tryz.pinned (OpenSpec.ofChange checkHoldsSpec)

/-- ITS FALSE NEIGHBOUR: 'it returns false'. Refute it at one input. -/
def checkHoldsWrong : ChangeSpec := { name := "checkHolds", fn := fun _ => fun
  | [d1, d2, d3, d4] => { results := [.lit (.bool false)], args := [d1, d2, d3, d4] }
  | _ => none }
def CheckHoldsWrongFalsely : Prop := checkHoldsRow.holds Tryz.pinned (OpenSpec.ofChange checkHoldsWrong)

/- THE SECOND FORM. 'bulk': how many values and letters a reading holds, each counted each time it is reached (what is shared counts as often as it is met; a slice's spare places count too). A statement '..UptoSaid' is the law's where the arguments, and the package variables that the reading takes, are together of bulk at most 1048576: NARROWER than '..Said'. Prove '..Said' where nothing that the law and all that it calls make is longer than what came in: it says more and counts as full. Else prove '..UptoSaid'. A law counts once. -/
mutual
def uptoBulk {H : Type} : DataW H → Nat
  | .lit (.string bytes) => bytes.length + 1
  | .lit _ => 1
  | .nil => 1
  | .ptr d => uptoBulk d + 1
  | .slice elems spare => uptoBulkAll elems + uptoBulkAll spare + 1
  | .agg parts => uptoBulkAll parts + 1
  | .iface _ d => uptoBulk d + 1
  | .map entries => uptoBulkEntries entries + 1
  | .held _ => 1
def uptoBulkAll {H : Type} : List (DataW H) → Nat
  | [] => 0
  | d :: r => uptoBulk d + uptoBulkAll r
def uptoBulkEntries {H : Type} : List (Lit × DataW H) → Nat
  | [] => 0
  | x :: r => uptoBulkEntry x + uptoBulkEntries r
def uptoBulkEntry {H : Type} : Lit × DataW H → Nat
  | (.string bytes, d) => bytes.length + uptoBulk d + 1
  | (_, d) => uptoBulk d + 1
 end
def uptoSmall : (H : Type) → List (DataW H) → Bool := fun _ ds => decide (uptoBulkAll ds ≤ 1048576)
def OpenSpec.upto (s : _root_.Go.ChangeSpec) : _root_.Go.OpenSpec := { _root_.Go.OpenSpec.ofChange s with cond := some uptoSmall }

/-- 'stepladderlaw17.ProofTells', WHERE WHAT IT READS IS OF BULK AT MOST 1048576: true; the input reads as it did. -/
def proofTellsUptoRow : OpenClaim := { program := "ytjjlfapfjjkomaagreat", sum := "6447824f5a68e43fde97217e8706c8d1b190bef9565ac8bbfea3222a0fe085ab", func := "stepladder/stepladderlaw17.ProofTells", spec := "proofTells", inPlace := ["math/bits.Add64", "math/bits.Sub64", "internal/bytealg.Compare"], unfollowed := true, recurses := true, apart := false, narrowed := true }
def ProofTellsUptoSaid : Prop := proofTellsUptoRow.holds Tryz.pinned (OpenSpec.upto proofTellsSpec)

/-- 'stepladderlaw17.ProofBack', WHERE WHAT IT READS IS OF BULK AT MOST 1048576: true; the input reads as it did. -/
def proofBackUptoRow : OpenClaim := { program := "ytjjlfapfjjkomaagreat", sum := "6447824f5a68e43fde97217e8706c8d1b190bef9565ac8bbfea3222a0fe085ab", func := "stepladder/stepladderlaw17.ProofBack", spec := "proofBack", inPlace := ["math/bits.Add64", "math/bits.Sub64", "internal/bytealg.Compare"], unfollowed := true, recurses := true, apart := false, narrowed := true }
def ProofBackUptoSaid : Prop := proofBackUptoRow.holds Tryz.pinned (OpenSpec.upto proofBackSpec)

/-- 'stepladderlaw17.ProofChain', WHERE WHAT IT READS IS OF BULK AT MOST 1048576: true; the input reads as it did. -/
def proofChainUptoRow : OpenClaim := { program := "ytjjlfapfjjkomaagreat", sum := "6447824f5a68e43fde97217e8706c8d1b190bef9565ac8bbfea3222a0fe085ab", func := "stepladder/stepladderlaw17.ProofChain", spec := "proofChain", inPlace := ["math/bits.Add64", "math/bits.Sub64", "internal/bytealg.Compare"], unfollowed := true, recurses := true, apart := false, narrowed := true }
def ProofChainUptoSaid : Prop := proofChainUptoRow.holds Tryz.pinned (OpenSpec.upto proofChainSpec)

/-- 'stepladderlaw17.ProofWay', WHERE WHAT IT READS IS OF BULK AT MOST 1048576: true; the input reads as it did. -/
def proofWayUptoRow : OpenClaim := { program := "ytjjlfapfjjkomaagreat", sum := "6447824f5a68e43fde97217e8706c8d1b190bef9565ac8bbfea3222a0fe085ab", func := "stepladder/stepladderlaw17.ProofWay", spec := "proofWay", inPlace := ["math/bits.Add64", "math/bits.Sub64", "internal/bytealg.Compare"], unfollowed := true, recurses := true, apart := false, narrowed := true }
def ProofWayUptoSaid : Prop := proofWayUptoRow.holds Tryz.pinned (OpenSpec.upto proofWaySpec)

/-- 'stepladderlaw17.ProofCut', WHERE WHAT IT READS IS OF BULK AT MOST 1048576: true; the input reads as it did. -/
def proofCutUptoRow : OpenClaim := { program := "ytjjlfapfjjkomaagreat", sum := "6447824f5a68e43fde97217e8706c8d1b190bef9565ac8bbfea3222a0fe085ab", func := "stepladder/stepladderlaw17.ProofCut", spec := "proofCut", inPlace := ["math/bits.Add64", "math/bits.Sub64", "internal/bytealg.Compare"], unfollowed := true, recurses := true, apart := false, narrowed := true }
def ProofCutUptoSaid : Prop := proofCutUptoRow.holds Tryz.pinned (OpenSpec.upto proofCutSpec)

/-- 'stepladderlaw17.ProofMore', WHERE WHAT IT READS IS OF BULK AT MOST 1048576: true; the input reads as it did. -/
def proofMoreUptoRow : OpenClaim := { program := "ytjjlfapfjjkomaagreat", sum := "6447824f5a68e43fde97217e8706c8d1b190bef9565ac8bbfea3222a0fe085ab", func := "stepladder/stepladderlaw17.ProofMore", spec := "proofMore", inPlace := ["math/bits.Add64", "math/bits.Sub64", "internal/bytealg.Compare"], unfollowed := true, recurses := true, apart := false, narrowed := true }
def ProofMoreUptoSaid : Prop := proofMoreUptoRow.holds Tryz.pinned (OpenSpec.upto proofMoreSpec)

/-- 'stepladderlaw17.ProofSizes', WHERE WHAT IT READS IS OF BULK AT MOST 1048576: true; the input reads as it did. -/
def proofSizesUptoRow : OpenClaim := { program := "ytjjlfapfjjkomaagreat", sum := "6447824f5a68e43fde97217e8706c8d1b190bef9565ac8bbfea3222a0fe085ab", func := "stepladder/stepladderlaw17.ProofSizes", spec := "proofSizes", inPlace := ["math/bits.Add64", "math/bits.Sub64", "internal/bytealg.Compare"], unfollowed := true, recurses := true, apart := false, narrowed := true }
def ProofSizesUptoSaid : Prop := proofSizesUptoRow.holds Tryz.pinned (OpenSpec.upto proofSizesSpec)

/-- 'stepladderlaw18.CheckHolds', WHERE WHAT IT READS IS OF BULK AT MOST 1048576: true; the input reads as it did. -/
def checkHoldsUptoRow : OpenClaim := { program := "ytjjlfapfjjkomaagreat", sum := "6447824f5a68e43fde97217e8706c8d1b190bef9565ac8bbfea3222a0fe085ab", func := "stepladder/stepladderlaw18.CheckHolds", spec := "checkHolds", inPlace := ["math/bits.Add64", "math/bits.Sub64", "internal/bytealg.Compare"], unfollowed := true, recurses := true, apart := false, narrowed := true }
def CheckHoldsUptoSaid : Prop := checkHoldsUptoRow.holds Tryz.pinned (OpenSpec.upto checkHoldsSpec)

end Rows
end Go.Proofs.YtjjlfapfjjkomaaGreat
