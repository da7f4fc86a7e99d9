/-
  No cell of these rows narrows 'for every input' (looked for: loops, veiled, ifaces, maps, wideKeys, modest, calm, conditions, laid).
  DERIVED. THE GIVEN ROWS OF THIS SEAT. 6 by the template 'for every input the law returns true; each argument reads behind the call as it read before'; 0 by the template 'total and deterministic' (their statements: YtdakocblfaojnaaGreatTotals.lean).
  GIVEN WITH THE SEED: the statements are not yours to turn. If you find one false, say at which input.
  Laid BY PROGRAM, IN A SANDBOX (cutbox-rows.mjs): the forced cells as the released guide's own fill.sh prints them over the translation 3c32d865179ed635… (all of the seat's roots in one cut). By AI agents, Wed Nov 11 2026. No macro, syntax, notation, axiom, sorry.
-/
import Derived.Test.YtdakocblfaojnaaGreatChecked
import GoSem.Claim
import GoSem.ClaimJoined
import GoSem.ClaimMapViews
import Derived.JoinedTies
import Derived.KernelRfl
namespace Go.Proofs.YtdakocblfaojnaaGreat
/- THE CELL 'sum', in the pinned program and in every row, IS THE sha256 OF THE DUMP (.gsa) THAT YtdakocblfaojnaaGreatProg.lean LOADS. Nothing in Lean hashes anything: it is a label: what it is worth is what the hold of that sum in a sandbox is worth. -/
noncomputable def Tryz.pinned : Pinned := { name := "ytdakocblfaojnaagreat", sum := "3c32d865179ed6354adf28855d57785378afe39fd144c087af91825776d74c55", checked := Tryz.checked }
namespace Rows
def none {H : Type} : Left H := { results := [], args := [] }

/-- 'stepladderlaw20.SampleHolds': WHATEVER THE INPUT: true; the input reads as it did. -/
def sampleHoldsSpec : ChangeSpec := { name := "sampleHolds", fn := fun _ => fun
  | [d1, d2, d3] => { results := [.lit (.bool true)], args := [d1, d2, d3] }
  | _ => none }
def sampleHoldsRow : OpenClaim := { program := "ytdakocblfaojnaagreat", sum := "3c32d865179ed6354adf28855d57785378afe39fd144c087af91825776d74c55", func := "stepladder/stepladderlaw20.SampleHolds", spec := "sampleHolds", inPlace := ["math/bits.Add64", "math/bits.Sub64", "internal/bytealg.Compare"], unfollowed := true, recurses := true, apart := false }
def SampleHoldsSaid : Prop := sampleHoldsRow.holds Tryz.pinned (OpenSpec.ofChange sampleHoldsSpec)

/-- ITS FALSE NEIGHBOUR: 'it returns false'. Refute it at one input. -/
def sampleHoldsWrong : ChangeSpec := { name := "sampleHolds", fn := fun _ => fun
  | [d1, d2, d3] => { results := [.lit (.bool false)], args := [d1, d2, d3] }
  | _ => none }
def SampleHoldsWrongFalsely : Prop := sampleHoldsRow.holds Tryz.pinned (OpenSpec.ofChange sampleHoldsWrong)

/-- 'stepladderlaw20.SampleWork': WHATEVER THE INPUT: true; the input reads as it did. -/
def sampleWorkSpec : ChangeSpec := { name := "sampleWork", fn := fun _ => fun
  | [d1, d2, d3] => { results := [.lit (.bool true)], args := [d1, d2, d3] }
  | _ => none }
def sampleWorkRow : OpenClaim := { program := "ytdakocblfaojnaagreat", sum := "3c32d865179ed6354adf28855d57785378afe39fd144c087af91825776d74c55", func := "stepladder/stepladderlaw20.SampleWork", spec := "sampleWork", inPlace := ["math/bits.Add64", "math/bits.Sub64", "internal/bytealg.Compare"], unfollowed := true, recurses := true, apart := false }
def SampleWorkSaid : Prop := sampleWorkRow.holds Tryz.pinned (OpenSpec.ofChange sampleWorkSpec)

/-- ITS FALSE NEIGHBOUR: 'it returns false'. Refute it at one input. -/
def sampleWorkWrong : ChangeSpec := { name := "sampleWork", fn := fun _ => fun
  | [d1, d2, d3] => { results := [.lit (.bool false)], args := [d1, d2, d3] }
  | _ => none }
def SampleWorkWrongFalsely : Prop := sampleWorkRow.holds Tryz.pinned (OpenSpec.ofChange sampleWorkWrong)

/-- 'stepladderlaw20.SampleChain': WHATEVER THE INPUT: true; the input reads as it did. -/
def sampleChainSpec : ChangeSpec := { name := "sampleChain", fn := fun _ => fun
  | [d1, d2, d3] => { results := [.lit (.bool true)], args := [d1, d2, d3] }
  | _ => none }
def sampleChainRow : OpenClaim := { program := "ytdakocblfaojnaagreat", sum := "3c32d865179ed6354adf28855d57785378afe39fd144c087af91825776d74c55", func := "stepladder/stepladderlaw20.SampleChain", spec := "sampleChain", inPlace := ["math/bits.Add64", "math/bits.Sub64", "internal/bytealg.Compare"], unfollowed := true, recurses := true, apart := false }
def SampleChainSaid : Prop := sampleChainRow.holds Tryz.pinned (OpenSpec.ofChange sampleChainSpec)

/-- ITS FALSE NEIGHBOUR: 'it returns false'. Refute it at one input. -/
def sampleChainWrong : ChangeSpec := { name := "sampleChain", fn := fun _ => fun
  | [d1, d2, d3] => { results := [.lit (.bool false)], args := [d1, d2, d3] }
  | _ => none }
def SampleChainWrongFalsely : Prop := sampleChainRow.holds Tryz.pinned (OpenSpec.ofChange sampleChainWrong)

/-- 'stepladderlaw20.SamplePicks': WHATEVER THE INPUT: true; the input reads as it did. -/
def samplePicksSpec : ChangeSpec := { name := "samplePicks", fn := fun _ => fun
  | [d1, d2, d3, d4, d5, d6] => { results := [.lit (.bool true)], args := [d1, d2, d3, d4, d5, d6] }
  | _ => none }
def samplePicksRow : OpenClaim := { program := "ytdakocblfaojnaagreat", sum := "3c32d865179ed6354adf28855d57785378afe39fd144c087af91825776d74c55", func := "stepladder/stepladderlaw20.SamplePicks", spec := "samplePicks", inPlace := ["math/bits.Add64", "math/bits.Sub64", "internal/bytealg.Compare"], unfollowed := true, recurses := true, apart := false }
def SamplePicksSaid : Prop := samplePicksRow.holds Tryz.pinned (OpenSpec.ofChange samplePicksSpec)

/-- ITS FALSE NEIGHBOUR: 'it returns false'. Refute it at one input. -/
def samplePicksWrong : ChangeSpec := { name := "samplePicks", fn := fun _ => fun
  | [d1, d2, d3, d4, d5, d6] => { results := [.lit (.bool false)], args := [d1, d2, d3, d4, d5, d6] }
  | _ => none }
def SamplePicksWrongFalsely : Prop := samplePicksRow.holds Tryz.pinned (OpenSpec.ofChange samplePicksWrong)

/-- 'stepladderlaw20.SampleTold': WHATEVER THE INPUT: true; the input reads as it did. -/
def sampleToldSpec : ChangeSpec := { name := "sampleTold", fn := fun _ => fun
  | [d1, d2, d3, d4] => { results := [.lit (.bool true)], args := [d1, d2, d3, d4] }
  | _ => none }
def sampleToldRow : OpenClaim := { program := "ytdakocblfaojnaagreat", sum := "3c32d865179ed6354adf28855d57785378afe39fd144c087af91825776d74c55", func := "stepladder/stepladderlaw20.SampleTold", spec := "sampleTold", inPlace := ["math/bits.Add64", "math/bits.Sub64", "internal/bytealg.Compare"], unfollowed := true, recurses := true, apart := false }
def SampleToldSaid : Prop := sampleToldRow.holds Tryz.pinned (OpenSpec.ofChange sampleToldSpec)

/-- ITS FALSE NEIGHBOUR: 'it returns false'. Refute it at one input. -/
def sampleToldWrong : ChangeSpec := { name := "sampleTold", fn := fun _ => fun
  | [d1, d2, d3, d4] => { results := [.lit (.bool false)], args := [d1, d2, d3, d4] }
  | _ => none }
def SampleToldWrongFalsely : Prop := sampleToldRow.holds Tryz.pinned (OpenSpec.ofChange sampleToldWrong)

/-- 'stepladderlaw20.SampleTwo': WHATEVER THE INPUT: true; the input reads as it did. -/
def sampleTwoSpec : ChangeSpec := { name := "sampleTwo", fn := fun _ => fun
  | [d1, d2] => { results := [.lit (.bool true)], args := [d1, d2] }
  | _ => none }
def sampleTwoRow : OpenClaim := { program := "ytdakocblfaojnaagreat", sum := "3c32d865179ed6354adf28855d57785378afe39fd144c087af91825776d74c55", func := "stepladder/stepladderlaw20.SampleTwo", spec := "sampleTwo", inPlace := ["math/bits.Add64", "math/bits.Sub64", "internal/bytealg.Compare"], unfollowed := true, recurses := true, apart := false }
def SampleTwoSaid : Prop := sampleTwoRow.holds Tryz.pinned (OpenSpec.ofChange sampleTwoSpec)

/-- ITS FALSE NEIGHBOUR: 'it returns false'. Refute it at one input. -/
def sampleTwoWrong : ChangeSpec := { name := "sampleTwo", fn := fun _ => fun
  | [d1, d2] => { results := [.lit (.bool false)], args := [d1, d2] }
  | _ => none }
def SampleTwoWrongFalsely : Prop := sampleTwoRow.holds Tryz.pinned (OpenSpec.ofChange sampleTwoWrong)

/- THE SECOND FORM. 'bulk': how many values and letters a reading holds, each counted each time it is reached (what is shared counts as often as it is met; a slice's spare places count too). A statement '..UptoSaid' is the law's where the arguments, and the package variables that the reading takes, are together of bulk at most 1048576: NARROWER than '..Said'. Prove '..Said' where nothing that the law and all that it calls make is longer than what came in: it says more and counts as full. Else prove '..UptoSaid'. A law counts once. -/
mutual
def uptoBulk {H : Type} : DataW H → Nat
  | .lit (.string bytes) => bytes.length + 1
  | .lit _ => 1
  | .nil => 1
  | .ptr d => uptoBulk d + 1
  | .slice elems spare => uptoBulkAll elems + uptoBulkAll spare + 1
  | .agg parts => uptoBulkAll parts + 1
  | .iface _ d => uptoBulk d + 1
  | .map entries => uptoBulkEntries entries + 1
  | .held _ => 1
def uptoBulkAll {H : Type} : List (DataW H) → Nat
  | [] => 0
  | d :: r => uptoBulk d + uptoBulkAll r
def uptoBulkEntries {H : Type} : List (Lit × DataW H) → Nat
  | [] => 0
  | x :: r => uptoBulkEntry x + uptoBulkEntries r
def uptoBulkEntry {H : Type} : Lit × DataW H → Nat
  | (.string bytes, d) => bytes.length + uptoBulk d + 1
  | (_, d) => uptoBulk d + 1
 end
def uptoSmall : (H : Type) → List (DataW H) → Bool := fun _ ds => decide (uptoBulkAll ds ≤ 1048576)
def OpenSpec.upto (s : _root_.Go.ChangeSpec) : _root_.Go.OpenSpec := { _root_.Go.OpenSpec.ofChange s with cond := some uptoSmall }

/-- 'stepladderlaw20.SampleHolds', WHERE WHAT IT READS IS OF BULK AT MOST 1048576: true; the input reads as it did. -/
def sampleHoldsUptoRow : OpenClaim := { program := "ytdakocblfaojnaagreat", sum := "3c32d865179ed6354adf28855d57785378afe39fd144c087af91825776d74c55", func := "stepladder/stepladderlaw20.SampleHolds", spec := "sampleHolds", inPlace := ["math/bits.Add64", "math/bits.Sub64", "internal/bytealg.Compare"], unfollowed := true, recurses := true, apart := false, narrowed := true }
def SampleHoldsUptoSaid : Prop := sampleHoldsUptoRow.holds Tryz.pinned (OpenSpec.upto sampleHoldsSpec)

/-- 'stepladderlaw20.SampleWork', WHERE WHAT IT READS IS OF BULK AT MOST 1048576: true; the input reads as it did. -/
def sampleWorkUptoRow : OpenClaim := { program := "ytdakocblfaojnaagreat", sum := "3c32d865179ed6354adf28855d57785378afe39fd144c087af91825776d74c55", func := "stepladder/stepladderlaw20.SampleWork", spec := "sampleWork", inPlace := ["math/bits.Add64", "math/bits.Sub64", "internal/bytealg.Compare"], unfollowed := true, recurses := true, apart := false, narrowed := true }
def SampleWorkUptoSaid : Prop := sampleWorkUptoRow.holds Tryz.pinned (OpenSpec.upto sampleWorkSpec)

/-- 'stepladderlaw20.SampleChain', WHERE WHAT IT READS IS OF BULK AT MOST 1048576: true; the input reads as it did. -/
def sampleChainUptoRow : OpenClaim := { program := "ytdakocblfaojnaagreat", sum := "3c32d865179ed6354adf28855d57785378afe39fd144c087af91825776d74c55", func := "stepladder/stepladderlaw20.SampleChain", spec := "sampleChain", inPlace := ["math/bits.Add64", "math/bits.Sub64", "internal/bytealg.Compare"], unfollowed := true, recurses := true, apart := false, narrowed := true }
def SampleChainUptoSaid : Prop := sampleChainUptoRow.holds Tryz.pinned (OpenSpec.upto sampleChainSpec)

/-- 'stepladderlaw20.SamplePicks', WHERE WHAT IT READS IS OF BULK AT MOST 1048576: true; the input reads as it did. -/
def samplePicksUptoRow : OpenClaim := { program := "ytdakocblfaojnaagreat", sum := "3c32d865179ed6354adf28855d57785378afe39fd144c087af91825776d74c55", func := "stepladder/stepladderlaw20.SamplePicks", spec := "samplePicks", inPlace := ["math/bits.Add64", "math/bits.Sub64", "internal/bytealg.Compare"], unfollowed := true, recurses := true, apart := false, narrowed := true }
def SamplePicksUptoSaid : Prop := samplePicksUptoRow.holds Tryz.pinned (OpenSpec.upto samplePicksSpec)

/-- 'stepladderlaw20.SampleTold', WHERE WHAT IT READS IS OF BULK AT MOST 1048576: true; the input reads as it did. -/
def sampleToldUptoRow : OpenClaim := { program := "ytdakocblfaojnaagreat", sum := "3c32d865179ed6354adf28855d57785378afe39fd144c087af91825776d74c55", func := "stepladder/stepladderlaw20.SampleTold", spec := "sampleTold", inPlace := ["math/bits.Add64", "math/bits.Sub64", "internal/bytealg.Compare"], unfollowed := true, recurses := true, apart := false, narrowed := true }
def SampleToldUptoSaid : Prop := sampleToldUptoRow.holds Tryz.pinned (OpenSpec.upto sampleToldSpec)

/-- 'stepladderlaw20.SampleTwo', WHERE WHAT IT READS IS OF BULK AT MOST 1048576: true; the input reads as it did. -/
def sampleTwoUptoRow : OpenClaim := { program := "ytdakocblfaojnaagreat", sum := "3c32d865179ed6354adf28855d57785378afe39fd144c087af91825776d74c55", func := "stepladder/stepladderlaw20.SampleTwo", spec := "sampleTwo", inPlace := ["math/bits.Add64", "math/bits.Sub64", "internal/bytealg.Compare"], unfollowed := true, recurses := true, apart := false, narrowed := true }
def SampleTwoUptoSaid : Prop := sampleTwoUptoRow.holds Tryz.pinned (OpenSpec.upto sampleTwoSpec)

end Rows
end Go.Proofs.YtdakocblfaojnaaGreat
