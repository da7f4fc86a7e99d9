/-
  No cell of these rows narrows 'for every input' (looked for: loops, veiled, ifaces, maps, wideKeys, modest, calm, conditions, laid).
  DERIVED. THE GIVEN ROWS OF THIS SEAT. 6 by the template 'for every input the law returns true; each argument reads behind the call as it read before'; 0 by the template 'total and deterministic' (their statements: YtgoebfjaaklopaaGreatTotals.lean).
  GIVEN WITH THE SEED: the statements are not yours to turn. If you find one false, say at which input.
  Laid BY PROGRAM, IN A SANDBOX (cutbox-rows.mjs): the forced cells as the released guide's own fill.sh prints them over the translation d9bd492ce906f96a… (all of the seat's roots in one cut). By AI agents, Wed Nov 11 2026. No macro, syntax, notation, axiom, sorry.
-/
import Derived.Test.YtgoebfjaaklopaaGreatChecked
import GoSem.Claim
import GoSem.ClaimJoined
import GoSem.ClaimMapViews
import Derived.JoinedTies
import Derived.KernelRfl
namespace Go.Proofs.YtgoebfjaaklopaaGreat
/- THE CELL 'sum', in the pinned program and in every row, IS THE sha256 OF THE DUMP (.gsa) THAT YtgoebfjaaklopaaGreatProg.lean LOADS. Nothing in Lean hashes anything: it is a label: what it is worth is what the hold of that sum in a sandbox is worth. -/
noncomputable def Tryz.pinned : Pinned := { name := "ytgoebfjaaklopaagreat", sum := "d9bd492ce906f96a30ed902c3560864ba3959f28ac67307282af1db12fe25a74", checked := Tryz.checked }
namespace Rows
def none {H : Type} : Left H := { results := [], args := [] }

/-- 'stepladderlaw13.StoreTells': WHATEVER THE INPUT: true; the input reads as it did. -/
def storeTellsSpec : ChangeSpec := { name := "storeTells", fn := fun _ => fun
  | [d1, d2, d3, d4, d5] => { results := [.lit (.bool true)], args := [d1, d2, d3, d4, d5] }
  | _ => none }
def storeTellsRow : OpenClaim := { program := "ytgoebfjaaklopaagreat", sum := "d9bd492ce906f96a30ed902c3560864ba3959f28ac67307282af1db12fe25a74", func := "stepladder/stepladderlaw13.StoreTells", spec := "storeTells", inPlace := ["math/bits.Add64", "math/bits.Sub64", "internal/bytealg.Compare"], unfollowed := true, recurses := true, plainKeys := false, apart := false }
def StoreTellsSaid : Prop := storeTellsRow.holds Tryz.pinned (OpenSpec.ofChange storeTellsSpec)

/-- ITS FALSE NEIGHBOUR: 'it returns false'. Refute it at one input. -/
def storeTellsWrong : ChangeSpec := { name := "storeTells", fn := fun _ => fun
  | [d1, d2, d3, d4, d5] => { results := [.lit (.bool false)], args := [d1, d2, d3, d4, d5] }
  | _ => none }
def StoreTellsWrongFalsely : Prop := storeTellsRow.holds Tryz.pinned (OpenSpec.ofChange storeTellsWrong)

/-- 'stepladderlaw13.StorePuts': WHATEVER THE INPUT: true; the input reads as it did. -/
def storePutsSpec : ChangeSpec := { name := "storePuts", fn := fun _ => fun
  | [d1, d2] => { results := [.lit (.bool true)], args := [d1, d2] }
  | _ => none }
def storePutsRow : OpenClaim := { program := "ytgoebfjaaklopaagreat", sum := "d9bd492ce906f96a30ed902c3560864ba3959f28ac67307282af1db12fe25a74", func := "stepladder/stepladderlaw13.StorePuts", spec := "storePuts", inPlace := ["math/bits.Add64", "math/bits.Sub64", "internal/bytealg.Compare"], unfollowed := true, recurses := true, plainKeys := false, apart := false }
def StorePutsSaid : Prop := storePutsRow.holds Tryz.pinned (OpenSpec.ofChange storePutsSpec)

/-- ITS FALSE NEIGHBOUR: 'it returns false'. Refute it at one input. -/
def storePutsWrong : ChangeSpec := { name := "storePuts", fn := fun _ => fun
  | [d1, d2] => { results := [.lit (.bool false)], args := [d1, d2] }
  | _ => none }
def StorePutsWrongFalsely : Prop := storePutsRow.holds Tryz.pinned (OpenSpec.ofChange storePutsWrong)

/-- 'stepladderlaw13.StoreBest': WHATEVER THE INPUT: true; the input reads as it did. -/
def storeBestSpec : ChangeSpec := { name := "storeBest", fn := fun _ => fun
  | [d1, d2] => { results := [.lit (.bool true)], args := [d1, d2] }
  | _ => none }
def storeBestRow : OpenClaim := { program := "ytgoebfjaaklopaagreat", sum := "d9bd492ce906f96a30ed902c3560864ba3959f28ac67307282af1db12fe25a74", func := "stepladder/stepladderlaw13.StoreBest", spec := "storeBest", inPlace := ["math/bits.Add64", "math/bits.Sub64", "internal/bytealg.Compare"], unfollowed := true, recurses := true, plainKeys := false, apart := false }
def StoreBestSaid : Prop := storeBestRow.holds Tryz.pinned (OpenSpec.ofChange storeBestSpec)

/-- ITS FALSE NEIGHBOUR: 'it returns false'. Refute it at one input. -/
def storeBestWrong : ChangeSpec := { name := "storeBest", fn := fun _ => fun
  | [d1, d2] => { results := [.lit (.bool false)], args := [d1, d2] }
  | _ => none }
def StoreBestWrongFalsely : Prop := storeBestRow.holds Tryz.pinned (OpenSpec.ofChange storeBestWrong)

/-- 'stepladderlaw13.StoreChains': WHATEVER THE INPUT: true; the input reads as it did. -/
def storeChainsSpec : ChangeSpec := { name := "storeChains", fn := fun _ => fun
  | [d1, d2] => { results := [.lit (.bool true)], args := [d1, d2] }
  | _ => none }
def storeChainsRow : OpenClaim := { program := "ytgoebfjaaklopaagreat", sum := "d9bd492ce906f96a30ed902c3560864ba3959f28ac67307282af1db12fe25a74", func := "stepladder/stepladderlaw13.StoreChains", spec := "storeChains", inPlace := ["math/bits.Add64", "math/bits.Sub64", "internal/bytealg.Compare"], unfollowed := true, recurses := true, plainKeys := false, apart := false }
def StoreChainsSaid : Prop := storeChainsRow.holds Tryz.pinned (OpenSpec.ofChange storeChainsSpec)

/-- ITS FALSE NEIGHBOUR: 'it returns false'. Refute it at one input. -/
def storeChainsWrong : ChangeSpec := { name := "storeChains", fn := fun _ => fun
  | [d1, d2] => { results := [.lit (.bool false)], args := [d1, d2] }
  | _ => none }
def StoreChainsWrongFalsely : Prop := storeChainsRow.holds Tryz.pinned (OpenSpec.ofChange storeChainsWrong)

/-- 'stepladderlaw13.StoreGoes': WHATEVER THE INPUT: true; the input reads as it did. -/
def storeGoesSpec : ChangeSpec := { name := "storeGoes", fn := fun _ => fun
  | [d1, d2] => { results := [.lit (.bool true)], args := [d1, d2] }
  | _ => none }
def storeGoesRow : OpenClaim := { program := "ytgoebfjaaklopaagreat", sum := "d9bd492ce906f96a30ed902c3560864ba3959f28ac67307282af1db12fe25a74", func := "stepladder/stepladderlaw13.StoreGoes", spec := "storeGoes", inPlace := ["math/bits.Add64", "math/bits.Sub64", "internal/bytealg.Compare"], unfollowed := true, recurses := true, plainKeys := false, apart := false }
def StoreGoesSaid : Prop := storeGoesRow.holds Tryz.pinned (OpenSpec.ofChange storeGoesSpec)

/-- ITS FALSE NEIGHBOUR: 'it returns false'. Refute it at one input. -/
def storeGoesWrong : ChangeSpec := { name := "storeGoes", fn := fun _ => fun
  | [d1, d2] => { results := [.lit (.bool false)], args := [d1, d2] }
  | _ => none }
def StoreGoesWrongFalsely : Prop := storeGoesRow.holds Tryz.pinned (OpenSpec.ofChange storeGoesWrong)

/-- 'stepladderlaw13.StoreUnlike': WHATEVER THE INPUT: true; the input reads as it did. -/
def storeUnlikeSpec : ChangeSpec := { name := "storeUnlike", fn := fun _ => fun
  | [d1, d2, d3] => { results := [.lit (.bool true)], args := [d1, d2, d3] }
  | _ => none }
def storeUnlikeRow : OpenClaim := { program := "ytgoebfjaaklopaagreat", sum := "d9bd492ce906f96a30ed902c3560864ba3959f28ac67307282af1db12fe25a74", func := "stepladder/stepladderlaw13.StoreUnlike", spec := "storeUnlike", inPlace := ["math/bits.Add64", "math/bits.Sub64", "internal/bytealg.Compare"], unfollowed := true, recurses := true, plainKeys := false, apart := false }
def StoreUnlikeSaid : Prop := storeUnlikeRow.holds Tryz.pinned (OpenSpec.ofChange storeUnlikeSpec)

/-- ITS FALSE NEIGHBOUR: 'it returns false'. Refute it at one input. -/
def storeUnlikeWrong : ChangeSpec := { name := "storeUnlike", fn := fun _ => fun
  | [d1, d2, d3] => { results := [.lit (.bool false)], args := [d1, d2, d3] }
  | _ => none }
def StoreUnlikeWrongFalsely : Prop := storeUnlikeRow.holds Tryz.pinned (OpenSpec.ofChange storeUnlikeWrong)

/- THE SECOND FORM. 'bulk': how many values and letters a reading holds, each counted each time it is reached (what is shared counts as often as it is met; a slice's spare places count too). A statement '..UptoSaid' is the law's where the arguments, and the package variables that the reading takes, are together of bulk at most 1048576: NARROWER than '..Said'. Prove '..Said' where nothing that the law and all that it calls make is longer than what came in: it says more and counts as full. Else prove '..UptoSaid'. A law counts once. -/
mutual
def uptoBulk {H : Type} : DataW H → Nat
  | .lit (.string bytes) => bytes.length + 1
  | .lit _ => 1
  | .nil => 1
  | .ptr d => uptoBulk d + 1
  | .slice elems spare => uptoBulkAll elems + uptoBulkAll spare + 1
  | .agg parts => uptoBulkAll parts + 1
  | .iface _ d => uptoBulk d + 1
  | .map entries => uptoBulkEntries entries + 1
  | .held _ => 1
def uptoBulkAll {H : Type} : List (DataW H) → Nat
  | [] => 0
  | d :: r => uptoBulk d + uptoBulkAll r
def uptoBulkEntries {H : Type} : List (Lit × DataW H) → Nat
  | [] => 0
  | x :: r => uptoBulkEntry x + uptoBulkEntries r
def uptoBulkEntry {H : Type} : Lit × DataW H → Nat
  | (.string bytes, d) => bytes.length + uptoBulk d + 1
  | (_, d) => uptoBulk d + 1
 end
def uptoSmall : (H : Type) → List (DataW H) → Bool := fun _ ds => decide (uptoBulkAll ds ≤ 1048576)
def OpenSpec.upto (s : _root_.Go.ChangeSpec) : _root_.Go.OpenSpec := { _root_.Go.OpenSpec.ofChange s with cond := some uptoSmall }

/-- 'stepladderlaw13.StoreTells', WHERE WHAT IT READS IS OF BULK AT MOST 1048576: true; the input reads as it did. -/
def storeTellsUptoRow : OpenClaim := { program := "ytgoebfjaaklopaagreat", sum := "d9bd492ce906f96a30ed902c3560864ba3959f28ac67307282af1db12fe25a74", func := "stepladder/stepladderlaw13.StoreTells", spec := "storeTells", inPlace := ["math/bits.Add64", "math/bits.Sub64", "internal/bytealg.Compare"], unfollowed := true, recurses := true, plainKeys := false, apart := false, narrowed := true }
def StoreTellsUptoSaid : Prop := storeTellsUptoRow.holds Tryz.pinned (OpenSpec.upto storeTellsSpec)

/-- 'stepladderlaw13.StorePuts', WHERE WHAT IT READS IS OF BULK AT MOST 1048576: true; the input reads as it did. -/
def storePutsUptoRow : OpenClaim := { program := "ytgoebfjaaklopaagreat", sum := "d9bd492ce906f96a30ed902c3560864ba3959f28ac67307282af1db12fe25a74", func := "stepladder/stepladderlaw13.StorePuts", spec := "storePuts", inPlace := ["math/bits.Add64", "math/bits.Sub64", "internal/bytealg.Compare"], unfollowed := true, recurses := true, plainKeys := false, apart := false, narrowed := true }
def StorePutsUptoSaid : Prop := storePutsUptoRow.holds Tryz.pinned (OpenSpec.upto storePutsSpec)

/-- 'stepladderlaw13.StoreBest', WHERE WHAT IT READS IS OF BULK AT MOST 1048576: true; the input reads as it did. -/
def storeBestUptoRow : OpenClaim := { program := "ytgoebfjaaklopaagreat", sum := "d9bd492ce906f96a30ed902c3560864ba3959f28ac67307282af1db12fe25a74", func := "stepladder/stepladderlaw13.StoreBest", spec := "storeBest", inPlace := ["math/bits.Add64", "math/bits.Sub64", "internal/bytealg.Compare"], unfollowed := true, recurses := true, plainKeys := false, apart := false, narrowed := true }
def StoreBestUptoSaid : Prop := storeBestUptoRow.holds Tryz.pinned (OpenSpec.upto storeBestSpec)

/-- 'stepladderlaw13.StoreChains', WHERE WHAT IT READS IS OF BULK AT MOST 1048576: true; the input reads as it did. -/
def storeChainsUptoRow : OpenClaim := { program := "ytgoebfjaaklopaagreat", sum := "d9bd492ce906f96a30ed902c3560864ba3959f28ac67307282af1db12fe25a74", func := "stepladder/stepladderlaw13.StoreChains", spec := "storeChains", inPlace := ["math/bits.Add64", "math/bits.Sub64", "internal/bytealg.Compare"], unfollowed := true, recurses := true, plainKeys := false, apart := false, narrowed := true }
def StoreChainsUptoSaid : Prop := storeChainsUptoRow.holds Tryz.pinned (OpenSpec.upto storeChainsSpec)

/-- 'stepladderlaw13.StoreGoes', WHERE WHAT IT READS IS OF BULK AT MOST 1048576: true; the input reads as it did. -/
def storeGoesUptoRow : OpenClaim := { program := "ytgoebfjaaklopaagreat", sum := "d9bd492ce906f96a30ed902c3560864ba3959f28ac67307282af1db12fe25a74", func := "stepladder/stepladderlaw13.StoreGoes", spec := "storeGoes", inPlace := ["math/bits.Add64", "math/bits.Sub64", "internal/bytealg.Compare"], unfollowed := true, recurses := true, plainKeys := false, apart := false, narrowed := true }
def StoreGoesUptoSaid : Prop := storeGoesUptoRow.holds Tryz.pinned (OpenSpec.upto storeGoesSpec)

/-- 'stepladderlaw13.StoreUnlike', WHERE WHAT IT READS IS OF BULK AT MOST 1048576: true; the input reads as it did. -/
def storeUnlikeUptoRow : OpenClaim := { program := "ytgoebfjaaklopaagreat", sum := "d9bd492ce906f96a30ed902c3560864ba3959f28ac67307282af1db12fe25a74", func := "stepladder/stepladderlaw13.StoreUnlike", spec := "storeUnlike", inPlace := ["math/bits.Add64", "math/bits.Sub64", "internal/bytealg.Compare"], unfollowed := true, recurses := true, plainKeys := false, apart := false, narrowed := true }
def StoreUnlikeUptoSaid : Prop := storeUnlikeUptoRow.holds Tryz.pinned (OpenSpec.upto storeUnlikeSpec)

end Rows
end Go.Proofs.YtgoebfjaaklopaaGreat
