/- slices.SortFunc at coins, off the shelf. -/
import Derived.Test.YtmfgemnmelbflaaOrder
import Derived.Test.YtmfgemnmelbflaaSortB
set_option maxRecDepth 20000
namespace Go.Proofs.Ytmfgemnmelbflaa
set_option linter.unusedVariables false
set_option linter.unusedSimpArgs false
open Go.Ab Go.RowKit

def sortL_ren : Go.Shelf.Ren := ⟨fun | 6 => 56 | 15 => 71 | 14 => 70 | 28 => 88 | 29 => 89 | 20 => 80 | 21 => 81 | 22 => 82 | 23 => 83 | 24 => 84 | 25 => 85 | 26 => 86 | 27 => 87 | 46 => 97 | 47 => 98 | 48 => 99 | 49 => 100 | 50 => 101 | 57 => 105 | n => n, fun | 22 => 22 | 24 => 50 | 25 => 84 | 3 => 3 | 39 => 98 | 0 => 0 | 53 => 104 | 55 => 93 | 4 => 4 | 46 => 115 | 45 => 114 | 50 => 57 | 5 => 5 | 9 => 9 | 66 => 130 | 70 => 134 | 76 => 136 | 77 => 137 | n => n, fun | n => n⟩
theorem sortL : Go.Proofs.SlLaysF0.n6 P sortL_ren := {
  mixed := by kernel_rfl,
  f6 := ⟨Try.f56.name, by decide, Try.func56.trans (congrArg some (by kernel_rfl))⟩,
  f14 := ⟨Try.f70.name, by decide, Try.func70.trans (congrArg some (by kernel_rfl))⟩,
  f15 := Try.func71.trans (congrArg some (by kernel_rfl)),
  f20 := ⟨Try.f80.name, by decide, Try.func80.trans (congrArg some (by kernel_rfl))⟩,
  f21 := ⟨Try.f81.name, by decide, Try.func81.trans (congrArg some (by kernel_rfl))⟩,
  f22 := ⟨Try.f82.name, by decide, Try.func82.trans (congrArg some (by kernel_rfl))⟩,
  f23 := ⟨Try.f83.name, by decide, Try.func83.trans (congrArg some (by kernel_rfl))⟩,
  f24 := ⟨Try.f84.name, by decide, Try.func84.trans (congrArg some (by kernel_rfl))⟩,
  f25 := ⟨Try.f85.name, by decide, Try.func85.trans (congrArg some (by kernel_rfl))⟩,
  f26 := ⟨Try.f86.name, by decide, Try.func86.trans (congrArg some (by kernel_rfl))⟩,
  f27 := ⟨Try.f87.name, by decide, Try.func87.trans (congrArg some (by kernel_rfl))⟩,
  f28 := Try.func88.trans (congrArg some (by kernel_rfl)),
  f29 := Try.func89.trans (congrArg some (by kernel_rfl)),
  f46 := ⟨Try.f97.name, by decide, Try.func97.trans (congrArg some (by kernel_rfl))⟩,
  f47 := Try.func98.trans (congrArg some (by kernel_rfl)),
  f48 := Try.func99.trans (congrArg some (by kernel_rfl)),
  f49 := ⟨Try.f100.name, by decide, Try.func100.trans (congrArg some (by kernel_rfl))⟩,
  f50 := ⟨Try.f101.name, by decide, Try.func101.trans (congrArg some (by kernel_rfl))⟩,
  f57 := ⟨Try.f105.name, by decide, Try.func105.trans (congrArg some (by kernel_rfl))⟩,
  t0 := Try.underlying0,
  a0 := Try.isAgg0,
  z0 := Try.sizeOf0,
  v0 := Try.zeroValue0,
  t3 := Try.underlying3,
  a3 := Try.isAgg3,
  z3 := Try.sizeOf3,
  v3 := Try.zeroValue3,
  t4 := Try.underlying4,
  a4 := Try.isAgg4,
  z4 := Try.sizeOf4,
  v4 := Try.zeroValue4,
  t5 := Try.underlying5,
  a5 := Try.isAgg5,
  z5 := Try.sizeOf5,
  v5 := Try.zeroValue5,
  t9 := Try.underlying9,
  a9 := Try.isAgg9,
  z9 := Try.sizeOf9,
  v9 := Try.zeroValue9,
  t22 := Try.underlying22,
  a22 := Try.isAgg22,
  z22 := Try.sizeOf22,
  v22 := Try.zeroValue22,
  t25 := Try.underlying84,
  a25 := Try.isAgg84,
  z25 := Try.sizeOf84,
  v25 := Try.zeroValue84,
  t39 := Try.underlying98,
  a39 := Try.isAgg98,
  z39 := Try.sizeOf98,
  v39 := Try.zeroValue98,
  t45 := Try.underlying114,
  a45 := Try.isAgg114,
  z45 := Try.sizeOf114,
  v45 := Try.zeroValue114,
  t46 := Try.underlying115,
  a46 := Try.isAgg115,
  z46 := Try.sizeOf115,
  v46 := Try.zeroValue115,
  t50 := Try.underlying57,
  a50 := Try.isAgg57,
  z50 := Try.sizeOf57,
  v50 := Try.zeroValue57,
  t53 := Try.underlying104,
  a53 := Try.isAgg104,
  z53 := Try.sizeOf104,
  v53 := Try.zeroValue104,
  t55 := Try.underlying93,
  a55 := Try.isAgg93,
  z55 := Try.sizeOf93,
  v55 := Try.zeroValue93,
  t66 := Try.underlying130,
  a66 := Try.isAgg130,
  z66 := Try.sizeOf130,
  v66 := Try.zeroValue130,
  t70 := Try.underlying134,
  a70 := Try.isAgg134,
  z70 := Try.sizeOf134,
  v70 := Try.zeroValue134,
  t76 := Try.underlying136,
  a76 := Try.isAgg136,
  z76 := Try.sizeOf136,
  v76 := Try.zeroValue136,
  t77 := Try.underlying137,
  a77 := Try.isAgg137,
  z77 := Try.sizeOf137,
  v77 := Try.zeroValue137 }

/-- No two have one name. -/
def Apart (l : List Coin) : Prop := l.Pairwise fun a b => ordIn a.inn b.inn ≠ 0
def sortC (l : List Coin) : List Coin := l.mergeSort fun a b => decide (ordIn a.inn b.inn ≤ 0)
def encId (l : Ab.Id) : List Value := l.map fun b => .int .u8 b.toNat
def encCoin (c : Coin) : List Value := encId c.inn.tx ++ [.int .i64 c.inn.i, .int .i64 c.out.v, .int .i64 c.out.to]
def okCoin (c : Coin) : Prop := c.inn.tx.length = 32 ∧ IntKind.InR .i64 c.inn.i ∧ IntKind.InR .i64 c.out.v ∧ IntKind.InR .i64 c.out.to
theorem flat_u8 : Flat1 u8T (fun b => [.int .u8 b.toNat]) (fun _ => True) := fun _ _ _ _ _ => Iff.rfl
theorem flat_id : Flat1 idT encId (fun l => l.length = 32) := fun U N w l cs => by
  show (l.length = 32 ∧ relAll u8T U N w l cs) ↔ _
  rw [flat_all flat_u8]
  have e : (l.map fun b : UInt8 => [Value.int .u8 b.toNat]).flatten = encId l := by
    unfold encId
    induction l with
    | nil => rfl
    | cons x l ih => rw [List.map_cons, List.flatten_cons, ih]; rfl
  rw [e]
  exact ⟨fun h => ⟨h.2.1, h.1⟩, fun h => ⟨h.2, h.1, fun _ _ => trivial⟩⟩
theorem flat_coin : Flat1 coinT encCoin okCoin := fun U N w c cs => by
  constructor
  · rintro ⟨c1, c2, rfl, ⟨d1, d2, rfl, h1, h2⟩, ⟨d3, d4, rfl, h3, h4⟩⟩
    obtain ⟨rfl, k1⟩ := (flat_id _ _ _ _ _).1 h1
    obtain ⟨rfl, k2⟩ := h2
    obtain ⟨rfl, k3⟩ := h3
    obtain ⟨rfl, k4⟩ := h4
    exact ⟨by simp [encCoin], k1, k2, k3, k4⟩
  · rintro ⟨rfl, k1, k2, k3, k4⟩
    exact ⟨encId c.inn.tx ++ [.int .i64 c.inn.i], [.int .i64 c.out.v, .int .i64 c.out.to], by simp [encCoin], ⟨encId c.inn.tx, [.int .i64 c.inn.i], rfl, (flat_id _ _ _ _ _).2 ⟨rfl, k1⟩, rfl, k2⟩, ⟨[.int .i64 c.out.v], [.int .i64 c.out.to], rfl, ⟨rfl, k3⟩, rfl, k4⟩⟩
theorem sort_unique {l r : List Coin} (hl : Apart l) (hp : r.Perm l) (hs : r.Pairwise fun a b => ¬ ordIn b.inn a.inn < 0) : r = sortC l := by
  have hle : ∀ a b c : Coin, (decide (ordIn a.inn b.inn ≤ 0)) = true → (decide (ordIn b.inn c.inn ≤ 0)) = true → (decide (ordIn a.inn c.inn ≤ 0)) = true := fun a b c h1 h2 => by
    have h1 := of_decide_eq_true h1
    have h2 := of_decide_eq_true h2
    apply decide_eq_true
    by_cases e1 : ordIn a.inn b.inn = 0
    · rw [ordIn_zero.1 e1]; exact h2
    · by_cases e2 : ordIn b.inn c.inn = 0
      · rw [← ordIn_zero.1 e2]; exact h1
      · have := ordIn_trans (show ordIn a.inn b.inn < 0 by omega) (show ordIn b.inn c.inn < 0 by omega); omega
  have htot : ∀ a b : Coin, (decide (ordIn a.inn b.inn ≤ 0) || decide (ordIn b.inn a.inn ≤ 0)) = true := fun a b => by
    have := ordIn_neg a.inn b.inn
    rw [Bool.or_eq_true, decide_eq_true_eq, decide_eq_true_eq]; omega
  have h1 : (sortC l).Pairwise fun a b => (decide (ordIn a.inn b.inn ≤ 0)) = true := List.pairwise_mergeSort (fun a b c => hle a b c) (fun a b => htot a b) l
  have h2 : r.Pairwise fun a b => (decide (ordIn a.inn b.inn ≤ 0)) = true := hs.imp fun {a b} h => by
    have := ordIn_neg a.inn b.inn
    exact decide_eq_true (by omega)
  have hperm : r.Perm (sortC l) := hp.trans (List.mergeSort_perm l _).symm
  have hap : Apart (sortC l) := (List.mergeSort_perm l _).symm.pairwise hl (fun {a b} h => by have := ordIn_neg a.inn b.inn; omega)
  have hinj : ∀ a ∈ sortC l, ∀ b ∈ sortC l, ordIn a.inn b.inn = 0 → a = b := by
    intro a ha b hb h0
    apply Classical.byContradiction
    intro hne
    obtain ⟨i, hi, rfl⟩ := List.getElem_of_mem ha
    obtain ⟨j, hj, rfl⟩ := List.getElem_of_mem hb
    have hw := List.pairwise_iff_getElem.1 hap
    rcases Nat.lt_trichotomy i j with h | h | h
    · exact hw i j hi hj h h0
    · subst h; exact hne rfl
    · have := ordIn_neg (sortC l)[i].inn (sortC l)[j].inn
      exact hw j i hj hi h (by omega)
  refine hperm.eq_of_pairwise (le := fun a b => (decide (ordIn a.inn b.inn ≤ 0)) = true) (fun a b ha hb x y => ?_) h2 h1
  have x := of_decide_eq_true x
  have y := of_decide_eq_true y
  have := ordIn_neg a.inn b.inn
  exact hinj a (hperm.mem_iff.1 ha) b hb (by omega)
theorem sort_ok (l : List Coin) (hl : Apart l) (hn : l.length < 1000000) : TellsM P 56 (.row 50 coinT l) [.own 0, .clo 57 []] (.lit (.tuple #[])) (.row 50 coinT (sortC l)) :=
  sort_tells sortL flat_coin (fun c h => by unfold encCoin encId; simp only [List.length_append, List.length_map, h.1, List.length_cons, List.length_nil]; rfl) (fun c _ v hv => by
    unfold encCoin encId at hv
    simp only [List.mem_append, List.mem_map, List.mem_cons, List.not_mem_nil, or_false] at hv
    rcases hv with ⟨b, _, rfl⟩ | rfl | rfl | rfl <;> rfl) rfl (x0 := ⟨⟨zId, 0⟩, ⟨0, 0⟩⟩) ⟨rfl, i64_in.2 (by decide), i64_in.2 (by decide), i64_in.2 (by decide)⟩ ty_50 (cf := fun a b => ordIn a.inn b.inn)
    (fun c _ h => by have := ordIn_zero.2 (rfl : c.inn = c.inn); omega) (fun a b c _ _ _ h1 h2 => ordIn_trans h1 h2)
    (fun a b c _ _ _ h1 h2 h3 => by
      have n1 := ordIn_neg a.inn b.inn
      have n2 := ordIn_neg b.inn c.inn
      by_cases e1 : ordIn a.inn b.inn = 0
      · rw [ordIn_zero.1 e1] at h3; exact h2 h3
      · by_cases e2 : ordIn b.inn c.inn = 0
        · rw [← ordIn_zero.1 e2] at h3; exact h1 h3
        · have := ordIn_trans (show ordIn c.inn b.inn < 0 by omega) (show ordIn b.inn a.inn < 0 by omega)
          have n3 := ordIn_neg a.inn c.inn
          omega) fn_57 (fun x y => made2_ok x y) (by omega) (fun r hp hs => sort_unique hl hp hs)

end Go.Proofs.Ytmfgemnmelbflaa
