/- What coins that may be are. -/
import Derived.Test.YtmfgemnmelbflaaOrder
import Derived.Test.YtmfgemnmelbflaaMade
set_option maxRecDepth 20000
namespace Go.Proofs.Ytmfgemnmelbflaa
set_option linter.unusedVariables false
set_option linter.unusedSimpArgs false
open Go.Ab Go.RowKit

def Sorted (p : List Coin) : Prop := p.Pairwise fun a b => ordIn a.inn b.inn < 0
theorem coinAt_iff {p : List Coin} {k : Nat} {c : Coin} (h : p[k]? = some c) : coinAt p k = true ↔ coinOk c = true ∧ ∀ j b, k = j + 1 → p[j]? = some b → ordIn b.inn c.inn < 0 := by
  unfold coinAt
  rw [h]
  simp only [Bool.and_eq_true]
  cases k with
  | zero => simp
  | succ k =>
    constructor
    · rintro ⟨h1, h2⟩
      refine ⟨h1, fun j b e hb => ?_⟩
      obtain rfl : k = j := by omega
      simp only [hb] at h2
      exact of_decide_eq_true h2
    · rintro ⟨h1, h2⟩
      refine ⟨h1, ?_⟩
      simp only []
      cases hb : p[k]? with
      | none => rfl
      | some b => exact decide_eq_true (h2 k b rfl hb)
theorem mayCoins_iff {p : List Coin} : mayCoins p = true ↔ (∀ c ∈ p, coinOk c = true) ∧ Sorted p ∧ p.length ≤ 48 := by
  unfold mayCoins
  simp only [Bool.and_eq_true, decide_eq_true_eq, List.all_eq_true, List.mem_range]
  constructor
  · rintro ⟨h1, h2⟩
    have hat : ∀ k c, p[k]? = some c → coinOk c = true ∧ ∀ j b, k = j + 1 → p[j]? = some b → ordIn b.inn c.inn < 0 := fun k c hc => (coinAt_iff hc).1 (h1 k (List.getElem?_eq_some_iff.1 hc).1)
    refine ⟨fun c hc => ?_, ?_, h2⟩
    · obtain ⟨k, hk⟩ := List.mem_iff_getElem?.1 hc
      exact (hat k c hk).1
    · have key : ∀ (k i : Nat) (a b : Coin), i < k → p[i]? = some a → p[k]? = some b → ordIn a.inn b.inn < 0 := fun k => by
        induction k with
        | zero => intro i a b h; omega
        | succ k ih =>
          intro i a b h ha hb
          obtain ⟨m, hm⟩ : ∃ m, p[k]? = some m := ⟨_, List.getElem?_eq_getElem (by have := (List.getElem?_eq_some_iff.1 hb).1; omega)⟩
          have hlast := (hat (k + 1) b hb).2 k m rfl hm
          by_cases e : i = k
          · subst e; rw [ha] at hm; injection hm with hm; subst hm; exact hlast
          · exact ordIn_trans (ih i a m (by omega) ha hm) hlast
      unfold Sorted
      rw [List.pairwise_iff_getElem]
      intro i j hi hj hij
      exact key j i _ _ hij (List.getElem?_eq_getElem hi) (List.getElem?_eq_getElem hj)
  · rintro ⟨h1, h2, h3⟩
    refine ⟨fun k hk => ?_, h3⟩
    refine (coinAt_iff (List.getElem?_eq_getElem hk)).2 ⟨h1 _ (List.getElem_mem hk), fun j b e hb => ?_⟩
    subst e
    have hj := (List.getElem?_eq_some_iff.1 hb).1
    have := List.pairwise_iff_getElem.1 h2 j (j + 1) hj hk (by omega)
    rw [List.getElem?_eq_getElem hj] at hb
    injection hb with hb
    rw [← hb]; exact this
theorem Sorted.apart {p : List Coin} (h : Sorted p) : Apart p := List.Pairwise.imp (fun h => by omega) h
/-- With new ones of another name they are apart. -/
theorem apart_new {p : List Coin} {id : Ab.Id} {outs : List Out} {k : Nat} (h : Apart p) (hn : (p.any fun c => decide (c.inn.tx = id)) = false) : Apart (p ++ newN id outs k) := by
  unfold Apart
  rw [List.pairwise_append]
  refine ⟨h, ?_, fun a ha b hb e => ?_⟩
  · unfold newN
    rw [List.pairwise_map, List.pairwise_iff_getElem]
    intro i j hi hj hij e
    have := ordIn_zero.1 e
    injection this with _ h2
    simp at h2
    omega
  · have := ordIn_zero.1 e
    unfold newN at hb
    obtain ⟨x, _, rfl⟩ := List.mem_map.1 hb
    have h2 := List.any_eq_false.1 hn a ha
    rw [this] at h2
    simp at h2

end Go.Proofs.Ytmfgemnmelbflaa
