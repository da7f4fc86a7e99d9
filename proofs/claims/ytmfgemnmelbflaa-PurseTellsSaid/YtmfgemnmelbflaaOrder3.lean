/- What is made of coins that may be, may be. -/
import Derived.Test.YtmfgemnmelbflaaSpend
set_option maxRecDepth 20000
namespace Go.Proofs.Ytmfgemnmelbflaa
set_option linter.unusedVariables false
set_option linter.unusedSimpArgs false
open Go.Ab Go.RowKit

theorem leC_trans (a b c : Coin) (h : decide (ordIn a.inn b.inn ≤ 0) = true) (k : decide (ordIn b.inn c.inn ≤ 0) = true) : decide (ordIn a.inn c.inn ≤ 0) = true := by
  simp only [decide_eq_true_eq] at *
  by_cases h0 : ordIn a.inn b.inn = 0
  · rw [ordIn_zero.1 h0]; exact k
  · by_cases k0 : ordIn b.inn c.inn = 0
    · rw [← ordIn_zero.1 k0]; exact h
    · have := ordIn_trans (a := a.inn) (b := b.inn) (c := c.inn) (by omega) (by omega)
      omega
theorem leC_total (a b : Coin) : (decide (ordIn a.inn b.inn ≤ 0) || decide (ordIn b.inn a.inn ≤ 0)) = true := by
  have := ordIn_neg a.inn b.inn
  simp only [Bool.or_eq_true, decide_eq_true_eq]
  omega
theorem sortC_perm (l : List Coin) : (sortC l).Perm l := List.mergeSort_perm l _
theorem sortC_sorted {l : List Coin} (h : Apart l) : Sorted (sortC l) := by
  have h1 : (sortC l).Pairwise fun a b => decide (ordIn a.inn b.inn ≤ 0) = true := List.pairwise_mergeSort leC_trans leC_total l
  have h2 : Apart (sortC l) := ((sortC_perm l).pairwise_iff (R := fun a b : Coin => ordIn a.inn b.inn ≠ 0) (fun {a b} h => by have := ordIn_neg a.inn b.inn; omega)).2 h
  unfold Sorted Apart at *
  refine List.Pairwise.imp₂ (fun a b h1 h2 => ?_) h1 h2
  have := of_decide_eq_true h1
  omega
theorem txOuts_ok {t : Tx} (h : mayTx t = true) : ∀ o ∈ t.outs, outOdd o = false := fun o ho => by
  unfold mayTx at h
  simp only [Bool.and_eq_true, Bool.not_eq_true'] at h
  have := List.any_eq_false.1 h.2.2.2.2 o ho
  simpa using this
theorem newN_ok {t : Tx} {id : Ab.Id} {k : Nat} (h : mayTx t = true) : ∀ c ∈ newN id t.outs k, coinOk c = true := fun c hc => by
  unfold newN at hc
  obtain ⟨⟨o, i⟩, hx, rfl⟩ := List.mem_map.1 hc
  have hi := List.mk_mem_zipIdx_iff_getElem?.1 hx
  have hlt := (List.getElem?_eq_some_iff.1 hi).1
  have ho : o ∈ t.outs := List.mem_of_mem_take (List.mem_of_getElem? hi)
  have h1 := txOuts_ok h o ho
  have h3 := (mayTx_lens h).2.2
  rw [List.length_take] at hlt
  unfold outOdd at h1
  have h1 := of_decide_eq_false h1
  unfold coinOk
  apply decide_eq_true
  simp only []
  omega
theorem madeOf_good {p : List Coin} {t : Tx} (hp : ∀ c ∈ p, coinOk c = true) (hs : Sorted p) (ht : mayTx t = true) : (∀ c ∈ (madeOf p t).1, coinOk c = true) ∧ Sorted (madeOf p t).1 := by
  unfold madeOf
  split
  · exact ⟨fun c hc => absurd hc (List.not_mem_nil), List.Pairwise.nil⟩
  · rename_i h
    have h : (p.any fun c => decide (c.inn.tx = idOf t)) = false := by simpa using h
    refine ⟨fun c hc => ?_, sortC_sorted (apart_new (Sorted.apart hs) h)⟩
    have := (sortC_perm _).mem_iff.1 hc
    rcases List.mem_append.1 this with h | h
    · exact hp c h
    · exact newN_ok ht c h
theorem takeIns_good : ∀ {ins : List In} {p rest : List Coin} {n m : Int}, takeIns p n ins = some (rest, m) → rest.Sublist p
  | [], p, rest, n, m, h => by
    rw [takeIns.eq_1] at h
    injection h with h; injection h with h _; subst h; exact List.Sublist.refl _
  | x :: ins, p, rest, n, m, h => by
    rw [takeIns.eq_2] at h
    split at h
    · cases h
    · split at h
      · have := takeIns_good h
        refine this.trans ?_
        rw [← List.eraseIdx_eq_take_drop_succ]
        exact List.eraseIdx_sublist _ _
      · cases h
theorem spendOf_may {p : List Coin} {t : Tx} (h : mayCoins p = true) : mayCoins (spendOf p t).1 = true := by
  obtain ⟨h1, h2, h3⟩ := mayCoins_iff.1 h
  unfold spendOf
  split
  · exact h
  · rename_i hn
    have hn := Classical.not_not.1 hn
    split
    · exact h
    · rename_i rest n hrest
      have hsub := takeIns_good hrest
      split
      · exact h
      · split
        · split
          · exact h
          · rename_i hl
            have hg := madeOf_good (p := rest) (fun c hc => h1 c (hsub.subset hc)) (h2.sublist hsub) hn.2.1
            exact mayCoins_iff.2 ⟨hg.1, hg.2, Nat.le_of_not_lt hl⟩
        · exact h

end Go.Proofs.Ytmfgemnmelbflaa
