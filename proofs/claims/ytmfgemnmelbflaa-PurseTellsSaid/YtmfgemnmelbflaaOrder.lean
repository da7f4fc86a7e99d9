/- The order of coins: it is one. -/
import Derived.Test.YtmfgemnmelbflaaSum
set_option maxRecDepth 20000
namespace Go.Proofs.Ytmfgemnmelbflaa
set_option linter.unusedVariables false
set_option linter.unusedSimpArgs false
open Go.Ab Go.RowKit

theorem cb_zero : ∀ {a b : List UInt8}, Lib.compareBytes a b = 0 ↔ a = b
  | [], [] => by simp [Lib.compareBytes]
  | [], _ :: _ => by simp [Lib.compareBytes]
  | _ :: _, [] => by simp [Lib.compareBytes]
  | x :: a, y :: b => by
    unfold Lib.compareBytes
    by_cases h1 : x < y
    · rw [if_pos h1]
      constructor
      · intro h; omega
      · intro h; injection h with h _; subst h; exact absurd h1 (UInt8.lt_irrefl _)
    · rw [if_neg h1]
      by_cases h2 : y < x
      · rw [if_pos h2]
        constructor
        · intro h; omega
        · intro h; injection h with h _; subst h; exact absurd h2 (UInt8.lt_irrefl _)
      · rw [if_neg h2]
        have e : x = y := UInt8.le_antisymm (UInt8.not_lt.1 h2) (UInt8.not_lt.1 h1)
        subst e
        rw [cb_zero (a := a) (b := b)]
        simp
theorem cb_neg : ∀ {a b : List UInt8}, Lib.compareBytes b a = -Lib.compareBytes a b
  | [], [] => by simp [Lib.compareBytes]
  | [], _ :: _ => by simp [Lib.compareBytes]
  | _ :: _, [] => by simp [Lib.compareBytes]
  | x :: a, y :: b => by
    unfold Lib.compareBytes
    by_cases h1 : x < y
    · have h2 : ¬ y < x := fun h => UInt8.lt_irrefl _ (UInt8.lt_trans h1 h)
      simp [h1, h2]
    · by_cases h2 : y < x
      · simp [h1, h2]
      · simp only [if_neg h1, if_neg h2]; exact cb_neg
theorem cb_trans : ∀ {a b c : List UInt8}, Lib.compareBytes a b < 0 → Lib.compareBytes b c < 0 → Lib.compareBytes a c < 0
  | [], [], _, h, _ => by simp [Lib.compareBytes] at h
  | _ :: _, [], _, h, _ => by simp [Lib.compareBytes] at h
  | _, _ :: _, [], _, h => by simp [Lib.compareBytes] at h
  | [], _ :: _, _ :: _, _, _ => by simp [Lib.compareBytes]
  | x :: a, y :: b, z :: c, h, k => by
    unfold Lib.compareBytes at h k ⊢
    by_cases h1 : x < y
    · by_cases k1 : y < z
      · rw [if_pos (UInt8.lt_trans h1 k1)]; omega
      · rw [if_neg k1] at k
        by_cases k2 : z < y
        · rw [if_pos k2] at k; omega
        · have e : y = z := UInt8.le_antisymm (UInt8.not_lt.1 k2) (UInt8.not_lt.1 k1)
          subst e; rw [if_pos h1]; omega
    · rw [if_neg h1] at h
      by_cases h2 : y < x
      · rw [if_pos h2] at h; omega
      · rw [if_neg h2] at h
        have e : x = y := UInt8.le_antisymm (UInt8.not_lt.1 h2) (UInt8.not_lt.1 h1)
        subst e
        by_cases k1 : x < z
        · rw [if_pos k1]; omega
        · rw [if_neg k1] at k ⊢
          by_cases k2 : z < x
          · rw [if_pos k2] at k; omega
          · rw [if_neg k2] at k ⊢; exact cb_trans h k
theorem ordIn_eq (a b : In) : ordIn a b = if Lib.compareBytes a.tx b.tx = 0 then cmpInt a.i b.i else Lib.compareBytes a.tx b.tx := by
  unfold ordIn
  simp only [orL]
  by_cases h : Lib.compareBytes a.tx b.tx = 0
  · rw [if_pos h, if_pos h]
    split <;> simp_all
  · rw [if_neg h, if_neg h]
theorem cmpInt_zero {x y : Int} : cmpInt x y = 0 ↔ x = y := by unfold cmpInt; split <;> (try split) <;> omega
theorem ordIn_zero {a b : In} : ordIn a b = 0 ↔ a = b := by
  rw [ordIn_eq]
  by_cases h : Lib.compareBytes a.tx b.tx = 0
  · rw [if_pos h, cmpInt_zero]
    have := cb_zero.1 h
    cases a; cases b; simp_all
  · rw [if_neg h]
    constructor
    · intro e; exact absurd e h
    · intro e; subst e; exact absurd (cb_zero.2 rfl) h
theorem ordIn_neg (a b : In) : ordIn b a = -ordIn a b := by
  rw [ordIn_eq, ordIn_eq, cb_neg (a := a.tx) (b := b.tx)]
  by_cases h : Lib.compareBytes a.tx b.tx = 0
  · rw [if_pos h, if_pos (by omega)]
    unfold cmpInt; split <;> split <;> (try split) <;> omega
  · rw [if_neg h, if_neg (by omega)]
theorem ordIn_trans {a b c : In} (h : ordIn a b < 0) (k : ordIn b c < 0) : ordIn a c < 0 := by
  rw [ordIn_eq] at h k ⊢
  by_cases h1 : Lib.compareBytes a.tx b.tx = 0
  · rw [if_pos h1] at h
    have e := cb_zero.1 h1
    rw [e]
    by_cases k1 : Lib.compareBytes b.tx c.tx = 0
    · rw [if_pos k1] at k ⊢
      unfold cmpInt at *; split at h <;> split at k <;> (try split at h) <;> (try split at k) <;> split <;> (try split) <;> omega
    · rw [if_neg k1] at k ⊢; exact k
  · rw [if_neg h1] at h
    by_cases k1 : Lib.compareBytes b.tx c.tx = 0
    · have e := cb_zero.1 k1
      rw [← e, if_neg h1]; exact h
    · rw [if_neg k1] at k
      have := cb_trans h k
      rw [if_neg (by omega)]; exact this

end Go.Proofs.Ytmfgemnmelbflaa
