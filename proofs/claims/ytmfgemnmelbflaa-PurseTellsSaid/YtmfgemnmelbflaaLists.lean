/- The library's functions on slices, at the program's types. -/
import Derived.Test.YtmfgemnmelbflaaSmall
set_option maxRecDepth 20000
namespace Go.Proofs.Ytmfgemnmelbflaa
set_option linter.unusedVariables false
set_option linter.unusedSimpArgs false
open Go.Ab Go.RowKit

/-- The place of the first one that is so; -1: none is. -/
def idx {α : Type} (p : α → Bool) : List α → Int
  | [] => -1
  | x :: l => if p x then 0 else if idx p l < 0 then -1 else idx p l + 1
def shift (k : Nat) (n : Int) : Int := if n < 0 then -1 else n + k
theorem idx_ge {α : Type} (p : α → Bool) : ∀ l, -1 ≤ idx p l
  | [] => by simp [idx]
  | x :: l => by have := idx_ge p l; unfold idx; split <;> first | omega | (split <;> omega)
theorem idx_yes {α : Type} {p : α → Bool} {l : List α} {k : Nat} {x : α} (h : l[k]? = some x) (hp : p x = true) : shift k (idx p (l.drop k)) = k := by
  obtain ⟨hk, rfl⟩ := List.getElem?_eq_some_iff.1 h
  rw [List.drop_eq_getElem_cons hk]
  simp [idx, hp, shift]
theorem idx_no {α : Type} {p : α → Bool} {l : List α} {k : Nat} {x : α} (h : l[k]? = some x) (hp : ¬ p x = true) : shift k (idx p (l.drop k)) = shift (k + 1) (idx p (l.drop (k + 1))) := by
  obtain ⟨hk, rfl⟩ := List.getElem?_eq_some_iff.1 h
  rw [List.drop_eq_getElem_cons hk]
  have h2 := idx_ge p (l.drop (k + 1))
  simp only [idx, if_neg hp]
  generalize idx p (l.drop (k + 1)) = n at *
  unfold shift
  by_cases c : n < 0
  · rw [if_pos c, if_pos c]; rfl
  · rw [if_neg c, if_neg c, if_neg (by omega)]; omega
theorem shift_zero {α : Type} (p : α → Bool) (l : List α) : idx p l = shift 0 (idx p (l.drop 0)) := by
  have := idx_ge p l
  unfold shift
  simp only [List.drop_zero]
  split <;> omega
theorem idx_end {α : Type} {p : α → Bool} {l : List α} {k : Nat} (h : l.length ≤ k) : shift k (idx p (l.drop k)) = -1 := by
  rw [List.drop_of_length_le h]; simp [idx, shift]
theorem idx_any {α : Type} (p : α → Bool) : ∀ l, decide (0 ≤ idx p l) = l.any p
  | [] => by simp [idx]
  | x :: l => by
    have ih := idx_any p l
    have := idx_ge p l
    rw [List.any_cons, ← ih]
    by_cases c : p x = true
    · simp [idx, c]
    · simp only [idx, if_neg c, Bool.not_eq_true] at *
      rw [c, Bool.false_or, decide_eq_decide]
      split <;> omega
theorem beq_all_succ {α : Type} [DecidableEq α] {l m : List α} {k : Nat} {x y : α} (hx : l[k]? = some x) (hy : m[k]? = some y) (h : l.take k = m.take k) (e : x = y) : l.take (k + 1) = m.take (k + 1) := by
  rw [List.take_add_one, List.take_add_one, h, hx, hy, e]
theorem ne_of_at {α : Type} {l m : List α} {k : Nat} {x y : α} (hx : l[k]? = some x) (hy : m[k]? = some y) (e : ¬ x = y) : ¬ l = m := fun h => e (by rw [h, hy] at hx; injection hx with hx; exact hx.symm)

theorem indexFuncCoin (l : List Coin) (p : Coin → Bool) : Tells P 39 [.val (bsl coinT) l, .fn1 P coinT boolT p] (.val i64T (idx p l)) := by
  refine fn_of_aw Try.func39 rfl rfl rfl (fun ext w hext => ?_)
  refine aw_fact (d := 0) rfl fact_sl (fun hsl0 => ?_)
  refine aw_seq ?_
  refine aw_region ?_
  refine aw_g (g_mv (.inr rfl) rfl) rfl rfl rfl ?_
  refine aw_nil ?_
  refine aw_seq ?_
  refine aw_seq ?_
  refine aw_region ?_
  refine aw_g (g_mv (.inl rfl) rfl) rfl rfl rfl ?_
  refine aw_g (g_len rfl rfl isl_22) rfl rfl rfl ?_
  refine aw_g (g_mv (.inl rfl) rfl) rfl rfl rfl ?_
  refine aw_nil ?_
  refine aw_block ?_
  refine aw_loopI (ι := Nat) 0 rfl (fun (k : Nat) => (((((Fr.none).set 0 (.val (bsl coinT) l)).set 1 (.fn1 P coinT boolT p)).set 6 (.val (bsl coinT) l)).set 7 (.val i64T (l.length : Int))).set 8 (.val i64T (k : Int))) (fun (k : Nat) => Hp.none) (fun (k : Nat) => k ≤ l.length ∧ idx p l = shift k (idx p (l.drop k))) (fun (k : Nat) => l.length - k) (0) (⟨Nat.zero_le _, shift_zero p l⟩) (by (repeat refine Fr.le_set ?_ (by first | rfl | (simp; done))); exact Fr.le_none _) (by (repeat refine Hp.le_set ?_ rfl); exact Hp.le_none _) (by (repeat refine Fr.below_setB ?_ rfl); exact Fr.below_none _) (by (repeat refine Hp.below_set ?_ (by decide)); exact Hp.below_none _) ?_
  intro k hinv
  refine aw_seq ?_
  refine aw_region ?_
  refine aw_g (g_lss rfl rfl rfl rfl) rfl rfl rfl ?_
  refine aw_nil ?_
  refine aw_seq ?_
  refine aw_ifc (p := k < l.length) rfl (by first | rfl | (rw [decide_eq_decide]; simp only [IntL.toI, id_eq]; omega) | (simp [IntL.toI]; done) | (simp [IntL.toI]; omega)) (fun ht9 => ?_) (fun ht9 => ?_)
  · skip
    obtain ⟨x, hx⟩ : ∃ x, l[k]? = some x := ⟨_, List.getElem?_eq_getElem ht9⟩
    refine aw_skip ?_
    refine aw_seq ?_
    refine aw_block ?_
    refine aw_seq ?_
    refine aw_region ?_
    refine aw_g (g_mv (.inl rfl) rfl) rfl rfl rfl ?_
    refine aw_g (g_mv (.inr rfl) rfl) rfl rfl rfl ?_
    refine aw_nil ?_
    refine aw_seq ?_
    refine aw_region ?_
    refine aw_g (g_mf1 (.inl rfl) rfl) rfl rfl rfl ?_
    refine aw_g (g_mv (.inl rfl) rfl) rfl rfl rfl ?_
    refine aw_g (g_mv (.inl rfl) rfl) rfl rfl rfl ?_
    refine aw_g (g_ia_n rfl rfl rfl sl_22 (by assumption)) rfl rfl rfl ?_
    refine aw_g (g_load_r rfl rfl ty_50) rfl rfl rfl ?_
    refine aw_g (g_callf1 rfl rfl (by first | exact arg_same rfl | exact arg_bsl rfl | exact arg_own rfl rfl | exact arg_nil rfl | exact arg_rptr rfl | exact arg_fn rfl rfl | exact arg_lit rfl)) rfl rfl rfl ?_
    refine aw_nil ?_
    refine aw_ifc (p := p x = true) rfl (by simp) (fun ht16 => ?_) (fun ht16 => ?_)
    · skip
      refine aw_seq ?_
      refine aw_region ?_
      refine aw_g (g_mv (.inl rfl) rfl) rfl rfl rfl ?_
      refine aw_g (g_mv (.inr rfl) rfl) rfl rfl rfl ?_
      refine aw_nil ?_
      exact aw_ret1 rfl rfl (ret_eq rfl (hinv.2.trans (idx_yes hx ht16)).symm)
    · skip
      refine aw_skip ?_
      refine aw_inBlock ?_
      refine aw_region ?_
      refine aw_g (by first | exact g_add rfl rfl rfl (wrap_eq (by first | omega | (simp; omega))) | exact g_add rfl rfl rfl rfl) rfl rfl rfl ?_
      refine aw_g (g_mv (.inl rfl) rfl) rfl rfl rfl ?_
      refine aw_nil ?_
      exact aw_next (k + 1) (⟨by omega, hinv.2.trans (idx_no hx ht16)⟩) (by omega) rfl (by (repeat refine Fr.le_set ?_ (by first | rfl | (simp; done))); exact Fr.le_none _) (by (repeat refine Hp.le_set ?_ rfl); exact Hp.le_none _) (by (repeat refine Fr.below_setB ?_ rfl); exact Fr.below_none _) (by (repeat refine Hp.below_set ?_ (by decide)); exact Hp.below_none _)
  · skip
    refine aw_exit rfl ?_
    refine aw_seq ?_
    refine aw_region ?_
    refine aw_g (g_mv (.inr rfl) rfl) rfl rfl rfl ?_
    refine aw_nil ?_
    exact aw_ret1 rfl rfl (ret_eq rfl (hinv.2.trans (idx_end (by omega))).symm)

theorem containsFuncCoin (l : List Coin) (p : Coin → Bool) : Tells P 54 [.val (bsl coinT) l, .fn1 P coinT boolT p] (.val boolT (l.any p)) := by
  refine fn_of_aw Try.func54 rfl rfl rfl (fun ext w hext => ?_)
  refine aw_fact (d := 0) rfl fact_sl (fun hsl0 => ?_)
  refine aw_seq ?_
  refine aw_region ?_
  refine aw_g (g_mv (.inr rfl) rfl) rfl rfl rfl ?_
  refine aw_nil ?_
  refine aw_seq ?_
  refine aw_region ?_
  refine aw_g (g_mv (.inl rfl) rfl) rfl rfl rfl ?_
  refine aw_g (g_mf1 (.inl rfl) rfl) rfl rfl rfl ?_
  refine aw_g (g_call (indexFuncCoin _ _) rfl fn_39 ⟨(arg_v rfl), (arg_fn rfl rfl), trivial⟩ rfl) rfl rfl rfl ?_
  refine aw_g (g_geq rfl rfl rfl rfl) rfl rfl rfl ?_
  refine aw_g (g_mv (.inr rfl) rfl) rfl rfl rfl ?_
  refine aw_nil ?_
  exact aw_ret1 rfl rfl (ret_eq rfl (idx_any p l))

theorem indexFuncOut (l : List Out) (p : Out → Bool) : Tells P 69 [.val (bsl outT) l, .fn1 P outT boolT p] (.val i64T (idx p l)) := by
  refine fn_of_aw Try.func69 rfl rfl rfl (fun ext w hext => ?_)
  refine aw_fact (d := 0) rfl fact_sl (fun hsl0 => ?_)
  refine aw_seq ?_
  refine aw_region ?_
  refine aw_g (g_mv (.inr rfl) rfl) rfl rfl rfl ?_
  refine aw_nil ?_
  refine aw_seq ?_
  refine aw_seq ?_
  refine aw_region ?_
  refine aw_g (g_mv (.inl rfl) rfl) rfl rfl rfl ?_
  refine aw_g (g_len rfl rfl isl_24) rfl rfl rfl ?_
  refine aw_g (g_mv (.inl rfl) rfl) rfl rfl rfl ?_
  refine aw_nil ?_
  refine aw_block ?_
  refine aw_loopI (ι := Nat) 0 rfl (fun (k : Nat) => (((((Fr.none).set 0 (.val (bsl outT) l)).set 1 (.fn1 P outT boolT p)).set 6 (.val (bsl outT) l)).set 7 (.val i64T (l.length : Int))).set 8 (.val i64T (k : Int))) (fun (k : Nat) => Hp.none) (fun (k : Nat) => k ≤ l.length ∧ idx p l = shift k (idx p (l.drop k))) (fun (k : Nat) => l.length - k) (0) (⟨Nat.zero_le _, shift_zero p l⟩) (by (repeat refine Fr.le_set ?_ (by first | rfl | (simp; done))); exact Fr.le_none _) (by (repeat refine Hp.le_set ?_ rfl); exact Hp.le_none _) (by (repeat refine Fr.below_setB ?_ rfl); exact Fr.below_none _) (by (repeat refine Hp.below_set ?_ (by decide)); exact Hp.below_none _) ?_
  intro k hinv
  refine aw_seq ?_
  refine aw_region ?_
  refine aw_g (g_lss rfl rfl rfl rfl) rfl rfl rfl ?_
  refine aw_nil ?_
  refine aw_seq ?_
  refine aw_ifc (p := k < l.length) rfl (by first | rfl | (rw [decide_eq_decide]; simp only [IntL.toI, id_eq]; omega) | (simp [IntL.toI]; done) | (simp [IntL.toI]; omega)) (fun ht9 => ?_) (fun ht9 => ?_)
  · skip
    obtain ⟨x, hx⟩ : ∃ x, l[k]? = some x := ⟨_, List.getElem?_eq_getElem ht9⟩
    refine aw_skip ?_
    refine aw_seq ?_
    refine aw_block ?_
    refine aw_seq ?_
    refine aw_region ?_
    refine aw_g (g_mv (.inl rfl) rfl) rfl rfl rfl ?_
    refine aw_g (g_mv (.inr rfl) rfl) rfl rfl rfl ?_
    refine aw_nil ?_
    refine aw_seq ?_
    refine aw_region ?_
    refine aw_g (g_mf1 (.inl rfl) rfl) rfl rfl rfl ?_
    refine aw_g (g_mv (.inl rfl) rfl) rfl rfl rfl ?_
    refine aw_g (g_mv (.inl rfl) rfl) rfl rfl rfl ?_
    refine aw_g (g_ia_n rfl rfl rfl sl_24 (by assumption)) rfl rfl rfl ?_
    refine aw_g (g_load_r rfl rfl ty_48) rfl rfl rfl ?_
    refine aw_g (g_callf1 rfl rfl (by first | exact arg_same rfl | exact arg_bsl rfl | exact arg_own rfl rfl | exact arg_nil rfl | exact arg_rptr rfl | exact arg_fn rfl rfl | exact arg_lit rfl)) rfl rfl rfl ?_
    refine aw_nil ?_
    refine aw_ifc (p := p x = true) rfl (by simp) (fun ht16 => ?_) (fun ht16 => ?_)
    · skip
      refine aw_seq ?_
      refine aw_region ?_
      refine aw_g (g_mv (.inl rfl) rfl) rfl rfl rfl ?_
      refine aw_g (g_mv (.inr rfl) rfl) rfl rfl rfl ?_
      refine aw_nil ?_
      exact aw_ret1 rfl rfl (ret_eq rfl (hinv.2.trans (idx_yes hx ht16)).symm)
    · skip
      refine aw_skip ?_
      refine aw_inBlock ?_
      refine aw_region ?_
      refine aw_g (by first | exact g_add rfl rfl rfl (wrap_eq (by first | omega | (simp; omega))) | exact g_add rfl rfl rfl rfl) rfl rfl rfl ?_
      refine aw_g (g_mv (.inl rfl) rfl) rfl rfl rfl ?_
      refine aw_nil ?_
      exact aw_next (k + 1) (⟨by omega, hinv.2.trans (idx_no hx ht16)⟩) (by omega) rfl (by (repeat refine Fr.le_set ?_ (by first | rfl | (simp; done))); exact Fr.le_none _) (by (repeat refine Hp.le_set ?_ rfl); exact Hp.le_none _) (by (repeat refine Fr.below_setB ?_ rfl); exact Fr.below_none _) (by (repeat refine Hp.below_set ?_ (by decide)); exact Hp.below_none _)
  · skip
    refine aw_exit rfl ?_
    refine aw_seq ?_
    refine aw_region ?_
    refine aw_g (g_mv (.inr rfl) rfl) rfl rfl rfl ?_
    refine aw_nil ?_
    exact aw_ret1 rfl rfl (ret_eq rfl (hinv.2.trans (idx_end (by omega))).symm)

theorem containsFuncOut (l : List Out) (p : Out → Bool) : Tells P 49 [.val (bsl outT) l, .fn1 P outT boolT p] (.val boolT (l.any p)) := by
  refine fn_of_aw Try.func49 rfl rfl rfl (fun ext w hext => ?_)
  refine aw_fact (d := 0) rfl fact_sl (fun hsl0 => ?_)
  refine aw_seq ?_
  refine aw_region ?_
  refine aw_g (g_mv (.inr rfl) rfl) rfl rfl rfl ?_
  refine aw_nil ?_
  refine aw_seq ?_
  refine aw_region ?_
  refine aw_g (g_mv (.inl rfl) rfl) rfl rfl rfl ?_
  refine aw_g (g_mf1 (.inl rfl) rfl) rfl rfl rfl ?_
  refine aw_g (g_call (indexFuncOut _ _) rfl fn_69 ⟨(arg_v rfl), (arg_fn rfl rfl), trivial⟩ rfl) rfl rfl rfl ?_
  refine aw_g (g_geq rfl rfl rfl rfl) rfl rfl rfl ?_
  refine aw_g (g_mv (.inr rfl) rfl) rfl rfl rfl ?_
  refine aw_nil ?_
  exact aw_ret1 rfl rfl (ret_eq rfl (idx_any p l))

theorem equalCoin (l m : List Coin) : Tells P 42 [.val (bsl coinT) l, .val (bsl coinT) m] (.val boolT (decide (l = m))) := by
  refine fn_of_aw Try.func42 rfl rfl rfl (fun ext w hext => ?_)
  refine aw_fact (d := 0) rfl fact_sl (fun hsl0 => ?_)
  refine aw_fact (d := 1) rfl fact_sl (fun hsl1 => ?_)
  refine aw_seq ?_
  refine aw_region ?_
  refine aw_g (g_mv (.inr rfl) rfl) rfl rfl rfl ?_
  refine aw_nil ?_
  refine aw_seq ?_
  refine aw_seq ?_
  refine aw_region ?_
  refine aw_g (g_mv (.inl rfl) rfl) rfl rfl rfl ?_
  refine aw_g (g_len rfl rfl isl_22) rfl rfl rfl ?_
  refine aw_g (g_mv (.inl rfl) rfl) rfl rfl rfl ?_
  refine aw_g (g_len rfl rfl isl_22) rfl rfl rfl ?_
  refine aw_g (g_neq rfl rfl rfl rfl) rfl rfl rfl ?_
  refine aw_nil ?_
  refine aw_ifc (p := ¬ l.length = m.length) rfl (by first | rfl | (rw [decide_eq_decide]; simp only [IntL.toI, id_eq]; omega) | (simp [IntL.toI]; done) | (simp [IntL.toI]; omega)) (fun ht10 => ?_) (fun ht10 => ?_)
  · skip
    refine aw_seq ?_
    refine aw_region ?_
    refine aw_g (g_mv (.inr rfl) rfl) rfl rfl rfl ?_
    refine aw_nil ?_
    exact aw_ret1 rfl rfl (ret_eq rfl (decide_eq_false (fun e => ht10 (by rw [e]))).symm)
  · skip
    refine aw_skip ?_
    refine aw_seq ?_
    refine aw_seq ?_
    refine aw_region ?_
    refine aw_g (g_mv (.inl rfl) rfl) rfl rfl rfl ?_
    refine aw_g (g_len rfl rfl isl_22) rfl rfl rfl ?_
    refine aw_g (g_mv (.inl rfl) rfl) rfl rfl rfl ?_
    refine aw_nil ?_
    refine aw_block ?_
    refine aw_loopI (ι := Nat) 0 rfl (fun (k : Nat) => ((((Fr.none).set 0 (.val (bsl coinT) l)).set 1 (.val (bsl coinT) m)).set 12 (.val i64T (l.length : Int))).set 13 (.val i64T (k : Int))) (fun (k : Nat) => Hp.none) (fun (k : Nat) => k ≤ l.length ∧ l.take k = m.take k) (fun (k : Nat) => l.length - k) (0) (⟨Nat.zero_le _, by simp⟩) (by (repeat refine Fr.le_set ?_ (by first | rfl | (simp; done))); exact Fr.le_none _) (by (repeat refine Hp.le_set ?_ rfl); exact Hp.le_none _) (by (repeat refine Fr.below_setB ?_ rfl); exact Fr.below_none _) (by (repeat refine Hp.below_set ?_ (by decide)); exact Hp.below_none _) ?_
    intro k hinv
    refine aw_seq ?_
    refine aw_region ?_
    refine aw_g (g_lss rfl rfl rfl rfl) rfl rfl rfl ?_
    refine aw_nil ?_
    refine aw_seq ?_
    refine aw_ifc (p := k < l.length) rfl (by first | rfl | (rw [decide_eq_decide]; simp only [IntL.toI, id_eq]; omega) | (simp [IntL.toI]; done) | (simp [IntL.toI]; omega)) (fun ht14 => ?_) (fun ht14 => ?_)
    · skip
      obtain ⟨x, hx⟩ : ∃ x, l[k]? = some x := ⟨_, List.getElem?_eq_getElem ht14⟩
      obtain ⟨y, hy⟩ : ∃ y, m[k]? = some y := ⟨_, List.getElem?_eq_getElem (by omega)⟩
      refine aw_skip ?_
      refine aw_seq ?_
      refine aw_block ?_
      refine aw_seq ?_
      refine aw_region ?_
      refine aw_g (g_mv (.inl rfl) rfl) rfl rfl rfl ?_
      refine aw_g (g_mv (.inr rfl) rfl) rfl rfl rfl ?_
      refine aw_nil ?_
      refine aw_seq ?_
      refine aw_draw mixed (by decide +kernel) ?_
      refine GK.g (g_mv (.inl rfl) rfl) rfl rfl rfl ?_
      refine GK.g (g_mv (.inl rfl) rfl) rfl rfl rfl ?_
      refine GK.g (g_ia_n rfl rfl rfl sl_22 (by assumption)) rfl rfl rfl ?_
      refine GK.g (g_load_r rfl rfl ty_50) rfl rfl rfl ?_
      refine GK.g (g_mv (.inl rfl) rfl) rfl rfl rfl ?_
      refine GK.g (g_mv (.inl rfl) rfl) rfl rfl rfl ?_
      refine GK.g (g_ia_n rfl rfl rfl sl_22 (by assumption)) rfl rfl rfl ?_
      refine GK.g (g_load_r rfl rfl ty_50) rfl rfl rfl ?_
      refine GK.g (g_neqS rfl rfl rfl (eqt_50)) rfl rfl rfl ?_
      refine GK.nil ?_
      refine aw_ifc (p := ¬ x = y) rfl (by simp) (fun ht24 => ?_) (fun ht24 => ?_)
      · skip
        refine aw_seq ?_
        refine aw_region ?_
        refine aw_g (g_mv (.inr rfl) rfl) rfl rfl rfl ?_
        refine aw_nil ?_
        exact aw_ret1 rfl rfl (ret_eq rfl (decide_eq_false (ne_of_at hx hy ht24)).symm)
      · skip
        refine aw_skip ?_
        refine aw_inBlock ?_
        refine aw_region ?_
        refine aw_g (by first | exact g_add rfl rfl rfl (wrap_eq (by first | omega | (simp; omega))) | exact g_add rfl rfl rfl rfl) rfl rfl rfl ?_
        refine aw_g (g_mv (.inl rfl) rfl) rfl rfl rfl ?_
        refine aw_nil ?_
        exact aw_next (k + 1) (⟨by omega, beq_all_succ hx hy hinv.2 (by simpa using ht24)⟩) (by omega) rfl (by (repeat refine Fr.le_set ?_ (by first | rfl | (simp; done))); exact Fr.le_none _) (by (repeat refine Hp.le_set ?_ rfl); exact Hp.le_none _) (by (repeat refine Fr.below_setB ?_ rfl); exact Fr.below_none _) (by (repeat refine Hp.below_set ?_ (by decide)); exact Hp.below_none _)
    · skip
      refine aw_exit rfl ?_
      refine aw_seq ?_
      refine aw_region ?_
      refine aw_g (g_mv (.inr rfl) rfl) rfl rfl rfl ?_
      refine aw_nil ?_
      exact aw_ret1 rfl rfl (ret_eq rfl (decide_eq_true (by have h := hinv.2; rw [List.take_of_length_le (by omega), List.take_of_length_le (by omega)] at h; exact h)).symm)

theorem cloneCoin (l : List Coin) (hl : l.length * 56 ≤ 140737488355328 ∧ l.length ≤ 9223372036854775807) : Tells P 26 [.val (bsl coinT) l] (.fresh 50 coinT l) := by
  refine fn_of_aw Try.func26 rfl rfl rfl (fun ext w hext => ?_)
  refine aw_fact (d := 0) rfl fact_sl (fun hsl0 => ?_)
  refine aw_seq ?_
  refine aw_region ?_
  refine aw_g (g_ml (.inr rfl) rfl) rfl rfl rfl ?_
  refine aw_nil ?_
  refine aw_seq ?_
  refine aw_seq ?_
  refine aw_region ?_
  refine aw_g (g_mv (.inl rfl) rfl) rfl rfl rfl ?_
  refine aw_eqnil rfl rfl rfl rfl rfl isl_22 (fun c4 hc4 => ?_)
  refine aw_nil ?_
  refine aw_ifc (p := c4 = true) rfl (by simp) (fun ht4 => ?_) (fun ht4 => ?_)
  · skip
    obtain rfl := hc4 ht4
    refine aw_seq ?_
    refine aw_region ?_
    refine aw_g (g_ml (.inr rfl) rfl) rfl rfl rfl ?_
    refine aw_nil ?_
    exact aw_ret1 rfl rfl (ret_fresh_nil rfl)
  · skip
    refine aw_skip ?_
    refine aw_seq ?_
    refine aw_region ?_
    refine aw_bslice (T := coinT) (xs := []) rfl rfl rfl rfl sl_22 row_22 trivial rfl rfl ?_
    refine aw_g (g_mv (.inl rfl) rfl) rfl rfl rfl ?_
    refine aw_append rfl rfl rfl rfl rfl rfl rfl row_22 (by simpa using hl) ?_
    refine aw_g (g_mo (.inr rfl) rfl) rfl rfl rfl ?_
    refine aw_nil ?_
    exact aw_ret1 rfl rfl (ret_fresh_eq rfl rfl (by simp))

end Go.Proofs.Ytmfgemnmelbflaa
