/- What is summed, filled up; one step of the sum. -/
import Derived.Test.YtmfgemnmelbflaaBytes2
set_option maxRecDepth 20000
namespace Go.Proofs.Ytmfgemnmelbflaa
set_option linter.unusedVariables false
set_option linter.unusedSimpArgs false
open Go.Ab Go.RowKit

/-- How many zeros are filled in. -/
def padZ (n : Nat) : Nat := (64 - (n + 9) % 64) % 64
/-- Bytes, filled up: the mark, zeros, how many bits they are. -/
def padOf (b : List UInt8) : List UInt8 := (b ++ 128 :: List.replicate (padZ b.length) 0) ++ numBytes (8 * u64OfI (IntL.toI i64T (b.length : Int))) 8
theorem padOf_pre (b : List UInt8) : (b ++ 128 :: List.replicate (padZ b.length) 0).length = b.length + 1 + padZ b.length := by simp; omega
theorem pad_step {b l : List UInt8} {k : Nat} (hk : k < 8) (hl : l.length = b.length + padZ b.length + 9) (h : ∀ j, j < b.length + padZ b.length + 1 ∨ b.length + padZ b.length + 9 - k ≤ j → l[j]? = (padOf b)[j]?) :
    ∀ j, j < b.length + padZ b.length + 1 ∨ b.length + padZ b.length + 9 - (k + 1) ≤ j → (l.set (b.length + padZ b.length + 8 - k) (u8OfI (IntL.toI u64T (shr64 (8 * u64OfI (IntL.toI i64T (b.length : Int))) (8 * k)))))[j]? = (padOf b)[j]? := fun j hj => by
  rw [List.getElem?_set]
  by_cases c : b.length + padZ b.length + 8 - k = j
  · rw [if_pos c, if_pos (by omega)]
    unfold padOf
    rw [List.getElem?_append_right (by rw [padOf_pre]; omega), padOf_pre]
    unfold numBytes
    rw [List.getElem?_map, List.getElem?_range (by omega), Option.map_some]
    congr 4; omega
  · rw [if_neg c]; exact h j (by omega)
theorem pad_start {b : List UInt8} {j : Nat} (hj : j < b.length + padZ b.length + 1 ∨ b.length + padZ b.length + 9 - 0 ≤ j) : ([b, [128], List.replicate (padZ b.length + 8) 0].flatten)[j]? = (padOf b)[j]? := by
  unfold padOf
  have e : [b, [128], List.replicate (padZ b.length + 8) (0 : UInt8)].flatten = (b ++ 128 :: List.replicate (padZ b.length) 0) ++ List.replicate 8 0 := by
    rw [← List.replicate_append_replicate]; simp
  rw [e]
  have hl := padOf_pre b
  generalize b ++ 128 :: List.replicate (padZ b.length) 0 = pre at hl
  rcases hj with hj | hj
  · rw [List.getElem?_append_left (by omega), List.getElem?_append_left (by omega)]
  · rw [List.getElem?_append_right (by omega), List.getElem?_append_right (by omega), hl]
    rw [List.getElem?_eq_none (by simp; omega), List.getElem?_eq_none (by unfold numBytes; simp; omega)]
theorem pad_all {b l : List UInt8} (h : ∀ j, j < b.length + padZ b.length + 1 ∨ b.length + padZ b.length + 9 - 8 ≤ j → l[j]? = (padOf b)[j]?) : l = padOf b := List.ext_getElem? fun j => h j (by omega)

theorem pad_ok (b : List UInt8) (hb : b.length ≤ 70368744177664) : Tells P 77 [.val (sl u8T) b] (.fresh 5 u8T (padOf b)) := by
  have hz : ((padZ b.length : Nat) : Int) = (64 - ((b.length : Int) + 1 + 8) % 64) % 64 := by unfold padZ; omega
  have hz2 : padZ b.length < 64 := by unfold padZ; omega
  refine fn_of_aw Try.func77 rfl rfl rfl (fun ext w hext => ?_)
  refine aw_fact (d := 0) rfl fact_sl (fun hsl0 => ?_)
  refine aw_seq ?_
  refine aw_region ?_
  refine aw_g (g_ml (.inr rfl) rfl) rfl rfl rfl ?_
  refine aw_nil ?_
  refine aw_seq ?_
  refine aw_region ?_
  refine aw_g (g_mv (.inl rfl) rfl) rfl rfl rfl ?_
  refine aw_g (g_len rfl rfl isl_71) rfl rfl rfl ?_
  refine aw_g (by first | exact g_add rfl rfl rfl (wrap_eq (by first | omega | (simp; omega))) | exact g_add rfl rfl rfl rfl) rfl rfl rfl ?_
  refine aw_g (by first | exact g_add rfl rfl rfl (wrap_eq (by first | omega | (simp; omega))) | exact g_add rfl rfl rfl rfl) rfl rfl rfl ?_
  refine aw_g (g_rem rfl rfl rfl (by first | omega | assumption) (by first | decide | omega) rfl) rfl rfl rfl ?_
  refine aw_g (by first | exact g_sub rfl rfl rfl (wrap_eq (by first | omega | (simp; omega))) | exact g_sub rfl rfl rfl rfl) rfl rfl rfl ?_
  refine aw_g (g_rem rfl rfl rfl (by first | omega | assumption) (by first | decide | omega) rfl) rfl rfl rfl ?_
  refine aw_g (g_mv (.inr rfl) rfl) rfl rfl rfl ?_
  refine aw_nil ?_
  refine aw_seq ?_
  refine aw_region ?_
  refine aw_g (g_mv (.inl rfl) rfl) rfl rfl rfl ?_
  refine aw_g (g_bslice (T := u8T) (xs := [_]) rfl sl_71 row_71 ⟨rfl, rfl, trivial⟩ rfl rfl) rfl rfl rfl ?_
  refine aw_g (g_mv (.inl rfl) rfl) rfl rfl rfl ?_
  refine aw_g (by first | exact g_add rfl rfl rfl (wrap_eq (by first | omega | (simp; omega))) | exact g_add rfl rfl rfl rfl) rfl rfl rfl ?_
  refine aw_mks (T := u8T) (n := padZ b.length + 8) rfl rfl rfl rfl rfl rfl (by first | omega | rfl) (by first | omega | rfl) row_71 ze_5 ⟨by omega, by omega, (show (padZ b.length + 8) * 1 ≤ 16777216 by omega)⟩ ?_
  refine aw_pub (d := 17) rfl rfl ?_
  refine aw_g (g_bslice (T := (sl u8T)) (xs := [_, _, _]) rfl sl_86 row_86 ⟨rfl, rfl, rfl, rfl, rfl, rfl, trivial⟩ rfl rfl) rfl rfl rfl ?_
  refine aw_callf (concat_ok [b, [128], List.replicate (padZ b.length + 8) 0] (by simp; omega)) rfl fn_67 ⟨(arg_v rfl), trivial⟩ rfl rfl rfl ?_
  refine aw_g (g_mo (.inr rfl) rfl) rfl rfl rfl ?_
  refine aw_nil ?_
  refine aw_seq ?_
  refine aw_seq ?_
  refine aw_region ?_
  refine aw_g (g_mv (.inl rfl) rfl) rfl rfl rfl ?_
  refine aw_nil ?_
  refine aw_block ?_
  refine aw_loopI (ι := Nat × List UInt8) 2 rfl (fun (i : Nat × List UInt8) => match i with | (k, l) => (((Fr.none).set 0 (.val (sl u8T) b)).set 4 (.own 1)).set 20 (.val i64T (k : Int))) (fun (i : Nat × List UInt8) => match i with | (k, l) => (Hp.none).set 1 (.row 5 u8T l)) (fun (i : Nat × List UInt8) => match i with | (k, l) => k ≤ 8 ∧ l.length = b.length + padZ b.length + 9 ∧ ∀ j, j < b.length + padZ b.length + 1 ∨ b.length + padZ b.length + 9 - k ≤ j → l[j]? = (padOf b)[j]?) (fun (i : Nat × List UInt8) => match i with | (k, l) => 8 - k) ((0, [b, [128], List.replicate (padZ b.length + 8) 0].flatten)) (⟨Nat.zero_le _, by simp; omega, fun j h => pad_start h⟩) (by (repeat refine Fr.le_set ?_ (by first | rfl | (simp; done))); exact Fr.le_none _) (by (repeat refine Hp.le_set ?_ rfl); exact Hp.le_none _) (by (repeat refine Fr.below_setB ?_ rfl); exact Fr.below_none _) (by (repeat refine Hp.below_set ?_ (by decide)); exact Hp.below_none _) ?_
  intro ⟨k, l⟩ hinv
  dsimp only at hinv
  refine aw_seq ?_
  refine aw_region ?_
  refine aw_g (g_lss rfl rfl rfl rfl) rfl rfl rfl ?_
  refine aw_nil ?_
  refine aw_seq ?_
  refine aw_ifc (p := k < 8) rfl (by first | rfl | (rw [decide_eq_decide]; simp only [IntL.toI, id_eq]; omega) | (simp [IntL.toI]; done) | (simp [IntL.toI]; omega)) (fun ht21 => ?_) (fun ht21 => ?_)
  · skip
    obtain ⟨x, hx⟩ : ∃ x, l[b.length + padZ b.length + 8 - k]? = some x := ⟨_, List.getElem?_eq_getElem (by omega)⟩
    refine aw_skip ?_
    refine aw_seq ?_
    refine aw_block ?_
    refine aw_seq ?_
    refine aw_region ?_
    refine aw_g (g_mv (.inl rfl) rfl) rfl rfl rfl ?_
    refine aw_g (g_mv (.inr rfl) rfl) rfl rfl rfl ?_
    refine aw_nil ?_
    refine aw_region ?_
    refine aw_g (g_mo (.inl rfl) rfl) rfl rfl rfl ?_
    refine aw_g (g_mo (.inl rfl) rfl) rfl rfl rfl ?_
    refine aw_g (g_len_o rfl rfl rfl isl_71) rfl rfl rfl ?_
    refine aw_g (by first | exact g_sub rfl rfl rfl (wrap_eq (by first | omega | (simp; omega))) | exact g_sub rfl rfl rfl rfl) rfl rfl rfl ?_
    refine aw_g (g_mv (.inl rfl) rfl) rfl rfl rfl ?_
    refine aw_g (by first | exact g_sub rfl rfl rfl (wrap_eq (by first | omega | (simp; omega))) | exact g_sub rfl rfl rfl rfl) rfl rfl rfl ?_
    refine aw_g (g_mv (.inl rfl) rfl) rfl rfl rfl ?_
    refine aw_g (g_len rfl rfl isl_71) rfl rfl rfl ?_
    refine aw_g (g_cv64 rfl (ui_93) (us_3) rfl) rfl rfl rfl ?_
    refine aw_g (g_mul64 rfl rfl rfl) rfl rfl rfl ?_
    refine aw_g (g_mv (.inl rfl) rfl) rfl rfl rfl ?_
    refine aw_g (by first | exact g_mul rfl rfl rfl (wrap_eq (by first | omega | (simp; omega))) | exact g_mul rfl rfl rfl rfl) rfl rfl rfl ?_
    refine aw_g (g_shr64 rfl rfl rfl (by first | decide | (simp [IntL.toI]; done) | (simp [IntL.toI]; omega)) rfl) rfl rfl rfl ?_
    refine aw_g (g_cv8 rfl (ui_5) (us_93) rfl) rfl rfl rfl ?_
    refine aw_g (g_ia_o (i := b.length + padZ b.length + 8 - k) rfl rfl rfl rfl (by first | omega | rfl) sl_71 (by first | assumption | omega | (simp; omega))) rfl rfl rfl ?_
    refine aw_store_e rfl rfl rfl rfl rfl rfl (by assumption) (Lens.self _) ty_5 rfl ?_
    refine aw_nil ?_
    refine aw_inBlock ?_
    refine aw_region ?_
    refine aw_g (by first | exact g_add rfl rfl rfl (wrap_eq (by first | omega | (simp; omega))) | exact g_add rfl rfl rfl rfl) rfl rfl rfl ?_
    refine aw_g (g_mv (.inl rfl) rfl) rfl rfl rfl ?_
    refine aw_nil ?_
    exact aw_next ((k + 1, l.set (b.length + padZ b.length + 8 - k) (u8OfI (IntL.toI u64T (shr64 (8 * u64OfI (IntL.toI i64T (b.length : Int))) (8 * k)))))) (⟨by omega, by simp; exact hinv.2.1, pad_step ht21 hinv.2.1 hinv.2.2⟩) (by show _ < 8 - k; simp only []; omega) rfl (by (repeat refine Fr.le_set ?_ (by first | rfl | (simp; done))); exact Fr.le_none _) (by (repeat refine Hp.le_set ?_ rfl); exact Hp.le_none _) (by (repeat refine Fr.below_setB ?_ rfl); exact Fr.below_none _) (by (repeat refine Hp.below_set ?_ (by decide)); exact Hp.below_none _)
  · skip
    refine aw_exit rfl ?_
    refine aw_seq ?_
    refine aw_region ?_
    refine aw_g (g_mo (.inl rfl) rfl) rfl rfl rfl ?_
    refine aw_g (g_mo (.inr rfl) rfl) rfl rfl rfl ?_
    refine aw_nil ?_
    exact aw_ret1 rfl rfl (ret_fresh_eq rfl rfl (pad_all (by rw [show k = 8 by omega] at hinv; exact hinv.2.2)))

end Go.Proofs.Ytmfgemnmelbflaa
