/- Rows of bytes put together; what is summed is filled up. -/
import Derived.Test.YtmfgemnmelbflaaBytes
set_option maxRecDepth 20000
namespace Go.Proofs.Ytmfgemnmelbflaa
set_option linter.unusedVariables false
set_option linter.unusedSimpArgs false
open Go.Ab Go.RowKit

theorem growNil (n : Nat) (hn : n ≤ 140737488355328) : Tells P 79 [.lit (.slice none 0 0), .val i64T (n : Int)] (.fresh 5 u8T []) := by
  refine fn_of_aw Try.func79 rfl rfl rfl (fun ext w hext => ?_)
  refine aw_fact (d := 1) rfl fact_int (fun hin1 => ?_)
  refine aw_seq ?_
  refine aw_region ?_
  refine aw_g (g_ml (.inr rfl) rfl) rfl rfl rfl ?_
  refine aw_nil ?_
  refine aw_seq ?_
  refine aw_seq ?_
  refine aw_region ?_
  refine aw_g (g_mv (.inl rfl) rfl) rfl rfl rfl ?_
  refine aw_g (g_lss rfl rfl rfl rfl) rfl rfl rfl ?_
  refine aw_nil ?_
  refine aw_if_f rfl (decide_eq_false (by show ¬ ((n : Int) < 0); omega)) ?_
  refine aw_skip ?_
  refine aw_seq ?_
  refine aw_seq ?_
  refine aw_region ?_
  refine aw_g (g_mv (.inl rfl) rfl) rfl rfl rfl ?_
  refine aw_g (g_ml (.inl rfl) rfl) rfl rfl rfl ?_
  refine aw_g (g_cap_nil rfl rfl isl_71) rfl rfl rfl ?_
  refine aw_g (g_ml (.inl rfl) rfl) rfl rfl rfl ?_
  refine aw_g (by first | exact g_len rfl rfl isl_71 | exact g_len_o rfl rfl rfl isl_71 | exact g_len_nil rfl rfl isl_71) rfl rfl rfl ?_
  refine aw_g (by first | exact g_sub rfl rfl rfl (wrap_eq (by first | omega | (simp; omega))) | exact g_sub rfl rfl rfl rfl) rfl rfl rfl ?_
  refine aw_g (by first | exact g_sub rfl rfl rfl (wrap_eq (by first | omega | (simp; omega))) | exact g_sub rfl rfl rfl rfl) rfl rfl rfl ?_
  refine aw_g (g_mv (.inr rfl) rfl) rfl rfl rfl ?_
  refine aw_nil ?_
  refine aw_seq ?_
  refine aw_region ?_
  refine aw_g (g_mv (.inl rfl) rfl) rfl rfl rfl ?_
  refine aw_g (g_gtr rfl rfl rfl rfl) rfl rfl rfl ?_
  refine aw_nil ?_
  refine aw_ifc (p := 0 < n) rfl (by rw [decide_eq_decide]; simp only [IntL.toI, id_eq]; omega) (fun ht16 => ?_) (fun ht16 => ?_)
  · skip
    refine aw_region ?_
    refine aw_g (g_ml (.inl rfl) rfl) rfl rfl rfl ?_
    refine aw_g (g_ml (.inl rfl) rfl) rfl rfl rfl ?_
    refine aw_g (g_cap_nil rfl rfl isl_71) rfl rfl rfl ?_
    refine aw_g (by first | exact g_sl_nil rfl rfl rfl (by first | rfl | omega) sl_71 | exact g_sl_h rfl rfl rfl sl_71 (by first | assumption | omega | (simp; omega))) rfl rfl rfl ?_
    refine aw_g (g_mv (.inl rfl) rfl) rfl rfl rfl ?_
    refine aw_appendz (T := u8T) (n := n) rfl rfl rfl rfl rfl rfl (by first | rfl | omega) row_71 ze_5 (ui_3) (⟨by assumption, by omega, by omega⟩) ?_
    refine aw_g (g_ml (.inl rfl) rfl) rfl rfl rfl ?_
    refine aw_g (by first | exact g_len rfl rfl isl_71 | exact g_len_o rfl rfl rfl isl_71 | exact g_len_nil rfl rfl isl_71) rfl rfl rfl ?_
    refine aw_g (g_os_h (q := 0) rfl rfl rfl rfl sl_71 (by first | omega | rfl) (by first | assumption | omega | (simp; omega))) rfl rfl rfl ?_
    refine aw_g (g_ms (.inr rfl) rfl) rfl rfl rfl ?_
    refine aw_nil ?_
    refine aw_seq ?_
    refine aw_region ?_
    refine aw_g (g_ms (.inl rfl) rfl) rfl rfl rfl ?_
    refine aw_g (g_ms (.inr rfl) rfl) rfl rfl rfl ?_
    refine aw_nil ?_
    exact aw_ret1 rfl rfl (ret_fresh_s rfl rfl (by simp; omega) rfl)
  · skip
    refine aw_skip ?_
    refine aw_seq ?_
    refine aw_region ?_
    refine aw_g (g_ml (.inl rfl) rfl) rfl rfl rfl ?_
    refine aw_g (g_ml (.inr rfl) rfl) rfl rfl rfl ?_
    refine aw_nil ?_
    exact aw_ret1 rfl rfl (ret_fresh_nil rfl)

theorem flat_take_succ {α : Type} {ls : List (List α)} {k : Nat} {x : List α} (h : ls[k]? = some x) : (ls.take (k + 1)).flatten = (ls.take k).flatten ++ x := by
  rw [List.take_add_one, h]; simp
theorem flat_take_le {α : Type} (ls : List (List α)) (k : Nat) : (ls.take k).flatten.length ≤ ls.flatten.length := by
  conv => rhs; rw [← List.take_append_drop k ls, List.flatten_append, List.length_append]
  omega

theorem concat_ok (ls : List (List UInt8)) (hl : ls.flatten.length ≤ 140737488355328) : Tells P 67 [.val (bsl (sl u8T)) ls] (.fresh 5 u8T ls.flatten) := by
  refine fn_of_aw Try.func67 rfl rfl rfl (fun ext w hext => ?_)
  refine aw_fact (d := 0) rfl fact_sl (fun hsl0 => ?_)
  refine aw_seq ?_
  refine aw_region ?_
  refine aw_g (g_ml (.inr rfl) rfl) rfl rfl rfl ?_
  refine aw_nil ?_
  refine aw_seq ?_
  refine aw_region ?_
  refine aw_g (g_mv (.inr rfl) rfl) rfl rfl rfl ?_
  refine aw_nil ?_
  refine aw_seq ?_
  refine aw_seq ?_
  refine aw_region ?_
  refine aw_g (g_mv (.inl rfl) rfl) rfl rfl rfl ?_
  refine aw_g (g_len rfl rfl isl_86) rfl rfl rfl ?_
  refine aw_g (g_mv (.inl rfl) rfl) rfl rfl rfl ?_
  refine aw_nil ?_
  refine aw_block ?_
  refine aw_loopI (ι := Nat) 0 rfl (fun (k : Nat) => (((((Fr.none).set 0 (.val (bsl (sl u8T)) ls)).set 3 (.val i64T ((ls.take k).flatten.length : Int))).set 9 (.val (bsl (sl u8T)) ls)).set 10 (.val i64T (ls.length : Int))).set 11 (.val i64T (k : Int))) (fun (k : Nat) => Hp.none) (fun (k : Nat) => k ≤ ls.length) (fun (k : Nat) => ls.length - k) (0) (Nat.zero_le _) (by (repeat refine Fr.le_set ?_ (by first | rfl | (simp; done))); exact Fr.le_none _) (by (repeat refine Hp.le_set ?_ rfl); exact Hp.le_none _) (by (repeat refine Fr.below_setB ?_ rfl); exact Fr.below_none _) (by (repeat refine Hp.below_set ?_ (by decide)); exact Hp.below_none _) ?_
  intro k hinv
  refine aw_seq ?_
  refine aw_region ?_
  refine aw_g (g_lss rfl rfl rfl rfl) rfl rfl rfl ?_
  refine aw_nil ?_
  refine aw_seq ?_
  refine aw_ifc (p := k < ls.length) rfl (by first | rfl | (rw [decide_eq_decide]; simp only [IntL.toI, id_eq]; omega) | (simp [IntL.toI]; done) | (simp [IntL.toI]; omega)) (fun ht12 => ?_) (fun ht12 => ?_)
  · skip
    obtain ⟨x, hx⟩ : ∃ x, ls[k]? = some x := ⟨_, List.getElem?_eq_getElem ht12⟩
    have hle := flat_take_le ls (k + 1)
    rw [flat_take_succ hx, List.length_append] at hle
    refine aw_skip ?_
    refine aw_seq ?_
    refine aw_block ?_
    refine aw_seq ?_
    refine aw_region ?_
    refine aw_g (g_ia_n rfl rfl rfl sl_86 (by assumption)) rfl rfl rfl ?_
    refine aw_g (g_load_r rfl rfl ty_71) rfl rfl rfl ?_
    refine aw_g (by first | exact g_mv (.inr rfl) rfl | exact g_mp (.inr rfl) rfl | exact g_mo (.inr rfl) rfl | exact g_ml (.inr rfl) rfl | exact g_mc (.inr rfl) rfl | exact g_mr (.inr rfl) rfl | exact g_mf1 (.inr rfl) rfl | exact g_mf2 (.inr rfl) rfl | exact g_mw (.inr rfl) rfl | exact g_me (.inr rfl) rfl | exact g_ms (.inr rfl) rfl | exact g_mt2 (.inr rfl) rfl | exact g_mt3 (.inr rfl) rfl | exact g_mi (.inr rfl) rfl) rfl rfl rfl ?_
    refine aw_nil ?_
    refine aw_seq ?_
    refine aw_region ?_
    refine aw_g (g_mv (.inl rfl) rfl) rfl rfl rfl ?_
    refine aw_g (by first | exact g_mv (.inl rfl) rfl | exact g_mp (.inl rfl) rfl | exact g_mo (.inl rfl) rfl | exact g_ml (.inl rfl) rfl | exact g_mc (.inl rfl) rfl | exact g_mr (.inl rfl) rfl | exact g_mf1 (.inl rfl) rfl | exact g_mf2 (.inl rfl) rfl | exact g_mw (.inl rfl) rfl | exact g_me (.inl rfl) rfl | exact g_ms (.inl rfl) rfl | exact g_mt2 (.inl rfl) rfl | exact g_mt3 (.inl rfl) rfl | exact g_mi (.inl rfl) rfl) rfl rfl rfl ?_
    refine aw_g (by first | exact g_len rfl rfl isl_71 | exact g_len_o rfl rfl rfl isl_71 | exact g_len_nil rfl rfl isl_71) rfl rfl rfl ?_
    refine aw_g (by first | exact g_add rfl rfl rfl (wrap_eq (by first | omega | (simp; omega))) | exact g_add rfl rfl rfl rfl) rfl rfl rfl ?_
    refine aw_g (g_mv (.inr rfl) rfl) rfl rfl rfl ?_
    refine aw_nil ?_
    refine aw_seq ?_
    refine aw_region ?_
    refine aw_g (g_mv (.inl rfl) rfl) rfl rfl rfl ?_
    refine aw_g (g_lss rfl rfl rfl rfl) rfl rfl rfl ?_
    refine aw_nil ?_
    refine aw_if_f rfl (decide_eq_false (by simp only [IntL.toI, id_eq]; omega)) ?_
    refine aw_skip ?_
    refine aw_inBlock ?_
    refine aw_region ?_
    refine aw_g (by first | exact g_add rfl rfl rfl (wrap_eq (by first | omega | (simp; omega))) | exact g_add rfl rfl rfl rfl) rfl rfl rfl ?_
    refine aw_g (g_mv (.inl rfl) rfl) rfl rfl rfl ?_
    refine aw_nil ?_
    refine aw_reval (d := 3) (y := ((ls.take (k + 1)).flatten.length : Int)) rfl (by rw [flat_take_succ hx, List.length_append]; omega) ?_
    exact aw_next (k + 1) (by omega) (by omega) rfl (by (repeat refine Fr.le_set ?_ (by first | rfl | (simp; done))); exact Fr.le_none _) (by (repeat refine Hp.le_set ?_ rfl); exact Hp.le_none _) (by (repeat refine Fr.below_setB ?_ rfl); exact Fr.below_none _) (by (repeat refine Hp.below_set ?_ (by decide)); exact Hp.below_none _)
  · skip
    refine aw_reval (d := 3) (y := ((ls.flatten.length : Nat) : Int)) rfl (by rw [List.take_of_length_le (by omega)]) ?_
    refine aw_exit rfl ?_
    refine aw_seq ?_
    refine aw_region ?_
    refine aw_g (g_mv (.inl rfl) rfl) rfl rfl rfl ?_
    refine aw_callf (growNil ls.flatten.length hl) rfl fn_79 ⟨(by first | exact arg_same rfl | exact arg_bsl rfl | exact arg_own rfl rfl | exact arg_nil rfl | exact arg_rptr rfl | exact arg_fn rfl rfl | exact arg_lit rfl), (arg_v rfl), trivial⟩ rfl rfl rfl ?_
    refine aw_g (g_mo (.inr rfl) rfl) rfl rfl rfl ?_
    refine aw_nil ?_
    refine aw_seq ?_
    refine aw_seq ?_
    refine aw_region ?_
    refine aw_g (g_mv (.inl rfl) rfl) rfl rfl rfl ?_
    refine aw_g (g_len rfl rfl isl_86) rfl rfl rfl ?_
    refine aw_g (g_mv (.inl rfl) rfl) rfl rfl rfl ?_
    refine aw_nil ?_
    refine aw_block ?_
    refine aw_loopI (ι := Nat) 1 rfl (fun (k : Nat) => ((((Fr.none).set 6 (.own 0)).set 25 (.val (bsl (sl u8T)) ls)).set 26 (.val i64T (ls.length : Int))).set 27 (.val i64T (k : Int))) (fun (k : Nat) => (Hp.none).set 0 (.row 5 u8T (ls.take k).flatten)) (fun (k : Nat) => k ≤ ls.length) (fun (k : Nat) => ls.length - k) (0) (Nat.zero_le _) (by (repeat refine Fr.le_set ?_ (by first | rfl | (simp; done))); exact Fr.le_none _) (by (repeat refine Hp.le_set ?_ rfl); exact Hp.le_none _) (by (repeat refine Fr.below_setB ?_ rfl); exact Fr.below_none _) (by (repeat refine Hp.below_set ?_ (by decide)); exact Hp.below_none _) ?_
    intro k hinv
    refine aw_seq ?_
    refine aw_region ?_
    refine aw_g (g_lss rfl rfl rfl rfl) rfl rfl rfl ?_
    refine aw_nil ?_
    refine aw_seq ?_
    refine aw_ifc (p := k < ls.length) rfl (by first | rfl | (rw [decide_eq_decide]; simp only [IntL.toI, id_eq]; omega) | (simp [IntL.toI]; done) | (simp [IntL.toI]; omega)) (fun ht28 => ?_) (fun ht28 => ?_)
    · skip
      obtain ⟨x, hx⟩ : ∃ x, ls[k]? = some x := ⟨_, List.getElem?_eq_getElem ht28⟩
      have hle := flat_take_le ls (k + 1)
      rw [flat_take_succ hx, List.length_append] at hle
      refine aw_skip ?_
      refine aw_seq ?_
      refine aw_block ?_
      refine aw_seq ?_
      refine aw_region ?_
      refine aw_g (g_ia_n rfl rfl rfl sl_86 (by assumption)) rfl rfl rfl ?_
      refine aw_g (g_load_r rfl rfl ty_71) rfl rfl rfl ?_
      refine aw_g (by first | exact g_mv (.inr rfl) rfl | exact g_mp (.inr rfl) rfl | exact g_mo (.inr rfl) rfl | exact g_ml (.inr rfl) rfl | exact g_mc (.inr rfl) rfl | exact g_mr (.inr rfl) rfl | exact g_mf1 (.inr rfl) rfl | exact g_mf2 (.inr rfl) rfl | exact g_mw (.inr rfl) rfl | exact g_me (.inr rfl) rfl | exact g_ms (.inr rfl) rfl | exact g_mt2 (.inr rfl) rfl | exact g_mt3 (.inr rfl) rfl | exact g_mi (.inr rfl) rfl) rfl rfl rfl ?_
      refine aw_nil ?_
      refine aw_region ?_
      refine aw_g (g_mo (.inl rfl) rfl) rfl rfl rfl ?_
      refine aw_g (by first | exact g_mv (.inl rfl) rfl | exact g_mp (.inl rfl) rfl | exact g_mo (.inl rfl) rfl | exact g_ml (.inl rfl) rfl | exact g_mc (.inl rfl) rfl | exact g_mr (.inl rfl) rfl | exact g_mf1 (.inl rfl) rfl | exact g_mf2 (.inl rfl) rfl | exact g_mw (.inl rfl) rfl | exact g_me (.inl rfl) rfl | exact g_ms (.inl rfl) rfl | exact g_mt2 (.inl rfl) rfl | exact g_mt3 (.inl rfl) rfl | exact g_mi (.inl rfl) rfl) rfl rfl rfl ?_
      refine aw_append rfl rfl rfl rfl rfl rfl rfl row_71 (by omega) ?_
      refine aw_g (g_mo (.inr rfl) rfl) rfl rfl rfl ?_
      refine aw_nil ?_
      refine aw_inBlock ?_
      refine aw_region ?_
      refine aw_g (by first | exact g_add rfl rfl rfl (wrap_eq (by first | omega | (simp; omega))) | exact g_add rfl rfl rfl rfl) rfl rfl rfl ?_
      refine aw_g (g_mv (.inl rfl) rfl) rfl rfl rfl ?_
      refine aw_nil ?_
      refine aw_ren 1 0 2 rfl rfl rfl rfl rfl rfl ?_
      refine aw_rerow (n := 0) rfl (flat_take_succ hx).symm ?_
      exact aw_next (k + 1) (by omega) (by omega) rfl (by (repeat refine Fr.le_set ?_ (by first | rfl | (simp; done))); exact Fr.le_none _) (by (repeat refine Hp.le_set ?_ rfl); exact Hp.le_none _) (by (repeat refine Fr.below_setB ?_ rfl); exact Fr.below_none _) (by (repeat refine Hp.below_set ?_ (by decide)); exact Hp.below_none _)
    · skip
      refine aw_exit rfl ?_
      refine aw_seq ?_
      refine aw_region ?_
      refine aw_g (g_mo (.inl rfl) rfl) rfl rfl rfl ?_
      refine aw_g (g_mo (.inr rfl) rfl) rfl rfl rfl ?_
      refine aw_nil ?_
      exact aw_ret1 rfl rfl (ret_fresh_eq rfl rfl (by rw [List.take_of_length_le (by omega)]))

end Go.Proofs.Ytmfgemnmelbflaa
