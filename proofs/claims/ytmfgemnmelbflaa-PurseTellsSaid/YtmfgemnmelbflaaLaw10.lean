/- The laws of layer 10 (purse): small parts; PurseFinds. -/
import Derived.Test.YtmfgemnmelbflaaSums
set_option maxRecDepth 20000
namespace Go.Proofs.Ytmfgemnmelbflaa
set_option linter.unusedVariables false
set_option linter.unusedSimpArgs false
open Go.Ab Go.RowKit

def few (t : Tx) : Bool := decide (t.ins.length ≤ 6 ∧ t.outs.length ≤ 6)
def wakeT (v : Int) : Tx := ⟨[], [⟨v, 1⟩]⟩
def wakeC : Coin := ⟨⟨idOf (wakeT 50), 0⟩, ⟨50, 1⟩⟩
theorem awake_made (v : Int) : madeOf [] (wakeT v) = ([⟨⟨idOf (wakeT v), 0⟩, ⟨v, 1⟩⟩], 0) := by
  unfold madeOf
  rw [if_neg (by simp)]
  unfold newN sortC wakeT
  simp
theorem awake_one : applyOf [] [wakeT 50] = ([wakeC], 0) := by
  unfold applyOf
  rw [if_neg (by decide), if_neg (by decide)]
  have h : runTxs [] 50 (remTxs [wakeT 50] 0) = .inr ([], 50) := rfl
  rw [h]
  simp only []
  rw [show isFirst [wakeT 50] = true from rfl]
  simp only [if_true, List.getElem?_cons_zero]
  rw [if_neg (by decide), awake_made]
  rfl
theorem awake_two : applyOf [] [wakeT 51] = ([], 8) := by
  unfold applyOf
  rw [if_neg (by decide), if_neg (by decide)]
  have h : runTxs [] 50 (remTxs [wakeT 51] 0) = .inr ([], 50) := rfl
  rw [h]
  simp only []
  rw [show isFirst [wakeT 51] = true from rfl]
  simp only [if_true, List.getElem?_cons_zero]
  rw [if_neg (by decide), awake_made]
  rfl
theorem awake_may : mayCoins [wakeC] = true := mayCoins_iff.2 ⟨fun c hc => by simp at hc; subst hc; rfl, by simp [Sorted], by simp⟩
theorem awake_sum : (if mayCoins [wakeC] = true then worthF (·.out.v) [wakeC] else 0) = 50 := by rw [if_pos awake_may]; rfl
theorem awake_find : idx (fun c => decide (c.inn = wakeC.inn)) [wakeC] = 0 := by unfold idx; simp

theorem few_ok (t : Tx) : Tells P 10 [.val txT t] (.val boolT (few t)) := by
  refine fn_of_aw Try.func10 rfl rfl rfl (fun ext w hext => ?_)
  refine aw_seq ?_
  refine aw_region ?_
  refine aw_box rfl rfl rfl rfl rfl ?_
  refine aw_g (g_mv (.inr rfl) rfl) rfl rfl rfl ?_
  refine aw_nil ?_
  refine aw_seq ?_
  refine aw_region ?_
  refine aw_g (g_fa_p rfl rfl fd_26_0 rfl) rfl rfl rfl ?_
  refine aw_g (g_load_b rfl rfl rfl L_Tx_ins ty_23) rfl rfl rfl ?_
  refine aw_g (g_len rfl rfl isl_23) rfl rfl rfl ?_
  refine aw_g (g_leq rfl rfl rfl rfl) rfl rfl rfl ?_
  refine aw_splitp (d := 6) (p := t.ins.length ≤ 6) rfl (by first | rfl | (rw [decide_eq_decide]; simp only [IntL.toI, id_eq]; omega) | (simp [IntL.toI]; done) | (simp [IntL.toI]; omega)) (fun g6 => ?_) (fun g6 => ?_)
  · skip
    refine aw_g (g_mv (.inl rfl) rfl) rfl rfl rfl ?_
    refine aw_gi (g_fa_p rfl rfl fd_26_1 rfl) rfl rfl rfl rfl rfl rfl rfl rfl ?_
    refine aw_gi (g_load_b rfl rfl rfl L_Tx_outs ty_24) rfl rfl rfl rfl rfl rfl rfl rfl ?_
    refine aw_gi (g_len rfl rfl isl_24) rfl rfl rfl rfl rfl rfl rfl rfl ?_
    refine aw_gi (g_leq rfl rfl rfl rfl) rfl rfl rfl rfl rfl rfl rfl rfl ?_
    refine aw_g (g_pick rfl rfl rfl) rfl rfl rfl ?_
    refine aw_g (g_mv (.inr rfl) rfl) rfl rfl rfl ?_
    refine aw_nil ?_
    exact aw_ret1 rfl rfl (ret_eq rfl (by unfold few; symm; first | (rw [decide_eq_decide]; simp only [IntL.toI, id_eq]; omega) | (apply decide_eq_false; omega) | (simp [g6]; done) | (simp [g6]; omega)))
  · skip
    refine aw_g (g_mv (.inl rfl) rfl) rfl rfl rfl ?_
    refine aw_gn rfl rfl rfl rfl rfl rfl rfl rfl ?_
    refine aw_gn rfl rfl rfl rfl rfl rfl rfl rfl ?_
    refine aw_gn rfl rfl rfl rfl rfl rfl rfl rfl ?_
    refine aw_gn rfl rfl rfl rfl rfl rfl rfl rfl ?_
    refine aw_g (g_pick rfl rfl rfl) rfl rfl rfl ?_
    refine aw_g (g_mv (.inr rfl) rfl) rfl rfl rfl ?_
    refine aw_nil ?_
    exact aw_ret1 rfl rfl (ret_eq rfl (by unfold few; symm; first | (rw [decide_eq_decide]; simp only [IntL.toI, id_eq]; omega) | (apply decide_eq_false; omega) | (simp [g6]; done) | (simp [g6]; omega)))

theorem fewAll_ok (l : List Tx) (m : Int) : Tells P 11 [.val (bsl txT) l, .val i64T m] (.val boolT (l.all few && decide ((l.length : Int) ≤ m))) := by
  refine fn_of_aw Try.func11 rfl rfl rfl (fun ext w hext => ?_)
  refine aw_fact (d := 0) rfl fact_sl (fun hsl0 => ?_)
  refine aw_fact (d := 1) rfl fact_int (fun hin1 => ?_)
  refine aw_seq ?_
  refine aw_region ?_
  refine aw_g (g_mv (.inr rfl) rfl) rfl rfl rfl ?_
  refine aw_nil ?_
  refine aw_seq ?_
  refine aw_seq ?_
  refine aw_region ?_
  refine aw_g (g_mv (.inr rfl) rfl) rfl rfl rfl ?_
  refine aw_nil ?_
  refine aw_block ?_
  refine aw_loopI (ι := Nat) 0 rfl (fun (k : Nat) => (((Fr.none).set 0 (.val (bsl txT) l)).set 1 (.val i64T m)).set 5 (.val i64T (k : Int))) (fun (k : Nat) => Hp.none) (fun (k : Nat) => k ≤ l.length ∧ (l.take k).all few = true) (fun (k : Nat) => l.length - k) (0) (⟨Nat.zero_le _, rfl⟩) (by (repeat refine Fr.le_set ?_ (by first | rfl | (simp; done))); exact Fr.le_none _) (by (repeat refine Hp.le_set ?_ rfl); exact Hp.le_none _) (by (repeat refine Fr.below_setB ?_ rfl); exact Fr.below_none _) (by (repeat refine Hp.below_set ?_ (by decide)); exact Hp.below_none _) ?_
  intro k hinv
  refine aw_seq ?_
  refine aw_seq ?_
  refine aw_region ?_
  refine aw_g (g_mv (.inl rfl) rfl) rfl rfl rfl ?_
  refine aw_g (g_mv (.inl rfl) rfl) rfl rfl rfl ?_
  refine aw_g (g_len rfl rfl isl_27) rfl rfl rfl ?_
  refine aw_g (g_lss rfl rfl rfl rfl) rfl rfl rfl ?_
  refine aw_nil ?_
  refine aw_ifc (p := k < l.length) rfl (by first | rfl | (rw [decide_eq_decide]; simp only [IntL.toI, id_eq]; omega) | (simp [IntL.toI]; done) | (simp [IntL.toI]; omega)) (fun ht10 => ?_) (fun ht10 => ?_)
  · skip
    obtain ⟨t, ht⟩ : ∃ t, l[k]? = some t := ⟨_, List.getElem?_eq_getElem ht10⟩
    refine aw_skip ?_
    refine aw_seq ?_
    refine aw_block ?_
    refine aw_seq ?_
    refine aw_region ?_
    refine aw_g (g_mv (.inl rfl) rfl) rfl rfl rfl ?_
    refine aw_g (g_mv (.inl rfl) rfl) rfl rfl rfl ?_
    refine aw_g (g_ia_n rfl rfl rfl sl_27 (by assumption)) rfl rfl rfl ?_
    refine aw_g (g_load_r rfl rfl ty_26) rfl rfl rfl ?_
    refine aw_g (g_call (few_ok _) rfl fn_10 ⟨(by first | exact arg_same rfl | exact arg_bsl rfl | exact arg_own rfl rfl | exact arg_nil rfl | exact arg_rptr rfl | exact arg_fn rfl rfl | exact arg_lit rfl), trivial⟩ rfl) rfl rfl rfl ?_
    refine aw_g (g_mv (.inr rfl) rfl) rfl rfl rfl ?_
    refine aw_nil ?_
    refine aw_seq ?_
    refine aw_region ?_
    refine aw_g (g_mv (.inl rfl) rfl) rfl rfl rfl ?_
    refine aw_g (g_not rfl rfl) rfl rfl rfl ?_
    refine aw_nil ?_
    refine aw_ifc (p := ¬ few t = true) rfl (by simp) (fun ht19 => ?_) (fun ht19 => ?_)
    · skip
      refine aw_seq ?_
      refine aw_region ?_
      refine aw_g (g_mv (.inr rfl) rfl) rfl rfl rfl ?_
      refine aw_nil ?_
      exact aw_ret1 rfl rfl (ret_eq rfl (by symm; rw [Bool.and_eq_false_iff]; left; rw [List.all_eq_false]; exact ⟨t, List.mem_of_getElem? ht, ht19⟩))
    · skip
      refine aw_skip ?_
      refine aw_inBlock ?_
      refine aw_region ?_
      refine aw_g (g_mv (.inl rfl) rfl) rfl rfl rfl ?_
      refine aw_g (by first | exact g_add rfl rfl rfl (wrap_eq (by first | omega | (simp; omega))) | exact g_add rfl rfl rfl rfl) rfl rfl rfl ?_
      refine aw_g (g_mv (.inr rfl) rfl) rfl rfl rfl ?_
      refine aw_nil ?_
      exact aw_next (k + 1) (⟨by omega, by rw [List.take_add_one, ht, List.all_append, hinv.2]; simp [Classical.not_not.1 ht19]⟩) (by omega) rfl (by (repeat refine Fr.le_set ?_ (by first | rfl | (simp; done))); exact Fr.le_none _) (by (repeat refine Hp.le_set ?_ rfl); exact Hp.le_none _) (by (repeat refine Fr.below_setB ?_ rfl); exact Fr.below_none _) (by (repeat refine Hp.below_set ?_ (by decide)); exact Hp.below_none _)
  · skip
    refine aw_exit rfl ?_
    refine aw_seq ?_
    refine aw_region ?_
    refine aw_g (g_mv (.inl rfl) rfl) rfl rfl rfl ?_
    refine aw_g (g_len rfl rfl isl_27) rfl rfl rfl ?_
    refine aw_g (g_mv (.inl rfl) rfl) rfl rfl rfl ?_
    refine aw_g (g_leq rfl rfl rfl rfl) rfl rfl rfl ?_
    refine aw_g (g_mv (.inr rfl) rfl) rfl rfl rfl ?_
    refine aw_nil ?_
    exact aw_ret1 rfl rfl (ret_eq rfl (by rw [List.take_of_length_le (by omega)] at hinv; rw [hinv.2, Bool.true_and]; rfl))

theorem awake_ok : Tells P 9 [] (.val boolT true) := by
  refine fn_of_aw Try.func9 rfl rfl rfl (fun ext w hext => ?_)
  have hw0 : ([wakeC] : List Coin)[0]? = some wakeC := rfl
  refine aw_seq ?_
  refine aw_region ?_
  refine aw_g (g_mv (.inr rfl) rfl) rfl rfl rfl ?_
  refine aw_nil ?_
  refine aw_seq ?_
  refine aw_region ?_
  refine aw_g (g_build rfl ze_48 bd_48 (.cons fd_48_0 L_Out_v ty_3 rfl (.cons fd_48_1 L_Out_to ty_3 rfl .nil)) rfl) rfl rfl rfl ?_
  refine aw_g (g_bslice (T := outT) (xs := [_]) rfl sl_24 row_24 ⟨rfl, rfl, trivial⟩ rfl rfl) rfl rfl rfl ?_
  refine aw_g (g_build rfl ze_26 bd_26 (.cons fd_26_1 L_Tx_outs ty_24 rfl .nil) rfl) rfl rfl rfl ?_
  refine aw_g (g_bslice (T := txT) (xs := [_]) rfl sl_27 row_27 ⟨rfl, rfl, trivial⟩ rfl rfl) rfl rfl rfl ?_
  refine aw_g (g_call (tells_pub2 (apply_ok [] [wakeT 50] (by simp))) rfl fn_14 ⟨(by first | exact arg_same rfl | exact arg_bsl rfl | exact arg_own rfl rfl | exact arg_nil rfl | exact arg_rptr rfl | exact arg_fn rfl rfl | exact arg_lit rfl), (arg_v rfl), trivial⟩ rfl) rfl rfl rfl ?_
  refine aw_g (by first | exact g_mv (.inl rfl) rfl | exact g_mp (.inl rfl) rfl | exact g_mo (.inl rfl) rfl | exact g_ml (.inl rfl) rfl | exact g_mc (.inl rfl) rfl | exact g_mr (.inl rfl) rfl | exact g_mf1 (.inl rfl) rfl | exact g_mf2 (.inl rfl) rfl | exact g_mw (.inl rfl) rfl | exact g_me (.inl rfl) rfl | exact g_ms (.inl rfl) rfl | exact g_mt2 (.inl rfl) rfl | exact g_mt3 (.inl rfl) rfl | exact g_mi (.inl rfl) rfl) rfl rfl rfl ?_
  refine aw_g (by first | exact g_x20 rfl rfl | exact g_x30 rfl rfl) rfl rfl rfl ?_
  refine aw_g (by first | exact g_x21 rfl rfl | exact g_x31 rfl rfl) rfl rfl rfl ?_
  refine aw_g (g_mv (.inr rfl) rfl) rfl rfl rfl ?_
  refine aw_reval (d := 1) (y := [wakeC]) rfl (by rw [awake_one]) ?_
  refine aw_g (g_mv (.inr rfl) rfl) rfl rfl rfl ?_
  refine aw_reval (d := 2) (y := (0 : Int)) rfl (by rw [awake_one]) ?_
  refine aw_nil ?_
  refine aw_seq ?_
  refine aw_region ?_
  refine aw_g (g_build rfl ze_48 bd_48 (.cons fd_48_0 L_Out_v ty_3 rfl (.cons fd_48_1 L_Out_to ty_3 rfl .nil)) rfl) rfl rfl rfl ?_
  refine aw_g (g_bslice (T := outT) (xs := [_]) rfl sl_24 row_24 ⟨rfl, rfl, trivial⟩ rfl rfl) rfl rfl rfl ?_
  refine aw_g (g_build rfl ze_26 bd_26 (.cons fd_26_1 L_Tx_outs ty_24 rfl .nil) rfl) rfl rfl rfl ?_
  refine aw_g (g_bslice (T := txT) (xs := [_]) rfl sl_27 row_27 ⟨rfl, rfl, trivial⟩ rfl rfl) rfl rfl rfl ?_
  refine aw_g (g_call (tells_pub2 (apply_ok [] [wakeT 51] (by simp))) rfl fn_14 ⟨(by first | exact arg_same rfl | exact arg_bsl rfl | exact arg_own rfl rfl | exact arg_nil rfl | exact arg_rptr rfl | exact arg_fn rfl rfl | exact arg_lit rfl), (arg_v rfl), trivial⟩ rfl) rfl rfl rfl ?_
  refine aw_g (by first | exact g_mv (.inl rfl) rfl | exact g_mp (.inl rfl) rfl | exact g_mo (.inl rfl) rfl | exact g_ml (.inl rfl) rfl | exact g_mc (.inl rfl) rfl | exact g_mr (.inl rfl) rfl | exact g_mf1 (.inl rfl) rfl | exact g_mf2 (.inl rfl) rfl | exact g_mw (.inl rfl) rfl | exact g_me (.inl rfl) rfl | exact g_ms (.inl rfl) rfl | exact g_mt2 (.inl rfl) rfl | exact g_mt3 (.inl rfl) rfl | exact g_mi (.inl rfl) rfl) rfl rfl rfl ?_
  refine aw_g (by first | exact g_x20 rfl rfl | exact g_x30 rfl rfl) rfl rfl rfl ?_
  refine aw_g (by first | exact g_x21 rfl rfl | exact g_x31 rfl rfl) rfl rfl rfl ?_
  refine aw_g (g_mv (.inr rfl) rfl) rfl rfl rfl ?_
  refine aw_reval (d := 3) (y := []) rfl (by rw [awake_two]) ?_
  refine aw_g (g_mv (.inr rfl) rfl) rfl rfl rfl ?_
  refine aw_reval (d := 4) (y := (8 : Int)) rfl (by rw [awake_two]) ?_
  refine aw_nil ?_
  refine aw_seq ?_
  refine aw_region ?_
  refine aw_g (g_mv (.inl rfl) rfl) rfl rfl rfl ?_
  refine aw_g (g_eql rfl rfl rfl rfl) rfl rfl rfl ?_
  refine aw_ist (d := 22) rfl (rfl) ?_
  refine aw_g (g_mv (.inl rfl) rfl) rfl rfl rfl ?_
  refine aw_gi (g_mv (.inl rfl) rfl) rfl rfl rfl rfl rfl rfl rfl rfl ?_
  refine aw_gi (g_len rfl rfl isl_22) rfl rfl rfl rfl rfl rfl rfl rfl ?_
  refine aw_gi (g_eql rfl rfl rfl rfl) rfl rfl rfl rfl rfl rfl rfl rfl ?_
  refine aw_ist (d := 26) rfl (rfl) ?_
  refine aw_g (g_pick rfl rfl rfl) rfl rfl rfl ?_
  refine aw_g (g_mv (.inl rfl) rfl) rfl rfl rfl ?_
  refine aw_gi (g_mv (.inl rfl) rfl) rfl rfl rfl rfl rfl rfl rfl rfl ?_
  refine aw_gi (g_ia_i (i := 0) rfl rfl rfl (by omega) sl_22 (by assumption)) rfl rfl rfl rfl rfl rfl rfl rfl ?_
  refine aw_gi (g_fa_r rfl rfl fd_50_1 L_Coin_out) rfl rfl rfl rfl rfl rfl rfl rfl ?_
  refine aw_gi (g_fa_r rfl rfl fd_48_0 L_Out_v) rfl rfl rfl rfl rfl rfl rfl rfl ?_
  refine aw_gi (g_load_r rfl rfl ty_3) rfl rfl rfl rfl rfl rfl rfl rfl ?_
  refine aw_gi (g_eql rfl rfl rfl rfl) rfl rfl rfl rfl rfl rfl rfl rfl ?_
  refine aw_ist (d := 34) rfl (rfl) ?_
  refine aw_g (g_pick rfl rfl rfl) rfl rfl rfl ?_
  refine aw_g (g_mv (.inl rfl) rfl) rfl rfl rfl ?_
  refine aw_gi (g_mv (.inl rfl) rfl) rfl rfl rfl rfl rfl rfl rfl rfl ?_
  refine aw_gi (g_eql rfl rfl rfl rfl) rfl rfl rfl rfl rfl rfl rfl rfl ?_
  refine aw_ist (d := 38) rfl (rfl) ?_
  refine aw_g (g_pick rfl rfl rfl) rfl rfl rfl ?_
  refine aw_g (g_mv (.inl rfl) rfl) rfl rfl rfl ?_
  refine aw_gi (g_mv (.inl rfl) rfl) rfl rfl rfl rfl rfl rfl rfl rfl ?_
  refine aw_gi (g_len rfl rfl isl_22) rfl rfl rfl rfl rfl rfl rfl rfl ?_
  refine aw_gi (g_eql rfl rfl rfl rfl) rfl rfl rfl rfl rfl rfl rfl rfl ?_
  refine aw_ist (d := 43) rfl (rfl) ?_
  refine aw_g (g_pick rfl rfl rfl) rfl rfl rfl ?_
  refine aw_g (g_mv (.inl rfl) rfl) rfl rfl rfl ?_
  refine aw_gi (g_mv (.inl rfl) rfl) rfl rfl rfl rfl rfl rfl rfl rfl ?_
  refine aw_gi (g_call (may_ok [wakeC]) rfl fn_20 ⟨(arg_v rfl), trivial⟩ rfl) rfl rfl rfl rfl rfl rfl rfl rfl ?_
  refine aw_ist (d := 47) rfl (awake_may) ?_
  refine aw_g (g_pick rfl rfl rfl) rfl rfl rfl ?_
  refine aw_g (g_mv (.inl rfl) rfl) rfl rfl rfl ?_
  refine aw_gi (g_mv (.inl rfl) rfl) rfl rfl rfl rfl rfl rfl rfl rfl ?_
  refine aw_gi (g_call (psum_ok [wakeC]) rfl fn_22 ⟨(arg_v rfl), trivial⟩ rfl) rfl rfl rfl rfl rfl rfl rfl rfl ?_
  refine aw_gi (g_eql rfl rfl rfl rfl) rfl rfl rfl rfl rfl rfl rfl rfl ?_
  refine aw_ist (d := 52) rfl (by rw [awake_sum]; rfl) ?_
  refine aw_g (g_pick rfl rfl rfl) rfl rfl rfl ?_
  refine aw_g (g_mv (.inl rfl) rfl) rfl rfl rfl ?_
  refine aw_gi (g_mv (.inl rfl) rfl) rfl rfl rfl rfl rfl rfl rfl rfl ?_
  refine aw_gi (g_mv (.inl rfl) rfl) rfl rfl rfl rfl rfl rfl rfl rfl ?_
  refine aw_gi (g_ia_i (i := 0) rfl rfl rfl (by omega) sl_22 (by assumption)) rfl rfl rfl rfl rfl rfl rfl rfl ?_
  refine aw_gi (g_fa_r rfl rfl fd_50_0 L_Coin_inn) rfl rfl rfl rfl rfl rfl rfl rfl ?_
  refine aw_gi (g_load_r rfl rfl ty_42) rfl rfl rfl rfl rfl rfl rfl rfl ?_
  refine aw_gi (g_call (find_ok [wakeC] wakeC.inn) rfl fn_18 ⟨(arg_v rfl), (by first | exact arg_same rfl | exact arg_bsl rfl | exact arg_own rfl rfl | exact arg_nil rfl | exact arg_rptr rfl | exact arg_fn rfl rfl | exact arg_lit rfl), trivial⟩ rfl) rfl rfl rfl rfl rfl rfl rfl rfl ?_
  refine aw_gi (g_eql rfl rfl rfl rfl) rfl rfl rfl rfl rfl rfl rfl rfl ?_
  refine aw_ist (d := 61) rfl (by rw [awake_find]; rfl) ?_
  refine aw_g (g_pick rfl rfl rfl) rfl rfl rfl ?_
  refine aw_g (g_mv (.inl rfl) rfl) rfl rfl rfl ?_
  refine aw_gi (g_mv (.inl rfl) rfl) rfl rfl rfl rfl rfl rfl rfl rfl ?_
  refine aw_gi (g_mv (.inl rfl) rfl) rfl rfl rfl rfl rfl rfl rfl rfl ?_
  refine aw_gi (g_call (same_ok [wakeC] [wakeC]) rfl fn_21 ⟨(arg_v rfl), (arg_v rfl), trivial⟩ rfl) rfl rfl rfl rfl rfl rfl rfl rfl ?_
  refine aw_ist (d := 66) rfl (by simp) ?_
  refine aw_g (g_pick rfl rfl rfl) rfl rfl rfl ?_
  refine aw_g (g_mv (.inr rfl) rfl) rfl rfl rfl ?_
  refine aw_nil ?_
  exact aw_ret1 rfl rfl (ret_eq rfl rfl)

theorem PurseFinds_ok (p : List Coin) (x : In) (i : Int) : Tells P 8 [.val (sl coinT) p, .val inT x, .val i64T i] (.val boolT true) := by
  refine fn_of_aw Try.func8 rfl rfl rfl (fun ext w hext => ?_)
  refine aw_fact (d := 0) rfl fact_sl (fun hsl0 => ?_)
  refine aw_fact (d := 2) rfl fact_int (fun hin2 => ?_)
  refine aw_seq ?_
  refine aw_region ?_
  refine aw_box rfl rfl rfl rfl rfl ?_
  refine aw_g (g_mv (.inr rfl) rfl) rfl rfl rfl ?_
  refine aw_nil ?_
  refine aw_seq ?_
  refine aw_region ?_
  refine aw_g (g_call (awake_ok) rfl fn_9 trivial rfl) rfl rfl rfl ?_
  refine aw_g (g_mv (.inr rfl) rfl) rfl rfl rfl ?_
  refine aw_nil ?_
  refine aw_seq ?_
  refine aw_seq ?_
  refine aw_region ?_
  refine aw_g (g_mv (.inl rfl) rfl) rfl rfl rfl ?_
  refine aw_g (g_not rfl rfl) rfl rfl rfl ?_
  refine aw_isf (d := 12) rfl (rfl) ?_
  refine aw_g (g_mv (.inl rfl) rfl) rfl rfl rfl ?_
  refine aw_gi (g_mv (.inl rfl) rfl) rfl rfl rfl rfl rfl rfl rfl rfl ?_
  refine aw_gi (g_len rfl rfl isl_22) rfl rfl rfl rfl rfl rfl rfl rfl ?_
  refine aw_gi (g_gtr rfl rfl rfl rfl) rfl rfl rfl rfl rfl rfl rfl rfl ?_
  refine aw_g (g_pick rfl rfl rfl) rfl rfl rfl ?_
  refine aw_nil ?_
  refine aw_ifc (p := 60 < p.length) rfl (by first | rfl | (rw [decide_eq_decide]; simp only [IntL.toI, id_eq]; omega) | (simp [IntL.toI]; done) | (simp [IntL.toI]; omega)) (fun ht17 => ?_) (fun ht17 => ?_)
  · skip
    refine aw_seq ?_
    refine aw_region ?_
    refine aw_g (g_mv (.inl rfl) rfl) rfl rfl rfl ?_
    refine aw_g (g_mv (.inr rfl) rfl) rfl rfl rfl ?_
    refine aw_nil ?_
    exact aw_ret1 rfl rfl (ret_eq rfl rfl)
  · skip
    refine aw_skip ?_
    refine aw_seq ?_
    refine aw_region ?_
    refine aw_g (g_mv (.inl rfl) rfl) rfl rfl rfl ?_
    refine aw_g (g_load_b rfl rfl rfl (Lens.self _) ty_42) rfl rfl rfl ?_
    refine aw_g (g_call (find_ok p x) rfl fn_18 ⟨(arg_v rfl), (arg_v rfl), trivial⟩ rfl) rfl rfl rfl ?_
    refine aw_g (g_mv (.inr rfl) rfl) rfl rfl rfl ?_
    refine aw_reval (d := 8) (y := findC p x) rfl rfl ?_
    refine aw_nil ?_
    refine aw_seq ?_
    refine aw_seq ?_
    refine aw_draw mixed (by decide +kernel) ?_
    refine GK.g (g_mv (.inl rfl) rfl) rfl rfl rfl ?_
    refine GK.g (g_lss rfl rfl rfl rfl) rfl rfl rfl ?_
    refine GK_isf (d := 23) rfl (decide_eq_false (by simp only [IntL.toI, id_eq]; have := findC_ge p x; omega)) ?_
    refine GK.g (g_mv (.inl rfl) rfl) rfl rfl rfl ?_
    refine GK.gi (g_mv (.inl rfl) rfl) rfl rfl rfl rfl rfl rfl rfl rfl ?_
    refine GK.gi (g_mv (.inl rfl) rfl) rfl rfl rfl rfl rfl rfl rfl rfl ?_
    refine GK.gi (g_len rfl rfl isl_22) rfl rfl rfl rfl rfl rfl rfl rfl ?_
    refine GK.gi (g_geq rfl rfl rfl rfl) rfl rfl rfl rfl rfl rfl rfl rfl ?_
    refine GK_isf (d := 28) rfl (decide_eq_false (by simp only [IntL.toI, id_eq]; have := findC_lt p x; omega)) ?_
    refine GK.g (g_pick rfl rfl rfl) rfl rfl rfl ?_
    refine GK.g (g_mv (.inl rfl) rfl) rfl rfl rfl ?_
    refine GK.gi (g_mv (.inl rfl) rfl) rfl rfl rfl rfl rfl rfl rfl rfl ?_
    refine GK.gi (g_geq rfl rfl rfl rfl) rfl rfl rfl rfl rfl rfl rfl rfl ?_
    refine GK_splitp (d := 32) (p := 0 ≤ findC p x) rfl (by first | rfl | (rw [decide_eq_decide]; simp only [IntL.toI, id_eq]; omega) | (simp [IntL.toI]; done) | (simp [IntL.toI]; omega)) (fun g32 => ?_) (fun g32 => ?_)
    · skip
      obtain ⟨c, hc, hcx, _⟩ := findC_some g32
      refine GK.gi (g_mv (.inl rfl) rfl) rfl rfl rfl rfl rfl rfl rfl rfl ?_
      refine GK.gi (g_mv (.inl rfl) rfl) rfl rfl rfl rfl rfl rfl rfl rfl ?_
      refine GK.gi (g_mv (.inl rfl) rfl) rfl rfl rfl rfl rfl rfl rfl rfl ?_
      refine GK.gi (g_ia_i (i := (findC p x).toNat) rfl rfl rfl (by omega) sl_22 (by assumption)) rfl rfl rfl rfl rfl rfl rfl rfl ?_
      refine GK.gi (g_fa_r rfl rfl fd_50_0 L_Coin_inn) rfl rfl rfl rfl rfl rfl rfl rfl ?_
      refine GK.gi (g_load_r rfl rfl ty_42) rfl rfl rfl rfl rfl rfl rfl rfl ?_
      refine GK.gi (g_load_b rfl rfl rfl (Lens.self _) ty_42) rfl rfl rfl rfl rfl rfl rfl rfl ?_
      refine GK.gi (g_neqS rfl rfl rfl (eqt_42)) rfl rfl rfl rfl rfl rfl rfl rfl ?_
      refine GK_isf (d := 40) rfl (by simp [hcx]) ?_
      refine GK.gi (g_pick rfl rfl rfl) rfl rfl rfl rfl rfl rfl rfl rfl ?_
      refine GK.g (g_pick rfl rfl rfl) rfl rfl rfl ?_
      refine GK.nil ?_
      refine aw_if_f rfl (rfl) ?_
      refine aw_skip ?_
      refine aw_seq ?_
      refine aw_seq ?_
      refine aw_region ?_
      refine aw_g (g_mv (.inr rfl) rfl) rfl rfl rfl ?_
      refine aw_nil ?_
      refine aw_block ?_
      refine aw_loopI (ι := Nat) 1 rfl (fun (k : Nat) => (((((Fr.none).set 0 (.val (sl coinT) p)).set 2 (.val i64T i)).set 4 (.ptr 0 0)).set 8 (.val i64T (findC p x))).set 9 (.val i64T (k : Int))) (fun (k : Nat) => (Hp.none).set 0 (.box 42 inT x)) (fun (k : Nat) => k ≤ p.length) (fun (k : Nat) => p.length - k) (0) (Nat.zero_le _) (by (repeat refine Fr.le_set ?_ (by first | rfl | (simp; done))); exact Fr.le_none _) (by (repeat refine Hp.le_set ?_ rfl); exact Hp.le_none _) (by (repeat refine Fr.below_setB ?_ rfl); exact Fr.below_none _) (by (repeat refine Hp.below_set ?_ (by decide)); exact Hp.below_none _) ?_
      intro k hinv
      refine aw_seq ?_
      refine aw_seq ?_
      refine aw_region ?_
      refine aw_g (g_mv (.inl rfl) rfl) rfl rfl rfl ?_
      refine aw_g (g_mv (.inl rfl) rfl) rfl rfl rfl ?_
      refine aw_g (g_len rfl rfl isl_22) rfl rfl rfl ?_
      refine aw_g (g_lss rfl rfl rfl rfl) rfl rfl rfl ?_
      refine aw_nil ?_
      refine aw_ifc (p := k < p.length) rfl (by first | rfl | (rw [decide_eq_decide]; simp only [IntL.toI, id_eq]; omega) | (simp [IntL.toI]; done) | (simp [IntL.toI]; omega)) (fun ht46 => ?_) (fun ht46 => ?_)
      · skip
        obtain ⟨c, hc⟩ : ∃ c, p[k]? = some c := ⟨_, List.getElem?_eq_getElem ht46⟩
        refine aw_skip ?_
        refine aw_seq ?_
        refine aw_block ?_
        refine aw_seq ?_
        refine aw_draw mixed (by decide +kernel) ?_
        refine GK.g (g_mv (.inl rfl) rfl) rfl rfl rfl ?_
        refine GK.g (g_mv (.inl rfl) rfl) rfl rfl rfl ?_
        refine GK.g (g_ia_i (i := k) rfl rfl rfl (by omega) sl_22 (by assumption)) rfl rfl rfl ?_
        refine GK.g (g_fa_r rfl rfl fd_50_0 L_Coin_inn) rfl rfl rfl ?_
        refine GK.g (g_load_r rfl rfl ty_42) rfl rfl rfl ?_
        refine GK.g (g_load_b rfl rfl rfl (Lens.self _) ty_42) rfl rfl rfl ?_
        refine GK.g (g_eqlS rfl rfl rfl (eqt_42)) rfl rfl rfl ?_
        refine GK_splitp (d := 55) (p := c.inn = x) rfl (by simp) (fun g55 => ?_) (fun g55 => ?_)
        · skip
          refine GK.g (g_mv (.inl rfl) rfl) rfl rfl rfl ?_
          refine GK.gi (g_mv (.inl rfl) rfl) rfl rfl rfl rfl rfl rfl rfl rfl ?_
          refine GK.gi (g_lss rfl rfl rfl rfl) rfl rfl rfl rfl rfl rfl rfl rfl ?_
          refine GK_isf (d := 58) rfl (decide_eq_false (fun h => findC_none h c (List.mem_of_getElem? hc) g55)) ?_
          refine GK.gi (g_mv (.inl rfl) rfl) rfl rfl rfl rfl rfl rfl rfl rfl ?_
          refine GK.gi (g_mv (.inl rfl) rfl) rfl rfl rfl rfl rfl rfl rfl rfl ?_
          refine GK.gi (g_mv (.inl rfl) rfl) rfl rfl rfl rfl rfl rfl rfl rfl ?_
          refine GK.gi (g_lss rfl rfl rfl rfl) rfl rfl rfl rfl rfl rfl rfl rfl ?_
          refine GK_isf (d := 62) rfl (decide_eq_false (finds_first hc g55)) ?_
          refine GK.gi (g_pick rfl rfl rfl) rfl rfl rfl rfl rfl rfl rfl rfl ?_
          refine GK.g (g_pick rfl rfl rfl) rfl rfl rfl ?_
          refine GK.nil ?_
          refine aw_if_f rfl (rfl) ?_
          refine aw_skip ?_
          refine aw_inBlock ?_
          refine aw_region ?_
          refine aw_g (g_mv (.inl rfl) rfl) rfl rfl rfl ?_
          refine aw_g (by first | exact g_add rfl rfl rfl (wrap_eq (by first | omega | (simp; omega))) | exact g_add rfl rfl rfl rfl) rfl rfl rfl ?_
          refine aw_g (g_mv (.inr rfl) rfl) rfl rfl rfl ?_
          refine aw_nil ?_
          exact aw_next (k + 1) (by omega) (by omega) rfl (by (repeat refine Fr.le_set ?_ (by first | rfl | (simp; done))); exact Fr.le_none _) (by (repeat refine Hp.le_set ?_ rfl); exact Hp.le_none _) (by (repeat refine Fr.below_setB ?_ rfl); exact Fr.below_none _) (by (repeat refine Hp.below_set ?_ (by decide)); exact Hp.below_none _)
        · skip
          refine GK.g (g_mv (.inl rfl) rfl) rfl rfl rfl ?_
          refine GK.gn rfl rfl rfl rfl rfl rfl rfl rfl ?_
          refine GK.gn rfl rfl rfl rfl rfl rfl rfl rfl ?_
          refine GK.gn rfl rfl rfl rfl rfl rfl rfl rfl ?_
          refine GK.gu rfl rfl rfl rfl rfl rfl rfl ?_
          refine GK.gu rfl rfl rfl rfl rfl rfl rfl ?_
          refine GK.gu rfl rfl rfl rfl rfl rfl rfl ?_
          refine GK.gn rfl rfl rfl rfl rfl rfl rfl rfl ?_
          refine GK.g (g_pick rfl rfl rfl) rfl rfl rfl ?_
          refine GK.nil ?_
          refine aw_if_f rfl (rfl) ?_
          refine aw_skip ?_
          refine aw_inBlock ?_
          refine aw_region ?_
          refine aw_g (g_mv (.inl rfl) rfl) rfl rfl rfl ?_
          refine aw_g (by first | exact g_add rfl rfl rfl (wrap_eq (by first | omega | (simp; omega))) | exact g_add rfl rfl rfl rfl) rfl rfl rfl ?_
          refine aw_g (g_mv (.inr rfl) rfl) rfl rfl rfl ?_
          refine aw_nil ?_
          exact aw_next (k + 1) (by omega) (by omega) rfl (by (repeat refine Fr.le_set ?_ (by first | rfl | (simp; done))); exact Fr.le_none _) (by (repeat refine Hp.le_set ?_ rfl); exact Hp.le_none _) (by (repeat refine Fr.below_setB ?_ rfl); exact Fr.below_none _) (by (repeat refine Hp.below_set ?_ (by decide)); exact Hp.below_none _)
      · skip
        refine aw_exit rfl ?_
        refine aw_seq ?_
        refine aw_region ?_
        refine aw_g (g_mv (.inl rfl) rfl) rfl rfl rfl ?_
        refine aw_g (g_lss rfl rfl rfl rfl) rfl rfl rfl ?_
        refine aw_splitp (d := 66) (p := i < 0) rfl (by first | rfl | (rw [decide_eq_decide]; simp only [IntL.toI, id_eq]; omega) | (simp [IntL.toI]; done) | (simp [IntL.toI]; omega)) (fun g66 => ?_) (fun g66 => ?_)
        · skip
          refine aw_g (g_mv (.inl rfl) rfl) rfl rfl rfl ?_
          refine aw_gn rfl rfl rfl rfl rfl rfl rfl rfl ?_
          refine aw_gn rfl rfl rfl rfl rfl rfl rfl rfl ?_
          refine aw_gn rfl rfl rfl rfl rfl rfl rfl rfl ?_
          refine aw_gn rfl rfl rfl rfl rfl rfl rfl rfl ?_
          refine aw_g (g_pick rfl rfl rfl) rfl rfl rfl ?_
          refine aw_g (g_mv (.inl rfl) rfl) rfl rfl rfl ?_
          refine aw_gn rfl rfl rfl rfl rfl rfl rfl rfl ?_
          refine aw_gn rfl rfl rfl rfl rfl rfl rfl rfl ?_
          refine aw_gn rfl rfl rfl rfl rfl rfl rfl rfl ?_
          refine aw_g (g_pick rfl rfl rfl) rfl rfl rfl ?_
          refine aw_g (g_mv (.inl rfl) rfl) rfl rfl rfl ?_
          refine aw_gn rfl rfl rfl rfl rfl rfl rfl rfl ?_
          refine aw_gn rfl rfl rfl rfl rfl rfl rfl rfl ?_
          refine aw_gn rfl rfl rfl rfl rfl rfl rfl rfl ?_
          refine aw_gn rfl rfl rfl rfl rfl rfl rfl rfl ?_
          refine aw_gn rfl rfl rfl rfl rfl rfl rfl rfl ?_
          refine aw_gn rfl rfl rfl rfl rfl rfl rfl rfl ?_
          refine aw_gn rfl rfl rfl rfl rfl rfl rfl rfl ?_
          refine aw_gn rfl rfl rfl rfl rfl rfl rfl rfl ?_
          refine aw_gn rfl rfl rfl rfl rfl rfl rfl rfl ?_
          refine aw_g (g_pick rfl rfl rfl) rfl rfl rfl ?_
          refine aw_g (g_mv (.inr rfl) rfl) rfl rfl rfl ?_
          refine aw_nil ?_
          exact aw_ret1 rfl rfl (ret_eq rfl rfl)
        · skip
          refine aw_g (g_mv (.inl rfl) rfl) rfl rfl rfl ?_
          refine aw_gi (g_mv (.inl rfl) rfl) rfl rfl rfl rfl rfl rfl rfl rfl ?_
          refine aw_gi (g_mv (.inl rfl) rfl) rfl rfl rfl rfl rfl rfl rfl rfl ?_
          refine aw_gi (g_len rfl rfl isl_22) rfl rfl rfl rfl rfl rfl rfl rfl ?_
          refine aw_gi (g_geq rfl rfl rfl rfl) rfl rfl rfl rfl rfl rfl rfl rfl ?_
          refine aw_splitp (d := 71) (p := (p.length : Int) ≤ i) rfl (by first | rfl | (rw [decide_eq_decide]; simp only [IntL.toI, id_eq]; omega) | (simp [IntL.toI]; done) | (simp [IntL.toI]; omega)) (fun g71 => ?_) (fun g71 => ?_)
          · skip
            refine aw_g (g_pick rfl rfl rfl) rfl rfl rfl ?_
            refine aw_g (g_mv (.inl rfl) rfl) rfl rfl rfl ?_
            refine aw_gn rfl rfl rfl rfl rfl rfl rfl rfl ?_
            refine aw_gn rfl rfl rfl rfl rfl rfl rfl rfl ?_
            refine aw_gn rfl rfl rfl rfl rfl rfl rfl rfl ?_
            refine aw_g (g_pick rfl rfl rfl) rfl rfl rfl ?_
            refine aw_g (g_mv (.inl rfl) rfl) rfl rfl rfl ?_
            refine aw_gn rfl rfl rfl rfl rfl rfl rfl rfl ?_
            refine aw_gn rfl rfl rfl rfl rfl rfl rfl rfl ?_
            refine aw_gn rfl rfl rfl rfl rfl rfl rfl rfl ?_
            refine aw_gn rfl rfl rfl rfl rfl rfl rfl rfl ?_
            refine aw_gn rfl rfl rfl rfl rfl rfl rfl rfl ?_
            refine aw_gn rfl rfl rfl rfl rfl rfl rfl rfl ?_
            refine aw_gn rfl rfl rfl rfl rfl rfl rfl rfl ?_
            refine aw_gn rfl rfl rfl rfl rfl rfl rfl rfl ?_
            refine aw_gn rfl rfl rfl rfl rfl rfl rfl rfl ?_
            refine aw_g (g_pick rfl rfl rfl) rfl rfl rfl ?_
            refine aw_g (g_mv (.inr rfl) rfl) rfl rfl rfl ?_
            refine aw_nil ?_
            exact aw_ret1 rfl rfl (ret_eq rfl rfl)
          · skip
            obtain ⟨d, hd⟩ : ∃ d, p[i.toNat]? = some d := ⟨_, List.getElem?_eq_getElem (by omega)⟩
            refine aw_g (g_pick rfl rfl rfl) rfl rfl rfl ?_
            refine aw_g (g_mv (.inl rfl) rfl) rfl rfl rfl ?_
            refine aw_gi (g_mv (.inl rfl) rfl) rfl rfl rfl rfl rfl rfl rfl rfl ?_
            refine aw_gi (g_call (may_ok _) rfl fn_20 ⟨(arg_v rfl), trivial⟩ rfl) rfl rfl rfl rfl rfl rfl rfl rfl ?_
            refine aw_splitp (d := 75) (p := mayCoins p = true) rfl (by simp) (fun g75 => ?_) (fun g75 => ?_)
            · skip
              refine aw_gi (g_not rfl rfl) rfl rfl rfl rfl rfl rfl rfl rfl ?_
              refine aw_g (g_pick rfl rfl rfl) rfl rfl rfl ?_
              refine aw_g (g_mv (.inl rfl) rfl) rfl rfl rfl ?_
              refine aw_gi (g_mv (.inl rfl) rfl) rfl rfl rfl rfl rfl rfl rfl rfl ?_
              refine aw_gi (g_mv (.inl rfl) rfl) rfl rfl rfl rfl rfl rfl rfl rfl ?_
              refine aw_gi (g_mv (.inl rfl) rfl) rfl rfl rfl rfl rfl rfl rfl rfl ?_
              refine aw_gi (g_ia_i (i := i.toNat) rfl rfl rfl (by omega) sl_22 (by assumption)) rfl rfl rfl rfl rfl rfl rfl rfl ?_
              refine aw_gi (g_fa_r rfl rfl fd_50_0 L_Coin_inn) rfl rfl rfl rfl rfl rfl rfl rfl ?_
              refine aw_gi (g_load_r rfl rfl ty_42) rfl rfl rfl rfl rfl rfl rfl rfl ?_
              refine aw_gi (g_call (find_ok p d.inn) rfl fn_18 ⟨(arg_v rfl), (by first | exact arg_same rfl | exact arg_bsl rfl | exact arg_own rfl rfl | exact arg_nil rfl | exact arg_rptr rfl | exact arg_fn rfl rfl | exact arg_lit rfl), trivial⟩ rfl) rfl rfl rfl rfl rfl rfl rfl rfl ?_
              refine aw_gi (g_mv (.inl rfl) rfl) rfl rfl rfl rfl rfl rfl rfl rfl ?_
              refine aw_gi (g_eql rfl rfl rfl rfl) rfl rfl rfl rfl rfl rfl rfl rfl ?_
              refine aw_ist (d := 87) rfl (decide_eq_true (by have := find_sorted g75 hd; simp only [IntL.toI, id_eq]; omega)) ?_
              refine aw_g (g_pick rfl rfl rfl) rfl rfl rfl ?_
              refine aw_g (g_mv (.inr rfl) rfl) rfl rfl rfl ?_
              refine aw_nil ?_
              exact aw_ret1 rfl rfl (ret_eq rfl rfl)
            · skip
              refine aw_gi (g_not rfl rfl) rfl rfl rfl rfl rfl rfl rfl rfl ?_
              refine aw_g (g_pick rfl rfl rfl) rfl rfl rfl ?_
              refine aw_g (g_mv (.inl rfl) rfl) rfl rfl rfl ?_
              refine aw_gn rfl rfl rfl rfl rfl rfl rfl rfl ?_
              refine aw_gn rfl rfl rfl rfl rfl rfl rfl rfl ?_
              refine aw_gn rfl rfl rfl rfl rfl rfl rfl rfl ?_
              refine aw_gn rfl rfl rfl rfl rfl rfl rfl rfl ?_
              refine aw_gn rfl rfl rfl rfl rfl rfl rfl rfl ?_
              refine aw_gn rfl rfl rfl rfl rfl rfl rfl rfl ?_
              refine aw_gn rfl rfl rfl rfl rfl rfl rfl rfl ?_
              refine aw_gn rfl rfl rfl rfl rfl rfl rfl rfl ?_
              refine aw_gn rfl rfl rfl rfl rfl rfl rfl rfl ?_
              refine aw_g (g_pick rfl rfl rfl) rfl rfl rfl ?_
              refine aw_g (g_mv (.inr rfl) rfl) rfl rfl rfl ?_
              refine aw_nil ?_
              exact aw_ret1 rfl rfl (ret_eq rfl rfl)
    · skip
      refine GK.gi (g_mv (.inl rfl) rfl) rfl rfl rfl rfl rfl rfl rfl rfl ?_
      refine GK.gn rfl rfl rfl rfl rfl rfl rfl rfl ?_
      refine GK.gn rfl rfl rfl rfl rfl rfl rfl rfl ?_
      refine GK.gn rfl rfl rfl rfl rfl rfl rfl rfl ?_
      refine GK.gn rfl rfl rfl rfl rfl rfl rfl rfl ?_
      refine GK.gn rfl rfl rfl rfl rfl rfl rfl rfl ?_
      refine GK.gn rfl rfl rfl rfl rfl rfl rfl rfl ?_
      refine GK.gn rfl rfl rfl rfl rfl rfl rfl rfl ?_
      refine GK.gi (g_pick rfl rfl rfl) rfl rfl rfl rfl rfl rfl rfl rfl ?_
      refine GK.g (g_pick rfl rfl rfl) rfl rfl rfl ?_
      refine GK.nil ?_
      refine aw_if_f rfl (rfl) ?_
      refine aw_skip ?_
      refine aw_seq ?_
      refine aw_seq ?_
      refine aw_region ?_
      refine aw_g (g_mv (.inr rfl) rfl) rfl rfl rfl ?_
      refine aw_nil ?_
      refine aw_block ?_
      refine aw_loopI (ι := Nat) 1 rfl (fun (k : Nat) => (((((Fr.none).set 0 (.val (sl coinT) p)).set 2 (.val i64T i)).set 4 (.ptr 0 0)).set 8 (.val i64T (findC p x))).set 9 (.val i64T (k : Int))) (fun (k : Nat) => (Hp.none).set 0 (.box 42 inT x)) (fun (k : Nat) => k ≤ p.length) (fun (k : Nat) => p.length - k) (0) (Nat.zero_le _) (by (repeat refine Fr.le_set ?_ (by first | rfl | (simp; done))); exact Fr.le_none _) (by (repeat refine Hp.le_set ?_ rfl); exact Hp.le_none _) (by (repeat refine Fr.below_setB ?_ rfl); exact Fr.below_none _) (by (repeat refine Hp.below_set ?_ (by decide)); exact Hp.below_none _) ?_
      intro k hinv
      refine aw_seq ?_
      refine aw_seq ?_
      refine aw_region ?_
      refine aw_g (g_mv (.inl rfl) rfl) rfl rfl rfl ?_
      refine aw_g (g_mv (.inl rfl) rfl) rfl rfl rfl ?_
      refine aw_g (g_len rfl rfl isl_22) rfl rfl rfl ?_
      refine aw_g (g_lss rfl rfl rfl rfl) rfl rfl rfl ?_
      refine aw_nil ?_
      refine aw_ifc (p := k < p.length) rfl (by first | rfl | (rw [decide_eq_decide]; simp only [IntL.toI, id_eq]; omega) | (simp [IntL.toI]; done) | (simp [IntL.toI]; omega)) (fun ht46 => ?_) (fun ht46 => ?_)
      · skip
        obtain ⟨c, hc⟩ : ∃ c, p[k]? = some c := ⟨_, List.getElem?_eq_getElem ht46⟩
        refine aw_skip ?_
        refine aw_seq ?_
        refine aw_block ?_
        refine aw_seq ?_
        refine aw_draw mixed (by decide +kernel) ?_
        refine GK.g (g_mv (.inl rfl) rfl) rfl rfl rfl ?_
        refine GK.g (g_mv (.inl rfl) rfl) rfl rfl rfl ?_
        refine GK.g (g_ia_i (i := k) rfl rfl rfl (by omega) sl_22 (by assumption)) rfl rfl rfl ?_
        refine GK.g (g_fa_r rfl rfl fd_50_0 L_Coin_inn) rfl rfl rfl ?_
        refine GK.g (g_load_r rfl rfl ty_42) rfl rfl rfl ?_
        refine GK.g (g_load_b rfl rfl rfl (Lens.self _) ty_42) rfl rfl rfl ?_
        refine GK.g (g_eqlS rfl rfl rfl (eqt_42)) rfl rfl rfl ?_
        refine GK_splitp (d := 55) (p := c.inn = x) rfl (by simp) (fun g55 => ?_) (fun g55 => ?_)
        · skip
          refine GK.g (g_mv (.inl rfl) rfl) rfl rfl rfl ?_
          refine GK.gi (g_mv (.inl rfl) rfl) rfl rfl rfl rfl rfl rfl rfl rfl ?_
          refine GK.gi (g_lss rfl rfl rfl rfl) rfl rfl rfl rfl rfl rfl rfl rfl ?_
          refine GK_isf (d := 58) rfl (decide_eq_false (fun h => findC_none h c (List.mem_of_getElem? hc) g55)) ?_
          refine GK.gi (g_mv (.inl rfl) rfl) rfl rfl rfl rfl rfl rfl rfl rfl ?_
          refine GK.gi (g_mv (.inl rfl) rfl) rfl rfl rfl rfl rfl rfl rfl rfl ?_
          refine GK.gi (g_mv (.inl rfl) rfl) rfl rfl rfl rfl rfl rfl rfl rfl ?_
          refine GK.gi (g_lss rfl rfl rfl rfl) rfl rfl rfl rfl rfl rfl rfl rfl ?_
          refine GK_isf (d := 62) rfl (decide_eq_false (finds_first hc g55)) ?_
          refine GK.gi (g_pick rfl rfl rfl) rfl rfl rfl rfl rfl rfl rfl rfl ?_
          refine GK.g (g_pick rfl rfl rfl) rfl rfl rfl ?_
          refine GK.nil ?_
          refine aw_if_f rfl (rfl) ?_
          refine aw_skip ?_
          refine aw_inBlock ?_
          refine aw_region ?_
          refine aw_g (g_mv (.inl rfl) rfl) rfl rfl rfl ?_
          refine aw_g (by first | exact g_add rfl rfl rfl (wrap_eq (by first | omega | (simp; omega))) | exact g_add rfl rfl rfl rfl) rfl rfl rfl ?_
          refine aw_g (g_mv (.inr rfl) rfl) rfl rfl rfl ?_
          refine aw_nil ?_
          exact aw_next (k + 1) (by omega) (by omega) rfl (by (repeat refine Fr.le_set ?_ (by first | rfl | (simp; done))); exact Fr.le_none _) (by (repeat refine Hp.le_set ?_ rfl); exact Hp.le_none _) (by (repeat refine Fr.below_setB ?_ rfl); exact Fr.below_none _) (by (repeat refine Hp.below_set ?_ (by decide)); exact Hp.below_none _)
        · skip
          refine GK.g (g_mv (.inl rfl) rfl) rfl rfl rfl ?_
          refine GK.gn rfl rfl rfl rfl rfl rfl rfl rfl ?_
          refine GK.gn rfl rfl rfl rfl rfl rfl rfl rfl ?_
          refine GK.gn rfl rfl rfl rfl rfl rfl rfl rfl ?_
          refine GK.gu rfl rfl rfl rfl rfl rfl rfl ?_
          refine GK.gu rfl rfl rfl rfl rfl rfl rfl ?_
          refine GK.gu rfl rfl rfl rfl rfl rfl rfl ?_
          refine GK.gn rfl rfl rfl rfl rfl rfl rfl rfl ?_
          refine GK.g (g_pick rfl rfl rfl) rfl rfl rfl ?_
          refine GK.nil ?_
          refine aw_if_f rfl (rfl) ?_
          refine aw_skip ?_
          refine aw_inBlock ?_
          refine aw_region ?_
          refine aw_g (g_mv (.inl rfl) rfl) rfl rfl rfl ?_
          refine aw_g (by first | exact g_add rfl rfl rfl (wrap_eq (by first | omega | (simp; omega))) | exact g_add rfl rfl rfl rfl) rfl rfl rfl ?_
          refine aw_g (g_mv (.inr rfl) rfl) rfl rfl rfl ?_
          refine aw_nil ?_
          exact aw_next (k + 1) (by omega) (by omega) rfl (by (repeat refine Fr.le_set ?_ (by first | rfl | (simp; done))); exact Fr.le_none _) (by (repeat refine Hp.le_set ?_ rfl); exact Hp.le_none _) (by (repeat refine Fr.below_setB ?_ rfl); exact Fr.below_none _) (by (repeat refine Hp.below_set ?_ (by decide)); exact Hp.below_none _)
      · skip
        refine aw_exit rfl ?_
        refine aw_seq ?_
        refine aw_region ?_
        refine aw_g (g_mv (.inl rfl) rfl) rfl rfl rfl ?_
        refine aw_g (g_lss rfl rfl rfl rfl) rfl rfl rfl ?_
        refine aw_splitp (d := 66) (p := i < 0) rfl (by first | rfl | (rw [decide_eq_decide]; simp only [IntL.toI, id_eq]; omega) | (simp [IntL.toI]; done) | (simp [IntL.toI]; omega)) (fun g66 => ?_) (fun g66 => ?_)
        · skip
          refine aw_g (g_mv (.inl rfl) rfl) rfl rfl rfl ?_
          refine aw_gn rfl rfl rfl rfl rfl rfl rfl rfl ?_
          refine aw_gn rfl rfl rfl rfl rfl rfl rfl rfl ?_
          refine aw_gn rfl rfl rfl rfl rfl rfl rfl rfl ?_
          refine aw_gn rfl rfl rfl rfl rfl rfl rfl rfl ?_
          refine aw_g (g_pick rfl rfl rfl) rfl rfl rfl ?_
          refine aw_g (g_mv (.inl rfl) rfl) rfl rfl rfl ?_
          refine aw_gn rfl rfl rfl rfl rfl rfl rfl rfl ?_
          refine aw_gn rfl rfl rfl rfl rfl rfl rfl rfl ?_
          refine aw_gn rfl rfl rfl rfl rfl rfl rfl rfl ?_
          refine aw_g (g_pick rfl rfl rfl) rfl rfl rfl ?_
          refine aw_g (g_mv (.inl rfl) rfl) rfl rfl rfl ?_
          refine aw_gn rfl rfl rfl rfl rfl rfl rfl rfl ?_
          refine aw_gn rfl rfl rfl rfl rfl rfl rfl rfl ?_
          refine aw_gn rfl rfl rfl rfl rfl rfl rfl rfl ?_
          refine aw_gn rfl rfl rfl rfl rfl rfl rfl rfl ?_
          refine aw_gn rfl rfl rfl rfl rfl rfl rfl rfl ?_
          refine aw_gn rfl rfl rfl rfl rfl rfl rfl rfl ?_
          refine aw_gn rfl rfl rfl rfl rfl rfl rfl rfl ?_
          refine aw_gn rfl rfl rfl rfl rfl rfl rfl rfl ?_
          refine aw_gn rfl rfl rfl rfl rfl rfl rfl rfl ?_
          refine aw_g (g_pick rfl rfl rfl) rfl rfl rfl ?_
          refine aw_g (g_mv (.inr rfl) rfl) rfl rfl rfl ?_
          refine aw_nil ?_
          exact aw_ret1 rfl rfl (ret_eq rfl rfl)
        · skip
          refine aw_g (g_mv (.inl rfl) rfl) rfl rfl rfl ?_
          refine aw_gi (g_mv (.inl rfl) rfl) rfl rfl rfl rfl rfl rfl rfl rfl ?_
          refine aw_gi (g_mv (.inl rfl) rfl) rfl rfl rfl rfl rfl rfl rfl rfl ?_
          refine aw_gi (g_len rfl rfl isl_22) rfl rfl rfl rfl rfl rfl rfl rfl ?_
          refine aw_gi (g_geq rfl rfl rfl rfl) rfl rfl rfl rfl rfl rfl rfl rfl ?_
          refine aw_splitp (d := 71) (p := (p.length : Int) ≤ i) rfl (by first | rfl | (rw [decide_eq_decide]; simp only [IntL.toI, id_eq]; omega) | (simp [IntL.toI]; done) | (simp [IntL.toI]; omega)) (fun g71 => ?_) (fun g71 => ?_)
          · skip
            refine aw_g (g_pick rfl rfl rfl) rfl rfl rfl ?_
            refine aw_g (g_mv (.inl rfl) rfl) rfl rfl rfl ?_
            refine aw_gn rfl rfl rfl rfl rfl rfl rfl rfl ?_
            refine aw_gn rfl rfl rfl rfl rfl rfl rfl rfl ?_
            refine aw_gn rfl rfl rfl rfl rfl rfl rfl rfl ?_
            refine aw_g (g_pick rfl rfl rfl) rfl rfl rfl ?_
            refine aw_g (g_mv (.inl rfl) rfl) rfl rfl rfl ?_
            refine aw_gn rfl rfl rfl rfl rfl rfl rfl rfl ?_
            refine aw_gn rfl rfl rfl rfl rfl rfl rfl rfl ?_
            refine aw_gn rfl rfl rfl rfl rfl rfl rfl rfl ?_
            refine aw_gn rfl rfl rfl rfl rfl rfl rfl rfl ?_
            refine aw_gn rfl rfl rfl rfl rfl rfl rfl rfl ?_
            refine aw_gn rfl rfl rfl rfl rfl rfl rfl rfl ?_
            refine aw_gn rfl rfl rfl rfl rfl rfl rfl rfl ?_
            refine aw_gn rfl rfl rfl rfl rfl rfl rfl rfl ?_
            refine aw_gn rfl rfl rfl rfl rfl rfl rfl rfl ?_
            refine aw_g (g_pick rfl rfl rfl) rfl rfl rfl ?_
            refine aw_g (g_mv (.inr rfl) rfl) rfl rfl rfl ?_
            refine aw_nil ?_
            exact aw_ret1 rfl rfl (ret_eq rfl rfl)
          · skip
            obtain ⟨d, hd⟩ : ∃ d, p[i.toNat]? = some d := ⟨_, List.getElem?_eq_getElem (by omega)⟩
            refine aw_g (g_pick rfl rfl rfl) rfl rfl rfl ?_
            refine aw_g (g_mv (.inl rfl) rfl) rfl rfl rfl ?_
            refine aw_gi (g_mv (.inl rfl) rfl) rfl rfl rfl rfl rfl rfl rfl rfl ?_
            refine aw_gi (g_call (may_ok _) rfl fn_20 ⟨(arg_v rfl), trivial⟩ rfl) rfl rfl rfl rfl rfl rfl rfl rfl ?_
            refine aw_splitp (d := 75) (p := mayCoins p = true) rfl (by simp) (fun g75 => ?_) (fun g75 => ?_)
            · skip
              refine aw_gi (g_not rfl rfl) rfl rfl rfl rfl rfl rfl rfl rfl ?_
              refine aw_g (g_pick rfl rfl rfl) rfl rfl rfl ?_
              refine aw_g (g_mv (.inl rfl) rfl) rfl rfl rfl ?_
              refine aw_gi (g_mv (.inl rfl) rfl) rfl rfl rfl rfl rfl rfl rfl rfl ?_
              refine aw_gi (g_mv (.inl rfl) rfl) rfl rfl rfl rfl rfl rfl rfl rfl ?_
              refine aw_gi (g_mv (.inl rfl) rfl) rfl rfl rfl rfl rfl rfl rfl rfl ?_
              refine aw_gi (g_ia_i (i := i.toNat) rfl rfl rfl (by omega) sl_22 (by assumption)) rfl rfl rfl rfl rfl rfl rfl rfl ?_
              refine aw_gi (g_fa_r rfl rfl fd_50_0 L_Coin_inn) rfl rfl rfl rfl rfl rfl rfl rfl ?_
              refine aw_gi (g_load_r rfl rfl ty_42) rfl rfl rfl rfl rfl rfl rfl rfl ?_
              refine aw_gi (g_call (find_ok p d.inn) rfl fn_18 ⟨(arg_v rfl), (by first | exact arg_same rfl | exact arg_bsl rfl | exact arg_own rfl rfl | exact arg_nil rfl | exact arg_rptr rfl | exact arg_fn rfl rfl | exact arg_lit rfl), trivial⟩ rfl) rfl rfl rfl rfl rfl rfl rfl rfl ?_
              refine aw_gi (g_mv (.inl rfl) rfl) rfl rfl rfl rfl rfl rfl rfl rfl ?_
              refine aw_gi (g_eql rfl rfl rfl rfl) rfl rfl rfl rfl rfl rfl rfl rfl ?_
              refine aw_ist (d := 87) rfl (decide_eq_true (by have := find_sorted g75 hd; simp only [IntL.toI, id_eq]; omega)) ?_
              refine aw_g (g_pick rfl rfl rfl) rfl rfl rfl ?_
              refine aw_g (g_mv (.inr rfl) rfl) rfl rfl rfl ?_
              refine aw_nil ?_
              exact aw_ret1 rfl rfl (ret_eq rfl rfl)
            · skip
              refine aw_gi (g_not rfl rfl) rfl rfl rfl rfl rfl rfl rfl rfl ?_
              refine aw_g (g_pick rfl rfl rfl) rfl rfl rfl ?_
              refine aw_g (g_mv (.inl rfl) rfl) rfl rfl rfl ?_
              refine aw_gn rfl rfl rfl rfl rfl rfl rfl rfl ?_
              refine aw_gn rfl rfl rfl rfl rfl rfl rfl rfl ?_
              refine aw_gn rfl rfl rfl rfl rfl rfl rfl rfl ?_
              refine aw_gn rfl rfl rfl rfl rfl rfl rfl rfl ?_
              refine aw_gn rfl rfl rfl rfl rfl rfl rfl rfl ?_
              refine aw_gn rfl rfl rfl rfl rfl rfl rfl rfl ?_
              refine aw_gn rfl rfl rfl rfl rfl rfl rfl rfl ?_
              refine aw_gn rfl rfl rfl rfl rfl rfl rfl rfl ?_
              refine aw_gn rfl rfl rfl rfl rfl rfl rfl rfl ?_
              refine aw_g (g_pick rfl rfl rfl) rfl rfl rfl ?_
              refine aw_g (g_mv (.inr rfl) rfl) rfl rfl rfl ?_
              refine aw_nil ?_
              exact aw_ret1 rfl rfl (ret_eq rfl rfl)

end Go.Proofs.Ytmfgemnmelbflaa
