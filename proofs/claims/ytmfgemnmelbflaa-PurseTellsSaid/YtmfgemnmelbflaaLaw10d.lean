/- The laws of layer 10 (purse): PurseTells. -/
import Derived.Test.YtmfgemnmelbflaaLaw10
import Derived.Test.YtmfgemnmelbflaaRefC
set_option maxRecDepth 20000
namespace Go.Proofs.Ytmfgemnmelbflaa
set_option linter.unusedVariables false
set_option linter.unusedSimpArgs false
open Go.Ab Go.RowKit

theorem PurseTells_ok (p q : List Coin) (t : Tx) (l : List Tx) : Tells P 3 [.val (sl coinT) p, .val (sl coinT) q, .val txT t, .val (sl txT) l] (.val boolT true) := by
  refine fn_of_aw Try.func3 rfl rfl rfl (fun ext w hext => ?_)
  refine aw_fact (d := 0) rfl fact_sl (fun hsl0 => ?_)
  refine aw_fact (d := 1) rfl fact_sl (fun hsl1 => ?_)
  refine aw_fact (d := 3) rfl fact_sl (fun hsl3 => ?_)
  refine aw_fact (d := 2) rfl fact_txl (fun htl => ?_)
  refine aw_seq ?_
  refine aw_region ?_
  refine aw_box rfl rfl rfl rfl rfl ?_
  refine aw_g (g_mv (.inr rfl) rfl) rfl rfl rfl ?_
  refine aw_nil ?_
  refine aw_seq ?_
  refine aw_region ?_
  refine aw_g (g_call (awake_ok) rfl fn_9 trivial rfl) rfl rfl rfl ?_
  refine aw_g (g_mv (.inr rfl) rfl) rfl rfl rfl ?_
  refine aw_nil ?_
  refine aw_seq ?_
  refine aw_region ?_
  refine aw_g (g_load_b rfl rfl rfl (Lens.self _) ty_26) rfl rfl rfl ?_
  refine aw_g (g_call (few_ok _) rfl fn_10 ⟨(arg_v rfl), trivial⟩ rfl) rfl rfl rfl ?_
  refine aw_g (g_mv (.inr rfl) rfl) rfl rfl rfl ?_
  refine aw_nil ?_
  refine aw_seq ?_
  refine aw_region ?_
  refine aw_g (g_mv (.inl rfl) rfl) rfl rfl rfl ?_
  refine aw_g (g_call (fewAll_ok _ _) rfl fn_11 ⟨(arg_v rfl), (arg_v rfl), trivial⟩ rfl) rfl rfl rfl ?_
  refine aw_g (g_mv (.inr rfl) rfl) rfl rfl rfl ?_
  refine aw_nil ?_
  refine aw_seq ?_
  refine aw_seq ?_
  refine aw_region ?_
  refine aw_g (g_mv (.inl rfl) rfl) rfl rfl rfl ?_
  refine aw_g (g_not rfl rfl) rfl rfl rfl ?_
  refine aw_isf (d := 33) rfl (rfl) ?_
  refine aw_g (g_mv (.inl rfl) rfl) rfl rfl rfl ?_
  refine aw_gi (g_mv (.inl rfl) rfl) rfl rfl rfl rfl rfl rfl rfl rfl ?_
  refine aw_gi (g_not rfl rfl) rfl rfl rfl rfl rfl rfl rfl rfl ?_
  refine aw_splitp (d := 36) (p := ¬ few t = true) rfl (by simp) (fun g36 => ?_) (fun g36 => ?_)
  · skip
    refine aw_g (g_pick rfl rfl rfl) rfl rfl rfl ?_
    refine aw_g (g_mv (.inl rfl) rfl) rfl rfl rfl ?_
    refine aw_gn rfl rfl rfl rfl rfl rfl rfl rfl ?_
    refine aw_gn rfl rfl rfl rfl rfl rfl rfl rfl ?_
    refine aw_g (g_pick rfl rfl rfl) rfl rfl rfl ?_
    refine aw_g (g_mv (.inl rfl) rfl) rfl rfl rfl ?_
    refine aw_gn rfl rfl rfl rfl rfl rfl rfl rfl ?_
    refine aw_gn rfl rfl rfl rfl rfl rfl rfl rfl ?_
    refine aw_gn rfl rfl rfl rfl rfl rfl rfl rfl ?_
    refine aw_g (g_pick rfl rfl rfl) rfl rfl rfl ?_
    refine aw_g (g_mv (.inl rfl) rfl) rfl rfl rfl ?_
    refine aw_gn rfl rfl rfl rfl rfl rfl rfl rfl ?_
    refine aw_gn rfl rfl rfl rfl rfl rfl rfl rfl ?_
    refine aw_gn rfl rfl rfl rfl rfl rfl rfl rfl ?_
    refine aw_g (g_pick rfl rfl rfl) rfl rfl rfl ?_
    refine aw_nil ?_
    refine aw_if_t rfl (rfl) ?_
    refine aw_seq ?_
    refine aw_region ?_
    refine aw_g (g_mv (.inl rfl) rfl) rfl rfl rfl ?_
    refine aw_g (g_mv (.inr rfl) rfl) rfl rfl rfl ?_
    refine aw_nil ?_
    exact aw_ret1 rfl rfl (ret_eq rfl rfl)
  · skip
    refine aw_g (g_pick rfl rfl rfl) rfl rfl rfl ?_
    refine aw_g (g_mv (.inl rfl) rfl) rfl rfl rfl ?_
    refine aw_gi (g_mv (.inl rfl) rfl) rfl rfl rfl rfl rfl rfl rfl rfl ?_
    refine aw_gi (g_not rfl rfl) rfl rfl rfl rfl rfl rfl rfl rfl ?_
    refine aw_splitp (d := 40) (p := ¬ (l.all few && decide ((l.length : Int) ≤ 6)) = true) rfl (by cases (l.all few && decide ((l.length : Int) ≤ 6)) <;> rfl) (fun g40 => ?_) (fun g40 => ?_)
    · skip
      refine aw_g (g_pick rfl rfl rfl) rfl rfl rfl ?_
      refine aw_g (g_mv (.inl rfl) rfl) rfl rfl rfl ?_
      refine aw_gn rfl rfl rfl rfl rfl rfl rfl rfl ?_
      refine aw_gn rfl rfl rfl rfl rfl rfl rfl rfl ?_
      refine aw_gn rfl rfl rfl rfl rfl rfl rfl rfl ?_
      refine aw_g (g_pick rfl rfl rfl) rfl rfl rfl ?_
      refine aw_g (g_mv (.inl rfl) rfl) rfl rfl rfl ?_
      refine aw_gn rfl rfl rfl rfl rfl rfl rfl rfl ?_
      refine aw_gn rfl rfl rfl rfl rfl rfl rfl rfl ?_
      refine aw_gn rfl rfl rfl rfl rfl rfl rfl rfl ?_
      refine aw_g (g_pick rfl rfl rfl) rfl rfl rfl ?_
      refine aw_nil ?_
      refine aw_if_t rfl (rfl) ?_
      refine aw_seq ?_
      refine aw_region ?_
      refine aw_g (g_mv (.inl rfl) rfl) rfl rfl rfl ?_
      refine aw_g (g_mv (.inr rfl) rfl) rfl rfl rfl ?_
      refine aw_nil ?_
      exact aw_ret1 rfl rfl (ret_eq rfl rfl)
    · skip
      refine aw_g (g_pick rfl rfl rfl) rfl rfl rfl ?_
      refine aw_g (g_mv (.inl rfl) rfl) rfl rfl rfl ?_
      refine aw_gi (g_mv (.inl rfl) rfl) rfl rfl rfl rfl rfl rfl rfl rfl ?_
      refine aw_gi (g_len rfl rfl isl_22) rfl rfl rfl rfl rfl rfl rfl rfl ?_
      refine aw_gi (g_gtr rfl rfl rfl rfl) rfl rfl rfl rfl rfl rfl rfl rfl ?_
      refine aw_splitp (d := 45) (p := 60 < p.length) rfl (by first | rfl | (rw [decide_eq_decide]; simp only [IntL.toI, id_eq]; omega) | (simp [IntL.toI]; done) | (simp [IntL.toI]; omega)) (fun g45 => ?_) (fun g45 => ?_)
      · skip
        refine aw_g (g_pick rfl rfl rfl) rfl rfl rfl ?_
        refine aw_g (g_mv (.inl rfl) rfl) rfl rfl rfl ?_
        refine aw_gn rfl rfl rfl rfl rfl rfl rfl rfl ?_
        refine aw_gn rfl rfl rfl rfl rfl rfl rfl rfl ?_
        refine aw_gn rfl rfl rfl rfl rfl rfl rfl rfl ?_
        refine aw_g (g_pick rfl rfl rfl) rfl rfl rfl ?_
        refine aw_nil ?_
        refine aw_if_t rfl (rfl) ?_
        refine aw_seq ?_
        refine aw_region ?_
        refine aw_g (g_mv (.inl rfl) rfl) rfl rfl rfl ?_
        refine aw_g (g_mv (.inr rfl) rfl) rfl rfl rfl ?_
        refine aw_nil ?_
        exact aw_ret1 rfl rfl (ret_eq rfl rfl)
      · skip
        refine aw_g (g_pick rfl rfl rfl) rfl rfl rfl ?_
        refine aw_g (g_mv (.inl rfl) rfl) rfl rfl rfl ?_
        refine aw_gi (g_mv (.inl rfl) rfl) rfl rfl rfl rfl rfl rfl rfl rfl ?_
        refine aw_gi (g_len rfl rfl isl_22) rfl rfl rfl rfl rfl rfl rfl rfl ?_
        refine aw_gi (g_gtr rfl rfl rfl rfl) rfl rfl rfl rfl rfl rfl rfl rfl ?_
        refine aw_splitp (d := 50) (p := 60 < q.length) rfl (by first | rfl | (rw [decide_eq_decide]; simp only [IntL.toI, id_eq]; omega) | (simp [IntL.toI]; done) | (simp [IntL.toI]; omega)) (fun g50 => ?_) (fun g50 => ?_)
        · skip
          refine aw_g (g_pick rfl rfl rfl) rfl rfl rfl ?_
          refine aw_nil ?_
          refine aw_if_t rfl (rfl) ?_
          refine aw_seq ?_
          refine aw_region ?_
          refine aw_g (g_mv (.inl rfl) rfl) rfl rfl rfl ?_
          refine aw_g (g_mv (.inr rfl) rfl) rfl rfl rfl ?_
          refine aw_nil ?_
          exact aw_ret1 rfl rfl (ret_eq rfl rfl)
        · skip
          refine aw_g (g_pick rfl rfl rfl) rfl rfl rfl ?_
          refine aw_nil ?_
          refine aw_if_f rfl (rfl) ?_
          refine aw_skip ?_
          refine aw_seq ?_
          refine aw_region ?_
          refine aw_g (g_mv (.inl rfl) rfl) rfl rfl rfl ?_
          refine aw_g (g_load_b rfl rfl rfl (Lens.self _) ty_26) rfl rfl rfl ?_
          refine aw_g (g_call (tells_pub3 (spend_ok p t (by omega))) rfl fn_12 ⟨(arg_v rfl), (arg_v rfl), trivial⟩ rfl) rfl rfl rfl ?_
          refine aw_g (by first | exact g_mv (.inl rfl) rfl | exact g_mp (.inl rfl) rfl | exact g_mo (.inl rfl) rfl | exact g_ml (.inl rfl) rfl | exact g_mc (.inl rfl) rfl | exact g_mr (.inl rfl) rfl | exact g_mf1 (.inl rfl) rfl | exact g_mf2 (.inl rfl) rfl | exact g_mw (.inl rfl) rfl | exact g_me (.inl rfl) rfl | exact g_ms (.inl rfl) rfl | exact g_mt2 (.inl rfl) rfl | exact g_mt3 (.inl rfl) rfl | exact g_mi (.inl rfl) rfl) rfl rfl rfl ?_
          refine aw_g (by first | exact g_x20 rfl rfl | exact g_x30 rfl rfl) rfl rfl rfl ?_
          refine aw_g (by first | exact g_x21 rfl rfl | exact g_x31 rfl rfl) rfl rfl rfl ?_
          refine aw_g (g_x32 rfl rfl) rfl rfl rfl ?_
          refine aw_g (g_mv (.inr rfl) rfl) rfl rfl rfl ?_
          refine aw_g (g_mv (.inr rfl) rfl) rfl rfl rfl ?_
          refine aw_g (g_mv (.inr rfl) rfl) rfl rfl rfl ?_
          refine aw_nil ?_
          refine aw_seq ?_
          refine aw_region ?_
          refine aw_g (g_mv (.inl rfl) rfl) rfl rfl rfl ?_
          refine aw_g (g_load_b rfl rfl rfl (Lens.self _) ty_26) rfl rfl rfl ?_
          refine aw_g (g_call (rspend_ok _ _) rfl fn_13 ⟨(arg_v rfl), (arg_v rfl), trivial⟩ rfl) rfl rfl rfl ?_
          refine aw_g (by first | exact g_mv (.inl rfl) rfl | exact g_mp (.inl rfl) rfl | exact g_mo (.inl rfl) rfl | exact g_ml (.inl rfl) rfl | exact g_mc (.inl rfl) rfl | exact g_mr (.inl rfl) rfl | exact g_mf1 (.inl rfl) rfl | exact g_mf2 (.inl rfl) rfl | exact g_mw (.inl rfl) rfl | exact g_me (.inl rfl) rfl | exact g_ms (.inl rfl) rfl | exact g_mt2 (.inl rfl) rfl | exact g_mt3 (.inl rfl) rfl | exact g_mi (.inl rfl) rfl) rfl rfl rfl ?_
          refine aw_g (by first | exact g_x20 rfl rfl | exact g_x30 rfl rfl) rfl rfl rfl ?_
          refine aw_g (by first | exact g_x21 rfl rfl | exact g_x31 rfl rfl) rfl rfl rfl ?_
          refine aw_g (g_x32 rfl rfl) rfl rfl rfl ?_
          refine aw_g (g_mv (.inr rfl) rfl) rfl rfl rfl ?_
          refine aw_g (g_mv (.inr rfl) rfl) rfl rfl rfl ?_
          refine aw_g (g_mv (.inr rfl) rfl) rfl rfl rfl ?_
          refine aw_nil ?_
          refine aw_seq ?_
          refine aw_region ?_
          refine aw_g (g_mv (.inl rfl) rfl) rfl rfl rfl ?_
          refine aw_g (g_mv (.inl rfl) rfl) rfl rfl rfl ?_
          refine aw_g (g_call (tells_pub2 (apply_ok p l (by omega))) rfl fn_14 ⟨(arg_v rfl), (arg_v rfl), trivial⟩ rfl) rfl rfl rfl ?_
          refine aw_g (by first | exact g_mv (.inl rfl) rfl | exact g_mp (.inl rfl) rfl | exact g_mo (.inl rfl) rfl | exact g_ml (.inl rfl) rfl | exact g_mc (.inl rfl) rfl | exact g_mr (.inl rfl) rfl | exact g_mf1 (.inl rfl) rfl | exact g_mf2 (.inl rfl) rfl | exact g_mw (.inl rfl) rfl | exact g_me (.inl rfl) rfl | exact g_ms (.inl rfl) rfl | exact g_mt2 (.inl rfl) rfl | exact g_mt3 (.inl rfl) rfl | exact g_mi (.inl rfl) rfl) rfl rfl rfl ?_
          refine aw_g (by first | exact g_x20 rfl rfl | exact g_x30 rfl rfl) rfl rfl rfl ?_
          refine aw_g (by first | exact g_x21 rfl rfl | exact g_x31 rfl rfl) rfl rfl rfl ?_
          refine aw_g (g_mv (.inr rfl) rfl) rfl rfl rfl ?_
          refine aw_g (g_mv (.inr rfl) rfl) rfl rfl rfl ?_
          refine aw_nil ?_
          refine aw_seq ?_
          refine aw_region ?_
          refine aw_g (g_mv (.inl rfl) rfl) rfl rfl rfl ?_
          refine aw_g (g_mv (.inl rfl) rfl) rfl rfl rfl ?_
          refine aw_g (g_call (rapply_ok _ _) rfl fn_15 ⟨(arg_v rfl), (arg_v rfl), trivial⟩ rfl) rfl rfl rfl ?_
          refine aw_g (by first | exact g_mv (.inl rfl) rfl | exact g_mp (.inl rfl) rfl | exact g_mo (.inl rfl) rfl | exact g_ml (.inl rfl) rfl | exact g_mc (.inl rfl) rfl | exact g_mr (.inl rfl) rfl | exact g_mf1 (.inl rfl) rfl | exact g_mf2 (.inl rfl) rfl | exact g_mw (.inl rfl) rfl | exact g_me (.inl rfl) rfl | exact g_ms (.inl rfl) rfl | exact g_mt2 (.inl rfl) rfl | exact g_mt3 (.inl rfl) rfl | exact g_mi (.inl rfl) rfl) rfl rfl rfl ?_
          refine aw_g (by first | exact g_x20 rfl rfl | exact g_x30 rfl rfl) rfl rfl rfl ?_
          refine aw_g (by first | exact g_x21 rfl rfl | exact g_x31 rfl rfl) rfl rfl rfl ?_
          refine aw_g (g_mv (.inr rfl) rfl) rfl rfl rfl ?_
          refine aw_g (g_mv (.inr rfl) rfl) rfl rfl rfl ?_
          refine aw_nil ?_
          refine aw_seq ?_
          refine aw_region ?_
          refine aw_g (g_mv (.inl rfl) rfl) rfl rfl rfl ?_
          refine aw_g (g_mv (.inl rfl) rfl) rfl rfl rfl ?_
          refine aw_g (g_call (rsame_ok _ _) rfl fn_16 ⟨(arg_v rfl), (arg_v rfl), trivial⟩ rfl) rfl rfl rfl ?_
          refine aw_ist (d := 81) rfl (decide_eq_true rfl) ?_
          refine aw_g (g_mv (.inr rfl) rfl) rfl rfl rfl ?_
          refine aw_nil ?_
          refine aw_seq ?_
          refine aw_region ?_
          refine aw_g (g_mv (.inl rfl) rfl) rfl rfl rfl ?_
          refine aw_g (g_mv (.inl rfl) rfl) rfl rfl rfl ?_
          refine aw_g (g_call (rsame_ok _ _) rfl fn_16 ⟨(arg_v rfl), (arg_v rfl), trivial⟩ rfl) rfl rfl rfl ?_
          refine aw_ist (d := 84) rfl (decide_eq_true rfl) ?_
          refine aw_g (g_mv (.inr rfl) rfl) rfl rfl rfl ?_
          refine aw_nil ?_
          refine aw_seq ?_
          refine aw_region ?_
          refine aw_g (g_mv (.inl rfl) rfl) rfl rfl rfl ?_
          refine aw_g (g_call (rmay_ok _) rfl fn_17 ⟨(arg_v rfl), trivial⟩ rfl) rfl rfl rfl ?_
          refine aw_g (g_mv (.inr rfl) rfl) rfl rfl rfl ?_
          refine aw_nil ?_
          refine aw_seq ?_
          refine aw_region ?_
          refine aw_g (g_mv (.inl rfl) rfl) rfl rfl rfl ?_
          refine aw_g (g_mv (.inl rfl) rfl) rfl rfl rfl ?_
          refine aw_g (g_call (rsame_ok _ _) rfl fn_16 ⟨(arg_v rfl), (arg_v rfl), trivial⟩ rfl) rfl rfl rfl ?_
          refine aw_g (g_mv (.inr rfl) rfl) rfl rfl rfl ?_
          refine aw_nil ?_
          refine aw_seq ?_
          refine aw_seq ?_
          refine aw_region ?_
          refine aw_g (g_mv (.inr rfl) rfl) rfl rfl rfl ?_
          refine aw_nil ?_
          refine aw_block ?_
          refine aw_loopI (ι := Nat) 1 rfl (fun (k : Nat) => ((((((((((((((Fr.none).set 0 (.val (sl coinT) p)).set 1 (.val (sl coinT) q)).set 6 (.ptr 0 0)).set 13 (.val i64T (spendOf p t).2.1)).set 14 (.val i64T (spendOf p t).2.2)).set 16 (.val i64T (spendOf p t).2.1)).set 17 (.val i64T (spendOf p t).2.2)).set 19 (.val i64T (applyOf p l).2)).set 21 (.val i64T (applyOf p l).2)).set 22 (.val boolT true)).set 23 (.val boolT true)).set 24 (.val boolT (mayCoins p))).set 25 (.val boolT (decide (p = q)))).set 26 (.val i64T (k : Int))) (fun (k : Nat) => (Hp.none).set 0 (.box 26 txT t)) (fun (k : Nat) => k ≤ t.ins.length) (fun (k : Nat) => t.ins.length - k) (0) (Nat.zero_le _) (by (repeat refine Fr.le_set ?_ (by first | rfl | (simp; done))); exact Fr.le_none _) (by (repeat refine Hp.le_set ?_ rfl); exact Hp.le_none _) (by (repeat refine Fr.below_setB ?_ rfl); exact Fr.below_none _) (by (repeat refine Hp.below_set ?_ (by decide)); exact Hp.below_none _) ?_
          intro k hinv
          refine aw_seq ?_
          refine aw_seq ?_
          refine aw_region ?_
          refine aw_g (g_mv (.inl rfl) rfl) rfl rfl rfl ?_
          refine aw_g (g_fa_p rfl rfl fd_26_0 rfl) rfl rfl rfl ?_
          refine aw_g (g_load_b rfl rfl rfl L_Tx_ins ty_23) rfl rfl rfl ?_
          refine aw_g (g_len rfl rfl isl_23) rfl rfl rfl ?_
          refine aw_g (g_lss rfl rfl rfl rfl) rfl rfl rfl ?_
          refine aw_nil ?_
          refine aw_ifc (p := k < t.ins.length) rfl (by first | rfl | (rw [decide_eq_decide]; simp only [IntL.toI, id_eq]; omega) | (simp [IntL.toI]; done) | (simp [IntL.toI]; omega)) (fun ht94 => ?_) (fun ht94 => ?_)
          · skip
            obtain ⟨x, hx⟩ : ∃ x, t.ins[k]? = some x := ⟨_, List.getElem?_eq_getElem ht94⟩
            refine aw_skip ?_
            refine aw_seq ?_
            refine aw_block ?_
            refine aw_seq ?_
            refine aw_draw mixed (by decide +kernel) ?_
            refine GK.g (g_mv (.inl rfl) rfl) rfl rfl rfl ?_
            refine GK.g (g_fa_p rfl rfl fd_26_0 rfl) rfl rfl rfl ?_
            refine GK.g (g_load_b rfl rfl rfl L_Tx_ins ty_23) rfl rfl rfl ?_
            refine GK.g (g_mv (.inl rfl) rfl) rfl rfl rfl ?_
            refine GK.g (g_ia_i (i := k) rfl rfl rfl (by omega) sl_23 (by assumption)) rfl rfl rfl ?_
            refine GK.g (g_load_r rfl rfl ty_42) rfl rfl rfl ?_
            refine GK.g (g_call (find_ok _ _) rfl fn_18 ⟨(arg_v rfl), (by first | exact arg_same rfl | exact arg_bsl rfl | exact arg_own rfl rfl | exact arg_nil rfl | exact arg_rptr rfl | exact arg_fn rfl rfl | exact arg_lit rfl), trivial⟩ rfl) rfl rfl rfl ?_
            refine GK.g (g_mv (.inl rfl) rfl) rfl rfl rfl ?_
            refine GK.g (g_fa_p rfl rfl fd_26_0 rfl) rfl rfl rfl ?_
            refine GK.g (g_load_b rfl rfl rfl L_Tx_ins ty_23) rfl rfl rfl ?_
            refine GK.g (g_mv (.inl rfl) rfl) rfl rfl rfl ?_
            refine GK.g (g_ia_i (i := k) rfl rfl rfl (by omega) sl_23 (by assumption)) rfl rfl rfl ?_
            refine GK.g (g_load_r rfl rfl ty_42) rfl rfl rfl ?_
            refine GK.g (g_call (rfind_ok _ _) rfl fn_19 ⟨(arg_v rfl), (by first | exact arg_same rfl | exact arg_bsl rfl | exact arg_own rfl rfl | exact arg_nil rfl | exact arg_rptr rfl | exact arg_fn rfl rfl | exact arg_lit rfl), trivial⟩ rfl) rfl rfl rfl ?_
            refine GK.g (g_neq rfl rfl rfl rfl) rfl rfl rfl ?_
            refine GK.nil ?_
            refine aw_if_f rfl (by simp [IntL.toI, findC]) ?_
            refine aw_skip ?_
            refine aw_inBlock ?_
            refine aw_region ?_
            refine aw_g (g_mv (.inl rfl) rfl) rfl rfl rfl ?_
            refine aw_g (by first | exact g_add rfl rfl rfl (wrap_eq (by first | omega | (simp; omega))) | exact g_add rfl rfl rfl rfl) rfl rfl rfl ?_
            refine aw_g (g_mv (.inr rfl) rfl) rfl rfl rfl ?_
            refine aw_nil ?_
            exact aw_next (k + 1) (by omega) (by omega) rfl (by (repeat refine Fr.le_set ?_ (by first | rfl | (simp; done))); exact Fr.le_none _) (by (repeat refine Hp.le_set ?_ rfl); exact Hp.le_none _) (by (repeat refine Fr.below_setB ?_ rfl); exact Fr.below_none _) (by (repeat refine Hp.below_set ?_ (by decide)); exact Hp.below_none _)
          · skip
            refine aw_exit rfl ?_
            refine aw_seq ?_
            refine aw_region ?_
            refine aw_g (g_mv (.inl rfl) rfl) rfl rfl rfl ?_
            refine aw_ist (d := 112) rfl (rfl) ?_
            refine aw_g (g_mv (.inl rfl) rfl) rfl rfl rfl ?_
            refine aw_gi (g_mv (.inl rfl) rfl) rfl rfl rfl rfl rfl rfl rfl rfl ?_
            refine aw_gi (g_mv (.inl rfl) rfl) rfl rfl rfl rfl rfl rfl rfl rfl ?_
            refine aw_gi (g_eql rfl rfl rfl rfl) rfl rfl rfl rfl rfl rfl rfl rfl ?_
            refine aw_ist (d := 116) rfl (decide_eq_true rfl) ?_
            refine aw_g (g_pick rfl rfl rfl) rfl rfl rfl ?_
            refine aw_g (g_mv (.inl rfl) rfl) rfl rfl rfl ?_
            refine aw_gi (g_mv (.inl rfl) rfl) rfl rfl rfl rfl rfl rfl rfl rfl ?_
            refine aw_gi (g_mv (.inl rfl) rfl) rfl rfl rfl rfl rfl rfl rfl rfl ?_
            refine aw_gi (g_eql rfl rfl rfl rfl) rfl rfl rfl rfl rfl rfl rfl rfl ?_
            refine aw_ist (d := 121) rfl (decide_eq_true rfl) ?_
            refine aw_g (g_pick rfl rfl rfl) rfl rfl rfl ?_
            refine aw_g (g_mv (.inl rfl) rfl) rfl rfl rfl ?_
            refine aw_gi (g_mv (.inl rfl) rfl) rfl rfl rfl rfl rfl rfl rfl rfl ?_
            refine aw_ist (d := 124) rfl (rfl) ?_
            refine aw_g (g_pick rfl rfl rfl) rfl rfl rfl ?_
            refine aw_g (g_mv (.inl rfl) rfl) rfl rfl rfl ?_
            refine aw_gi (g_mv (.inl rfl) rfl) rfl rfl rfl rfl rfl rfl rfl rfl ?_
            refine aw_gi (g_mv (.inl rfl) rfl) rfl rfl rfl rfl rfl rfl rfl rfl ?_
            refine aw_gi (g_eql rfl rfl rfl rfl) rfl rfl rfl rfl rfl rfl rfl rfl ?_
            refine aw_ist (d := 129) rfl (decide_eq_true rfl) ?_
            refine aw_g (g_pick rfl rfl rfl) rfl rfl rfl ?_
            refine aw_g (g_mv (.inl rfl) rfl) rfl rfl rfl ?_
            refine aw_gi (g_mv (.inl rfl) rfl) rfl rfl rfl rfl rfl rfl rfl rfl ?_
            refine aw_gi (g_call (may_ok _) rfl fn_20 ⟨(arg_v rfl), trivial⟩ rfl) rfl rfl rfl rfl rfl rfl rfl rfl ?_
            refine aw_gi (g_mv (.inl rfl) rfl) rfl rfl rfl rfl rfl rfl rfl rfl ?_
            refine aw_gi (g_eqlB rfl rfl rfl ub_4) rfl rfl rfl rfl rfl rfl rfl rfl ?_
            refine aw_ist (d := 135) rfl (by simp) ?_
            refine aw_g (g_pick rfl rfl rfl) rfl rfl rfl ?_
            refine aw_g (g_mv (.inl rfl) rfl) rfl rfl rfl ?_
            refine aw_gi (g_mv (.inl rfl) rfl) rfl rfl rfl rfl rfl rfl rfl rfl ?_
            refine aw_gi (g_mv (.inl rfl) rfl) rfl rfl rfl rfl rfl rfl rfl rfl ?_
            refine aw_gi (g_call (same_ok _ _) rfl fn_21 ⟨(arg_v rfl), (arg_v rfl), trivial⟩ rfl) rfl rfl rfl rfl rfl rfl rfl rfl ?_
            refine aw_gi (g_mv (.inl rfl) rfl) rfl rfl rfl rfl rfl rfl rfl rfl ?_
            refine aw_gi (g_eqlB rfl rfl rfl ub_4) rfl rfl rfl rfl rfl rfl rfl rfl ?_
            refine aw_ist (d := 142) rfl (by simp) ?_
            refine aw_g (g_pick rfl rfl rfl) rfl rfl rfl ?_
            refine aw_g (g_mv (.inl rfl) rfl) rfl rfl rfl ?_
            refine aw_gi (g_mv (.inl rfl) rfl) rfl rfl rfl rfl rfl rfl rfl rfl ?_
            refine aw_gi (g_call (psum_ok _) rfl fn_22 ⟨(arg_v rfl), trivial⟩ rfl) rfl rfl rfl rfl rfl rfl rfl rfl ?_
            refine aw_gi (g_mv (.inl rfl) rfl) rfl rfl rfl rfl rfl rfl rfl rfl ?_
            refine aw_gi (g_call (rsum_ok _) rfl fn_23 ⟨(arg_v rfl), trivial⟩ rfl) rfl rfl rfl rfl rfl rfl rfl rfl ?_
            refine aw_gi (g_eql rfl rfl rfl rfl) rfl rfl rfl rfl rfl rfl rfl rfl ?_
            refine aw_ist (d := 149) rfl (decide_eq_true rfl) ?_
            refine aw_g (g_pick rfl rfl rfl) rfl rfl rfl ?_
            refine aw_g (g_mv (.inr rfl) rfl) rfl rfl rfl ?_
            refine aw_nil ?_
            exact aw_ret1 rfl rfl (ret_eq rfl rfl)

end Go.Proofs.Ytmfgemnmelbflaa
