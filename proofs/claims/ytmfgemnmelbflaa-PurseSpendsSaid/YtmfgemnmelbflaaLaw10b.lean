/- The laws of layer 10 (purse): PurseFirst, PurseStays, PurseOne. -/
import Derived.Test.YtmfgemnmelbflaaSums
import Derived.Test.YtmfgemnmelbflaaLaw10
set_option maxRecDepth 20000
namespace Go.Proofs.Ytmfgemnmelbflaa
set_option linter.unusedVariables false
set_option linter.unusedSimpArgs false
open Go.Ab Go.RowKit

theorem first_runs {p : List Coin} {t : Tx} (hi : t.ins.length = 0) (hp : mayCoins p = true) : applyOf p [t] = if ¬ mayTx t = true then (p, 1) else if ¬ (madeOf p t).2 = 0 then (p, (madeOf p t).2) else if 50 < worthF (·.v) t.outs then (p, 8) else if 48 < (madeOf p t).1.length then (p, 11) else ((madeOf p t).1, 0) := by
  have hf : isFirst [t] = true := by simp [isFirst, hi]
  unfold applyOf
  rw [if_neg (Classical.not_not.2 hp), if_neg (by simp)]
  have h : runTxs p 50 (remTxs [t] 0) = .inr (p, 50) := by unfold remTxs; rw [if_pos ⟨hf, rfl⟩]; rfl
  rw [h]
  simp only [if_pos hf, List.getElem?_cons_zero]
theorem first_bad {p : List Coin} {t : Tx} {o : Out} (hi : t.ins.length = 0) (hp : mayCoins p = true) (ho : o ∈ t.outs) (hv : o.v < 0 ∨ 2199023255552 < o.v) : applyOf p [t] = (p, 1) := by
  rw [first_runs hi hp, if_pos]
  intro h
  have := outs_pos h o ho
  omega
theorem madeOf_err {p : List Coin} {t : Tx} : (madeOf p t).2 = 0 ∨ (madeOf p t).2 = 10 := by
  unfold madeOf
  split
  · exact .inr rfl
  · exact .inl rfl
theorem first_err {p : List Coin} {t : Tx} (hi : t.ins.length = 0) (hp : mayCoins p = true) (he : ¬ (applyOf p [t]).2 = 0) (hn : ¬ 50 < worthF (·.v) t.outs) (h1 : ¬ (applyOf p [t]).2 = 1) (h2 : ¬ (applyOf p [t]).2 = 10) : (applyOf p [t]).2 = 11 := by
  have hm := madeOf_err (p := p) (t := t)
  rw [first_runs hi hp] at he h1 h2 ⊢
  rw [if_neg hn] at *
  split at h1
  · exact absurd rfl h1
  · rename_i ht
    rw [if_neg ht] at *
    split at h1
    · rename_i hz
      rw [if_pos hz] at *
      rcases hm with hm | hm
      · exact absurd hm he
      · exact absurd hm h2
    · rename_i hz
      rw [if_neg hz] at *
      split
      · rfl
      · rename_i hl
        rw [if_neg hl] at he
        exact absurd rfl he
theorem first_good {p : List Coin} {t : Tx} (hi : t.ins.length = 0) (hp : mayCoins p = true) (he : (applyOf p [t]).2 = 0) : worthF (·.v) t.outs ≤ 50 ∧ (applyOf p [t]).1.length = p.length + t.outs.length ∧ sumOf (applyOf p [t]).1 = IntKind.i64.wrap (sumOf p + worthF (·.v) t.outs) := by
  have hA := (applyOf_tot (l := [t]) hp).1
  have hT := coins_tot (mayCoins_iff.1 hp).1 (mayCoins_iff.1 hp).2.2
  rw [sumOf_tot hA, sumOf_tot hp]
  rw [first_runs hi hp] at he ⊢
  split at he
  · exact absurd he (by simp)
  · rename_i ht
    rw [if_neg ht]
    have ho := outs_tot (Classical.not_not.1 ht)
    split at he
    · rename_i hz; exact absurd he hz
    · rename_i hz
      rw [if_neg hz]
      have hm := madeOf_tot (Classical.not_not.1 hz)
      split at he
      · exact absurd he (by simp)
      · rename_i hn
        rw [if_neg hn]
        split at he
        · exact absurd he (by simp)
        · rename_i hl
          rw [if_neg hl]
          refine ⟨Int.not_lt.1 hn, hm.2, ?_⟩
          rw [hm.1, ho.1, wrap_eq (by omega)]
theorem spend_err {p : List Coin} {t : Tx} (hp : mayCoins p = true) (he : (spendOf p t).2.2 ≠ 0) : (spendOf p t).1 = p := ((spendOf_tot hp).2.2 he).1
theorem spend_sum {p : List Coin} {t : Tx} (hp : mayCoins p = true) : IntKind.i64.wrap (sumOf (spendOf p t).1 + (spendOf p t).2.1) = sumOf p := by
  have h := spendOf_tot (t := t) hp
  have hT := coins_tot (mayCoins_iff.1 hp).1 (mayCoins_iff.1 hp).2.2
  rw [sumOf_tot (spendOf_may hp), sumOf_tot hp, wrap_eq (by omega)]
  exact h.2.1
theorem apply_sum {p : List Coin} {l : List Tx} (hp : mayCoins p = true) : sumOf (applyOf p l).1 ≤ IntKind.i64.wrap (sumOf p + 50) := by
  have h := applyOf_tot (l := l) hp
  have hT := coins_tot (mayCoins_iff.1 hp).1 (mayCoins_iff.1 hp).2.2
  rw [sumOf_tot h.1, sumOf_tot hp, wrap_eq (by omega)]
  exact h.2.1
theorem ap_none {p : List Coin} (hp : mayCoins p = true) : applyOf p [] = (p, 0) := by
  unfold applyOf
  rw [if_neg (Classical.not_not.2 hp), if_neg (by simp)]
  rfl
theorem notFirst {t : Tx} {l : List Tx} (hi : ¬ t.ins.length = 0) : isFirst (t :: l) = false := by simp [isFirst]; exact fun h => hi (by rw [h]; rfl)
theorem ap_one {p : List Coin} {t : Tx} (hp : mayCoins p = true) (hi : ¬ t.ins.length = 0) : applyOf p [t] = ((spendOf p t).1, (spendOf p t).2.2) := by
  have hf := notFirst (l := []) hi
  unfold applyOf
  rw [if_neg (Classical.not_not.2 hp), if_neg (by simp)]
  have h0 : remTxs [t] 0 = [t] := by unfold remTxs; rw [if_neg (by rw [hf]; simp)]; rfl
  rw [h0, runTxs.eq_2]
  by_cases h : (spendOf p t).2.2 = 0
  · rw [if_pos h, runTxs.eq_1]
    simp only [hf, h]
    rfl
  · rw [if_neg h, spend_err hp h]
theorem ap_two {p : List Coin} {t u : Tx} (hp : mayCoins p = true) (hi : ¬ t.ins.length = 0) : applyOf p [t, u] = if (spendOf p t).2.2 = 0 then (if (spendOf (spendOf p t).1 u).2.2 = 0 then ((spendOf (spendOf p t).1 u).1, 0) else (p, (spendOf (spendOf p t).1 u).2.2)) else (p, (spendOf p t).2.2) := by
  have hf := notFirst (l := [u]) hi
  unfold applyOf
  rw [if_neg (Classical.not_not.2 hp), if_neg (by simp)]
  have h0 : remTxs [t, u] 0 = [t, u] := by unfold remTxs; rw [if_neg (by rw [hf]; simp)]; rfl
  rw [h0, runTxs.eq_2]
  by_cases h : (spendOf p t).2.2 = 0
  · rw [if_pos h, if_pos h, runTxs.eq_2]
    by_cases k : (spendOf (spendOf p t).1 u).2.2 = 0
    · rw [if_pos k, if_pos k, runTxs.eq_1]
      simp only [hf]
      rfl
    · rw [if_neg k, if_neg k]
  · rw [if_neg h, if_neg h]
theorem few_lens {t : Tx} (h : few t = true) : t.ins.length ≤ 6 ∧ t.outs.length ≤ 6 := of_decide_eq_true h

theorem PurseFirst_ok (p : List Coin) (t : Tx) : Tells P 7 [.val (sl coinT) p, .val txT t] (.val boolT true) := by
  refine fn_of_aw Try.func7 rfl rfl rfl (fun ext w hext => ?_)
  refine aw_fact (d := 0) rfl fact_sl (fun hsl0 => ?_)
  refine aw_seq ?_
  refine aw_region ?_
  refine aw_box rfl rfl rfl rfl rfl ?_
  refine aw_g (g_mv (.inr rfl) rfl) rfl rfl rfl ?_
  refine aw_nil ?_
  refine aw_seq ?_
  refine aw_region ?_
  refine aw_g (g_call (awake_ok) rfl fn_9 trivial rfl) rfl rfl rfl ?_
  refine aw_g (g_mv (.inr rfl) rfl) rfl rfl rfl ?_
  refine aw_nil ?_
  refine aw_seq ?_
  refine aw_region ?_
  refine aw_g (g_load_b rfl rfl rfl (Lens.self _) ty_26) rfl rfl rfl ?_
  refine aw_g (g_call (few_ok _) rfl fn_10 ⟨(arg_v rfl), trivial⟩ rfl) rfl rfl rfl ?_
  refine aw_g (g_mv (.inr rfl) rfl) rfl rfl rfl ?_
  refine aw_nil ?_
  refine aw_seq ?_
  refine aw_seq ?_
  refine aw_region ?_
  refine aw_g (g_mv (.inl rfl) rfl) rfl rfl rfl ?_
  refine aw_g (g_not rfl rfl) rfl rfl rfl ?_
  refine aw_isf (d := 15) rfl (rfl) ?_
  refine aw_g (g_mv (.inl rfl) rfl) rfl rfl rfl ?_
  refine aw_gi (g_mv (.inl rfl) rfl) rfl rfl rfl rfl rfl rfl rfl rfl ?_
  refine aw_gi (g_not rfl rfl) rfl rfl rfl rfl rfl rfl rfl rfl ?_
  refine aw_splitp (d := 18) (p := ¬ few t = true) rfl (by simp) (fun g18 => ?_) (fun g18 => ?_)
  · skip
    refine aw_g (g_pick rfl rfl rfl) rfl rfl rfl ?_
    refine aw_g (g_mv (.inl rfl) rfl) rfl rfl rfl ?_
    refine aw_gn rfl rfl rfl rfl rfl rfl rfl rfl ?_
    refine aw_gn rfl rfl rfl rfl rfl rfl rfl rfl ?_
    refine aw_gn rfl rfl rfl rfl rfl rfl rfl rfl ?_
    refine aw_g (g_pick rfl rfl rfl) rfl rfl rfl ?_
    refine aw_g (g_mv (.inl rfl) rfl) rfl rfl rfl ?_
    refine aw_gn rfl rfl rfl rfl rfl rfl rfl rfl ?_
    refine aw_gn rfl rfl rfl rfl rfl rfl rfl rfl ?_
    refine aw_gn rfl rfl rfl rfl rfl rfl rfl rfl ?_
    refine aw_gn rfl rfl rfl rfl rfl rfl rfl rfl ?_
    refine aw_g (g_pick rfl rfl rfl) rfl rfl rfl ?_
    refine aw_nil ?_
    refine aw_if_t rfl (rfl) ?_
    refine aw_seq ?_
    refine aw_region ?_
    refine aw_g (g_mv (.inl rfl) rfl) rfl rfl rfl ?_
    refine aw_g (g_mv (.inr rfl) rfl) rfl rfl rfl ?_
    refine aw_nil ?_
    exact aw_ret1 rfl rfl (ret_eq rfl rfl)
  · skip
    have hfl := few_lens (Classical.not_not.1 g18)
    refine aw_g (g_pick rfl rfl rfl) rfl rfl rfl ?_
    refine aw_g (g_mv (.inl rfl) rfl) rfl rfl rfl ?_
    refine aw_gi (g_mv (.inl rfl) rfl) rfl rfl rfl rfl rfl rfl rfl rfl ?_
    refine aw_gi (g_call (may_ok _) rfl fn_20 ⟨(arg_v rfl), trivial⟩ rfl) rfl rfl rfl rfl rfl rfl rfl rfl ?_
    refine aw_gi (g_not rfl rfl) rfl rfl rfl rfl rfl rfl rfl rfl ?_
    refine aw_splitp (d := 23) (p := ¬ mayCoins p = true) rfl (by simp) (fun g23 => ?_) (fun g23 => ?_)
    · skip
      refine aw_g (g_pick rfl rfl rfl) rfl rfl rfl ?_
      refine aw_g (g_mv (.inl rfl) rfl) rfl rfl rfl ?_
      refine aw_gn rfl rfl rfl rfl rfl rfl rfl rfl ?_
      refine aw_gn rfl rfl rfl rfl rfl rfl rfl rfl ?_
      refine aw_gn rfl rfl rfl rfl rfl rfl rfl rfl ?_
      refine aw_gn rfl rfl rfl rfl rfl rfl rfl rfl ?_
      refine aw_g (g_pick rfl rfl rfl) rfl rfl rfl ?_
      refine aw_nil ?_
      refine aw_if_t rfl (rfl) ?_
      refine aw_seq ?_
      refine aw_region ?_
      refine aw_g (g_mv (.inl rfl) rfl) rfl rfl rfl ?_
      refine aw_g (g_mv (.inr rfl) rfl) rfl rfl rfl ?_
      refine aw_nil ?_
      exact aw_ret1 rfl rfl (ret_eq rfl rfl)
    · skip
      have hmp := Classical.not_not.1 g23
      have hpl := mayCoins_len hmp
      refine aw_g (g_pick rfl rfl rfl) rfl rfl rfl ?_
      refine aw_g (g_mv (.inl rfl) rfl) rfl rfl rfl ?_
      refine aw_gi (g_fa_p rfl rfl fd_26_0 rfl) rfl rfl rfl rfl rfl rfl rfl rfl ?_
      refine aw_gi (g_load_b rfl rfl rfl L_Tx_ins ty_23) rfl rfl rfl rfl rfl rfl rfl rfl ?_
      refine aw_gi (g_len rfl rfl isl_23) rfl rfl rfl rfl rfl rfl rfl rfl ?_
      refine aw_gi (g_gtr rfl rfl rfl rfl) rfl rfl rfl rfl rfl rfl rfl rfl ?_
      refine aw_splitp (d := 29) (p := ¬ t.ins.length = 0) rfl (by rw [decide_eq_decide]; simp only [IntL.toI, id_eq]; omega) (fun g29 => ?_) (fun g29 => ?_)
      · skip
        refine aw_g (g_pick rfl rfl rfl) rfl rfl rfl ?_
        refine aw_nil ?_
        refine aw_if_t rfl (rfl) ?_
        refine aw_seq ?_
        refine aw_region ?_
        refine aw_g (g_mv (.inl rfl) rfl) rfl rfl rfl ?_
        refine aw_g (g_mv (.inr rfl) rfl) rfl rfl rfl ?_
        refine aw_nil ?_
        exact aw_ret1 rfl rfl (ret_eq rfl rfl)
      · skip
        have g29 := Classical.not_not.1 g29
        refine aw_g (g_pick rfl rfl rfl) rfl rfl rfl ?_
        refine aw_nil ?_
        refine aw_if_f rfl (rfl) ?_
        refine aw_skip ?_
        refine aw_seq ?_
        refine aw_region ?_
        refine aw_g (g_mv (.inl rfl) rfl) rfl rfl rfl ?_
        refine aw_g (g_load_b rfl rfl rfl (Lens.self _) ty_26) rfl rfl rfl ?_
        refine aw_g (g_bslice (T := txT) (xs := [_]) rfl sl_27 row_27 ⟨rfl, rfl, trivial⟩ rfl rfl) rfl rfl rfl ?_
        refine aw_g (g_call (tells_pub2 (apply_ok p [t] (by omega))) rfl fn_14 ⟨(arg_v rfl), (arg_v rfl), trivial⟩ rfl) rfl rfl rfl ?_
        refine aw_g (by first | exact g_mv (.inl rfl) rfl | exact g_mp (.inl rfl) rfl | exact g_mo (.inl rfl) rfl | exact g_ml (.inl rfl) rfl | exact g_mc (.inl rfl) rfl | exact g_mr (.inl rfl) rfl | exact g_mf1 (.inl rfl) rfl | exact g_mf2 (.inl rfl) rfl | exact g_mw (.inl rfl) rfl | exact g_me (.inl rfl) rfl | exact g_ms (.inl rfl) rfl | exact g_mt2 (.inl rfl) rfl | exact g_mt3 (.inl rfl) rfl | exact g_mi (.inl rfl) rfl) rfl rfl rfl ?_
        refine aw_g (by first | exact g_x20 rfl rfl | exact g_x30 rfl rfl) rfl rfl rfl ?_
        refine aw_g (by first | exact g_x21 rfl rfl | exact g_x31 rfl rfl) rfl rfl rfl ?_
        refine aw_g (g_mv (.inr rfl) rfl) rfl rfl rfl ?_
        refine aw_g (g_mv (.inr rfl) rfl) rfl rfl rfl ?_
        refine aw_nil ?_
        refine aw_seq ?_
        refine aw_region ?_
        refine aw_g (g_mv (.inr rfl) rfl) rfl rfl rfl ?_
        refine aw_nil ?_
        refine aw_seq ?_
        refine aw_seq ?_
        refine aw_region ?_
        refine aw_g (g_mv (.inr rfl) rfl) rfl rfl rfl ?_
        refine aw_nil ?_
        refine aw_block ?_
        refine aw_loopI (ι := Nat) 1 rfl (fun (k : Nat) => ((((((Fr.none).set 0 (.val (sl coinT) p)).set 3 (.ptr 0 0)).set 7 (.val (sl coinT) (applyOf p [t]).1)).set 8 (.val i64T (applyOf p [t]).2)).set 9 (.val i64T (worthF (·.v) (t.outs.take k)))).set 10 (.val i64T (k : Int))) (fun (k : Nat) => (Hp.none).set 0 (.box 26 txT t)) (fun (k : Nat) => k ≤ t.outs.length) (fun (k : Nat) => t.outs.length - k) (0) (Nat.zero_le _) (by (repeat refine Fr.le_set ?_ (by first | rfl | (simp; done))); exact Fr.le_none _) (by (repeat refine Hp.le_set ?_ rfl); exact Hp.le_none _) (by (repeat refine Fr.below_setB ?_ rfl); exact Fr.below_none _) (by (repeat refine Hp.below_set ?_ (by decide)); exact Hp.below_none _) ?_
        intro k hinv
        refine aw_seq ?_
        refine aw_seq ?_
        refine aw_region ?_
        refine aw_g (g_mv (.inl rfl) rfl) rfl rfl rfl ?_
        refine aw_g (g_fa_p rfl rfl fd_26_1 rfl) rfl rfl rfl ?_
        refine aw_g (g_load_b rfl rfl rfl L_Tx_outs ty_24) rfl rfl rfl ?_
        refine aw_g (g_len rfl rfl isl_24) rfl rfl rfl ?_
        refine aw_g (g_lss rfl rfl rfl rfl) rfl rfl rfl ?_
        refine aw_nil ?_
        refine aw_ifc (p := k < t.outs.length) rfl (by first | rfl | (rw [decide_eq_decide]; simp only [IntL.toI, id_eq]; omega) | (simp [IntL.toI]; done) | (simp [IntL.toI]; omega)) (fun ht43 => ?_) (fun ht43 => ?_)
        · skip
          obtain ⟨o, ho⟩ : ∃ o, t.outs[k]? = some o := ⟨_, List.getElem?_eq_getElem ht43⟩
          refine aw_skip ?_
          refine aw_seq ?_
          refine aw_block ?_
          refine aw_seq ?_
          refine aw_seq ?_
          refine aw_region ?_
          refine aw_g (g_fa_p rfl rfl fd_26_1 rfl) rfl rfl rfl ?_
          refine aw_g (g_load_b rfl rfl rfl L_Tx_outs ty_24) rfl rfl rfl ?_
          refine aw_g (g_mv (.inl rfl) rfl) rfl rfl rfl ?_
          refine aw_g (g_ia_i (i := k) rfl rfl rfl (by omega) sl_24 (by assumption)) rfl rfl rfl ?_
          refine aw_g (g_fa_r rfl rfl fd_48_0 L_Out_v) rfl rfl rfl ?_
          refine aw_g (g_load_r rfl rfl ty_3) rfl rfl rfl ?_
          refine aw_g (g_lss rfl rfl rfl rfl) rfl rfl rfl ?_
          refine aw_splitp (d := 52) (p := o.v < 0) rfl (by first | rfl | (rw [decide_eq_decide]; simp only [IntL.toI, id_eq]; omega) | (simp [IntL.toI]; done) | (simp [IntL.toI]; omega)) (fun g52 => ?_) (fun g52 => ?_)
          · skip
            refine aw_g (g_mv (.inl rfl) rfl) rfl rfl rfl ?_
            refine aw_gn rfl rfl rfl rfl rfl rfl rfl rfl ?_
            refine aw_gn rfl rfl rfl rfl rfl rfl rfl rfl ?_
            refine aw_gn rfl rfl rfl rfl rfl rfl rfl rfl ?_
            refine aw_gn rfl rfl rfl rfl rfl rfl rfl rfl ?_
            refine aw_gn rfl rfl rfl rfl rfl rfl rfl rfl ?_
            refine aw_gn rfl rfl rfl rfl rfl rfl rfl rfl ?_
            refine aw_gn rfl rfl rfl rfl rfl rfl rfl rfl ?_
            refine aw_g (g_pick rfl rfl rfl) rfl rfl rfl ?_
            refine aw_nil ?_
            refine aw_if_t rfl (rfl) ?_
            refine aw_seq ?_
            refine aw_region ?_
            refine aw_g (g_mv (.inl rfl) rfl) rfl rfl rfl ?_
            refine aw_g (g_eql rfl rfl rfl rfl) rfl rfl rfl ?_
            refine aw_ist (d := 63) rfl (decide_eq_true (by rw [first_bad g29 hmp (List.mem_of_getElem? ho) (by omega)])) ?_
            refine aw_g (g_mv (.inl rfl) rfl) rfl rfl rfl ?_
            refine aw_gi (g_mv (.inl rfl) rfl) rfl rfl rfl rfl rfl rfl rfl rfl ?_
            refine aw_gi (g_mv (.inl rfl) rfl) rfl rfl rfl rfl rfl rfl rfl rfl ?_
            refine aw_gi (g_call (same_ok _ _) rfl fn_21 ⟨(arg_v rfl), (arg_v rfl), trivial⟩ rfl) rfl rfl rfl rfl rfl rfl rfl rfl ?_
            refine aw_ist (d := 67) rfl (decide_eq_true (by rw [first_bad g29 hmp (List.mem_of_getElem? ho) (by omega)])) ?_
            refine aw_g (g_pick rfl rfl rfl) rfl rfl rfl ?_
            refine aw_g (g_mv (.inr rfl) rfl) rfl rfl rfl ?_
            refine aw_nil ?_
            exact aw_ret1 rfl rfl (ret_eq rfl rfl)
          · skip
            refine aw_g (g_mv (.inl rfl) rfl) rfl rfl rfl ?_
            refine aw_gi (g_fa_p rfl rfl fd_26_1 rfl) rfl rfl rfl rfl rfl rfl rfl rfl ?_
            refine aw_gi (g_load_b rfl rfl rfl L_Tx_outs ty_24) rfl rfl rfl rfl rfl rfl rfl rfl ?_
            refine aw_gi (g_mv (.inl rfl) rfl) rfl rfl rfl rfl rfl rfl rfl rfl ?_
            refine aw_gi (g_ia_i (i := k) rfl rfl rfl (by omega) sl_24 (by assumption)) rfl rfl rfl rfl rfl rfl rfl rfl ?_
            refine aw_gi (g_fa_r rfl rfl fd_48_0 L_Out_v) rfl rfl rfl rfl rfl rfl rfl rfl ?_
            refine aw_gi (g_load_r rfl rfl ty_3) rfl rfl rfl rfl rfl rfl rfl rfl ?_
            refine aw_gi (g_gtr rfl rfl rfl rfl) rfl rfl rfl rfl rfl rfl rfl rfl ?_
            refine aw_splitp (d := 60) (p := 2199023255552 < o.v) rfl (by first | rfl | (rw [decide_eq_decide]; simp only [IntL.toI, id_eq]; omega) | (simp [IntL.toI]; done) | (simp [IntL.toI]; omega)) (fun g60 => ?_) (fun g60 => ?_)
            · skip
              refine aw_g (g_pick rfl rfl rfl) rfl rfl rfl ?_
              refine aw_nil ?_
              refine aw_if_t rfl (rfl) ?_
              refine aw_seq ?_
              refine aw_region ?_
              refine aw_g (g_mv (.inl rfl) rfl) rfl rfl rfl ?_
              refine aw_g (g_eql rfl rfl rfl rfl) rfl rfl rfl ?_
              refine aw_ist (d := 63) rfl (decide_eq_true (by rw [first_bad g29 hmp (List.mem_of_getElem? ho) (by omega)])) ?_
              refine aw_g (g_mv (.inl rfl) rfl) rfl rfl rfl ?_
              refine aw_gi (g_mv (.inl rfl) rfl) rfl rfl rfl rfl rfl rfl rfl rfl ?_
              refine aw_gi (g_mv (.inl rfl) rfl) rfl rfl rfl rfl rfl rfl rfl rfl ?_
              refine aw_gi (g_call (same_ok _ _) rfl fn_21 ⟨(arg_v rfl), (arg_v rfl), trivial⟩ rfl) rfl rfl rfl rfl rfl rfl rfl rfl ?_
              refine aw_ist (d := 67) rfl (decide_eq_true (by rw [first_bad g29 hmp (List.mem_of_getElem? ho) (by omega)])) ?_
              refine aw_g (g_pick rfl rfl rfl) rfl rfl rfl ?_
              refine aw_g (g_mv (.inr rfl) rfl) rfl rfl rfl ?_
              refine aw_nil ?_
              exact aw_ret1 rfl rfl (ret_eq rfl rfl)
            · skip
              refine aw_g (g_pick rfl rfl rfl) rfl rfl rfl ?_
              refine aw_nil ?_
              refine aw_if_f rfl (rfl) ?_
              refine aw_skip ?_
              refine aw_region ?_
              refine aw_g (g_mv (.inl rfl) rfl) rfl rfl rfl ?_
              refine aw_g (g_fa_p rfl rfl fd_26_1 rfl) rfl rfl rfl ?_
              refine aw_g (g_load_b rfl rfl rfl L_Tx_outs ty_24) rfl rfl rfl ?_
              refine aw_g (g_mv (.inl rfl) rfl) rfl rfl rfl ?_
              refine aw_g (g_ia_i (i := k) rfl rfl rfl (by omega) sl_24 (by assumption)) rfl rfl rfl ?_
              refine aw_g (g_fa_r rfl rfl fd_48_0 L_Out_v) rfl rfl rfl ?_
              refine aw_g (g_load_r rfl rfl ty_3) rfl rfl rfl ?_
              refine aw_g (by first | exact g_add rfl rfl rfl (wrap_eq (by first | omega | (simp; omega))) | exact g_add rfl rfl rfl rfl) rfl rfl rfl ?_
              refine aw_g (g_mv (.inr rfl) rfl) rfl rfl rfl ?_
              refine aw_nil ?_
              refine aw_inBlock ?_
              refine aw_region ?_
              refine aw_g (g_mv (.inl rfl) rfl) rfl rfl rfl ?_
              refine aw_g (by first | exact g_add rfl rfl rfl (wrap_eq (by first | omega | (simp; omega))) | exact g_add rfl rfl rfl rfl) rfl rfl rfl ?_
              refine aw_g (g_mv (.inr rfl) rfl) rfl rfl rfl ?_
              refine aw_nil ?_
              refine aw_reval (d := 9) rfl (worth_step ho).symm ?_
              exact aw_next (k + 1) (by omega) (by omega) rfl (by (repeat refine Fr.le_set ?_ (by first | rfl | (simp; done))); exact Fr.le_none _) (by (repeat refine Hp.le_set ?_ rfl); exact Hp.le_none _) (by (repeat refine Fr.below_setB ?_ rfl); exact Fr.below_none _) (by (repeat refine Hp.below_set ?_ (by decide)); exact Hp.below_none _)
        · skip
          obtain rfl : k = t.outs.length := (by omega)
          refine aw_reval (d := 9) (y := worthF (·.v) t.outs) rfl (by rw [List.take_length]) ?_
          refine aw_exit rfl ?_
          refine aw_seq ?_
          refine aw_seq ?_
          refine aw_region ?_
          refine aw_g (g_mv (.inl rfl) rfl) rfl rfl rfl ?_
          refine aw_g (g_neq rfl rfl rfl rfl) rfl rfl rfl ?_
          refine aw_nil ?_
          refine aw_ifc (p := ¬ (applyOf p [t]).2 = 0) rfl (by simp [IntL.toI]) (fun ht78 => ?_) (fun ht78 => ?_)
          · skip
            refine aw_seq ?_
            refine aw_region ?_
            refine aw_g (g_mv (.inl rfl) rfl) rfl rfl rfl ?_
            refine aw_g (g_mv (.inl rfl) rfl) rfl rfl rfl ?_
            refine aw_g (g_call (same_ok _ _) rfl fn_21 ⟨(arg_v rfl), (arg_v rfl), trivial⟩ rfl) rfl rfl rfl ?_
            refine aw_ist (d := 81) rfl (decide_eq_true ((applyOf_tot hmp).2.2 ht78)) ?_
            refine aw_g (g_mv (.inl rfl) rfl) rfl rfl rfl ?_
            refine aw_gi (g_mv (.inl rfl) rfl) rfl rfl rfl rfl rfl rfl rfl rfl ?_
            refine aw_gi (g_gtr rfl rfl rfl rfl) rfl rfl rfl rfl rfl rfl rfl rfl ?_
            refine aw_splitp (d := 84) (p := 50 < worthF (·.v) t.outs) rfl (by first | rfl | (rw [decide_eq_decide]; simp only [IntL.toI, id_eq]; omega) | (simp [IntL.toI]; done) | (simp [IntL.toI]; omega)) (fun g84 => ?_) (fun g84 => ?_)
            · skip
              refine aw_gi (g_mv (.inl rfl) rfl) rfl rfl rfl rfl rfl rfl rfl rfl ?_
              refine aw_gn rfl rfl rfl rfl rfl rfl rfl rfl ?_
              refine aw_gn rfl rfl rfl rfl rfl rfl rfl rfl ?_
              refine aw_gi (g_pick rfl rfl rfl) rfl rfl rfl rfl rfl rfl rfl rfl ?_
              refine aw_gi (g_mv (.inl rfl) rfl) rfl rfl rfl rfl rfl rfl rfl rfl ?_
              refine aw_gn rfl rfl rfl rfl rfl rfl rfl rfl ?_
              refine aw_gn rfl rfl rfl rfl rfl rfl rfl rfl ?_
              refine aw_gi (g_pick rfl rfl rfl) rfl rfl rfl rfl rfl rfl rfl rfl ?_
              refine aw_gi (g_mv (.inl rfl) rfl) rfl rfl rfl rfl rfl rfl rfl rfl ?_
              refine aw_gn rfl rfl rfl rfl rfl rfl rfl rfl ?_
              refine aw_gn rfl rfl rfl rfl rfl rfl rfl rfl ?_
              refine aw_gi (g_pick rfl rfl rfl) rfl rfl rfl rfl rfl rfl rfl rfl ?_
              refine aw_g (g_pick rfl rfl rfl) rfl rfl rfl ?_
              refine aw_g (g_mv (.inr rfl) rfl) rfl rfl rfl ?_
              refine aw_nil ?_
              exact aw_ret1 rfl rfl (ret_eq rfl rfl)
            · skip
              refine aw_gi (g_mv (.inl rfl) rfl) rfl rfl rfl rfl rfl rfl rfl rfl ?_
              refine aw_gi (g_mv (.inl rfl) rfl) rfl rfl rfl rfl rfl rfl rfl rfl ?_
              refine aw_gi (g_eql rfl rfl rfl rfl) rfl rfl rfl rfl rfl rfl rfl rfl ?_
              refine aw_splitp (d := 87) (p := (applyOf p [t]).2 = 1) rfl (by first | rfl | (rw [decide_eq_decide]; simp only [IntL.toI, id_eq]; omega) | (simp [IntL.toI]; done) | (simp [IntL.toI]; omega)) (fun g87 => ?_) (fun g87 => ?_)
              · skip
                refine aw_gi (g_pick rfl rfl rfl) rfl rfl rfl rfl rfl rfl rfl rfl ?_
                refine aw_gi (g_mv (.inl rfl) rfl) rfl rfl rfl rfl rfl rfl rfl rfl ?_
                refine aw_gn rfl rfl rfl rfl rfl rfl rfl rfl ?_
                refine aw_gn rfl rfl rfl rfl rfl rfl rfl rfl ?_
                refine aw_gi (g_pick rfl rfl rfl) rfl rfl rfl rfl rfl rfl rfl rfl ?_
                refine aw_gi (g_mv (.inl rfl) rfl) rfl rfl rfl rfl rfl rfl rfl rfl ?_
                refine aw_gn rfl rfl rfl rfl rfl rfl rfl rfl ?_
                refine aw_gn rfl rfl rfl rfl rfl rfl rfl rfl ?_
                refine aw_gi (g_pick rfl rfl rfl) rfl rfl rfl rfl rfl rfl rfl rfl ?_
                refine aw_g (g_pick rfl rfl rfl) rfl rfl rfl ?_
                refine aw_g (g_mv (.inr rfl) rfl) rfl rfl rfl ?_
                refine aw_nil ?_
                exact aw_ret1 rfl rfl (ret_eq rfl rfl)
              · skip
                refine aw_gi (g_pick rfl rfl rfl) rfl rfl rfl rfl rfl rfl rfl rfl ?_
                refine aw_gi (g_mv (.inl rfl) rfl) rfl rfl rfl rfl rfl rfl rfl rfl ?_
                refine aw_gi (g_mv (.inl rfl) rfl) rfl rfl rfl rfl rfl rfl rfl rfl ?_
                refine aw_gi (g_eql rfl rfl rfl rfl) rfl rfl rfl rfl rfl rfl rfl rfl ?_
                refine aw_splitp (d := 91) (p := (applyOf p [t]).2 = 10) rfl (by first | rfl | (rw [decide_eq_decide]; simp only [IntL.toI, id_eq]; omega) | (simp [IntL.toI]; done) | (simp [IntL.toI]; omega)) (fun g91 => ?_) (fun g91 => ?_)
                · skip
                  refine aw_gi (g_pick rfl rfl rfl) rfl rfl rfl rfl rfl rfl rfl rfl ?_
                  refine aw_gi (g_mv (.inl rfl) rfl) rfl rfl rfl rfl rfl rfl rfl rfl ?_
                  refine aw_gn rfl rfl rfl rfl rfl rfl rfl rfl ?_
                  refine aw_gn rfl rfl rfl rfl rfl rfl rfl rfl ?_
                  refine aw_gi (g_pick rfl rfl rfl) rfl rfl rfl rfl rfl rfl rfl rfl ?_
                  refine aw_g (g_pick rfl rfl rfl) rfl rfl rfl ?_
                  refine aw_g (g_mv (.inr rfl) rfl) rfl rfl rfl ?_
                  refine aw_nil ?_
                  exact aw_ret1 rfl rfl (ret_eq rfl rfl)
                · skip
                  refine aw_gi (g_pick rfl rfl rfl) rfl rfl rfl rfl rfl rfl rfl rfl ?_
                  refine aw_gi (g_mv (.inl rfl) rfl) rfl rfl rfl rfl rfl rfl rfl rfl ?_
                  refine aw_gi (g_mv (.inl rfl) rfl) rfl rfl rfl rfl rfl rfl rfl rfl ?_
                  refine aw_gi (g_eql rfl rfl rfl rfl) rfl rfl rfl rfl rfl rfl rfl rfl ?_
                  refine aw_ist (d := 95) rfl (decide_eq_true (first_err g29 hmp ht78 g84 g87 g91)) ?_
                  refine aw_gi (g_pick rfl rfl rfl) rfl rfl rfl rfl rfl rfl rfl rfl ?_
                  refine aw_g (g_pick rfl rfl rfl) rfl rfl rfl ?_
                  refine aw_g (g_mv (.inr rfl) rfl) rfl rfl rfl ?_
                  refine aw_nil ?_
                  exact aw_ret1 rfl rfl (ret_eq rfl rfl)
          · skip
            have hgd := first_good g29 hmp (Classical.not_not.1 ht78)
            refine aw_skip ?_
            refine aw_seq ?_
            refine aw_region ?_
            refine aw_g (g_mv (.inl rfl) rfl) rfl rfl rfl ?_
            refine aw_g (g_leq rfl rfl rfl rfl) rfl rfl rfl ?_
            refine aw_ist (d := 99) rfl (decide_eq_true hgd.1) ?_
            refine aw_g (g_mv (.inl rfl) rfl) rfl rfl rfl ?_
            refine aw_gi (g_mv (.inl rfl) rfl) rfl rfl rfl rfl rfl rfl rfl rfl ?_
            refine aw_gi (g_len rfl rfl isl_22) rfl rfl rfl rfl rfl rfl rfl rfl ?_
            refine aw_gi (g_mv (.inl rfl) rfl) rfl rfl rfl rfl rfl rfl rfl rfl ?_
            refine aw_gi (g_len rfl rfl isl_22) rfl rfl rfl rfl rfl rfl rfl rfl ?_
            refine aw_gi (g_fa_p rfl rfl fd_26_1 rfl) rfl rfl rfl rfl rfl rfl rfl rfl ?_
            refine aw_gi (g_load_b rfl rfl rfl L_Tx_outs ty_24) rfl rfl rfl rfl rfl rfl rfl rfl ?_
            refine aw_gi (g_len rfl rfl isl_24) rfl rfl rfl rfl rfl rfl rfl rfl ?_
            refine aw_gi (by first | exact g_add rfl rfl rfl (wrap_eq (by first | omega | (simp; omega))) | exact g_add rfl rfl rfl rfl) rfl rfl rfl rfl rfl rfl rfl rfl ?_
            refine aw_gi (g_eql rfl rfl rfl rfl) rfl rfl rfl rfl rfl rfl rfl rfl ?_
            refine aw_ist (d := 109) rfl (decide_eq_true (by simp only [IntL.toI, id_eq]; have := hgd.2.1; omega)) ?_
            refine aw_g (g_pick rfl rfl rfl) rfl rfl rfl ?_
            refine aw_g (g_mv (.inl rfl) rfl) rfl rfl rfl ?_
            refine aw_gi (g_mv (.inl rfl) rfl) rfl rfl rfl rfl rfl rfl rfl rfl ?_
            refine aw_gi (g_call (psum_ok _) rfl fn_22 ⟨(arg_v rfl), trivial⟩ rfl) rfl rfl rfl rfl rfl rfl rfl rfl ?_
            refine aw_gi (g_mv (.inl rfl) rfl) rfl rfl rfl rfl rfl rfl rfl rfl ?_
            refine aw_gi (g_call (psum_ok _) rfl fn_22 ⟨(arg_v rfl), trivial⟩ rfl) rfl rfl rfl rfl rfl rfl rfl rfl ?_
            refine aw_gi (g_mv (.inl rfl) rfl) rfl rfl rfl rfl rfl rfl rfl rfl ?_
            refine aw_gi (by first | exact g_add rfl rfl rfl (wrap_eq (by first | omega | (simp; omega))) | exact g_add rfl rfl rfl rfl) rfl rfl rfl rfl rfl rfl rfl rfl ?_
            refine aw_gi (g_eql rfl rfl rfl rfl) rfl rfl rfl rfl rfl rfl rfl rfl ?_
            refine aw_ist (d := 118) rfl (decide_eq_true hgd.2.2) ?_
            refine aw_g (g_pick rfl rfl rfl) rfl rfl rfl ?_
            refine aw_g (g_mv (.inr rfl) rfl) rfl rfl rfl ?_
            refine aw_nil ?_
            exact aw_ret1 rfl rfl (ret_eq rfl rfl)

theorem PurseStays_ok (p : List Coin) (t : Tx) (l : List Tx) : Tells P 4 [.val (sl coinT) p, .val txT t, .val (sl txT) l] (.val boolT true) := by
  refine fn_of_aw Try.func4 rfl rfl rfl (fun ext w hext => ?_)
  refine aw_fact (d := 0) rfl fact_sl (fun hsl0 => ?_)
  refine aw_fact (d := 2) rfl fact_sl (fun hsl2 => ?_)
  refine aw_seq ?_
  refine aw_region ?_
  refine aw_box rfl rfl rfl rfl rfl ?_
  refine aw_g (g_mv (.inr rfl) rfl) rfl rfl rfl ?_
  refine aw_nil ?_
  refine aw_seq ?_
  refine aw_region ?_
  refine aw_g (g_call (awake_ok) rfl fn_9 trivial rfl) rfl rfl rfl ?_
  refine aw_g (g_mv (.inr rfl) rfl) rfl rfl rfl ?_
  refine aw_nil ?_
  refine aw_seq ?_
  refine aw_region ?_
  refine aw_g (g_load_b rfl rfl rfl (Lens.self _) ty_26) rfl rfl rfl ?_
  refine aw_g (g_call (few_ok _) rfl fn_10 ⟨(arg_v rfl), trivial⟩ rfl) rfl rfl rfl ?_
  refine aw_g (g_mv (.inr rfl) rfl) rfl rfl rfl ?_
  refine aw_nil ?_
  refine aw_seq ?_
  refine aw_region ?_
  refine aw_g (g_mv (.inl rfl) rfl) rfl rfl rfl ?_
  refine aw_g (g_call (fewAll_ok _ _) rfl fn_11 ⟨(arg_v rfl), (arg_v rfl), trivial⟩ rfl) rfl rfl rfl ?_
  refine aw_g (g_mv (.inr rfl) rfl) rfl rfl rfl ?_
  refine aw_nil ?_
  refine aw_seq ?_
  refine aw_seq ?_
  refine aw_region ?_
  refine aw_g (g_mv (.inl rfl) rfl) rfl rfl rfl ?_
  refine aw_g (g_not rfl rfl) rfl rfl rfl ?_
  refine aw_isf (d := 21) rfl (rfl) ?_
  refine aw_g (g_mv (.inl rfl) rfl) rfl rfl rfl ?_
  refine aw_gi (g_mv (.inl rfl) rfl) rfl rfl rfl rfl rfl rfl rfl rfl ?_
  refine aw_gi (g_not rfl rfl) rfl rfl rfl rfl rfl rfl rfl rfl ?_
  refine aw_splitp (d := 24) (p := ¬ few t = true) rfl (by simp) (fun g24 => ?_) (fun g24 => ?_)
  · skip
    refine aw_g (g_pick rfl rfl rfl) rfl rfl rfl ?_
    refine aw_g (g_mv (.inl rfl) rfl) rfl rfl rfl ?_
    refine aw_gn rfl rfl rfl rfl rfl rfl rfl rfl ?_
    refine aw_gn rfl rfl rfl rfl rfl rfl rfl rfl ?_
    refine aw_g (g_pick rfl rfl rfl) rfl rfl rfl ?_
    refine aw_g (g_mv (.inl rfl) rfl) rfl rfl rfl ?_
    refine aw_gn rfl rfl rfl rfl rfl rfl rfl rfl ?_
    refine aw_gn rfl rfl rfl rfl rfl rfl rfl rfl ?_
    refine aw_gn rfl rfl rfl rfl rfl rfl rfl rfl ?_
    refine aw_g (g_pick rfl rfl rfl) rfl rfl rfl ?_
    refine aw_nil ?_
    refine aw_if_t rfl (rfl) ?_
    refine aw_seq ?_
    refine aw_region ?_
    refine aw_g (g_mv (.inl rfl) rfl) rfl rfl rfl ?_
    refine aw_g (g_mv (.inr rfl) rfl) rfl rfl rfl ?_
    refine aw_nil ?_
    exact aw_ret1 rfl rfl (ret_eq rfl rfl)
  · skip
    refine aw_g (g_pick rfl rfl rfl) rfl rfl rfl ?_
    refine aw_g (g_mv (.inl rfl) rfl) rfl rfl rfl ?_
    refine aw_gi (g_mv (.inl rfl) rfl) rfl rfl rfl rfl rfl rfl rfl rfl ?_
    refine aw_gi (g_not rfl rfl) rfl rfl rfl rfl rfl rfl rfl rfl ?_
    refine aw_splitp (d := 28) (p := ¬ (l.all few && decide ((l.length : Int) ≤ 6)) = true) rfl (by cases (l.all few && decide ((l.length : Int) ≤ 6)) <;> rfl) (fun g28 => ?_) (fun g28 => ?_)
    · skip
      refine aw_g (g_pick rfl rfl rfl) rfl rfl rfl ?_
      refine aw_g (g_mv (.inl rfl) rfl) rfl rfl rfl ?_
      refine aw_gn rfl rfl rfl rfl rfl rfl rfl rfl ?_
      refine aw_gn rfl rfl rfl rfl rfl rfl rfl rfl ?_
      refine aw_gn rfl rfl rfl rfl rfl rfl rfl rfl ?_
      refine aw_g (g_pick rfl rfl rfl) rfl rfl rfl ?_
      refine aw_nil ?_
      refine aw_if_t rfl (rfl) ?_
      refine aw_seq ?_
      refine aw_region ?_
      refine aw_g (g_mv (.inl rfl) rfl) rfl rfl rfl ?_
      refine aw_g (g_mv (.inr rfl) rfl) rfl rfl rfl ?_
      refine aw_nil ?_
      exact aw_ret1 rfl rfl (ret_eq rfl rfl)
    · skip
      refine aw_g (g_pick rfl rfl rfl) rfl rfl rfl ?_
      refine aw_g (g_mv (.inl rfl) rfl) rfl rfl rfl ?_
      refine aw_gi (g_mv (.inl rfl) rfl) rfl rfl rfl rfl rfl rfl rfl rfl ?_
      refine aw_gi (g_call (may_ok _) rfl fn_20 ⟨(arg_v rfl), trivial⟩ rfl) rfl rfl rfl rfl rfl rfl rfl rfl ?_
      refine aw_gi (g_not rfl rfl) rfl rfl rfl rfl rfl rfl rfl rfl ?_
      refine aw_splitp (d := 33) (p := ¬ mayCoins p = true) rfl (by simp) (fun g33 => ?_) (fun g33 => ?_)
      · skip
        refine aw_g (g_pick rfl rfl rfl) rfl rfl rfl ?_
        refine aw_nil ?_
        refine aw_if_t rfl (rfl) ?_
        refine aw_seq ?_
        refine aw_region ?_
        refine aw_g (g_mv (.inl rfl) rfl) rfl rfl rfl ?_
        refine aw_g (g_mv (.inr rfl) rfl) rfl rfl rfl ?_
        refine aw_nil ?_
        exact aw_ret1 rfl rfl (ret_eq rfl rfl)
      · skip
        have hmp := Classical.not_not.1 g33
        have hpl := mayCoins_len hmp
        refine aw_g (g_pick rfl rfl rfl) rfl rfl rfl ?_
        refine aw_nil ?_
        refine aw_if_f rfl (rfl) ?_
        refine aw_skip ?_
        refine aw_seq ?_
        refine aw_region ?_
        refine aw_g (g_mv (.inl rfl) rfl) rfl rfl rfl ?_
        refine aw_g (g_load_b rfl rfl rfl (Lens.self _) ty_26) rfl rfl rfl ?_
        refine aw_g (g_call (tells_pub3 (spend_ok p t (by omega))) rfl fn_12 ⟨(arg_v rfl), (arg_v rfl), trivial⟩ rfl) rfl rfl rfl ?_
        refine aw_g (by first | exact g_mv (.inl rfl) rfl | exact g_mp (.inl rfl) rfl | exact g_mo (.inl rfl) rfl | exact g_ml (.inl rfl) rfl | exact g_mc (.inl rfl) rfl | exact g_mr (.inl rfl) rfl | exact g_mf1 (.inl rfl) rfl | exact g_mf2 (.inl rfl) rfl | exact g_mw (.inl rfl) rfl | exact g_me (.inl rfl) rfl | exact g_ms (.inl rfl) rfl | exact g_mt2 (.inl rfl) rfl | exact g_mt3 (.inl rfl) rfl | exact g_mi (.inl rfl) rfl) rfl rfl rfl ?_
        refine aw_g (by first | exact g_x20 rfl rfl | exact g_x30 rfl rfl) rfl rfl rfl ?_
        refine aw_g (by first | exact g_x21 rfl rfl | exact g_x31 rfl rfl) rfl rfl rfl ?_
        refine aw_g (g_x32 rfl rfl) rfl rfl rfl ?_
        refine aw_g (g_mv (.inr rfl) rfl) rfl rfl rfl ?_
        refine aw_g (g_mv (.inr rfl) rfl) rfl rfl rfl ?_
        refine aw_g (g_mv (.inr rfl) rfl) rfl rfl rfl ?_
        refine aw_nil ?_
        refine aw_seq ?_
        refine aw_region ?_
        refine aw_g (g_mv (.inl rfl) rfl) rfl rfl rfl ?_
        refine aw_g (g_mv (.inl rfl) rfl) rfl rfl rfl ?_
        refine aw_g (g_call (tells_pub2 (apply_ok p l (by omega))) rfl fn_14 ⟨(arg_v rfl), (arg_v rfl), trivial⟩ rfl) rfl rfl rfl ?_
        refine aw_g (by first | exact g_mv (.inl rfl) rfl | exact g_mp (.inl rfl) rfl | exact g_mo (.inl rfl) rfl | exact g_ml (.inl rfl) rfl | exact g_mc (.inl rfl) rfl | exact g_mr (.inl rfl) rfl | exact g_mf1 (.inl rfl) rfl | exact g_mf2 (.inl rfl) rfl | exact g_mw (.inl rfl) rfl | exact g_me (.inl rfl) rfl | exact g_ms (.inl rfl) rfl | exact g_mt2 (.inl rfl) rfl | exact g_mt3 (.inl rfl) rfl | exact g_mi (.inl rfl) rfl) rfl rfl rfl ?_
        refine aw_g (by first | exact g_x20 rfl rfl | exact g_x30 rfl rfl) rfl rfl rfl ?_
        refine aw_g (by first | exact g_x21 rfl rfl | exact g_x31 rfl rfl) rfl rfl rfl ?_
        refine aw_g (g_mv (.inr rfl) rfl) rfl rfl rfl ?_
        refine aw_g (g_mv (.inr rfl) rfl) rfl rfl rfl ?_
        refine aw_nil ?_
        refine aw_seq ?_
        refine aw_seq ?_
        refine aw_region ?_
        refine aw_g (g_mv (.inl rfl) rfl) rfl rfl rfl ?_
        refine aw_g (g_neq rfl rfl rfl rfl) rfl rfl rfl ?_
        refine aw_splitp (d := 50) (p := ¬ (spendOf p t).2.2 = 0) rfl (by simp [IntL.toI]) (fun g50 => ?_) (fun g50 => ?_)
        · skip
          refine aw_g (g_mv (.inl rfl) rfl) rfl rfl rfl ?_
          refine aw_gi (g_mv (.inl rfl) rfl) rfl rfl rfl rfl rfl rfl rfl rfl ?_
          refine aw_gi (g_mv (.inl rfl) rfl) rfl rfl rfl rfl rfl rfl rfl rfl ?_
          refine aw_gi (g_call (same_ok _ _) rfl fn_21 ⟨(arg_v rfl), (arg_v rfl), trivial⟩ rfl) rfl rfl rfl rfl rfl rfl rfl rfl ?_
          refine aw_ist (d := 54) rfl (decide_eq_true (spend_err hmp g50)) ?_
          refine aw_gi (g_not rfl rfl) rfl rfl rfl rfl rfl rfl rfl rfl ?_
          refine aw_gi (g_mv (.inl rfl) rfl) rfl rfl rfl rfl rfl rfl rfl rfl ?_
          refine aw_gi (g_mv (.inl rfl) rfl) rfl rfl rfl rfl rfl rfl rfl rfl ?_
          refine aw_gi (g_neq rfl rfl rfl rfl) rfl rfl rfl rfl rfl rfl rfl rfl ?_
          refine aw_isf (d := 58) rfl (by simp [IntL.toI, ((spendOf_tot hmp).2.2 g50).2]) ?_
          refine aw_gi (g_pick rfl rfl rfl) rfl rfl rfl rfl rfl rfl rfl rfl ?_
          refine aw_g (g_pick rfl rfl rfl) rfl rfl rfl ?_
          refine aw_g (g_mv (.inl rfl) rfl) rfl rfl rfl ?_
          refine aw_gi (g_mv (.inl rfl) rfl) rfl rfl rfl rfl rfl rfl rfl rfl ?_
          refine aw_gi (g_neq rfl rfl rfl rfl) rfl rfl rfl rfl rfl rfl rfl rfl ?_
          refine aw_splitp (d := 63) (p := ¬ (applyOf p l).2 = 0) rfl (by simp [IntL.toI]) (fun g63 => ?_) (fun g63 => ?_)
          · skip
            refine aw_gi (g_mv (.inl rfl) rfl) rfl rfl rfl rfl rfl rfl rfl rfl ?_
            refine aw_gi (g_mv (.inl rfl) rfl) rfl rfl rfl rfl rfl rfl rfl rfl ?_
            refine aw_gi (g_mv (.inl rfl) rfl) rfl rfl rfl rfl rfl rfl rfl rfl ?_
            refine aw_gi (g_call (same_ok _ _) rfl fn_21 ⟨(arg_v rfl), (arg_v rfl), trivial⟩ rfl) rfl rfl rfl rfl rfl rfl rfl rfl ?_
            refine aw_ist (d := 67) rfl (decide_eq_true ((applyOf_tot hmp).2.2 g63)) ?_
            refine aw_gi (g_not rfl rfl) rfl rfl rfl rfl rfl rfl rfl rfl ?_
            refine aw_gi (g_pick rfl rfl rfl) rfl rfl rfl rfl rfl rfl rfl rfl ?_
            refine aw_g (g_pick rfl rfl rfl) rfl rfl rfl ?_
            refine aw_g (g_mv (.inl rfl) rfl) rfl rfl rfl ?_
            refine aw_gi (g_mv (.inl rfl) rfl) rfl rfl rfl rfl rfl rfl rfl rfl ?_
            refine aw_gi (g_call (may_ok _) rfl fn_20 ⟨(arg_v rfl), trivial⟩ rfl) rfl rfl rfl rfl rfl rfl rfl rfl ?_
            refine aw_ist (d := 73) rfl (spendOf_may hmp) ?_
            refine aw_gi (g_not rfl rfl) rfl rfl rfl rfl rfl rfl rfl rfl ?_
            refine aw_g (g_pick rfl rfl rfl) rfl rfl rfl ?_
            refine aw_g (g_mv (.inl rfl) rfl) rfl rfl rfl ?_
            refine aw_gi (g_mv (.inl rfl) rfl) rfl rfl rfl rfl rfl rfl rfl rfl ?_
            refine aw_gi (g_call (may_ok _) rfl fn_20 ⟨(arg_v rfl), trivial⟩ rfl) rfl rfl rfl rfl rfl rfl rfl rfl ?_
            refine aw_ist (d := 78) rfl ((applyOf_tot hmp).1) ?_
            refine aw_gi (g_not rfl rfl) rfl rfl rfl rfl rfl rfl rfl rfl ?_
            refine aw_g (g_pick rfl rfl rfl) rfl rfl rfl ?_
            refine aw_nil ?_
            refine aw_if_f rfl (rfl) ?_
            refine aw_skip ?_
            refine aw_seq ?_
            refine aw_region ?_
            refine aw_g (g_mv (.inl rfl) rfl) rfl rfl rfl ?_
            refine aw_g (g_geq rfl rfl rfl rfl) rfl rfl rfl ?_
            refine aw_ist (d := 82) rfl (decide_eq_true (spendOf_tot hmp).1) ?_
            refine aw_g (g_mv (.inl rfl) rfl) rfl rfl rfl ?_
            refine aw_gi (g_mv (.inl rfl) rfl) rfl rfl rfl rfl rfl rfl rfl rfl ?_
            refine aw_gi (g_call (psum_ok _) rfl fn_22 ⟨(arg_v rfl), trivial⟩ rfl) rfl rfl rfl rfl rfl rfl rfl rfl ?_
            refine aw_gi (g_mv (.inl rfl) rfl) rfl rfl rfl rfl rfl rfl rfl rfl ?_
            refine aw_gi (by first | exact g_add rfl rfl rfl (wrap_eq (by first | omega | (simp; omega))) | exact g_add rfl rfl rfl rfl) rfl rfl rfl rfl rfl rfl rfl rfl ?_
            refine aw_gi (g_mv (.inl rfl) rfl) rfl rfl rfl rfl rfl rfl rfl rfl ?_
            refine aw_gi (g_call (psum_ok _) rfl fn_22 ⟨(arg_v rfl), trivial⟩ rfl) rfl rfl rfl rfl rfl rfl rfl rfl ?_
            refine aw_gi (g_eql rfl rfl rfl rfl) rfl rfl rfl rfl rfl rfl rfl rfl ?_
            refine aw_ist (d := 90) rfl (decide_eq_true (spend_sum hmp)) ?_
            refine aw_g (g_pick rfl rfl rfl) rfl rfl rfl ?_
            refine aw_g (g_mv (.inl rfl) rfl) rfl rfl rfl ?_
            refine aw_gi (g_mv (.inl rfl) rfl) rfl rfl rfl rfl rfl rfl rfl rfl ?_
            refine aw_gi (g_call (psum_ok _) rfl fn_22 ⟨(arg_v rfl), trivial⟩ rfl) rfl rfl rfl rfl rfl rfl rfl rfl ?_
            refine aw_gi (g_mv (.inl rfl) rfl) rfl rfl rfl rfl rfl rfl rfl rfl ?_
            refine aw_gi (g_call (psum_ok _) rfl fn_22 ⟨(arg_v rfl), trivial⟩ rfl) rfl rfl rfl rfl rfl rfl rfl rfl ?_
            refine aw_gi (by first | exact g_add rfl rfl rfl (wrap_eq (by first | omega | (simp; omega))) | exact g_add rfl rfl rfl rfl) rfl rfl rfl rfl rfl rfl rfl rfl ?_
            refine aw_gi (g_leq rfl rfl rfl rfl) rfl rfl rfl rfl rfl rfl rfl rfl ?_
            refine aw_ist (d := 98) rfl (decide_eq_true (apply_sum hmp)) ?_
            refine aw_g (g_pick rfl rfl rfl) rfl rfl rfl ?_
            refine aw_g (g_mv (.inr rfl) rfl) rfl rfl rfl ?_
            refine aw_nil ?_
            exact aw_ret1 rfl rfl (ret_eq rfl rfl)
          · skip
            refine aw_gi (g_mv (.inl rfl) rfl) rfl rfl rfl rfl rfl rfl rfl rfl ?_
            refine aw_gn rfl rfl rfl rfl rfl rfl rfl rfl ?_
            refine aw_gn rfl rfl rfl rfl rfl rfl rfl rfl ?_
            refine aw_gn rfl rfl rfl rfl rfl rfl rfl rfl ?_
            refine aw_gn rfl rfl rfl rfl rfl rfl rfl rfl ?_
            refine aw_gi (g_pick rfl rfl rfl) rfl rfl rfl rfl rfl rfl rfl rfl ?_
            refine aw_g (g_pick rfl rfl rfl) rfl rfl rfl ?_
            refine aw_g (g_mv (.inl rfl) rfl) rfl rfl rfl ?_
            refine aw_gi (g_mv (.inl rfl) rfl) rfl rfl rfl rfl rfl rfl rfl rfl ?_
            refine aw_gi (g_call (may_ok _) rfl fn_20 ⟨(arg_v rfl), trivial⟩ rfl) rfl rfl rfl rfl rfl rfl rfl rfl ?_
            refine aw_ist (d := 73) rfl (spendOf_may hmp) ?_
            refine aw_gi (g_not rfl rfl) rfl rfl rfl rfl rfl rfl rfl rfl ?_
            refine aw_g (g_pick rfl rfl rfl) rfl rfl rfl ?_
            refine aw_g (g_mv (.inl rfl) rfl) rfl rfl rfl ?_
            refine aw_gi (g_mv (.inl rfl) rfl) rfl rfl rfl rfl rfl rfl rfl rfl ?_
            refine aw_gi (g_call (may_ok _) rfl fn_20 ⟨(arg_v rfl), trivial⟩ rfl) rfl rfl rfl rfl rfl rfl rfl rfl ?_
            refine aw_ist (d := 78) rfl ((applyOf_tot hmp).1) ?_
            refine aw_gi (g_not rfl rfl) rfl rfl rfl rfl rfl rfl rfl rfl ?_
            refine aw_g (g_pick rfl rfl rfl) rfl rfl rfl ?_
            refine aw_nil ?_
            refine aw_if_f rfl (rfl) ?_
            refine aw_skip ?_
            refine aw_seq ?_
            refine aw_region ?_
            refine aw_g (g_mv (.inl rfl) rfl) rfl rfl rfl ?_
            refine aw_g (g_geq rfl rfl rfl rfl) rfl rfl rfl ?_
            refine aw_ist (d := 82) rfl (decide_eq_true (spendOf_tot hmp).1) ?_
            refine aw_g (g_mv (.inl rfl) rfl) rfl rfl rfl ?_
            refine aw_gi (g_mv (.inl rfl) rfl) rfl rfl rfl rfl rfl rfl rfl rfl ?_
            refine aw_gi (g_call (psum_ok _) rfl fn_22 ⟨(arg_v rfl), trivial⟩ rfl) rfl rfl rfl rfl rfl rfl rfl rfl ?_
            refine aw_gi (g_mv (.inl rfl) rfl) rfl rfl rfl rfl rfl rfl rfl rfl ?_
            refine aw_gi (by first | exact g_add rfl rfl rfl (wrap_eq (by first | omega | (simp; omega))) | exact g_add rfl rfl rfl rfl) rfl rfl rfl rfl rfl rfl rfl rfl ?_
            refine aw_gi (g_mv (.inl rfl) rfl) rfl rfl rfl rfl rfl rfl rfl rfl ?_
            refine aw_gi (g_call (psum_ok _) rfl fn_22 ⟨(arg_v rfl), trivial⟩ rfl) rfl rfl rfl rfl rfl rfl rfl rfl ?_
            refine aw_gi (g_eql rfl rfl rfl rfl) rfl rfl rfl rfl rfl rfl rfl rfl ?_
            refine aw_ist (d := 90) rfl (decide_eq_true (spend_sum hmp)) ?_
            refine aw_g (g_pick rfl rfl rfl) rfl rfl rfl ?_
            refine aw_g (g_mv (.inl rfl) rfl) rfl rfl rfl ?_
            refine aw_gi (g_mv (.inl rfl) rfl) rfl rfl rfl rfl rfl rfl rfl rfl ?_
            refine aw_gi (g_call (psum_ok _) rfl fn_22 ⟨(arg_v rfl), trivial⟩ rfl) rfl rfl rfl rfl rfl rfl rfl rfl ?_
            refine aw_gi (g_mv (.inl rfl) rfl) rfl rfl rfl rfl rfl rfl rfl rfl ?_
            refine aw_gi (g_call (psum_ok _) rfl fn_22 ⟨(arg_v rfl), trivial⟩ rfl) rfl rfl rfl rfl rfl rfl rfl rfl ?_
            refine aw_gi (by first | exact g_add rfl rfl rfl (wrap_eq (by first | omega | (simp; omega))) | exact g_add rfl rfl rfl rfl) rfl rfl rfl rfl rfl rfl rfl rfl ?_
            refine aw_gi (g_leq rfl rfl rfl rfl) rfl rfl rfl rfl rfl rfl rfl rfl ?_
            refine aw_ist (d := 98) rfl (decide_eq_true (apply_sum hmp)) ?_
            refine aw_g (g_pick rfl rfl rfl) rfl rfl rfl ?_
            refine aw_g (g_mv (.inr rfl) rfl) rfl rfl rfl ?_
            refine aw_nil ?_
            exact aw_ret1 rfl rfl (ret_eq rfl rfl)
        · skip
          refine aw_g (g_mv (.inl rfl) rfl) rfl rfl rfl ?_
          refine aw_gn rfl rfl rfl rfl rfl rfl rfl rfl ?_
          refine aw_gn rfl rfl rfl rfl rfl rfl rfl rfl ?_
          refine aw_gn rfl rfl rfl rfl rfl rfl rfl rfl ?_
          refine aw_gn rfl rfl rfl rfl rfl rfl rfl rfl ?_
          refine aw_gn rfl rfl rfl rfl rfl rfl rfl rfl ?_
          refine aw_gu rfl rfl rfl rfl rfl rfl rfl ?_
          refine aw_gu rfl rfl rfl rfl rfl rfl rfl ?_
          refine aw_gn rfl rfl rfl rfl rfl rfl rfl rfl ?_
          refine aw_g (g_pick rfl rfl rfl) rfl rfl rfl ?_
          refine aw_g (g_mv (.inl rfl) rfl) rfl rfl rfl ?_
          refine aw_gi (g_mv (.inl rfl) rfl) rfl rfl rfl rfl rfl rfl rfl rfl ?_
          refine aw_gi (g_neq rfl rfl rfl rfl) rfl rfl rfl rfl rfl rfl rfl rfl ?_
          refine aw_splitp (d := 63) (p := ¬ (applyOf p l).2 = 0) rfl (by simp [IntL.toI]) (fun g63 => ?_) (fun g63 => ?_)
          · skip
            refine aw_gi (g_mv (.inl rfl) rfl) rfl rfl rfl rfl rfl rfl rfl rfl ?_
            refine aw_gi (g_mv (.inl rfl) rfl) rfl rfl rfl rfl rfl rfl rfl rfl ?_
            refine aw_gi (g_mv (.inl rfl) rfl) rfl rfl rfl rfl rfl rfl rfl rfl ?_
            refine aw_gi (g_call (same_ok _ _) rfl fn_21 ⟨(arg_v rfl), (arg_v rfl), trivial⟩ rfl) rfl rfl rfl rfl rfl rfl rfl rfl ?_
            refine aw_ist (d := 67) rfl (decide_eq_true ((applyOf_tot hmp).2.2 g63)) ?_
            refine aw_gi (g_not rfl rfl) rfl rfl rfl rfl rfl rfl rfl rfl ?_
            refine aw_gi (g_pick rfl rfl rfl) rfl rfl rfl rfl rfl rfl rfl rfl ?_
            refine aw_g (g_pick rfl rfl rfl) rfl rfl rfl ?_
            refine aw_g (g_mv (.inl rfl) rfl) rfl rfl rfl ?_
            refine aw_gi (g_mv (.inl rfl) rfl) rfl rfl rfl rfl rfl rfl rfl rfl ?_
            refine aw_gi (g_call (may_ok _) rfl fn_20 ⟨(arg_v rfl), trivial⟩ rfl) rfl rfl rfl rfl rfl rfl rfl rfl ?_
            refine aw_ist (d := 73) rfl (spendOf_may hmp) ?_
            refine aw_gi (g_not rfl rfl) rfl rfl rfl rfl rfl rfl rfl rfl ?_
            refine aw_g (g_pick rfl rfl rfl) rfl rfl rfl ?_
            refine aw_g (g_mv (.inl rfl) rfl) rfl rfl rfl ?_
            refine aw_gi (g_mv (.inl rfl) rfl) rfl rfl rfl rfl rfl rfl rfl rfl ?_
            refine aw_gi (g_call (may_ok _) rfl fn_20 ⟨(arg_v rfl), trivial⟩ rfl) rfl rfl rfl rfl rfl rfl rfl rfl ?_
            refine aw_ist (d := 78) rfl ((applyOf_tot hmp).1) ?_
            refine aw_gi (g_not rfl rfl) rfl rfl rfl rfl rfl rfl rfl rfl ?_
            refine aw_g (g_pick rfl rfl rfl) rfl rfl rfl ?_
            refine aw_nil ?_
            refine aw_if_f rfl (rfl) ?_
            refine aw_skip ?_
            refine aw_seq ?_
            refine aw_region ?_
            refine aw_g (g_mv (.inl rfl) rfl) rfl rfl rfl ?_
            refine aw_g (g_geq rfl rfl rfl rfl) rfl rfl rfl ?_
            refine aw_ist (d := 82) rfl (decide_eq_true (spendOf_tot hmp).1) ?_
            refine aw_g (g_mv (.inl rfl) rfl) rfl rfl rfl ?_
            refine aw_gi (g_mv (.inl rfl) rfl) rfl rfl rfl rfl rfl rfl rfl rfl ?_
            refine aw_gi (g_call (psum_ok _) rfl fn_22 ⟨(arg_v rfl), trivial⟩ rfl) rfl rfl rfl rfl rfl rfl rfl rfl ?_
            refine aw_gi (g_mv (.inl rfl) rfl) rfl rfl rfl rfl rfl rfl rfl rfl ?_
            refine aw_gi (by first | exact g_add rfl rfl rfl (wrap_eq (by first | omega | (simp; omega))) | exact g_add rfl rfl rfl rfl) rfl rfl rfl rfl rfl rfl rfl rfl ?_
            refine aw_gi (g_mv (.inl rfl) rfl) rfl rfl rfl rfl rfl rfl rfl rfl ?_
            refine aw_gi (g_call (psum_ok _) rfl fn_22 ⟨(arg_v rfl), trivial⟩ rfl) rfl rfl rfl rfl rfl rfl rfl rfl ?_
            refine aw_gi (g_eql rfl rfl rfl rfl) rfl rfl rfl rfl rfl rfl rfl rfl ?_
            refine aw_ist (d := 90) rfl (decide_eq_true (spend_sum hmp)) ?_
            refine aw_g (g_pick rfl rfl rfl) rfl rfl rfl ?_
            refine aw_g (g_mv (.inl rfl) rfl) rfl rfl rfl ?_
            refine aw_gi (g_mv (.inl rfl) rfl) rfl rfl rfl rfl rfl rfl rfl rfl ?_
            refine aw_gi (g_call (psum_ok _) rfl fn_22 ⟨(arg_v rfl), trivial⟩ rfl) rfl rfl rfl rfl rfl rfl rfl rfl ?_
            refine aw_gi (g_mv (.inl rfl) rfl) rfl rfl rfl rfl rfl rfl rfl rfl ?_
            refine aw_gi (g_call (psum_ok _) rfl fn_22 ⟨(arg_v rfl), trivial⟩ rfl) rfl rfl rfl rfl rfl rfl rfl rfl ?_
            refine aw_gi (by first | exact g_add rfl rfl rfl (wrap_eq (by first | omega | (simp; omega))) | exact g_add rfl rfl rfl rfl) rfl rfl rfl rfl rfl rfl rfl rfl ?_
            refine aw_gi (g_leq rfl rfl rfl rfl) rfl rfl rfl rfl rfl rfl rfl rfl ?_
            refine aw_ist (d := 98) rfl (decide_eq_true (apply_sum hmp)) ?_
            refine aw_g (g_pick rfl rfl rfl) rfl rfl rfl ?_
            refine aw_g (g_mv (.inr rfl) rfl) rfl rfl rfl ?_
            refine aw_nil ?_
            exact aw_ret1 rfl rfl (ret_eq rfl rfl)
          · skip
            refine aw_gi (g_mv (.inl rfl) rfl) rfl rfl rfl rfl rfl rfl rfl rfl ?_
            refine aw_gn rfl rfl rfl rfl rfl rfl rfl rfl ?_
            refine aw_gn rfl rfl rfl rfl rfl rfl rfl rfl ?_
            refine aw_gn rfl rfl rfl rfl rfl rfl rfl rfl ?_
            refine aw_gn rfl rfl rfl rfl rfl rfl rfl rfl ?_
            refine aw_gi (g_pick rfl rfl rfl) rfl rfl rfl rfl rfl rfl rfl rfl ?_
            refine aw_g (g_pick rfl rfl rfl) rfl rfl rfl ?_
            refine aw_g (g_mv (.inl rfl) rfl) rfl rfl rfl ?_
            refine aw_gi (g_mv (.inl rfl) rfl) rfl rfl rfl rfl rfl rfl rfl rfl ?_
            refine aw_gi (g_call (may_ok _) rfl fn_20 ⟨(arg_v rfl), trivial⟩ rfl) rfl rfl rfl rfl rfl rfl rfl rfl ?_
            refine aw_ist (d := 73) rfl (spendOf_may hmp) ?_
            refine aw_gi (g_not rfl rfl) rfl rfl rfl rfl rfl rfl rfl rfl ?_
            refine aw_g (g_pick rfl rfl rfl) rfl rfl rfl ?_
            refine aw_g (g_mv (.inl rfl) rfl) rfl rfl rfl ?_
            refine aw_gi (g_mv (.inl rfl) rfl) rfl rfl rfl rfl rfl rfl rfl rfl ?_
            refine aw_gi (g_call (may_ok _) rfl fn_20 ⟨(arg_v rfl), trivial⟩ rfl) rfl rfl rfl rfl rfl rfl rfl rfl ?_
            refine aw_ist (d := 78) rfl ((applyOf_tot hmp).1) ?_
            refine aw_gi (g_not rfl rfl) rfl rfl rfl rfl rfl rfl rfl rfl ?_
            refine aw_g (g_pick rfl rfl rfl) rfl rfl rfl ?_
            refine aw_nil ?_
            refine aw_if_f rfl (rfl) ?_
            refine aw_skip ?_
            refine aw_seq ?_
            refine aw_region ?_
            refine aw_g (g_mv (.inl rfl) rfl) rfl rfl rfl ?_
            refine aw_g (g_geq rfl rfl rfl rfl) rfl rfl rfl ?_
            refine aw_ist (d := 82) rfl (decide_eq_true (spendOf_tot hmp).1) ?_
            refine aw_g (g_mv (.inl rfl) rfl) rfl rfl rfl ?_
            refine aw_gi (g_mv (.inl rfl) rfl) rfl rfl rfl rfl rfl rfl rfl rfl ?_
            refine aw_gi (g_call (psum_ok _) rfl fn_22 ⟨(arg_v rfl), trivial⟩ rfl) rfl rfl rfl rfl rfl rfl rfl rfl ?_
            refine aw_gi (g_mv (.inl rfl) rfl) rfl rfl rfl rfl rfl rfl rfl rfl ?_
            refine aw_gi (by first | exact g_add rfl rfl rfl (wrap_eq (by first | omega | (simp; omega))) | exact g_add rfl rfl rfl rfl) rfl rfl rfl rfl rfl rfl rfl rfl ?_
            refine aw_gi (g_mv (.inl rfl) rfl) rfl rfl rfl rfl rfl rfl rfl rfl ?_
            refine aw_gi (g_call (psum_ok _) rfl fn_22 ⟨(arg_v rfl), trivial⟩ rfl) rfl rfl rfl rfl rfl rfl rfl rfl ?_
            refine aw_gi (g_eql rfl rfl rfl rfl) rfl rfl rfl rfl rfl rfl rfl rfl ?_
            refine aw_ist (d := 90) rfl (decide_eq_true (spend_sum hmp)) ?_
            refine aw_g (g_pick rfl rfl rfl) rfl rfl rfl ?_
            refine aw_g (g_mv (.inl rfl) rfl) rfl rfl rfl ?_
            refine aw_gi (g_mv (.inl rfl) rfl) rfl rfl rfl rfl rfl rfl rfl rfl ?_
            refine aw_gi (g_call (psum_ok _) rfl fn_22 ⟨(arg_v rfl), trivial⟩ rfl) rfl rfl rfl rfl rfl rfl rfl rfl ?_
            refine aw_gi (g_mv (.inl rfl) rfl) rfl rfl rfl rfl rfl rfl rfl rfl ?_
            refine aw_gi (g_call (psum_ok _) rfl fn_22 ⟨(arg_v rfl), trivial⟩ rfl) rfl rfl rfl rfl rfl rfl rfl rfl ?_
            refine aw_gi (by first | exact g_add rfl rfl rfl (wrap_eq (by first | omega | (simp; omega))) | exact g_add rfl rfl rfl rfl) rfl rfl rfl rfl rfl rfl rfl rfl ?_
            refine aw_gi (g_leq rfl rfl rfl rfl) rfl rfl rfl rfl rfl rfl rfl rfl ?_
            refine aw_ist (d := 98) rfl (decide_eq_true (apply_sum hmp)) ?_
            refine aw_g (g_pick rfl rfl rfl) rfl rfl rfl ?_
            refine aw_g (g_mv (.inr rfl) rfl) rfl rfl rfl ?_
            refine aw_nil ?_
            exact aw_ret1 rfl rfl (ret_eq rfl rfl)

theorem PurseOne_ok (p : List Coin) (t u : Tx) : Tells P 6 [.val (sl coinT) p, .val txT t, .val txT u] (.val boolT true) := by
  refine fn_of_aw Try.func6 rfl rfl rfl (fun ext w hext => ?_)
  refine aw_fact (d := 0) rfl fact_sl (fun hsl0 => ?_)
  refine aw_seq ?_
  refine aw_region ?_
  refine aw_box rfl rfl rfl rfl rfl ?_
  refine aw_box rfl rfl rfl rfl rfl ?_
  refine aw_g (g_mv (.inr rfl) rfl) rfl rfl rfl ?_
  refine aw_nil ?_
  refine aw_seq ?_
  refine aw_region ?_
  refine aw_g (g_call (awake_ok) rfl fn_9 trivial rfl) rfl rfl rfl ?_
  refine aw_g (g_mv (.inr rfl) rfl) rfl rfl rfl ?_
  refine aw_nil ?_
  refine aw_seq ?_
  refine aw_region ?_
  refine aw_g (g_load_b rfl rfl rfl (Lens.self _) ty_26) rfl rfl rfl ?_
  refine aw_g (g_call (few_ok _) rfl fn_10 ⟨(arg_v rfl), trivial⟩ rfl) rfl rfl rfl ?_
  refine aw_g (g_mv (.inr rfl) rfl) rfl rfl rfl ?_
  refine aw_nil ?_
  refine aw_seq ?_
  refine aw_region ?_
  refine aw_g (g_load_b rfl rfl rfl (Lens.self _) ty_26) rfl rfl rfl ?_
  refine aw_g (g_call (few_ok _) rfl fn_10 ⟨(arg_v rfl), trivial⟩ rfl) rfl rfl rfl ?_
  refine aw_g (g_mv (.inr rfl) rfl) rfl rfl rfl ?_
  refine aw_nil ?_
  refine aw_seq ?_
  refine aw_seq ?_
  refine aw_region ?_
  refine aw_g (g_mv (.inl rfl) rfl) rfl rfl rfl ?_
  refine aw_g (g_not rfl rfl) rfl rfl rfl ?_
  refine aw_isf (d := 28) rfl (rfl) ?_
  refine aw_g (g_mv (.inl rfl) rfl) rfl rfl rfl ?_
  refine aw_gi (g_mv (.inl rfl) rfl) rfl rfl rfl rfl rfl rfl rfl rfl ?_
  refine aw_gi (g_not rfl rfl) rfl rfl rfl rfl rfl rfl rfl rfl ?_
  refine aw_splitp (d := 31) (p := ¬ few t = true) rfl (by simp) (fun g31 => ?_) (fun g31 => ?_)
  · skip
    refine aw_g (g_pick rfl rfl rfl) rfl rfl rfl ?_
    refine aw_g (g_mv (.inl rfl) rfl) rfl rfl rfl ?_
    refine aw_gn rfl rfl rfl rfl rfl rfl rfl rfl ?_
    refine aw_gn rfl rfl rfl rfl rfl rfl rfl rfl ?_
    refine aw_g (g_pick rfl rfl rfl) rfl rfl rfl ?_
    refine aw_g (g_mv (.inl rfl) rfl) rfl rfl rfl ?_
    refine aw_gn rfl rfl rfl rfl rfl rfl rfl rfl ?_
    refine aw_gn rfl rfl rfl rfl rfl rfl rfl rfl ?_
    refine aw_gn rfl rfl rfl rfl rfl rfl rfl rfl ?_
    refine aw_g (g_pick rfl rfl rfl) rfl rfl rfl ?_
    refine aw_g (g_mv (.inl rfl) rfl) rfl rfl rfl ?_
    refine aw_gn rfl rfl rfl rfl rfl rfl rfl rfl ?_
    refine aw_gn rfl rfl rfl rfl rfl rfl rfl rfl ?_
    refine aw_gn rfl rfl rfl rfl rfl rfl rfl rfl ?_
    refine aw_g (g_pick rfl rfl rfl) rfl rfl rfl ?_
    refine aw_nil ?_
    refine aw_if_t rfl (rfl) ?_
    refine aw_seq ?_
    refine aw_region ?_
    refine aw_g (g_mv (.inl rfl) rfl) rfl rfl rfl ?_
    refine aw_g (g_mv (.inr rfl) rfl) rfl rfl rfl ?_
    refine aw_nil ?_
    exact aw_ret1 rfl rfl (ret_eq rfl rfl)
  · skip
    refine aw_g (g_pick rfl rfl rfl) rfl rfl rfl ?_
    refine aw_g (g_mv (.inl rfl) rfl) rfl rfl rfl ?_
    refine aw_gi (g_mv (.inl rfl) rfl) rfl rfl rfl rfl rfl rfl rfl rfl ?_
    refine aw_gi (g_not rfl rfl) rfl rfl rfl rfl rfl rfl rfl rfl ?_
    refine aw_splitp (d := 35) (p := ¬ few u = true) rfl (by simp) (fun g35 => ?_) (fun g35 => ?_)
    · skip
      refine aw_g (g_pick rfl rfl rfl) rfl rfl rfl ?_
      refine aw_g (g_mv (.inl rfl) rfl) rfl rfl rfl ?_
      refine aw_gn rfl rfl rfl rfl rfl rfl rfl rfl ?_
      refine aw_gn rfl rfl rfl rfl rfl rfl rfl rfl ?_
      refine aw_gn rfl rfl rfl rfl rfl rfl rfl rfl ?_
      refine aw_g (g_pick rfl rfl rfl) rfl rfl rfl ?_
      refine aw_g (g_mv (.inl rfl) rfl) rfl rfl rfl ?_
      refine aw_gn rfl rfl rfl rfl rfl rfl rfl rfl ?_
      refine aw_gn rfl rfl rfl rfl rfl rfl rfl rfl ?_
      refine aw_gn rfl rfl rfl rfl rfl rfl rfl rfl ?_
      refine aw_g (g_pick rfl rfl rfl) rfl rfl rfl ?_
      refine aw_nil ?_
      refine aw_if_t rfl (rfl) ?_
      refine aw_seq ?_
      refine aw_region ?_
      refine aw_g (g_mv (.inl rfl) rfl) rfl rfl rfl ?_
      refine aw_g (g_mv (.inr rfl) rfl) rfl rfl rfl ?_
      refine aw_nil ?_
      exact aw_ret1 rfl rfl (ret_eq rfl rfl)
    · skip
      refine aw_g (g_pick rfl rfl rfl) rfl rfl rfl ?_
      refine aw_g (g_mv (.inl rfl) rfl) rfl rfl rfl ?_
      refine aw_gi (g_mv (.inl rfl) rfl) rfl rfl rfl rfl rfl rfl rfl rfl ?_
      refine aw_gi (g_len rfl rfl isl_22) rfl rfl rfl rfl rfl rfl rfl rfl ?_
      refine aw_gi (g_gtr rfl rfl rfl rfl) rfl rfl rfl rfl rfl rfl rfl rfl ?_
      refine aw_splitp (d := 40) (p := 60 < p.length) rfl (by first | rfl | (rw [decide_eq_decide]; simp only [IntL.toI, id_eq]; omega) | (simp [IntL.toI]; done) | (simp [IntL.toI]; omega)) (fun g40 => ?_) (fun g40 => ?_)
      · skip
        refine aw_g (g_pick rfl rfl rfl) rfl rfl rfl ?_
        refine aw_g (g_mv (.inl rfl) rfl) rfl rfl rfl ?_
        refine aw_gn rfl rfl rfl rfl rfl rfl rfl rfl ?_
        refine aw_gn rfl rfl rfl rfl rfl rfl rfl rfl ?_
        refine aw_gn rfl rfl rfl rfl rfl rfl rfl rfl ?_
        refine aw_g (g_pick rfl rfl rfl) rfl rfl rfl ?_
        refine aw_nil ?_
        refine aw_if_t rfl (rfl) ?_
        refine aw_seq ?_
        refine aw_region ?_
        refine aw_g (g_mv (.inl rfl) rfl) rfl rfl rfl ?_
        refine aw_g (g_mv (.inr rfl) rfl) rfl rfl rfl ?_
        refine aw_nil ?_
        exact aw_ret1 rfl rfl (ret_eq rfl rfl)
      · skip
        refine aw_g (g_pick rfl rfl rfl) rfl rfl rfl ?_
        refine aw_g (g_mv (.inl rfl) rfl) rfl rfl rfl ?_
        refine aw_gi (g_mv (.inl rfl) rfl) rfl rfl rfl rfl rfl rfl rfl rfl ?_
        refine aw_gi (g_call (may_ok _) rfl fn_20 ⟨(arg_v rfl), trivial⟩ rfl) rfl rfl rfl rfl rfl rfl rfl rfl ?_
        refine aw_gi (g_not rfl rfl) rfl rfl rfl rfl rfl rfl rfl rfl ?_
        refine aw_splitp (d := 45) (p := ¬ mayCoins p = true) rfl (by simp) (fun g45 => ?_) (fun g45 => ?_)
        · skip
          refine aw_g (g_pick rfl rfl rfl) rfl rfl rfl ?_
          refine aw_nil ?_
          refine aw_if_t rfl (rfl) ?_
          refine aw_seq ?_
          refine aw_region ?_
          refine aw_g (g_mv (.inl rfl) rfl) rfl rfl rfl ?_
          refine aw_g (g_mv (.inr rfl) rfl) rfl rfl rfl ?_
          refine aw_nil ?_
          exact aw_ret1 rfl rfl (ret_eq rfl rfl)
        · skip
          have hmp := Classical.not_not.1 g45
          refine aw_g (g_pick rfl rfl rfl) rfl rfl rfl ?_
          refine aw_nil ?_
          refine aw_if_f rfl (rfl) ?_
          refine aw_skip ?_
          refine aw_seq ?_
          refine aw_region ?_
          refine aw_g (g_mv (.inl rfl) rfl) rfl rfl rfl ?_
          refine aw_g (g_call (tells_pub2 (apply_ok p [] (by omega))) rfl fn_14 ⟨(arg_v rfl), (by first | exact arg_same rfl | exact arg_bsl rfl | exact arg_own rfl rfl | exact arg_nil rfl | exact arg_rptr rfl | exact arg_fn rfl rfl | exact arg_lit rfl), trivial⟩ rfl) rfl rfl rfl ?_
          refine aw_g (by first | exact g_mv (.inl rfl) rfl | exact g_mp (.inl rfl) rfl | exact g_mo (.inl rfl) rfl | exact g_ml (.inl rfl) rfl | exact g_mc (.inl rfl) rfl | exact g_mr (.inl rfl) rfl | exact g_mf1 (.inl rfl) rfl | exact g_mf2 (.inl rfl) rfl | exact g_mw (.inl rfl) rfl | exact g_me (.inl rfl) rfl | exact g_ms (.inl rfl) rfl | exact g_mt2 (.inl rfl) rfl | exact g_mt3 (.inl rfl) rfl | exact g_mi (.inl rfl) rfl) rfl rfl rfl ?_
          refine aw_g (by first | exact g_x20 rfl rfl | exact g_x30 rfl rfl) rfl rfl rfl ?_
          refine aw_g (by first | exact g_x21 rfl rfl | exact g_x31 rfl rfl) rfl rfl rfl ?_
          refine aw_g (g_mv (.inr rfl) rfl) rfl rfl rfl ?_
          refine aw_g (g_mv (.inr rfl) rfl) rfl rfl rfl ?_
          refine aw_nil ?_
          refine aw_seq ?_
          refine aw_seq ?_
          refine aw_region ?_
          refine aw_g (g_mv (.inl rfl) rfl) rfl rfl rfl ?_
          refine aw_g (g_neq rfl rfl rfl rfl) rfl rfl rfl ?_
          refine aw_isf (d := 54) rfl (by simp [IntL.toI, ap_none hmp]) ?_
          refine aw_g (g_mv (.inl rfl) rfl) rfl rfl rfl ?_
          refine aw_gi (g_mv (.inl rfl) rfl) rfl rfl rfl rfl rfl rfl rfl rfl ?_
          refine aw_gi (g_mv (.inl rfl) rfl) rfl rfl rfl rfl rfl rfl rfl rfl ?_
          refine aw_gi (g_call (same_ok _ _) rfl fn_21 ⟨(arg_v rfl), (arg_v rfl), trivial⟩ rfl) rfl rfl rfl rfl rfl rfl rfl rfl ?_
          refine aw_ist (d := 58) rfl (decide_eq_true (by rw [ap_none hmp])) ?_
          refine aw_gi (g_not rfl rfl) rfl rfl rfl rfl rfl rfl rfl rfl ?_
          refine aw_g (g_pick rfl rfl rfl) rfl rfl rfl ?_
          refine aw_g (g_mv (.inl rfl) rfl) rfl rfl rfl ?_
          refine aw_gi (g_fa_p rfl rfl fd_26_0 rfl) rfl rfl rfl rfl rfl rfl rfl rfl ?_
          refine aw_gi (g_load_b rfl rfl rfl L_Tx_ins ty_23) rfl rfl rfl rfl rfl rfl rfl rfl ?_
          refine aw_gi (g_len rfl rfl isl_23) rfl rfl rfl rfl rfl rfl rfl rfl ?_
          refine aw_gi (g_eql rfl rfl rfl rfl) rfl rfl rfl rfl rfl rfl rfl rfl ?_
          refine aw_splitp (d := 65) (p := t.ins.length = 0) rfl (by first | rfl | (rw [decide_eq_decide]; simp only [IntL.toI, id_eq]; omega) | (simp [IntL.toI]; done) | (simp [IntL.toI]; omega)) (fun g65 => ?_) (fun g65 => ?_)
          · skip
            refine aw_g (g_pick rfl rfl rfl) rfl rfl rfl ?_
            refine aw_g (g_mv (.inl rfl) rfl) rfl rfl rfl ?_
            refine aw_gn rfl rfl rfl rfl rfl rfl rfl rfl ?_
            refine aw_gn rfl rfl rfl rfl rfl rfl rfl rfl ?_
            refine aw_gn rfl rfl rfl rfl rfl rfl rfl rfl ?_
            refine aw_gn rfl rfl rfl rfl rfl rfl rfl rfl ?_
            refine aw_g (g_pick rfl rfl rfl) rfl rfl rfl ?_
            refine aw_nil ?_
            refine aw_if_t rfl (rfl) ?_
            refine aw_seq ?_
            refine aw_region ?_
            refine aw_g (g_mv (.inl rfl) rfl) rfl rfl rfl ?_
            refine aw_g (g_eql rfl rfl rfl rfl) rfl rfl rfl ?_
            refine aw_ist (d := 74) rfl (by simp [IntL.toI, ap_none hmp]) ?_
            refine aw_g (g_mv (.inl rfl) rfl) rfl rfl rfl ?_
            refine aw_gi (g_mv (.inl rfl) rfl) rfl rfl rfl rfl rfl rfl rfl rfl ?_
            refine aw_gi (g_mv (.inl rfl) rfl) rfl rfl rfl rfl rfl rfl rfl rfl ?_
            refine aw_gi (g_call (same_ok _ _) rfl fn_21 ⟨(arg_v rfl), (arg_v rfl), trivial⟩ rfl) rfl rfl rfl rfl rfl rfl rfl rfl ?_
            refine aw_ist (d := 78) rfl (decide_eq_true (by rw [ap_none hmp])) ?_
            refine aw_g (g_pick rfl rfl rfl) rfl rfl rfl ?_
            refine aw_g (g_mv (.inr rfl) rfl) rfl rfl rfl ?_
            refine aw_nil ?_
            exact aw_ret1 rfl rfl (ret_eq rfl rfl)
          · skip
            refine aw_g (g_pick rfl rfl rfl) rfl rfl rfl ?_
            refine aw_g (g_mv (.inl rfl) rfl) rfl rfl rfl ?_
            refine aw_gi (g_fa_p rfl rfl fd_26_0 rfl) rfl rfl rfl rfl rfl rfl rfl rfl ?_
            refine aw_gi (g_load_b rfl rfl rfl L_Tx_ins ty_23) rfl rfl rfl rfl rfl rfl rfl rfl ?_
            refine aw_gi (g_len rfl rfl isl_23) rfl rfl rfl rfl rfl rfl rfl rfl ?_
            refine aw_gi (g_eql rfl rfl rfl rfl) rfl rfl rfl rfl rfl rfl rfl rfl ?_
            refine aw_splitp (d := 71) (p := u.ins.length = 0) rfl (by first | rfl | (rw [decide_eq_decide]; simp only [IntL.toI, id_eq]; omega) | (simp [IntL.toI]; done) | (simp [IntL.toI]; omega)) (fun g71 => ?_) (fun g71 => ?_)
            · skip
              refine aw_g (g_pick rfl rfl rfl) rfl rfl rfl ?_
              refine aw_nil ?_
              refine aw_if_t rfl (rfl) ?_
              refine aw_seq ?_
              refine aw_region ?_
              refine aw_g (g_mv (.inl rfl) rfl) rfl rfl rfl ?_
              refine aw_g (g_eql rfl rfl rfl rfl) rfl rfl rfl ?_
              refine aw_ist (d := 74) rfl (by simp [IntL.toI, ap_none hmp]) ?_
              refine aw_g (g_mv (.inl rfl) rfl) rfl rfl rfl ?_
              refine aw_gi (g_mv (.inl rfl) rfl) rfl rfl rfl rfl rfl rfl rfl rfl ?_
              refine aw_gi (g_mv (.inl rfl) rfl) rfl rfl rfl rfl rfl rfl rfl rfl ?_
              refine aw_gi (g_call (same_ok _ _) rfl fn_21 ⟨(arg_v rfl), (arg_v rfl), trivial⟩ rfl) rfl rfl rfl rfl rfl rfl rfl rfl ?_
              refine aw_ist (d := 78) rfl (decide_eq_true (by rw [ap_none hmp])) ?_
              refine aw_g (g_pick rfl rfl rfl) rfl rfl rfl ?_
              refine aw_g (g_mv (.inr rfl) rfl) rfl rfl rfl ?_
              refine aw_nil ?_
              exact aw_ret1 rfl rfl (ret_eq rfl rfl)
            · skip
              refine aw_g (g_pick rfl rfl rfl) rfl rfl rfl ?_
              refine aw_nil ?_
              refine aw_if_f rfl (rfl) ?_
              refine aw_skip ?_
              refine aw_seq ?_
              refine aw_region ?_
              refine aw_g (g_mv (.inl rfl) rfl) rfl rfl rfl ?_
              refine aw_g (g_load_b rfl rfl rfl (Lens.self _) ty_26) rfl rfl rfl ?_
              refine aw_g (g_call (tells_pub3 (spend_ok p t (by omega))) rfl fn_12 ⟨(arg_v rfl), (arg_v rfl), trivial⟩ rfl) rfl rfl rfl ?_
              refine aw_g (by first | exact g_mv (.inl rfl) rfl | exact g_mp (.inl rfl) rfl | exact g_mo (.inl rfl) rfl | exact g_ml (.inl rfl) rfl | exact g_mc (.inl rfl) rfl | exact g_mr (.inl rfl) rfl | exact g_mf1 (.inl rfl) rfl | exact g_mf2 (.inl rfl) rfl | exact g_mw (.inl rfl) rfl | exact g_me (.inl rfl) rfl | exact g_ms (.inl rfl) rfl | exact g_mt2 (.inl rfl) rfl | exact g_mt3 (.inl rfl) rfl | exact g_mi (.inl rfl) rfl) rfl rfl rfl ?_
              refine aw_g (by first | exact g_x20 rfl rfl | exact g_x30 rfl rfl) rfl rfl rfl ?_
              refine aw_g (by first | exact g_x21 rfl rfl | exact g_x31 rfl rfl) rfl rfl rfl ?_
              refine aw_g (g_x32 rfl rfl) rfl rfl rfl ?_
              refine aw_g (g_mv (.inr rfl) rfl) rfl rfl rfl ?_
              refine aw_g (g_mv (.inr rfl) rfl) rfl rfl rfl ?_
              refine aw_g (g_mv (.inr rfl) rfl) rfl rfl rfl ?_
              refine aw_nil ?_
              refine aw_seq ?_
              refine aw_region ?_
              refine aw_g (g_mv (.inl rfl) rfl) rfl rfl rfl ?_
              refine aw_g (g_load_b rfl rfl rfl (Lens.self _) ty_26) rfl rfl rfl ?_
              refine aw_g (g_bslice (T := txT) (xs := [_]) rfl sl_27 row_27 ⟨rfl, rfl, trivial⟩ rfl rfl) rfl rfl rfl ?_
              refine aw_g (g_call (tells_pub2 (apply_ok p [t] (by omega))) rfl fn_14 ⟨(arg_v rfl), (arg_v rfl), trivial⟩ rfl) rfl rfl rfl ?_
              refine aw_g (by first | exact g_mv (.inl rfl) rfl | exact g_mp (.inl rfl) rfl | exact g_mo (.inl rfl) rfl | exact g_ml (.inl rfl) rfl | exact g_mc (.inl rfl) rfl | exact g_mr (.inl rfl) rfl | exact g_mf1 (.inl rfl) rfl | exact g_mf2 (.inl rfl) rfl | exact g_mw (.inl rfl) rfl | exact g_me (.inl rfl) rfl | exact g_ms (.inl rfl) rfl | exact g_mt2 (.inl rfl) rfl | exact g_mt3 (.inl rfl) rfl | exact g_mi (.inl rfl) rfl) rfl rfl rfl ?_
              refine aw_g (by first | exact g_x20 rfl rfl | exact g_x30 rfl rfl) rfl rfl rfl ?_
              refine aw_g (by first | exact g_x21 rfl rfl | exact g_x31 rfl rfl) rfl rfl rfl ?_
              refine aw_g (g_mv (.inr rfl) rfl) rfl rfl rfl ?_
              refine aw_g (g_mv (.inr rfl) rfl) rfl rfl rfl ?_
              refine aw_nil ?_
              refine aw_seq ?_
              refine aw_region ?_
              refine aw_g (g_mv (.inl rfl) rfl) rfl rfl rfl ?_
              refine aw_g (g_load_b rfl rfl rfl (Lens.self _) ty_26) rfl rfl rfl ?_
              refine aw_g (g_call (tells_pub3 (spend_ok (spendOf p t).1 u (by have := mayCoins_len (spendOf_may (t := t) hmp); omega))) rfl fn_12 ⟨(arg_v rfl), (arg_v rfl), trivial⟩ rfl) rfl rfl rfl ?_
              refine aw_g (by first | exact g_mv (.inl rfl) rfl | exact g_mp (.inl rfl) rfl | exact g_mo (.inl rfl) rfl | exact g_ml (.inl rfl) rfl | exact g_mc (.inl rfl) rfl | exact g_mr (.inl rfl) rfl | exact g_mf1 (.inl rfl) rfl | exact g_mf2 (.inl rfl) rfl | exact g_mw (.inl rfl) rfl | exact g_me (.inl rfl) rfl | exact g_ms (.inl rfl) rfl | exact g_mt2 (.inl rfl) rfl | exact g_mt3 (.inl rfl) rfl | exact g_mi (.inl rfl) rfl) rfl rfl rfl ?_
              refine aw_g (by first | exact g_x20 rfl rfl | exact g_x30 rfl rfl) rfl rfl rfl ?_
              refine aw_g (by first | exact g_x21 rfl rfl | exact g_x31 rfl rfl) rfl rfl rfl ?_
              refine aw_g (g_x32 rfl rfl) rfl rfl rfl ?_
              refine aw_g (g_mv (.inr rfl) rfl) rfl rfl rfl ?_
              refine aw_g (g_mv (.inr rfl) rfl) rfl rfl rfl ?_
              refine aw_g (g_mv (.inr rfl) rfl) rfl rfl rfl ?_
              refine aw_nil ?_
              refine aw_seq ?_
              refine aw_region ?_
              refine aw_g (g_mv (.inl rfl) rfl) rfl rfl rfl ?_
              refine aw_g (g_load_b rfl rfl rfl (Lens.self _) ty_26) rfl rfl rfl ?_
              refine aw_g (g_load_b rfl rfl rfl (Lens.self _) ty_26) rfl rfl rfl ?_
              refine aw_g (g_bslice (T := txT) (xs := [_, _]) rfl sl_27 row_27 ⟨rfl, rfl, rfl, rfl, trivial⟩ rfl rfl) rfl rfl rfl ?_
              refine aw_g (g_call (tells_pub2 (apply_ok p [t, u] (by omega))) rfl fn_14 ⟨(arg_v rfl), (arg_v rfl), trivial⟩ rfl) rfl rfl rfl ?_
              refine aw_g (by first | exact g_mv (.inl rfl) rfl | exact g_mp (.inl rfl) rfl | exact g_mo (.inl rfl) rfl | exact g_ml (.inl rfl) rfl | exact g_mc (.inl rfl) rfl | exact g_mr (.inl rfl) rfl | exact g_mf1 (.inl rfl) rfl | exact g_mf2 (.inl rfl) rfl | exact g_mw (.inl rfl) rfl | exact g_me (.inl rfl) rfl | exact g_ms (.inl rfl) rfl | exact g_mt2 (.inl rfl) rfl | exact g_mt3 (.inl rfl) rfl | exact g_mi (.inl rfl) rfl) rfl rfl rfl ?_
              refine aw_g (by first | exact g_x20 rfl rfl | exact g_x30 rfl rfl) rfl rfl rfl ?_
              refine aw_g (by first | exact g_x21 rfl rfl | exact g_x31 rfl rfl) rfl rfl rfl ?_
              refine aw_g (g_mv (.inr rfl) rfl) rfl rfl rfl ?_
              refine aw_g (g_mv (.inr rfl) rfl) rfl rfl rfl ?_
              refine aw_nil ?_
              refine aw_seq ?_
              refine aw_seq ?_
              refine aw_region ?_
              refine aw_g (g_mv (.inl rfl) rfl) rfl rfl rfl ?_
              refine aw_g (g_mv (.inl rfl) rfl) rfl rfl rfl ?_
              refine aw_g (g_neq rfl rfl rfl rfl) rfl rfl rfl ?_
              refine aw_isf (d := 111) rfl (by simp [IntL.toI, ap_one hmp g65]) ?_
              refine aw_g (g_mv (.inl rfl) rfl) rfl rfl rfl ?_
              refine aw_gi (g_mv (.inl rfl) rfl) rfl rfl rfl rfl rfl rfl rfl rfl ?_
              refine aw_gi (g_mv (.inl rfl) rfl) rfl rfl rfl rfl rfl rfl rfl rfl ?_
              refine aw_gi (g_call (same_ok _ _) rfl fn_21 ⟨(arg_v rfl), (arg_v rfl), trivial⟩ rfl) rfl rfl rfl rfl rfl rfl rfl rfl ?_
              refine aw_ist (d := 115) rfl (decide_eq_true (by rw [ap_one hmp g65])) ?_
              refine aw_gi (g_not rfl rfl) rfl rfl rfl rfl rfl rfl rfl rfl ?_
              refine aw_g (g_pick rfl rfl rfl) rfl rfl rfl ?_
              refine aw_nil ?_
              refine aw_if_f rfl (rfl) ?_
              refine aw_skip ?_
              refine aw_seq ?_
              refine aw_region ?_
              refine aw_g (g_mv (.inl rfl) rfl) rfl rfl rfl ?_
              refine aw_g (g_neq rfl rfl rfl rfl) rfl rfl rfl ?_
              refine aw_splitp (d := 119) (p := ¬ (spendOf p t).2.2 = 0) rfl (by simp [IntL.toI]) (fun g119 => ?_) (fun g119 => ?_)
              · skip
                refine aw_g (g_mv (.inl rfl) rfl) rfl rfl rfl ?_
                refine aw_gi (g_mv (.inl rfl) rfl) rfl rfl rfl rfl rfl rfl rfl rfl ?_
                refine aw_gi (g_mv (.inl rfl) rfl) rfl rfl rfl rfl rfl rfl rfl rfl ?_
                refine aw_gi (g_eql rfl rfl rfl rfl) rfl rfl rfl rfl rfl rfl rfl rfl ?_
                refine aw_ist (d := 123) rfl (decide_eq_true (by simp only [IntL.toI, id_eq]; rw [ap_two hmp g65, if_neg g119])) ?_
                refine aw_g (g_pick rfl rfl rfl) rfl rfl rfl ?_
                refine aw_g (g_mv (.inl rfl) rfl) rfl rfl rfl ?_
                refine aw_gn rfl rfl rfl rfl rfl rfl rfl rfl ?_
                refine aw_gn rfl rfl rfl rfl rfl rfl rfl rfl ?_
                refine aw_gn rfl rfl rfl rfl rfl rfl rfl rfl ?_
                refine aw_gu rfl rfl rfl rfl rfl rfl rfl ?_
                refine aw_gu rfl rfl rfl rfl rfl rfl rfl ?_
                refine aw_gu rfl rfl rfl rfl rfl rfl rfl ?_
                refine aw_gn rfl rfl rfl rfl rfl rfl rfl rfl ?_
                refine aw_gn rfl rfl rfl rfl rfl rfl rfl rfl ?_
                refine aw_gu rfl rfl rfl rfl rfl rfl rfl ?_
                refine aw_gu rfl rfl rfl rfl rfl rfl rfl ?_
                refine aw_gu rfl rfl rfl rfl rfl rfl rfl ?_
                refine aw_gu rfl rfl rfl rfl rfl rfl rfl ?_
                refine aw_gu rfl rfl rfl rfl rfl rfl rfl ?_
                refine aw_gu rfl rfl rfl rfl rfl rfl rfl ?_
                refine aw_gu rfl rfl rfl rfl rfl rfl rfl ?_
                refine aw_gu rfl rfl rfl rfl rfl rfl rfl ?_
                refine aw_gu rfl rfl rfl rfl rfl rfl rfl ?_
                refine aw_gu rfl rfl rfl rfl rfl rfl rfl ?_
                refine aw_gu rfl rfl rfl rfl rfl rfl rfl ?_
                refine aw_gu rfl rfl rfl rfl rfl rfl rfl ?_
                refine aw_gu rfl rfl rfl rfl rfl rfl rfl ?_
                refine aw_gu rfl rfl rfl rfl rfl rfl rfl ?_
                refine aw_gu rfl rfl rfl rfl rfl rfl rfl ?_
                refine aw_gu rfl rfl rfl rfl rfl rfl rfl ?_
                refine aw_gn rfl rfl rfl rfl rfl rfl rfl rfl ?_
                refine aw_g (g_pick rfl rfl rfl) rfl rfl rfl ?_
                refine aw_g (g_mv (.inr rfl) rfl) rfl rfl rfl ?_
                refine aw_nil ?_
                exact aw_ret1 rfl rfl (ret_eq rfl rfl)
              · skip
                refine aw_g (g_mv (.inl rfl) rfl) rfl rfl rfl ?_
                refine aw_gn rfl rfl rfl rfl rfl rfl rfl rfl ?_
                refine aw_gn rfl rfl rfl rfl rfl rfl rfl rfl ?_
                refine aw_gn rfl rfl rfl rfl rfl rfl rfl rfl ?_
                refine aw_g (g_pick rfl rfl rfl) rfl rfl rfl ?_
                refine aw_g (g_mv (.inl rfl) rfl) rfl rfl rfl ?_
                refine aw_gi (g_mv (.inl rfl) rfl) rfl rfl rfl rfl rfl rfl rfl rfl ?_
                refine aw_gi (g_eql rfl rfl rfl rfl) rfl rfl rfl rfl rfl rfl rfl rfl ?_
                refine aw_ist (d := 127) rfl (decide_eq_true (Classical.not_not.1 g119)) ?_
                refine aw_gi (g_mv (.inl rfl) rfl) rfl rfl rfl rfl rfl rfl rfl rfl ?_
                refine aw_gi (g_mv (.inl rfl) rfl) rfl rfl rfl rfl rfl rfl rfl rfl ?_
                refine aw_gi (g_mv (.inl rfl) rfl) rfl rfl rfl rfl rfl rfl rfl rfl ?_
                refine aw_gi (g_eql rfl rfl rfl rfl) rfl rfl rfl rfl rfl rfl rfl rfl ?_
                refine aw_ist (d := 131) rfl (decide_eq_true (by simp only [IntL.toI, id_eq]; rw [ap_two hmp g65, if_pos (Classical.not_not.1 g119)]; split <;> simp_all)) ?_
                refine aw_gi (g_pick rfl rfl rfl) rfl rfl rfl rfl rfl rfl rfl rfl ?_
                refine aw_gi (g_mv (.inl rfl) rfl) rfl rfl rfl rfl rfl rfl rfl rfl ?_
                refine aw_gi (g_mv (.inl rfl) rfl) rfl rfl rfl rfl rfl rfl rfl rfl ?_
                refine aw_gi (g_neq rfl rfl rfl rfl) rfl rfl rfl rfl rfl rfl rfl rfl ?_
                refine aw_splitp (d := 135) (p := ¬ (applyOf p [t, u]).2 = 0) rfl (by simp [IntL.toI]) (fun g135 => ?_) (fun g135 => ?_)
                · skip
                  refine aw_gi (g_mv (.inl rfl) rfl) rfl rfl rfl rfl rfl rfl rfl rfl ?_
                  refine aw_gi (g_mv (.inl rfl) rfl) rfl rfl rfl rfl rfl rfl rfl rfl ?_
                  refine aw_gi (g_mv (.inl rfl) rfl) rfl rfl rfl rfl rfl rfl rfl rfl ?_
                  refine aw_gi (g_call (same_ok _ _) rfl fn_21 ⟨(arg_v rfl), (arg_v rfl), trivial⟩ rfl) rfl rfl rfl rfl rfl rfl rfl rfl ?_
                  refine aw_ist (d := 139) rfl (decide_eq_true ((applyOf_tot hmp).2.2 g135)) ?_
                  refine aw_gi (g_pick rfl rfl rfl) rfl rfl rfl rfl rfl rfl rfl rfl ?_
                  refine aw_gi (g_mv (.inl rfl) rfl) rfl rfl rfl rfl rfl rfl rfl rfl ?_
                  refine aw_gn rfl rfl rfl rfl rfl rfl rfl rfl ?_
                  refine aw_gn rfl rfl rfl rfl rfl rfl rfl rfl ?_
                  refine aw_gn rfl rfl rfl rfl rfl rfl rfl rfl ?_
                  refine aw_gu rfl rfl rfl rfl rfl rfl rfl ?_
                  refine aw_gu rfl rfl rfl rfl rfl rfl rfl ?_
                  refine aw_gu rfl rfl rfl rfl rfl rfl rfl ?_
                  refine aw_gn rfl rfl rfl rfl rfl rfl rfl rfl ?_
                  refine aw_gi (g_pick rfl rfl rfl) rfl rfl rfl rfl rfl rfl rfl rfl ?_
                  refine aw_gi (g_pick rfl rfl rfl) rfl rfl rfl rfl rfl rfl rfl rfl ?_
                  refine aw_g (g_pick rfl rfl rfl) rfl rfl rfl ?_
                  refine aw_g (g_mv (.inr rfl) rfl) rfl rfl rfl ?_
                  refine aw_nil ?_
                  exact aw_ret1 rfl rfl (ret_eq rfl rfl)
                · skip
                  refine aw_gi (g_mv (.inl rfl) rfl) rfl rfl rfl rfl rfl rfl rfl rfl ?_
                  refine aw_gn rfl rfl rfl rfl rfl rfl rfl rfl ?_
                  refine aw_gn rfl rfl rfl rfl rfl rfl rfl rfl ?_
                  refine aw_gn rfl rfl rfl rfl rfl rfl rfl rfl ?_
                  refine aw_gi (g_pick rfl rfl rfl) rfl rfl rfl rfl rfl rfl rfl rfl ?_
                  refine aw_gi (g_mv (.inl rfl) rfl) rfl rfl rfl rfl rfl rfl rfl rfl ?_
                  refine aw_gi (g_mv (.inl rfl) rfl) rfl rfl rfl rfl rfl rfl rfl rfl ?_
                  refine aw_gi (g_eql rfl rfl rfl rfl) rfl rfl rfl rfl rfl rfl rfl rfl ?_
                  refine aw_ist (d := 143) rfl (decide_eq_true (Classical.not_not.1 g135)) ?_
                  refine aw_gi (g_mv (.inl rfl) rfl) rfl rfl rfl rfl rfl rfl rfl rfl ?_
                  refine aw_gi (g_mv (.inl rfl) rfl) rfl rfl rfl rfl rfl rfl rfl rfl ?_
                  refine aw_gi (g_mv (.inl rfl) rfl) rfl rfl rfl rfl rfl rfl rfl rfl ?_
                  refine aw_gi (g_call (same_ok _ _) rfl fn_21 ⟨(arg_v rfl), (arg_v rfl), trivial⟩ rfl) rfl rfl rfl rfl rfl rfl rfl rfl ?_
                  refine aw_ist (d := 147) rfl (decide_eq_true (by have h := Classical.not_not.1 g135; rw [ap_two hmp g65, if_pos (Classical.not_not.1 g119)] at h ⊢; split at h <;> simp_all)) ?_
                  refine aw_gi (g_pick rfl rfl rfl) rfl rfl rfl rfl rfl rfl rfl rfl ?_
                  refine aw_gi (g_pick rfl rfl rfl) rfl rfl rfl rfl rfl rfl rfl rfl ?_
                  refine aw_gi (g_pick rfl rfl rfl) rfl rfl rfl rfl rfl rfl rfl rfl ?_
                  refine aw_g (g_pick rfl rfl rfl) rfl rfl rfl ?_
                  refine aw_g (g_mv (.inr rfl) rfl) rfl rfl rfl ?_
                  refine aw_nil ?_
                  exact aw_ret1 rfl rfl (ret_eq rfl rfl)

end Go.Proofs.Ytmfgemnmelbflaa
