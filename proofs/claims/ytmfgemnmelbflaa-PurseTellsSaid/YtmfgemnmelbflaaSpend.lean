/- Layer 10: a transaction's coins (DEV: rests on sort_ok, sum_ok). -/
import Derived.Test.YtmfgemnmelbflaaOrder2
set_option maxRecDepth 20000
namespace Go.Proofs.Ytmfgemnmelbflaa
set_option linter.unusedVariables false
set_option linter.unusedSimpArgs false
open Go.Ab Go.RowKit

theorem del_sorted {l : List Coin} (i : Nat) (h : Sorted l) : Sorted (l.take i ++ l.drop (i + 1)) := by
  rw [← List.eraseIdx_eq_take_drop_succ]
  exact List.Pairwise.sublist (List.eraseIdx_sublist _ _) h
/-- What is left when some Ins are spent, and what they are worth. -/
def takeIns : List Coin → Int → List In → Option (List Coin × Int)
  | p, n, [] => some (p, n)
  | p, n, x :: l => match p[placeOf p x]? with
    | none => none
    | some c => if ordIn c.inn x = 0 then takeIns (p.take (placeOf p x) ++ p.drop (placeOf p x + 1)) (IntKind.i64.wrap (n + c.out.v)) l else none
/-- The coins behind a transaction, what it leaves, or why not. -/
def spendOf (p : List Coin) (t : Tx) : List Coin × Int × Int :=
  if ¬ (mayCoins p = true ∧ mayTx t = true ∧ t.ins ≠ []) then (p, 0, 1) else
  match takeIns p 0 t.ins with
  | none => (p, 0, 8)
  | some (rest, n) =>
    if IntKind.i64.wrap (n - worthF (·.v) t.outs) < 0 then (p, 0, 8)
    else if (madeOf rest t).2 = 0 then (if 48 < (madeOf rest t).1.length then (p, 0, 11) else ((madeOf rest t).1, IntKind.i64.wrap (n - worthF (·.v) t.outs), 0))
    else (p, 0, (madeOf rest t).2)
theorem mayCoins_len {p : List Coin} (h : mayCoins p = true) : p.length ≤ 48 := by
  unfold mayCoins at h
  simp only [Bool.and_eq_true, decide_eq_true_eq] at h
  exact h.2
theorem takeIns_step {p : List Coin} {n : Int} {ins : List In} {k : Nat} {x : In} {c : Coin} (hx : ins[k]? = some x) (hc : p[placeOf p x]? = some c) (h0 : ordIn c.inn x = 0) : takeIns p n (ins.drop k) = takeIns (p.take (placeOf p x) ++ p.drop (placeOf p x + 1)) (IntKind.i64.wrap (n + c.out.v)) (ins.drop (k + 1)) := by
  obtain ⟨hk, rfl⟩ := List.getElem?_eq_some_iff.1 hx
  rw [List.drop_eq_getElem_cons hk]
  rw [takeIns.eq_2]
  simp only [hc, if_pos h0]
theorem takeIns_stop {p : List Coin} {n : Int} {ins : List In} {k : Nat} {x : In} (hx : ins[k]? = some x) (h : ¬ isThere p x = true) : takeIns p n (ins.drop k) = none := by
  obtain ⟨hk, rfl⟩ := List.getElem?_eq_some_iff.1 hx
  rw [List.drop_eq_getElem_cons hk]
  rw [takeIns.eq_2]
  unfold isThere foundAt at h
  split
  · rfl
  · rename_i c hc
    rw [hc] at h
    simp only [decide_eq_true_eq] at h
    rw [if_neg h]
theorem isThere_at {p : List Coin} {x : In} (h : isThere p x = true) : ∃ c, p[placeOf p x]? = some c ∧ ordIn c.inn x = 0 := by
  unfold isThere foundAt at h
  split at h
  · cases h
  · rename_i c hc
    exact ⟨c, hc, by simpa using h⟩

theorem spendFail (p : List Coin) (e : Int) (hp : p.length ≤ 2000000000000) : Tells P 25 [.val i64T e, .rptr (bsl coinT) p] (.tup3 (.fresh 50 coinT p) (.val i64T 0) (.val i64T e)) := by
  refine fn_of_aw Try.func25 rfl rfl rfl (fun ext w hext => ?_)
  refine aw_fact (d := 0) rfl fact_int (fun hin0 => ?_)
  refine aw_seq ?_
  refine aw_region ?_
  refine aw_g (g_ml (.inr rfl) rfl) rfl rfl rfl ?_
  refine aw_g (g_mv (.inr rfl) rfl) rfl rfl rfl ?_
  refine aw_g (g_mv (.inr rfl) rfl) rfl rfl rfl ?_
  refine aw_nil ?_
  refine aw_seq ?_
  refine aw_region ?_
  refine aw_g (g_load_r rfl rfl ty_22) rfl rfl rfl ?_
  refine aw_callf (cloneCoin p (by constructor <;> omega)) rfl fn_26 ⟨(arg_v rfl), trivial⟩ rfl rfl rfl ?_
  refine aw_g (g_mv (.inl rfl) rfl) rfl rfl rfl ?_
  refine aw_g (g_mo (.inr rfl) rfl) rfl rfl rfl ?_
  refine aw_g (g_mv (.inr rfl) rfl) rfl rfl rfl ?_
  refine aw_g (g_mv (.inr rfl) rfl) rfl rfl rfl ?_
  refine aw_nil ?_
  exact aw_ret3 rfl rfl (ret_fresh_eq rfl rfl rfl) (ret_val rfl) (ret_val rfl)

theorem spend_ok (p : List Coin) (t : Tx) (hp : p.length ≤ 2000000000000) : Tells P 12 [.val (bsl coinT) p, .val txT t] (.tup3 (.fresh 50 coinT (spendOf p t).1) (.val i64T (spendOf p t).2.1) (.val i64T (spendOf p t).2.2)) := by
  refine fn_of_aw Try.func12 rfl rfl rfl (fun ext w hext => ?_)
  refine aw_fact (d := 0) rfl fact_sl (fun hsl0 => ?_)
  refine aw_seq ?_
  refine aw_region ?_
  refine aw_box rfl rfl rfl rfl rfl ?_
  refine aw_box rfl rfl rfl rfl rfl ?_
  refine aw_g (g_ml (.inr rfl) rfl) rfl rfl rfl ?_
  refine aw_g (g_mv (.inr rfl) rfl) rfl rfl rfl ?_
  refine aw_g (g_mv (.inr rfl) rfl) rfl rfl rfl ?_
  refine aw_nil ?_
  refine aw_seq ?_
  refine aw_region ?_
  refine aw_g (g_mkf (caps := [_]) rfl rfl) rfl rfl rfl ?_
  refine aw_g (g_mc (.inr rfl) rfl) rfl rfl rfl ?_
  refine aw_nil ?_
  refine aw_seq ?_
  refine aw_seq ?_
  refine aw_region ?_
  refine aw_g (g_load_b rfl rfl rfl (Lens.self _) ty_22) rfl rfl rfl ?_
  refine aw_g (g_call (may_ok _) rfl fn_20 ⟨(arg_v rfl), trivial⟩ rfl) rfl rfl rfl ?_
  refine aw_g (g_not rfl rfl) rfl rfl rfl ?_
  refine aw_g (g_mv (.inl rfl) rfl) rfl rfl rfl ?_
  refine aw_splitp (d := 21) (p := ¬ mayCoins p = true) rfl (by simp) (fun g21 => ?_) (fun g21 => ?_)
  · skip
    refine aw_gn rfl rfl rfl rfl rfl rfl rfl rfl ?_
    refine aw_gn rfl rfl rfl rfl rfl rfl rfl rfl ?_
    refine aw_gn rfl rfl rfl rfl rfl rfl rfl rfl ?_
    refine aw_g (g_pick rfl rfl rfl) rfl rfl rfl ?_
    refine aw_g (g_mv (.inl rfl) rfl) rfl rfl rfl ?_
    refine aw_gn rfl rfl rfl rfl rfl rfl rfl rfl ?_
    refine aw_gn rfl rfl rfl rfl rfl rfl rfl rfl ?_
    refine aw_gn rfl rfl rfl rfl rfl rfl rfl rfl ?_
    refine aw_gn rfl rfl rfl rfl rfl rfl rfl rfl ?_
    refine aw_g (g_pick rfl rfl rfl) rfl rfl rfl ?_
    refine aw_nil ?_
    refine aw_if_t rfl (rfl) ?_
    refine aw_seq ?_
    refine aw_region ?_
    refine aw_g (g_mc (.inl rfl) rfl) rfl rfl rfl ?_
    refine aw_callg3 (As := [_]) (Cs := [_]) (spendFail p _ hp) rfl rfl fn_25 ⟨(arg_v rfl), trivial⟩ (by intro n hn; simp only [List.mem_cons, List.not_mem_nil, or_false] at hn; rcases hn with rfl <;> exact ⟨_, _, _, _, rfl⟩) ⟨(by exact arg_cap rfl), trivial⟩ flat_int flat_int rfl rfl rfl ?_
    refine aw_g (by first | exact g_x20 rfl rfl | exact g_x30 rfl rfl) rfl rfl rfl ?_
    refine aw_g (by first | exact g_x21 rfl rfl | exact g_x31 rfl rfl) rfl rfl rfl ?_
    refine aw_g (g_x32 rfl rfl) rfl rfl rfl ?_
    refine aw_g (g_mo (.inr rfl) rfl) rfl rfl rfl ?_
    refine aw_g (by first | exact g_mv (.inr rfl) rfl | exact g_mp (.inr rfl) rfl | exact g_mo (.inr rfl) rfl | exact g_ml (.inr rfl) rfl | exact g_mc (.inr rfl) rfl | exact g_mr (.inr rfl) rfl | exact g_mf1 (.inr rfl) rfl | exact g_mf2 (.inr rfl) rfl | exact g_mw (.inr rfl) rfl | exact g_me (.inr rfl) rfl | exact g_ms (.inr rfl) rfl | exact g_mt2 (.inr rfl) rfl | exact g_mt3 (.inr rfl) rfl | exact g_mi (.inr rfl) rfl) rfl rfl rfl ?_
    refine aw_g (by first | exact g_mv (.inr rfl) rfl | exact g_mp (.inr rfl) rfl | exact g_mo (.inr rfl) rfl | exact g_ml (.inr rfl) rfl | exact g_mc (.inr rfl) rfl | exact g_mr (.inr rfl) rfl | exact g_mf1 (.inr rfl) rfl | exact g_mf2 (.inr rfl) rfl | exact g_mw (.inr rfl) rfl | exact g_me (.inr rfl) rfl | exact g_ms (.inr rfl) rfl | exact g_mt2 (.inr rfl) rfl | exact g_mt3 (.inr rfl) rfl | exact g_mi (.inr rfl) rfl) rfl rfl rfl ?_
    refine aw_nil ?_
    have hS : spendOf p t = (p, 0, 1) := by unfold spendOf; rw [if_pos (fun h => g21 h.1)]
    exact aw_ret3 rfl rfl (ret_fresh_eq rfl rfl (by rw [hS])) (ret_eq rfl (by rw [hS])) (ret_eq rfl (by rw [hS]))
  · skip
    refine aw_gi (g_load_b rfl rfl rfl (Lens.self _) ty_26) rfl rfl rfl rfl rfl rfl rfl rfl ?_
    refine aw_gi (g_call (mayTx_ok _) rfl fn_27 ⟨(arg_v rfl), trivial⟩ rfl) rfl rfl rfl rfl rfl rfl rfl rfl ?_
    refine aw_gi (g_not rfl rfl) rfl rfl rfl rfl rfl rfl rfl rfl ?_
    refine aw_g (g_pick rfl rfl rfl) rfl rfl rfl ?_
    refine aw_g (g_mv (.inl rfl) rfl) rfl rfl rfl ?_
    refine aw_splitp (d := 26) (p := ¬ mayTx t = true) rfl (by simp) (fun g26 => ?_) (fun g26 => ?_)
    · skip
      refine aw_gn rfl rfl rfl rfl rfl rfl rfl rfl ?_
      refine aw_gn rfl rfl rfl rfl rfl rfl rfl rfl ?_
      refine aw_gn rfl rfl rfl rfl rfl rfl rfl rfl ?_
      refine aw_gn rfl rfl rfl rfl rfl rfl rfl rfl ?_
      refine aw_g (g_pick rfl rfl rfl) rfl rfl rfl ?_
      refine aw_nil ?_
      refine aw_if_t rfl (rfl) ?_
      refine aw_seq ?_
      refine aw_region ?_
      refine aw_g (g_mc (.inl rfl) rfl) rfl rfl rfl ?_
      refine aw_callg3 (As := [_]) (Cs := [_]) (spendFail p _ hp) rfl rfl fn_25 ⟨(arg_v rfl), trivial⟩ (by intro n hn; simp only [List.mem_cons, List.not_mem_nil, or_false] at hn; rcases hn with rfl <;> exact ⟨_, _, _, _, rfl⟩) ⟨(by exact arg_cap rfl), trivial⟩ flat_int flat_int rfl rfl rfl ?_
      refine aw_g (by first | exact g_x20 rfl rfl | exact g_x30 rfl rfl) rfl rfl rfl ?_
      refine aw_g (by first | exact g_x21 rfl rfl | exact g_x31 rfl rfl) rfl rfl rfl ?_
      refine aw_g (g_x32 rfl rfl) rfl rfl rfl ?_
      refine aw_g (g_mo (.inr rfl) rfl) rfl rfl rfl ?_
      refine aw_g (by first | exact g_mv (.inr rfl) rfl | exact g_mp (.inr rfl) rfl | exact g_mo (.inr rfl) rfl | exact g_ml (.inr rfl) rfl | exact g_mc (.inr rfl) rfl | exact g_mr (.inr rfl) rfl | exact g_mf1 (.inr rfl) rfl | exact g_mf2 (.inr rfl) rfl | exact g_mw (.inr rfl) rfl | exact g_me (.inr rfl) rfl | exact g_ms (.inr rfl) rfl | exact g_mt2 (.inr rfl) rfl | exact g_mt3 (.inr rfl) rfl | exact g_mi (.inr rfl) rfl) rfl rfl rfl ?_
      refine aw_g (by first | exact g_mv (.inr rfl) rfl | exact g_mp (.inr rfl) rfl | exact g_mo (.inr rfl) rfl | exact g_ml (.inr rfl) rfl | exact g_mc (.inr rfl) rfl | exact g_mr (.inr rfl) rfl | exact g_mf1 (.inr rfl) rfl | exact g_mf2 (.inr rfl) rfl | exact g_mw (.inr rfl) rfl | exact g_me (.inr rfl) rfl | exact g_ms (.inr rfl) rfl | exact g_mt2 (.inr rfl) rfl | exact g_mt3 (.inr rfl) rfl | exact g_mi (.inr rfl) rfl) rfl rfl rfl ?_
      refine aw_nil ?_
      have hS : spendOf p t = (p, 0, 1) := by unfold spendOf; rw [if_pos (fun h => g26 h.2.1)]
      exact aw_ret3 rfl rfl (ret_fresh_eq rfl rfl (by rw [hS])) (ret_eq rfl (by rw [hS])) (ret_eq rfl (by rw [hS]))
    · skip
      refine aw_gi (g_fa_p rfl rfl fd_26_0 rfl) rfl rfl rfl rfl rfl rfl rfl rfl ?_
      refine aw_gi (g_load_b rfl rfl rfl L_Tx_ins ty_23) rfl rfl rfl rfl rfl rfl rfl rfl ?_
      refine aw_gi (g_len rfl rfl isl_23) rfl rfl rfl rfl rfl rfl rfl rfl ?_
      refine aw_gi (g_eql rfl rfl rfl rfl) rfl rfl rfl rfl rfl rfl rfl rfl ?_
      refine aw_g (g_pick rfl rfl rfl) rfl rfl rfl ?_
      refine aw_splitp (d := 31) (p := t.ins.length = 0) rfl (by first | rfl | (rw [decide_eq_decide]; simp only [IntL.toI, id_eq]; omega) | (simp [IntL.toI]; done) | (simp [IntL.toI]; omega)) (fun g31 => ?_) (fun g31 => ?_)
      · skip
        refine aw_nil ?_
        refine aw_if_t rfl (rfl) ?_
        refine aw_seq ?_
        refine aw_region ?_
        refine aw_g (g_mc (.inl rfl) rfl) rfl rfl rfl ?_
        refine aw_callg3 (As := [_]) (Cs := [_]) (spendFail p _ hp) rfl rfl fn_25 ⟨(arg_v rfl), trivial⟩ (by intro n hn; simp only [List.mem_cons, List.not_mem_nil, or_false] at hn; rcases hn with rfl <;> exact ⟨_, _, _, _, rfl⟩) ⟨(by exact arg_cap rfl), trivial⟩ flat_int flat_int rfl rfl rfl ?_
        refine aw_g (by first | exact g_x20 rfl rfl | exact g_x30 rfl rfl) rfl rfl rfl ?_
        refine aw_g (by first | exact g_x21 rfl rfl | exact g_x31 rfl rfl) rfl rfl rfl ?_
        refine aw_g (g_x32 rfl rfl) rfl rfl rfl ?_
        refine aw_g (g_mo (.inr rfl) rfl) rfl rfl rfl ?_
        refine aw_g (by first | exact g_mv (.inr rfl) rfl | exact g_mp (.inr rfl) rfl | exact g_mo (.inr rfl) rfl | exact g_ml (.inr rfl) rfl | exact g_mc (.inr rfl) rfl | exact g_mr (.inr rfl) rfl | exact g_mf1 (.inr rfl) rfl | exact g_mf2 (.inr rfl) rfl | exact g_mw (.inr rfl) rfl | exact g_me (.inr rfl) rfl | exact g_ms (.inr rfl) rfl | exact g_mt2 (.inr rfl) rfl | exact g_mt3 (.inr rfl) rfl | exact g_mi (.inr rfl) rfl) rfl rfl rfl ?_
        refine aw_g (by first | exact g_mv (.inr rfl) rfl | exact g_mp (.inr rfl) rfl | exact g_mo (.inr rfl) rfl | exact g_ml (.inr rfl) rfl | exact g_mc (.inr rfl) rfl | exact g_mr (.inr rfl) rfl | exact g_mf1 (.inr rfl) rfl | exact g_mf2 (.inr rfl) rfl | exact g_mw (.inr rfl) rfl | exact g_me (.inr rfl) rfl | exact g_ms (.inr rfl) rfl | exact g_mt2 (.inr rfl) rfl | exact g_mt3 (.inr rfl) rfl | exact g_mi (.inr rfl) rfl) rfl rfl rfl ?_
        refine aw_nil ?_
        have hS : spendOf p t = (p, 0, 1) := by unfold spendOf; rw [if_pos (fun h => h.2.2 (List.length_eq_zero_iff.1 g31))]
        exact aw_ret3 rfl rfl (ret_fresh_eq rfl rfl (by rw [hS])) (ret_eq rfl (by rw [hS])) (ret_eq rfl (by rw [hS]))
      · skip
        have hmp := Classical.not_not.1 g21
        have hmt := Classical.not_not.1 g26
        have hpl := mayCoins_len hmp
        have hne : t.ins ≠ [] := fun e => g31 (by rw [e]; rfl)
        refine aw_nil ?_
        refine aw_if_f rfl (rfl) ?_
        refine aw_skip ?_
        refine aw_seq ?_
        refine aw_region ?_
        refine aw_g (g_load_b rfl rfl rfl (Lens.self _) ty_22) rfl rfl rfl ?_
        refine aw_callf (cloneCoin p (by constructor <;> omega)) rfl fn_26 ⟨(arg_v rfl), trivial⟩ rfl rfl rfl ?_
        refine aw_g (g_mo (.inr rfl) rfl) rfl rfl rfl ?_
        refine aw_nil ?_
        refine aw_seq ?_
        refine aw_region ?_
        refine aw_g (g_mv (.inr rfl) rfl) rfl rfl rfl ?_
        refine aw_nil ?_
        refine aw_seq ?_
        refine aw_seq ?_
        refine aw_region ?_
        refine aw_g (g_fa_p rfl rfl fd_26_0 rfl) rfl rfl rfl ?_
        refine aw_g (g_load_b rfl rfl rfl L_Tx_ins ty_23) rfl rfl rfl ?_
        refine aw_g (g_len rfl rfl isl_23) rfl rfl rfl ?_
        refine aw_g (g_mv (.inl rfl) rfl) rfl rfl rfl ?_
        refine aw_nil ?_
        refine aw_block ?_
        refine aw_loopI (ι := Nat × List Coin × Int) 3 rfl (fun (i : Nat × List Coin × Int) => match i with | (k, rest, n) => ((((((((Fr.none).set 2 (.ptr 0 0)).set 3 (.ptr 1 0)).set 7 (.clo 25 [0])).set 8 (.own 2)).set 9 (.val i64T n)).set 40 (.val (sl inT) t.ins)).set 41 (.val i64T (t.ins.length : Int))).set 42 (.val i64T (k : Int))) (fun (i : Nat × List Coin × Int) => match i with | (k, rest, n) => (((Hp.none).set 0 (.box 22 (bsl coinT) p)).set 1 (.box 26 txT t)).set 2 (.row 50 coinT rest)) (fun (i : Nat × List Coin × Int) => match i with | (k, rest, n) => k ≤ t.ins.length ∧ Sorted rest ∧ rest.length ≤ 48 ∧ takeIns p 0 t.ins = takeIns rest n (t.ins.drop k)) (fun (i : Nat × List Coin × Int) => match i with | (k, rest, n) => t.ins.length - k) ((0, p, 0)) (⟨Nat.zero_le _, (mayCoins_iff.1 hmp).2.1, hpl, rfl⟩) (by (repeat refine Fr.le_set ?_ (by first | rfl | (simp; done))); exact Fr.le_none _) (by (repeat refine Hp.le_set ?_ rfl); exact Hp.le_none _) (by (repeat refine Fr.below_setB ?_ rfl); exact Fr.below_none _) (by (repeat refine Hp.below_set ?_ (by decide)); exact Hp.below_none _) ?_
        intro ⟨k, rest, n⟩ hinv
        dsimp only at hinv
        refine aw_fact (d := 40) rfl fact_sl (fun hsi => ?_)
        refine aw_seq ?_
        refine aw_region ?_
        refine aw_g (g_lss rfl rfl rfl rfl) rfl rfl rfl ?_
        refine aw_nil ?_
        refine aw_seq ?_
        refine aw_ifc (p := k < t.ins.length) rfl (by first | rfl | (rw [decide_eq_decide]; simp only [IntL.toI, id_eq]; omega) | (simp [IntL.toI]; done) | (simp [IntL.toI]; omega)) (fun ht43 => ?_) (fun ht43 => ?_)
        · skip
          obtain ⟨x, hx⟩ : ∃ x, t.ins[k]? = some x := ⟨_, List.getElem?_eq_getElem ht43⟩
          refine aw_skip ?_
          refine aw_seq ?_
          refine aw_block ?_
          refine aw_seq ?_
          refine aw_region ?_
          refine aw_g (g_ia_n rfl rfl rfl sl_23 (by assumption)) rfl rfl rfl ?_
          refine aw_g (g_load_r rfl rfl ty_42) rfl rfl rfl ?_
          refine aw_alloc ze_42 rfl rfl rfl rfl ?_
          refine aw_store_b rfl rfl rfl rfl rfl (Lens.self _) ty_42 rfl ?_
          refine aw_nil ?_
          refine aw_seq ?_
          refine aw_region ?_
          refine aw_g (g_mo (.inl rfl) rfl) rfl rfl rfl ?_
          refine aw_g (g_load_b rfl rfl rfl (Lens.self _) ty_42) rfl rfl rfl ?_
          refine aw_g (g_call (place_ok rest x (by omega)) rfl fn_28 ⟨(arg_own rfl rfl), (arg_v rfl), trivial⟩ rfl) rfl rfl rfl ?_
          refine aw_g (by first | exact g_mv (.inl rfl) rfl | exact g_mp (.inl rfl) rfl | exact g_mo (.inl rfl) rfl | exact g_ml (.inl rfl) rfl | exact g_mc (.inl rfl) rfl | exact g_mr (.inl rfl) rfl | exact g_mf1 (.inl rfl) rfl | exact g_mf2 (.inl rfl) rfl | exact g_mw (.inl rfl) rfl | exact g_me (.inl rfl) rfl | exact g_ms (.inl rfl) rfl | exact g_mt2 (.inl rfl) rfl | exact g_mt3 (.inl rfl) rfl | exact g_mi (.inl rfl) rfl) rfl rfl rfl ?_
          refine aw_g (by first | exact g_x20 rfl rfl | exact g_x30 rfl rfl) rfl rfl rfl ?_
          refine aw_g (by first | exact g_x21 rfl rfl | exact g_x31 rfl rfl) rfl rfl rfl ?_
          refine aw_g (g_mv (.inr rfl) rfl) rfl rfl rfl ?_
          refine aw_g (g_mv (.inr rfl) rfl) rfl rfl rfl ?_
          refine aw_nil ?_
          refine aw_seq ?_
          refine aw_seq ?_
          refine aw_region ?_
          refine aw_g (g_mv (.inl rfl) rfl) rfl rfl rfl ?_
          refine aw_g (g_not rfl rfl) rfl rfl rfl ?_
          refine aw_nil ?_
          refine aw_ifc (p := ¬ isThere rest x = true) rfl (by simp) (fun ht53 => ?_) (fun ht53 => ?_)
          · skip
            refine aw_seq ?_
            refine aw_region ?_
            refine aw_g (g_mc (.inl rfl) rfl) rfl rfl rfl ?_
            refine aw_callg3 (As := [_]) (Cs := [_]) (spendFail p _ hp) rfl rfl fn_25 ⟨(arg_v rfl), trivial⟩ (by intro n hn; simp only [List.mem_cons, List.not_mem_nil, or_false] at hn; rcases hn with rfl <;> exact ⟨_, _, _, _, rfl⟩) ⟨(by exact arg_cap rfl), trivial⟩ flat_int flat_int rfl rfl rfl ?_
            refine aw_g (by first | exact g_x20 rfl rfl | exact g_x30 rfl rfl) rfl rfl rfl ?_
            refine aw_g (by first | exact g_x21 rfl rfl | exact g_x31 rfl rfl) rfl rfl rfl ?_
            refine aw_g (g_x32 rfl rfl) rfl rfl rfl ?_
            refine aw_g (g_mo (.inr rfl) rfl) rfl rfl rfl ?_
            refine aw_g (by first | exact g_mv (.inr rfl) rfl | exact g_mp (.inr rfl) rfl | exact g_mo (.inr rfl) rfl | exact g_ml (.inr rfl) rfl | exact g_mc (.inr rfl) rfl | exact g_mr (.inr rfl) rfl | exact g_mf1 (.inr rfl) rfl | exact g_mf2 (.inr rfl) rfl | exact g_mw (.inr rfl) rfl | exact g_me (.inr rfl) rfl | exact g_ms (.inr rfl) rfl | exact g_mt2 (.inr rfl) rfl | exact g_mt3 (.inr rfl) rfl | exact g_mi (.inr rfl) rfl) rfl rfl rfl ?_
            refine aw_g (by first | exact g_mv (.inr rfl) rfl | exact g_mp (.inr rfl) rfl | exact g_mo (.inr rfl) rfl | exact g_ml (.inr rfl) rfl | exact g_mc (.inr rfl) rfl | exact g_mr (.inr rfl) rfl | exact g_mf1 (.inr rfl) rfl | exact g_mf2 (.inr rfl) rfl | exact g_mw (.inr rfl) rfl | exact g_me (.inr rfl) rfl | exact g_ms (.inr rfl) rfl | exact g_mt2 (.inr rfl) rfl | exact g_mt3 (.inr rfl) rfl | exact g_mi (.inr rfl) rfl) rfl rfl rfl ?_
            refine aw_nil ?_
            have hS : spendOf p t = (p, 0, 8) := by unfold spendOf; rw [if_neg (Classical.not_not.2 ⟨hmp, hmt, hne⟩)]; rw [hinv.2.2.2, takeIns_stop hx ht53]
            exact aw_ret3 rfl rfl (ret_fresh_eq rfl rfl (by rw [hS])) (ret_eq rfl (by rw [hS])) (ret_eq rfl (by rw [hS]))
          · skip
            obtain ⟨c, hc, h0⟩ := isThere_at (Classical.not_not.1 ht53)
            have hlt : placeOf rest x < rest.length := (List.getElem?_eq_some_iff.1 hc).1
            refine aw_skip ?_
            refine aw_seq ?_
            refine aw_region ?_
            refine aw_g (g_mv (.inl rfl) rfl) rfl rfl rfl ?_
            refine aw_g (g_mo (.inl rfl) rfl) rfl rfl rfl ?_
            refine aw_g (g_mv (.inl rfl) rfl) rfl rfl rfl ?_
            refine aw_g (g_ia_o (i := placeOf rest x) rfl rfl rfl rfl (by first | omega | rfl) sl_22 (by first | assumption | omega | (simp; omega))) rfl rfl rfl ?_
            refine aw_g (g_fa_e rfl rfl fd_50_1 rfl) rfl rfl rfl ?_
            refine aw_g (g_fa_e rfl rfl fd_48_0 rfl) rfl rfl rfl ?_
            refine aw_g (g_load_e rfl rfl rfl rfl (by assumption) (L_Coin_out.comp L_Out_v) ty_3) rfl rfl rfl ?_
            refine aw_g (by first | exact g_add rfl rfl rfl (wrap_eq (by first | omega | (simp; omega))) | exact g_add rfl rfl rfl rfl) rfl rfl rfl ?_
            refine aw_g (g_mv (.inr rfl) rfl) rfl rfl rfl ?_
            refine aw_nil ?_
            refine aw_region ?_
            refine aw_g (g_mo (.inl rfl) rfl) rfl rfl rfl ?_
            refine aw_g (g_mv (.inl rfl) rfl) rfl rfl rfl ?_
            refine aw_g (g_mv (.inl rfl) rfl) rfl rfl rfl ?_
            refine aw_g (by first | exact g_add rfl rfl rfl (wrap_eq (by first | omega | (simp; omega))) | exact g_add rfl rfl rfl rfl) rfl rfl rfl ?_
            refine aw_callc (delete_ok rest (placeOf rest x) hlt) rfl fn_29 rfl trivial ⟨(by first | exact argm_own rfl | exact argm_ptr rfl | exact argm_same rfl | exact argm_bsl rfl | exact argm_lit rfl | exact argm_clo rfl | exact argm_row rfl rfl (by decide)), (by first | exact argm_own rfl | exact argm_ptr rfl | exact argm_same rfl | exact argm_bsl rfl | exact argm_lit rfl | exact argm_clo rfl | exact argm_row rfl rfl (by decide)), (by first | exact argm_own rfl | exact argm_ptr rfl | exact argm_same rfl | exact argm_bsl rfl | exact argm_lit rfl | exact argm_clo rfl | exact argm_row rfl rfl (by decide)), trivial⟩ rfl rfl rfl ?_
            refine aw_g (g_mo (.inr rfl) rfl) rfl rfl rfl ?_
            refine aw_nil ?_
            refine aw_inBlock ?_
            refine aw_region ?_
            refine aw_g (by first | exact g_add rfl rfl rfl (wrap_eq (by first | omega | (simp; omega))) | exact g_add rfl rfl rfl rfl) rfl rfl rfl ?_
            refine aw_g (g_mv (.inl rfl) rfl) rfl rfl rfl ?_
            refine aw_nil ?_
            refine aw_ren 4 2 5 rfl rfl rfl rfl rfl rfl ?_
            exact aw_next ((k + 1, rest.take (placeOf rest x) ++ rest.drop (placeOf rest x + 1), IntKind.i64.wrap (n + c.out.v))) (⟨by omega, del_sorted _ hinv.2.1, by simp; omega, hinv.2.2.2.trans (takeIns_step hx hc h0)⟩) (by show _ < t.ins.length - k; simp only []; omega) rfl (by (repeat refine Fr.le_set ?_ (by first | rfl | (simp; done))); exact Fr.le_none _) (by (repeat refine Hp.le_set ?_ rfl); exact Hp.le_none _) (by (repeat refine Fr.below_setB ?_ rfl); exact Fr.below_none _) (by (repeat refine Hp.below_set ?_ (by decide)); exact Hp.below_none _)
        · skip
          obtain rfl : k = t.ins.length := (by omega)
          have htk : takeIns p 0 t.ins = some (rest, n) := by rw [hinv.2.2.2, List.drop_of_length_le (Nat.le_refl _)]; rfl
          refine aw_exit rfl ?_
          refine aw_seq ?_
          refine aw_region ?_
          refine aw_g (g_mv (.inl rfl) rfl) rfl rfl rfl ?_
          refine aw_g (g_load_b rfl rfl rfl (Lens.self _) ty_26) rfl rfl rfl ?_
          refine aw_g (g_call (outs_ok _) rfl fn_30 ⟨(arg_v rfl), trivial⟩ rfl) rfl rfl rfl ?_
          refine aw_g (by first | exact g_sub rfl rfl rfl (wrap_eq (by first | omega | (simp; omega))) | exact g_sub rfl rfl rfl rfl) rfl rfl rfl ?_
          refine aw_g (g_mv (.inr rfl) rfl) rfl rfl rfl ?_
          refine aw_nil ?_
          refine aw_seq ?_
          refine aw_seq ?_
          refine aw_region ?_
          refine aw_g (g_mv (.inl rfl) rfl) rfl rfl rfl ?_
          refine aw_g (g_lss rfl rfl rfl rfl) rfl rfl rfl ?_
          refine aw_nil ?_
          refine aw_ifc (p := IntKind.i64.wrap (n - worthF (·.v) t.outs) < 0) rfl (by first | rfl | (rw [decide_eq_decide]; simp only [IntL.toI, id_eq]; omega) | (simp [IntL.toI]; done) | (simp [IntL.toI]; omega)) (fun ht78 => ?_) (fun ht78 => ?_)
          · skip
            refine aw_seq ?_
            refine aw_region ?_
            refine aw_g (g_mc (.inl rfl) rfl) rfl rfl rfl ?_
            refine aw_callg3 (As := [_]) (Cs := [_]) (spendFail p _ hp) rfl rfl fn_25 ⟨(arg_v rfl), trivial⟩ (by intro n hn; simp only [List.mem_cons, List.not_mem_nil, or_false] at hn; rcases hn with rfl <;> exact ⟨_, _, _, _, rfl⟩) ⟨(by exact arg_cap rfl), trivial⟩ flat_int flat_int rfl rfl rfl ?_
            refine aw_g (by first | exact g_x20 rfl rfl | exact g_x30 rfl rfl) rfl rfl rfl ?_
            refine aw_g (by first | exact g_x21 rfl rfl | exact g_x31 rfl rfl) rfl rfl rfl ?_
            refine aw_g (g_x32 rfl rfl) rfl rfl rfl ?_
            refine aw_g (g_mo (.inr rfl) rfl) rfl rfl rfl ?_
            refine aw_g (by first | exact g_mv (.inr rfl) rfl | exact g_mp (.inr rfl) rfl | exact g_mo (.inr rfl) rfl | exact g_ml (.inr rfl) rfl | exact g_mc (.inr rfl) rfl | exact g_mr (.inr rfl) rfl | exact g_mf1 (.inr rfl) rfl | exact g_mf2 (.inr rfl) rfl | exact g_mw (.inr rfl) rfl | exact g_me (.inr rfl) rfl | exact g_ms (.inr rfl) rfl | exact g_mt2 (.inr rfl) rfl | exact g_mt3 (.inr rfl) rfl | exact g_mi (.inr rfl) rfl) rfl rfl rfl ?_
            refine aw_g (by first | exact g_mv (.inr rfl) rfl | exact g_mp (.inr rfl) rfl | exact g_mo (.inr rfl) rfl | exact g_ml (.inr rfl) rfl | exact g_mc (.inr rfl) rfl | exact g_mr (.inr rfl) rfl | exact g_mf1 (.inr rfl) rfl | exact g_mf2 (.inr rfl) rfl | exact g_mw (.inr rfl) rfl | exact g_me (.inr rfl) rfl | exact g_ms (.inr rfl) rfl | exact g_mt2 (.inr rfl) rfl | exact g_mt3 (.inr rfl) rfl | exact g_mi (.inr rfl) rfl) rfl rfl rfl ?_
            refine aw_nil ?_
            have hS : spendOf p t = (p, 0, 8) := by unfold spendOf; rw [if_neg (Classical.not_not.2 ⟨hmp, hmt, hne⟩)]; rw [htk]; exact if_pos ht78
            exact aw_ret3 rfl rfl (ret_fresh_eq rfl rfl (by rw [hS])) (ret_eq rfl (by rw [hS])) (ret_eq rfl (by rw [hS]))
          · skip
            refine aw_skip ?_
            refine aw_seq ?_
            refine aw_region ?_
            refine aw_g (g_mo (.inl rfl) rfl) rfl rfl rfl ?_
            refine aw_g (g_load_b rfl rfl rfl (Lens.self _) ty_26) rfl rfl rfl ?_
            refine aw_callc2 (made_ok rest t (by omega) (mayTx_lens hmt).2.2 (apart_new (Sorted.apart hinv.2.1))) rfl fn_31 rfl trivial flat_int ⟨(by first | exact argm_own rfl | exact argm_ptr rfl | exact argm_same rfl | exact argm_bsl rfl | exact argm_lit rfl | exact argm_clo rfl | exact argm_row rfl rfl (by decide)), (by first | exact argm_own rfl | exact argm_ptr rfl | exact argm_same rfl | exact argm_bsl rfl | exact argm_lit rfl | exact argm_clo rfl | exact argm_row rfl rfl (by decide)), trivial⟩ rfl rfl rfl ?_
            refine aw_g (by first | exact g_mt2 (.inl rfl) rfl | exact g_mt3 (.inl rfl) rfl) rfl rfl rfl ?_
            refine aw_g (by first | exact g_x20 rfl rfl | exact g_x30 rfl rfl) rfl rfl rfl ?_
            refine aw_g (by first | exact g_x21 rfl rfl | exact g_x31 rfl rfl) rfl rfl rfl ?_
            refine aw_g (g_mo (.inr rfl) rfl) rfl rfl rfl ?_
            refine aw_g (by first | exact g_mv (.inr rfl) rfl | exact g_mp (.inr rfl) rfl | exact g_mo (.inr rfl) rfl | exact g_ml (.inr rfl) rfl | exact g_mc (.inr rfl) rfl | exact g_mr (.inr rfl) rfl | exact g_mf1 (.inr rfl) rfl | exact g_mf2 (.inr rfl) rfl | exact g_mw (.inr rfl) rfl | exact g_me (.inr rfl) rfl | exact g_ms (.inr rfl) rfl | exact g_mt2 (.inr rfl) rfl | exact g_mt3 (.inr rfl) rfl | exact g_mi (.inr rfl) rfl) rfl rfl rfl ?_
            refine aw_nil ?_
            refine aw_seq ?_
            refine aw_seq ?_
            refine aw_region ?_
            refine aw_g (by first | exact g_mv (.inl rfl) rfl | exact g_mp (.inl rfl) rfl | exact g_mo (.inl rfl) rfl | exact g_ml (.inl rfl) rfl | exact g_mc (.inl rfl) rfl | exact g_mr (.inl rfl) rfl | exact g_mf1 (.inl rfl) rfl | exact g_mf2 (.inl rfl) rfl | exact g_mw (.inl rfl) rfl | exact g_me (.inl rfl) rfl | exact g_ms (.inl rfl) rfl | exact g_mt2 (.inl rfl) rfl | exact g_mt3 (.inl rfl) rfl | exact g_mi (.inl rfl) rfl) rfl rfl rfl ?_
            refine aw_g (g_eql rfl rfl rfl rfl) rfl rfl rfl ?_
            refine aw_g (g_mv (.inl rfl) rfl) rfl rfl rfl ?_
            refine aw_splitp (d := 92) (p := (madeOf rest t).2 = 0) rfl (by first | rfl | (rw [decide_eq_decide]; simp only [IntL.toI, id_eq]; omega) | (simp [IntL.toI]; done) | (simp [IntL.toI]; omega)) (fun g92 => ?_) (fun g92 => ?_)
            · skip
              refine aw_gi (g_mo (.inl rfl) rfl) rfl rfl rfl rfl rfl rfl rfl rfl ?_
              refine aw_gi (g_len_o rfl rfl rfl isl_22) rfl rfl rfl rfl rfl rfl rfl rfl ?_
              refine aw_gi (g_gtr rfl rfl rfl rfl) rfl rfl rfl rfl rfl rfl rfl rfl ?_
              refine aw_g (g_pick rfl rfl rfl) rfl rfl rfl ?_
              refine aw_splitp (d := 96) (p := 48 < (madeOf rest t).1.length) rfl (by first | rfl | (rw [decide_eq_decide]; simp only [IntL.toI, id_eq]; omega) | (simp [IntL.toI]; done) | (simp [IntL.toI]; omega)) (fun g96 => ?_) (fun g96 => ?_)
              · skip
                refine aw_nil ?_
                refine aw_if_t rfl (rfl) ?_
                refine aw_region ?_
                refine aw_g (g_mv (.inr rfl) rfl) rfl rfl rfl ?_
                refine aw_nil ?_
                refine aw_seq ?_
                refine aw_seq ?_
                refine aw_region ?_
                refine aw_g (g_mv (.inl rfl) rfl) rfl rfl rfl ?_
                refine aw_g (g_neq rfl rfl rfl rfl) rfl rfl rfl ?_
                refine aw_nil ?_
                refine aw_if_t rfl (rfl) ?_
                refine aw_seq ?_
                refine aw_region ?_
                refine aw_g (g_mc (.inl rfl) rfl) rfl rfl rfl ?_
                refine aw_g (g_mv (.inl rfl) rfl) rfl rfl rfl ?_
                refine aw_callg3 (As := [_]) (Cs := [_]) (spendFail p _ hp) rfl rfl fn_25 ⟨(arg_v rfl), trivial⟩ (by intro n hn; simp only [List.mem_cons, List.not_mem_nil, or_false] at hn; rcases hn with rfl <;> exact ⟨_, _, _, _, rfl⟩) ⟨(by exact arg_cap rfl), trivial⟩ flat_int flat_int rfl rfl rfl ?_
                refine aw_g (by first | exact g_x20 rfl rfl | exact g_x30 rfl rfl) rfl rfl rfl ?_
                refine aw_g (by first | exact g_x21 rfl rfl | exact g_x31 rfl rfl) rfl rfl rfl ?_
                refine aw_g (g_x32 rfl rfl) rfl rfl rfl ?_
                refine aw_g (g_mo (.inr rfl) rfl) rfl rfl rfl ?_
                refine aw_g (by first | exact g_mv (.inr rfl) rfl | exact g_mp (.inr rfl) rfl | exact g_mo (.inr rfl) rfl | exact g_ml (.inr rfl) rfl | exact g_mc (.inr rfl) rfl | exact g_mr (.inr rfl) rfl | exact g_mf1 (.inr rfl) rfl | exact g_mf2 (.inr rfl) rfl | exact g_mw (.inr rfl) rfl | exact g_me (.inr rfl) rfl | exact g_ms (.inr rfl) rfl | exact g_mt2 (.inr rfl) rfl | exact g_mt3 (.inr rfl) rfl | exact g_mi (.inr rfl) rfl) rfl rfl rfl ?_
                refine aw_g (by first | exact g_mv (.inr rfl) rfl | exact g_mp (.inr rfl) rfl | exact g_mo (.inr rfl) rfl | exact g_ml (.inr rfl) rfl | exact g_mc (.inr rfl) rfl | exact g_mr (.inr rfl) rfl | exact g_mf1 (.inr rfl) rfl | exact g_mf2 (.inr rfl) rfl | exact g_mw (.inr rfl) rfl | exact g_me (.inr rfl) rfl | exact g_ms (.inr rfl) rfl | exact g_mt2 (.inr rfl) rfl | exact g_mt3 (.inr rfl) rfl | exact g_mi (.inr rfl) rfl) rfl rfl rfl ?_
                refine aw_nil ?_
                have hS : spendOf p t = (p, 0, 11) := by unfold spendOf; rw [if_neg (Classical.not_not.2 ⟨hmp, hmt, hne⟩)]; rw [htk]; simp only [if_neg ht78, if_pos g92, if_pos g96]
                exact aw_ret3 rfl rfl (ret_fresh_eq rfl rfl (by rw [hS])) (ret_eq rfl (by rw [hS])) (ret_eq rfl (by rw [hS]))
              · skip
                refine aw_nil ?_
                refine aw_if_f rfl (rfl) ?_
                refine aw_skip ?_
                refine aw_seq ?_
                refine aw_seq ?_
                refine aw_region ?_
                refine aw_g (by first | exact g_mv (.inl rfl) rfl | exact g_mp (.inl rfl) rfl | exact g_mo (.inl rfl) rfl | exact g_ml (.inl rfl) rfl | exact g_mc (.inl rfl) rfl | exact g_mr (.inl rfl) rfl | exact g_mf1 (.inl rfl) rfl | exact g_mf2 (.inl rfl) rfl | exact g_mw (.inl rfl) rfl | exact g_me (.inl rfl) rfl | exact g_ms (.inl rfl) rfl | exact g_mt2 (.inl rfl) rfl | exact g_mt3 (.inl rfl) rfl | exact g_mi (.inl rfl) rfl) rfl rfl rfl ?_
                refine aw_g (g_neq rfl rfl rfl rfl) rfl rfl rfl ?_
                refine aw_nil ?_
                refine aw_if_f rfl (by simp [IntL.toI, g92]) ?_
                refine aw_skip ?_
                refine aw_seq ?_
                refine aw_region ?_
                refine aw_g (g_mo (.inl rfl) rfl) rfl rfl rfl ?_
                refine aw_g (g_mv (.inl rfl) rfl) rfl rfl rfl ?_
                refine aw_g (g_mo (.inr rfl) rfl) rfl rfl rfl ?_
                refine aw_g (g_mv (.inr rfl) rfl) rfl rfl rfl ?_
                refine aw_g (g_mv (.inr rfl) rfl) rfl rfl rfl ?_
                refine aw_nil ?_
                have hS : spendOf p t = ((madeOf rest t).1, IntKind.i64.wrap (n - worthF (·.v) t.outs), 0) := by unfold spendOf; rw [if_neg (Classical.not_not.2 ⟨hmp, hmt, hne⟩)]; rw [htk]; simp only [if_neg ht78, if_pos g92, if_neg g96]
                exact aw_ret3 rfl rfl (ret_fresh_eq rfl rfl (by rw [hS])) (ret_eq rfl (by rw [hS])) (ret_eq rfl (by rw [hS]))
            · skip
              refine aw_gn rfl rfl rfl rfl rfl rfl rfl rfl ?_
              refine aw_gn rfl rfl rfl rfl rfl rfl rfl rfl ?_
              refine aw_gn rfl rfl rfl rfl rfl rfl rfl rfl ?_
              refine aw_g (g_pick rfl rfl rfl) rfl rfl rfl ?_
              refine aw_nil ?_
              refine aw_if_f rfl (rfl) ?_
              refine aw_skip ?_
              refine aw_seq ?_
              refine aw_seq ?_
              refine aw_region ?_
              refine aw_g (by first | exact g_mv (.inl rfl) rfl | exact g_mp (.inl rfl) rfl | exact g_mo (.inl rfl) rfl | exact g_ml (.inl rfl) rfl | exact g_mc (.inl rfl) rfl | exact g_mr (.inl rfl) rfl | exact g_mf1 (.inl rfl) rfl | exact g_mf2 (.inl rfl) rfl | exact g_mw (.inl rfl) rfl | exact g_me (.inl rfl) rfl | exact g_ms (.inl rfl) rfl | exact g_mt2 (.inl rfl) rfl | exact g_mt3 (.inl rfl) rfl | exact g_mi (.inl rfl) rfl) rfl rfl rfl ?_
              refine aw_g (g_neq rfl rfl rfl rfl) rfl rfl rfl ?_
              refine aw_nil ?_
              refine aw_if_t rfl (by simp [IntL.toI, g92]) ?_
              refine aw_seq ?_
              refine aw_region ?_
              refine aw_g (g_mc (.inl rfl) rfl) rfl rfl rfl ?_
              refine aw_g (by first | exact g_mv (.inl rfl) rfl | exact g_mp (.inl rfl) rfl | exact g_mo (.inl rfl) rfl | exact g_ml (.inl rfl) rfl | exact g_mc (.inl rfl) rfl | exact g_mr (.inl rfl) rfl | exact g_mf1 (.inl rfl) rfl | exact g_mf2 (.inl rfl) rfl | exact g_mw (.inl rfl) rfl | exact g_me (.inl rfl) rfl | exact g_ms (.inl rfl) rfl | exact g_mt2 (.inl rfl) rfl | exact g_mt3 (.inl rfl) rfl | exact g_mi (.inl rfl) rfl) rfl rfl rfl ?_
              refine aw_callg3 (As := [_]) (Cs := [_]) (spendFail p _ hp) rfl rfl fn_25 ⟨(by first | exact arg_same rfl | exact arg_bsl rfl | exact arg_own rfl rfl | exact arg_nil rfl | exact arg_rptr rfl | exact arg_fn rfl rfl | exact arg_lit rfl), trivial⟩ (by intro n hn; simp only [List.mem_cons, List.not_mem_nil, or_false] at hn; rcases hn with rfl <;> exact ⟨_, _, _, _, rfl⟩) ⟨(by exact arg_cap rfl), trivial⟩ flat_int flat_int rfl rfl rfl ?_
              refine aw_g (by first | exact g_x20 rfl rfl | exact g_x30 rfl rfl) rfl rfl rfl ?_
              refine aw_g (by first | exact g_x21 rfl rfl | exact g_x31 rfl rfl) rfl rfl rfl ?_
              refine aw_g (g_x32 rfl rfl) rfl rfl rfl ?_
              refine aw_g (g_mo (.inr rfl) rfl) rfl rfl rfl ?_
              refine aw_g (by first | exact g_mv (.inr rfl) rfl | exact g_mp (.inr rfl) rfl | exact g_mo (.inr rfl) rfl | exact g_ml (.inr rfl) rfl | exact g_mc (.inr rfl) rfl | exact g_mr (.inr rfl) rfl | exact g_mf1 (.inr rfl) rfl | exact g_mf2 (.inr rfl) rfl | exact g_mw (.inr rfl) rfl | exact g_me (.inr rfl) rfl | exact g_ms (.inr rfl) rfl | exact g_mt2 (.inr rfl) rfl | exact g_mt3 (.inr rfl) rfl | exact g_mi (.inr rfl) rfl) rfl rfl rfl ?_
              refine aw_g (by first | exact g_mv (.inr rfl) rfl | exact g_mp (.inr rfl) rfl | exact g_mo (.inr rfl) rfl | exact g_ml (.inr rfl) rfl | exact g_mc (.inr rfl) rfl | exact g_mr (.inr rfl) rfl | exact g_mf1 (.inr rfl) rfl | exact g_mf2 (.inr rfl) rfl | exact g_mw (.inr rfl) rfl | exact g_me (.inr rfl) rfl | exact g_ms (.inr rfl) rfl | exact g_mt2 (.inr rfl) rfl | exact g_mt3 (.inr rfl) rfl | exact g_mi (.inr rfl) rfl) rfl rfl rfl ?_
              refine aw_nil ?_
              have hS : spendOf p t = (p, 0, (madeOf rest t).2) := by unfold spendOf; rw [if_neg (Classical.not_not.2 ⟨hmp, hmt, hne⟩)]; rw [htk]; simp only [if_neg ht78, if_neg g92]
              exact aw_ret3 rfl rfl (ret_fresh_eq rfl rfl (by rw [hS])) (ret_eq rfl (by rw [hS])) (ret_eq rfl (by rw [hS]))

end Go.Proofs.Ytmfgemnmelbflaa
