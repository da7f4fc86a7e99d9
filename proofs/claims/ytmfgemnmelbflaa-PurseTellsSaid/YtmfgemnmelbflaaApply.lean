/- Layer 10: the coins behind a block's transactions (DEV: rests on sort_ok, sum_ok). -/
import Derived.Test.YtmfgemnmelbflaaOrder3
set_option maxRecDepth 20000
namespace Go.Proofs.Ytmfgemnmelbflaa
set_option linter.unusedVariables false
set_option linter.unusedSimpArgs false
open Go.Ab Go.RowKit

def runTxs : List Coin → Int → List Tx → Sum Int (List Coin × Int)
  | out, room, [] => .inr (out, room)
  | out, room, t :: l => if (spendOf out t).2.2 = 0 then runTxs (spendOf out t).1 (IntKind.i64.wrap (room + (spendOf out t).2.1)) l else .inl (spendOf out t).2.2
def isFirst (l : List Tx) : Bool := match l with | [] => false | t :: _ => decide (t.ins.length = 0)
theorem isFirst_at {l : List Tx} {t : Tx} (h : l[0]? = some t) : isFirst l = decide (t.ins.length = 0) := by
  cases l with
  | nil => simp at h
  | cons a m => simp at h; subst h; rfl
theorem isFirst_nil {l : List Tx} (h : ¬ 0 < l.length) : isFirst l = false := by
  cases l with
  | nil => rfl
  | cons a m => simp at h
def remTxs (l : List Tx) (k : Nat) : List Tx := if isFirst l = true ∧ k = 0 then l.drop 1 else l.drop k
/-- The coins behind a block's transactions, or why not. -/
def applyOf (p : List Coin) (l : List Tx) : List Coin × Int :=
  if ¬ mayCoins p = true then (p, 1) else if 4 < l.length then (p, 3) else
  match runTxs p 50 (remTxs l 0) with
  | .inl e => (p, e)
  | .inr (out, room) => match (if isFirst l = true then l[0]? else none) with
    | none => (out, 0)
    | some t => if ¬ mayTx t = true then (p, 1) else if ¬ (madeOf out t).2 = 0 then (p, (madeOf out t).2) else if room < worthF (·.v) t.outs then (p, 8) else if 48 < (madeOf out t).1.length then (p, 11) else ((madeOf out t).1, 0)
theorem runTxs_step {out : List Coin} {room : Int} {l : List Tx} {k : Nat} {t : Tx} (hk : ¬ (isFirst l = true ∧ k = 0)) (hx : l[k]? = some t) (h : (spendOf out t).2.2 = 0) : runTxs out room (remTxs l k) = runTxs (spendOf out t).1 (IntKind.i64.wrap (room + (spendOf out t).2.1)) (remTxs l (k + 1)) := by
  obtain ⟨hlt, rfl⟩ := List.getElem?_eq_some_iff.1 hx
  unfold remTxs
  rw [if_neg hk, if_neg (by omega), List.drop_eq_getElem_cons hlt, runTxs.eq_2, if_pos h]
theorem runTxs_stop {out : List Coin} {room : Int} {l : List Tx} {k : Nat} {t : Tx} (hk : ¬ (isFirst l = true ∧ k = 0)) (hx : l[k]? = some t) (h : ¬ (spendOf out t).2.2 = 0) : runTxs out room (remTxs l k) = .inl (spendOf out t).2.2 := by
  obtain ⟨hlt, rfl⟩ := List.getElem?_eq_some_iff.1 hx
  unfold remTxs
  rw [if_neg hk, List.drop_eq_getElem_cons hlt, runTxs.eq_2, if_neg h]
theorem remTxs_first {l : List Tx} (h : isFirst l = true) : remTxs l 0 = remTxs l 1 := by
  unfold remTxs
  rw [if_pos ⟨h, rfl⟩, if_neg (by omega)]
theorem remTxs_end {l : List Tx} (k : Nat) (h : l.length ≤ k) : remTxs l k = [] := by
  unfold remTxs
  split
  · exact List.drop_of_length_le (by omega)
  · exact List.drop_of_length_le h
theorem spendOf_len {p : List Coin} {t : Tx} (h : p.length ≤ 48) : (spendOf p t).1.length ≤ 48 := by
  unfold spendOf
  split
  · exact h
  · split
    · exact h
    · split
      · exact h
      · split
        · split
          · exact h
          · simp only []; omega
        · exact h

theorem applyFail (p : List Coin) (e : Int) (hp : p.length ≤ 2000000000000) : Tells P 37 [.val i64T e, .rptr (bsl coinT) p] (.tup2 (.fresh 50 coinT p) (.val i64T e)) := by
  refine fn_of_aw Try.func37 rfl rfl rfl (fun ext w hext => ?_)
  refine aw_fact (d := 0) rfl fact_int (fun hin0 => ?_)
  refine aw_seq ?_
  refine aw_region ?_
  refine aw_g (g_ml (.inr rfl) rfl) rfl rfl rfl ?_
  refine aw_g (g_mv (.inr rfl) rfl) rfl rfl rfl ?_
  refine aw_nil ?_
  refine aw_seq ?_
  refine aw_region ?_
  refine aw_g (g_load_r rfl rfl ty_22) rfl rfl rfl ?_
  refine aw_callf (cloneCoin p (by constructor <;> omega)) rfl fn_26 ⟨(arg_v rfl), trivial⟩ rfl rfl rfl ?_
  refine aw_g (g_mv (.inl rfl) rfl) rfl rfl rfl ?_
  refine aw_g (g_mo (.inr rfl) rfl) rfl rfl rfl ?_
  refine aw_g (g_mv (.inr rfl) rfl) rfl rfl rfl ?_
  refine aw_nil ?_
  exact aw_ret2 rfl rfl (ret_fresh_eq rfl rfl rfl) (ret_val rfl)

theorem apply_ok (p : List Coin) (l : List Tx) (hp : p.length ≤ 2000000000000) : Tells P 14 [.val (bsl coinT) p, .val (bsl txT) l] (.tup2 (.fresh 50 coinT (applyOf p l).1) (.val i64T (applyOf p l).2)) := by
  refine fn_of_aw Try.func14 rfl rfl rfl (fun ext w hext => ?_)
  refine aw_fact (d := 0) rfl fact_sl (fun hsl0 => ?_)
  refine aw_fact (d := 1) rfl fact_sl (fun hsl1 => ?_)
  refine aw_seq ?_
  refine aw_region ?_
  refine aw_box rfl rfl rfl rfl rfl ?_
  refine aw_g (g_ml (.inr rfl) rfl) rfl rfl rfl ?_
  refine aw_g (g_mv (.inr rfl) rfl) rfl rfl rfl ?_
  refine aw_nil ?_
  refine aw_seq ?_
  refine aw_region ?_
  refine aw_g (g_mkf (caps := [_]) rfl rfl) rfl rfl rfl ?_
  refine aw_g (g_mc (.inr rfl) rfl) rfl rfl rfl ?_
  refine aw_nil ?_
  refine aw_seq ?_
  refine aw_block ?_
  refine aw_seq ?_
  refine aw_region ?_
  refine aw_g (g_load_b rfl rfl rfl (Lens.self _) ty_22) rfl rfl rfl ?_
  refine aw_g (g_call (may_ok _) rfl fn_20 ⟨(arg_v rfl), trivial⟩ rfl) rfl rfl rfl ?_
  refine aw_g (g_not rfl rfl) rfl rfl rfl ?_
  refine aw_g (g_mv (.inr rfl) rfl) rfl rfl rfl ?_
  refine aw_nil ?_
  refine aw_ifc (p := ¬ mayCoins p = true) rfl (by simp) (fun ht17 => ?_) (fun ht17 => ?_)
  · skip
    refine aw_seq ?_
    refine aw_region ?_
    refine aw_g (g_mc (.inl rfl) rfl) rfl rfl rfl ?_
    refine aw_callg2 (As := [_]) (Cs := [_]) (applyFail p _ hp) rfl rfl fn_37 ⟨(arg_v rfl), trivial⟩ (by intro n hn; simp only [List.mem_cons, List.not_mem_nil, or_false] at hn; rcases hn with rfl <;> exact ⟨_, _, _, _, rfl⟩) ⟨(by exact arg_cap rfl), trivial⟩ flat_int rfl rfl rfl ?_
    refine aw_g (by first | exact g_x20 rfl rfl | exact g_x30 rfl rfl) rfl rfl rfl ?_
    refine aw_g (by first | exact g_x21 rfl rfl | exact g_x31 rfl rfl) rfl rfl rfl ?_
    refine aw_g (g_mo (.inr rfl) rfl) rfl rfl rfl ?_
    refine aw_g (by first | exact g_mv (.inr rfl) rfl | exact g_mp (.inr rfl) rfl | exact g_mo (.inr rfl) rfl | exact g_ml (.inr rfl) rfl | exact g_mc (.inr rfl) rfl | exact g_mr (.inr rfl) rfl | exact g_mf1 (.inr rfl) rfl | exact g_mf2 (.inr rfl) rfl | exact g_mw (.inr rfl) rfl | exact g_me (.inr rfl) rfl | exact g_ms (.inr rfl) rfl | exact g_mt2 (.inr rfl) rfl | exact g_mt3 (.inr rfl) rfl | exact g_mi (.inr rfl) rfl) rfl rfl rfl ?_
    refine aw_nil ?_
    have hS : applyOf p l = (p, 1) := by unfold applyOf; rw [if_pos ht17]
    exact aw_ret2 rfl rfl (ret_fresh_eq rfl rfl (by rw [hS])) (ret_eq rfl (by rw [hS]))
  · skip
    have hmp := Classical.not_not.1 ht17
    have hpl := mayCoins_len hmp
    refine aw_seq ?_
    refine aw_region ?_
    refine aw_g (g_mv (.inl rfl) rfl) rfl rfl rfl ?_
    refine aw_g (g_len rfl rfl isl_27) rfl rfl rfl ?_
    refine aw_g (g_gtr rfl rfl rfl rfl) rfl rfl rfl ?_
    refine aw_g (g_mv (.inr rfl) rfl) rfl rfl rfl ?_
    refine aw_nil ?_
    refine aw_ifc (p := 4 < l.length) rfl (by first | rfl | (rw [decide_eq_decide]; simp only [IntL.toI, id_eq]; omega) | (simp [IntL.toI]; done) | (simp [IntL.toI]; omega)) (fun ht25 => ?_) (fun ht25 => ?_)
    · skip
      refine aw_seq ?_
      refine aw_region ?_
      refine aw_g (g_mc (.inl rfl) rfl) rfl rfl rfl ?_
      refine aw_callg2 (As := [_]) (Cs := [_]) (applyFail p _ hp) rfl rfl fn_37 ⟨(arg_v rfl), trivial⟩ (by intro n hn; simp only [List.mem_cons, List.not_mem_nil, or_false] at hn; rcases hn with rfl <;> exact ⟨_, _, _, _, rfl⟩) ⟨(by exact arg_cap rfl), trivial⟩ flat_int rfl rfl rfl ?_
      refine aw_g (by first | exact g_x20 rfl rfl | exact g_x30 rfl rfl) rfl rfl rfl ?_
      refine aw_g (by first | exact g_x21 rfl rfl | exact g_x31 rfl rfl) rfl rfl rfl ?_
      refine aw_g (g_mo (.inr rfl) rfl) rfl rfl rfl ?_
      refine aw_g (by first | exact g_mv (.inr rfl) rfl | exact g_mp (.inr rfl) rfl | exact g_mo (.inr rfl) rfl | exact g_ml (.inr rfl) rfl | exact g_mc (.inr rfl) rfl | exact g_mr (.inr rfl) rfl | exact g_mf1 (.inr rfl) rfl | exact g_mf2 (.inr rfl) rfl | exact g_mw (.inr rfl) rfl | exact g_me (.inr rfl) rfl | exact g_ms (.inr rfl) rfl | exact g_mt2 (.inr rfl) rfl | exact g_mt3 (.inr rfl) rfl | exact g_mi (.inr rfl) rfl) rfl rfl rfl ?_
      refine aw_nil ?_
      have hS : applyOf p l = (p, 3) := by unfold applyOf; rw [if_neg (Classical.not_not.2 hmp), if_pos ht25]
      exact aw_ret2 rfl rfl (ret_fresh_eq rfl rfl (by rw [hS])) (ret_eq rfl (by rw [hS]))
    · skip
      refine aw_skip ?_
      refine aw_inBlock ?_
      refine aw_seq ?_
      refine aw_region ?_
      refine aw_g (g_load_b rfl rfl rfl (Lens.self _) ty_22) rfl rfl rfl ?_
      refine aw_callf (cloneCoin p (by constructor <;> omega)) rfl fn_26 ⟨(arg_v rfl), trivial⟩ rfl rfl rfl ?_
      refine aw_g (g_mo (.inr rfl) rfl) rfl rfl rfl ?_
      refine aw_g (g_mv (.inr rfl) rfl) rfl rfl rfl ?_
      refine aw_nil ?_
      refine aw_seq ?_
      refine aw_region ?_
      refine aw_g (g_mv (.inl rfl) rfl) rfl rfl rfl ?_
      refine aw_g (g_len rfl rfl isl_27) rfl rfl rfl ?_
      refine aw_g (g_gtr rfl rfl rfl rfl) rfl rfl rfl ?_
      refine aw_g (g_mv (.inl rfl) rfl) rfl rfl rfl ?_
      refine aw_splitp (d := 38) (p := 0 < l.length) rfl (by first | rfl | (rw [decide_eq_decide]; simp only [IntL.toI, id_eq]; omega) | (simp [IntL.toI]; done) | (simp [IntL.toI]; omega)) (fun g38 => ?_) (fun g38 => ?_)
      · skip
        obtain ⟨t0, ht0⟩ : ∃ t0, l[0]? = some t0 := ⟨_, List.getElem?_eq_getElem g38⟩
        refine aw_gi (g_mv (.inl rfl) rfl) rfl rfl rfl rfl rfl rfl rfl rfl ?_
        refine aw_gi (g_ia_i (i := 0) rfl rfl rfl (by omega) sl_27 (by assumption)) rfl rfl rfl rfl rfl rfl rfl rfl ?_
        refine aw_gi (g_fa_r rfl rfl fd_26_0 L_Tx_ins) rfl rfl rfl rfl rfl rfl rfl rfl ?_
        refine aw_gi (g_load_r rfl rfl ty_23) rfl rfl rfl rfl rfl rfl rfl rfl ?_
        refine aw_gi (by first | exact g_len rfl rfl isl_23 | exact g_len_o rfl rfl rfl isl_23 | exact g_len_nil rfl rfl isl_23) rfl rfl rfl rfl rfl rfl rfl rfl ?_
        refine aw_gi (g_eql rfl rfl rfl rfl) rfl rfl rfl rfl rfl rfl rfl rfl ?_
        refine aw_g (g_pick rfl rfl rfl) rfl rfl rfl ?_
        refine aw_reval (d := 45) (y := isFirst l) rfl (by first | (rw [isFirst_at ht0, decide_eq_decide]; simp only [IntL.toI, id_eq]; omega) | exact (isFirst_nil g38).symm) ?_
        refine aw_g (g_mv (.inr rfl) rfl) rfl rfl rfl ?_
        refine aw_nil ?_
        refine aw_seq ?_
        refine aw_seq ?_
        refine aw_region ?_
        refine aw_g (g_mv (.inl rfl) rfl) rfl rfl rfl ?_
        refine aw_g (g_len rfl rfl isl_27) rfl rfl rfl ?_
        refine aw_g (g_mv (.inl rfl) rfl) rfl rfl rfl ?_
        refine aw_nil ?_
        refine aw_block ?_
        refine aw_loopI (ι := Nat × List Coin × Int) 2 rfl (fun (i : Nat × List Coin × Int) => match i with | (k, out, room) => (((((((((Fr.none).set 1 (.val (bsl txT) l)).set 2 (.ptr 0 0)).set 6 (.clo 37 [0])).set 7 (.own 1)).set 8 (.val i64T room)).set 9 (.val boolT (isFirst l))).set 46 (.val (bsl txT) l)).set 47 (.val i64T (l.length : Int))).set 48 (.val i64T (k : Int))) (fun (i : Nat × List Coin × Int) => match i with | (k, out, room) => ((Hp.none).set 0 (.box 22 (bsl coinT) p)).set 1 (.row 50 coinT out)) (fun (i : Nat × List Coin × Int) => match i with | (k, out, room) => k ≤ l.length ∧ mayCoins out = true ∧ runTxs p 50 (remTxs l 0) = runTxs out room (remTxs l k)) (fun (i : Nat × List Coin × Int) => match i with | (k, out, room) => l.length - k) ((0, p, 50)) (⟨Nat.zero_le _, hmp, rfl⟩) (by (repeat refine Fr.le_set ?_ (by first | rfl | (simp; done))); exact Fr.le_none _) (by (repeat refine Hp.le_set ?_ rfl); exact Hp.le_none _) (by (repeat refine Fr.below_setB ?_ rfl); exact Fr.below_none _) (by (repeat refine Hp.below_set ?_ (by decide)); exact Hp.below_none _) ?_
        intro ⟨k, out, room⟩ hinv
        dsimp only at hinv
        have hol := mayCoins_len hinv.2.1
        refine aw_seq ?_
        refine aw_region ?_
        refine aw_g (g_lss rfl rfl rfl rfl) rfl rfl rfl ?_
        refine aw_nil ?_
        refine aw_seq ?_
        refine aw_ifc (p := k < l.length) rfl (by first | rfl | (rw [decide_eq_decide]; simp only [IntL.toI, id_eq]; omega) | (simp [IntL.toI]; done) | (simp [IntL.toI]; omega)) (fun ht49 => ?_) (fun ht49 => ?_)
        · skip
          obtain ⟨t, hx⟩ : ∃ t, l[k]? = some t := ⟨_, List.getElem?_eq_getElem ht49⟩
          refine aw_skip ?_
          refine aw_seq ?_
          refine aw_block ?_
          refine aw_seq ?_
          refine aw_region ?_
          refine aw_g (g_mv (.inl rfl) rfl) rfl rfl rfl ?_
          refine aw_g (g_ia_n rfl rfl rfl sl_27 (by assumption)) rfl rfl rfl ?_
          refine aw_g (g_load_r rfl rfl ty_26) rfl rfl rfl ?_
          refine aw_alloc ze_26 rfl rfl rfl rfl ?_
          refine aw_g (g_mv (.inr rfl) rfl) rfl rfl rfl ?_
          refine aw_store_b rfl rfl rfl rfl rfl (Lens.self _) ty_26 rfl ?_
          refine aw_nil ?_
          refine aw_seq ?_
          refine aw_seq ?_
          refine aw_region ?_
          refine aw_g (g_mv (.inl rfl) rfl) rfl rfl rfl ?_
          refine aw_g (g_eql rfl rfl rfl rfl) rfl rfl rfl ?_
          refine aw_g (g_mv (.inl rfl) rfl) rfl rfl rfl ?_
          refine aw_splitp (d := 55) (p := k = 0) rfl (by first | rfl | (rw [decide_eq_decide]; simp only [IntL.toI, id_eq]; omega) | (simp [IntL.toI]; done) | (simp [IntL.toI]; omega)) (fun g55 => ?_) (fun g55 => ?_)
          · skip
            refine aw_gi (g_mv (.inl rfl) rfl) rfl rfl rfl rfl rfl rfl rfl rfl ?_
            refine aw_g (g_pick rfl rfl rfl) rfl rfl rfl ?_
            refine aw_splitp (d := 57) (p := isFirst l = true) rfl (by simp) (fun g57 => ?_) (fun g57 => ?_)
            · skip
              refine aw_nil ?_
              refine aw_if_t rfl (rfl) ?_
              refine aw_exit rfl ?_
              refine aw_region ?_
              refine aw_g (by first | exact g_add rfl rfl rfl (wrap_eq (by first | omega | (simp; omega))) | exact g_add rfl rfl rfl rfl) rfl rfl rfl ?_
              refine aw_g (g_mv (.inl rfl) rfl) rfl rfl rfl ?_
              refine aw_nil ?_
              exact aw_next ((k + 1, out, room)) (by first | exact ⟨by omega, hinv.2.1, by rw [hinv.2.2, g55, remTxs_first g57]⟩ | exact ⟨by omega, spendOf_may hinv.2.1, hinv.2.2.trans (runTxs_step (fun h => by first | exact g57 h.1 | exact g55 h.2) hx (Classical.not_not.1 ht66))⟩) (by show _ < l.length - k; simp only []; omega) rfl (by (repeat refine Fr.le_set ?_ (by first | rfl | (simp; done))); exact Fr.le_none _) (by (repeat refine Hp.le_set ?_ rfl); exact Hp.le_none _) (by (repeat refine Fr.below_setB ?_ rfl); exact Fr.below_none _) (by (repeat refine Hp.below_set ?_ (by decide)); exact Hp.below_none _)
            · skip
              refine aw_nil ?_
              refine aw_if_f rfl (rfl) ?_
              refine aw_skip ?_
              refine aw_seq ?_
              refine aw_region ?_
              refine aw_g (g_mo (.inl rfl) rfl) rfl rfl rfl ?_
              refine aw_g (g_load_b rfl rfl rfl (Lens.self _) ty_26) rfl rfl rfl ?_
              refine aw_callf3 (spend_ok out t (by omega)) rfl fn_12 ⟨(arg_own rfl rfl), (arg_v rfl), trivial⟩ flat_int flat_int rfl rfl rfl ?_
              refine aw_g (by first | exact g_mt2 (.inl rfl) rfl | exact g_mt3 (.inl rfl) rfl) rfl rfl rfl ?_
              refine aw_g (by first | exact g_x20 rfl rfl | exact g_x30 rfl rfl) rfl rfl rfl ?_
              refine aw_g (by first | exact g_x21 rfl rfl | exact g_x31 rfl rfl) rfl rfl rfl ?_
              refine aw_g (g_x32 rfl rfl) rfl rfl rfl ?_
              refine aw_g (g_mo (.inr rfl) rfl) rfl rfl rfl ?_
              refine aw_g (by first | exact g_mv (.inr rfl) rfl | exact g_mp (.inr rfl) rfl | exact g_mo (.inr rfl) rfl | exact g_ml (.inr rfl) rfl | exact g_mc (.inr rfl) rfl | exact g_mr (.inr rfl) rfl | exact g_mf1 (.inr rfl) rfl | exact g_mf2 (.inr rfl) rfl | exact g_mw (.inr rfl) rfl | exact g_me (.inr rfl) rfl | exact g_ms (.inr rfl) rfl | exact g_mt2 (.inr rfl) rfl | exact g_mt3 (.inr rfl) rfl | exact g_mi (.inr rfl) rfl) rfl rfl rfl ?_
              refine aw_g (by first | exact g_mv (.inr rfl) rfl | exact g_mp (.inr rfl) rfl | exact g_mo (.inr rfl) rfl | exact g_ml (.inr rfl) rfl | exact g_mc (.inr rfl) rfl | exact g_mr (.inr rfl) rfl | exact g_mf1 (.inr rfl) rfl | exact g_mf2 (.inr rfl) rfl | exact g_mw (.inr rfl) rfl | exact g_me (.inr rfl) rfl | exact g_ms (.inr rfl) rfl | exact g_mt2 (.inr rfl) rfl | exact g_mt3 (.inr rfl) rfl | exact g_mi (.inr rfl) rfl) rfl rfl rfl ?_
              refine aw_nil ?_
              refine aw_seq ?_
              refine aw_seq ?_
              refine aw_region ?_
              refine aw_g (by first | exact g_mv (.inl rfl) rfl | exact g_mp (.inl rfl) rfl | exact g_mo (.inl rfl) rfl | exact g_ml (.inl rfl) rfl | exact g_mc (.inl rfl) rfl | exact g_mr (.inl rfl) rfl | exact g_mf1 (.inl rfl) rfl | exact g_mf2 (.inl rfl) rfl | exact g_mw (.inl rfl) rfl | exact g_me (.inl rfl) rfl | exact g_ms (.inl rfl) rfl | exact g_mt2 (.inl rfl) rfl | exact g_mt3 (.inl rfl) rfl | exact g_mi (.inl rfl) rfl) rfl rfl rfl ?_
              refine aw_g (g_neq rfl rfl rfl rfl) rfl rfl rfl ?_
              refine aw_nil ?_
              refine aw_ifc (p := ¬ (spendOf out t).2.2 = 0) rfl (by simp [IntL.toI]) (fun ht66 => ?_) (fun ht66 => ?_)
              · skip
                refine aw_seq ?_
                refine aw_region ?_
                refine aw_g (g_mc (.inl rfl) rfl) rfl rfl rfl ?_
                refine aw_g (by first | exact g_mv (.inl rfl) rfl | exact g_mp (.inl rfl) rfl | exact g_mo (.inl rfl) rfl | exact g_ml (.inl rfl) rfl | exact g_mc (.inl rfl) rfl | exact g_mr (.inl rfl) rfl | exact g_mf1 (.inl rfl) rfl | exact g_mf2 (.inl rfl) rfl | exact g_mw (.inl rfl) rfl | exact g_me (.inl rfl) rfl | exact g_ms (.inl rfl) rfl | exact g_mt2 (.inl rfl) rfl | exact g_mt3 (.inl rfl) rfl | exact g_mi (.inl rfl) rfl) rfl rfl rfl ?_
                refine aw_callg2 (As := [_]) (Cs := [_]) (applyFail p _ hp) rfl rfl fn_37 ⟨(by first | exact arg_same rfl | exact arg_bsl rfl | exact arg_own rfl rfl | exact arg_nil rfl | exact arg_rptr rfl | exact arg_fn rfl rfl | exact arg_lit rfl), trivial⟩ (by intro n hn; simp only [List.mem_cons, List.not_mem_nil, or_false] at hn; rcases hn with rfl <;> exact ⟨_, _, _, _, rfl⟩) ⟨(by exact arg_cap rfl), trivial⟩ flat_int rfl rfl rfl ?_
                refine aw_g (by first | exact g_x20 rfl rfl | exact g_x30 rfl rfl) rfl rfl rfl ?_
                refine aw_g (by first | exact g_x21 rfl rfl | exact g_x31 rfl rfl) rfl rfl rfl ?_
                refine aw_g (g_mo (.inr rfl) rfl) rfl rfl rfl ?_
                refine aw_g (by first | exact g_mv (.inr rfl) rfl | exact g_mp (.inr rfl) rfl | exact g_mo (.inr rfl) rfl | exact g_ml (.inr rfl) rfl | exact g_mc (.inr rfl) rfl | exact g_mr (.inr rfl) rfl | exact g_mf1 (.inr rfl) rfl | exact g_mf2 (.inr rfl) rfl | exact g_mw (.inr rfl) rfl | exact g_me (.inr rfl) rfl | exact g_ms (.inr rfl) rfl | exact g_mt2 (.inr rfl) rfl | exact g_mt3 (.inr rfl) rfl | exact g_mi (.inr rfl) rfl) rfl rfl rfl ?_
                refine aw_nil ?_
                have hS : applyOf p l = (p, (spendOf out t).2.2) := by unfold applyOf; rw [if_neg (Classical.not_not.2 hmp), if_neg (show ¬ 4 < l.length by omega)]; rw [hinv.2.2, runTxs_stop (fun h => by first | exact g57 h.1 | exact g55 h.2) hx ht66]
                exact aw_ret2 rfl rfl (ret_fresh_eq rfl rfl (by rw [hS])) (ret_eq rfl (by rw [hS]))
              · skip
                refine aw_skip ?_
                refine aw_seq ?_
                refine aw_region ?_
                refine aw_g (g_mo (.inl rfl) rfl) rfl rfl rfl ?_
                refine aw_g (g_mo (.inr rfl) rfl) rfl rfl rfl ?_
                refine aw_nil ?_
                refine aw_region ?_
                refine aw_g (g_mv (.inl rfl) rfl) rfl rfl rfl ?_
                refine aw_g (by first | exact g_mv (.inl rfl) rfl | exact g_mp (.inl rfl) rfl | exact g_mo (.inl rfl) rfl | exact g_ml (.inl rfl) rfl | exact g_mc (.inl rfl) rfl | exact g_mr (.inl rfl) rfl | exact g_mf1 (.inl rfl) rfl | exact g_mf2 (.inl rfl) rfl | exact g_mw (.inl rfl) rfl | exact g_me (.inl rfl) rfl | exact g_ms (.inl rfl) rfl | exact g_mt2 (.inl rfl) rfl | exact g_mt3 (.inl rfl) rfl | exact g_mi (.inl rfl) rfl) rfl rfl rfl ?_
                refine aw_g (by first | exact g_add rfl rfl rfl (wrap_eq (by first | omega | (simp; omega))) | exact g_add rfl rfl rfl rfl) rfl rfl rfl ?_
                refine aw_g (g_mv (.inr rfl) rfl) rfl rfl rfl ?_
                refine aw_nil ?_
                refine aw_inBlock ?_
                refine aw_region ?_
                refine aw_g (by first | exact g_add rfl rfl rfl (wrap_eq (by first | omega | (simp; omega))) | exact g_add rfl rfl rfl rfl) rfl rfl rfl ?_
                refine aw_g (g_mv (.inl rfl) rfl) rfl rfl rfl ?_
                refine aw_nil ?_
                refine aw_drop 1 ?_
                refine aw_ren 3 1 4 rfl rfl rfl rfl rfl rfl ?_
                exact aw_next ((k + 1, (spendOf out t).1, IntKind.i64.wrap (room + (spendOf out t).2.1))) (by first | exact ⟨by omega, hinv.2.1, by rw [hinv.2.2, g55, remTxs_first g57]⟩ | exact ⟨by omega, spendOf_may hinv.2.1, hinv.2.2.trans (runTxs_step (fun h => by first | exact g57 h.1 | exact g55 h.2) hx (Classical.not_not.1 ht66))⟩) (by show _ < l.length - k; simp only []; omega) rfl (by (repeat refine Fr.le_set ?_ (by first | rfl | (simp; done))); exact Fr.le_none _) (by (repeat refine Hp.le_set ?_ rfl); exact Hp.le_none _) (by (repeat refine Fr.below_setB ?_ rfl); exact Fr.below_none _) (by (repeat refine Hp.below_set ?_ (by decide)); exact Hp.below_none _)
          · skip
            refine aw_gn rfl rfl rfl rfl rfl rfl rfl rfl ?_
            refine aw_g (g_pick rfl rfl rfl) rfl rfl rfl ?_
            refine aw_nil ?_
            refine aw_if_f rfl (rfl) ?_
            refine aw_skip ?_
            refine aw_seq ?_
            refine aw_region ?_
            refine aw_g (g_mo (.inl rfl) rfl) rfl rfl rfl ?_
            refine aw_g (g_load_b rfl rfl rfl (Lens.self _) ty_26) rfl rfl rfl ?_
            refine aw_callf3 (spend_ok out t (by omega)) rfl fn_12 ⟨(arg_own rfl rfl), (arg_v rfl), trivial⟩ flat_int flat_int rfl rfl rfl ?_
            refine aw_g (by first | exact g_mt2 (.inl rfl) rfl | exact g_mt3 (.inl rfl) rfl) rfl rfl rfl ?_
            refine aw_g (by first | exact g_x20 rfl rfl | exact g_x30 rfl rfl) rfl rfl rfl ?_
            refine aw_g (by first | exact g_x21 rfl rfl | exact g_x31 rfl rfl) rfl rfl rfl ?_
            refine aw_g (g_x32 rfl rfl) rfl rfl rfl ?_
            refine aw_g (g_mo (.inr rfl) rfl) rfl rfl rfl ?_
            refine aw_g (by first | exact g_mv (.inr rfl) rfl | exact g_mp (.inr rfl) rfl | exact g_mo (.inr rfl) rfl | exact g_ml (.inr rfl) rfl | exact g_mc (.inr rfl) rfl | exact g_mr (.inr rfl) rfl | exact g_mf1 (.inr rfl) rfl | exact g_mf2 (.inr rfl) rfl | exact g_mw (.inr rfl) rfl | exact g_me (.inr rfl) rfl | exact g_ms (.inr rfl) rfl | exact g_mt2 (.inr rfl) rfl | exact g_mt3 (.inr rfl) rfl | exact g_mi (.inr rfl) rfl) rfl rfl rfl ?_
            refine aw_g (by first | exact g_mv (.inr rfl) rfl | exact g_mp (.inr rfl) rfl | exact g_mo (.inr rfl) rfl | exact g_ml (.inr rfl) rfl | exact g_mc (.inr rfl) rfl | exact g_mr (.inr rfl) rfl | exact g_mf1 (.inr rfl) rfl | exact g_mf2 (.inr rfl) rfl | exact g_mw (.inr rfl) rfl | exact g_me (.inr rfl) rfl | exact g_ms (.inr rfl) rfl | exact g_mt2 (.inr rfl) rfl | exact g_mt3 (.inr rfl) rfl | exact g_mi (.inr rfl) rfl) rfl rfl rfl ?_
            refine aw_nil ?_
            refine aw_seq ?_
            refine aw_seq ?_
            refine aw_region ?_
            refine aw_g (by first | exact g_mv (.inl rfl) rfl | exact g_mp (.inl rfl) rfl | exact g_mo (.inl rfl) rfl | exact g_ml (.inl rfl) rfl | exact g_mc (.inl rfl) rfl | exact g_mr (.inl rfl) rfl | exact g_mf1 (.inl rfl) rfl | exact g_mf2 (.inl rfl) rfl | exact g_mw (.inl rfl) rfl | exact g_me (.inl rfl) rfl | exact g_ms (.inl rfl) rfl | exact g_mt2 (.inl rfl) rfl | exact g_mt3 (.inl rfl) rfl | exact g_mi (.inl rfl) rfl) rfl rfl rfl ?_
            refine aw_g (g_neq rfl rfl rfl rfl) rfl rfl rfl ?_
            refine aw_nil ?_
            refine aw_ifc (p := ¬ (spendOf out t).2.2 = 0) rfl (by simp [IntL.toI]) (fun ht66 => ?_) (fun ht66 => ?_)
            · skip
              refine aw_seq ?_
              refine aw_region ?_
              refine aw_g (g_mc (.inl rfl) rfl) rfl rfl rfl ?_
              refine aw_g (by first | exact g_mv (.inl rfl) rfl | exact g_mp (.inl rfl) rfl | exact g_mo (.inl rfl) rfl | exact g_ml (.inl rfl) rfl | exact g_mc (.inl rfl) rfl | exact g_mr (.inl rfl) rfl | exact g_mf1 (.inl rfl) rfl | exact g_mf2 (.inl rfl) rfl | exact g_mw (.inl rfl) rfl | exact g_me (.inl rfl) rfl | exact g_ms (.inl rfl) rfl | exact g_mt2 (.inl rfl) rfl | exact g_mt3 (.inl rfl) rfl | exact g_mi (.inl rfl) rfl) rfl rfl rfl ?_
              refine aw_callg2 (As := [_]) (Cs := [_]) (applyFail p _ hp) rfl rfl fn_37 ⟨(by first | exact arg_same rfl | exact arg_bsl rfl | exact arg_own rfl rfl | exact arg_nil rfl | exact arg_rptr rfl | exact arg_fn rfl rfl | exact arg_lit rfl), trivial⟩ (by intro n hn; simp only [List.mem_cons, List.not_mem_nil, or_false] at hn; rcases hn with rfl <;> exact ⟨_, _, _, _, rfl⟩) ⟨(by exact arg_cap rfl), trivial⟩ flat_int rfl rfl rfl ?_
              refine aw_g (by first | exact g_x20 rfl rfl | exact g_x30 rfl rfl) rfl rfl rfl ?_
              refine aw_g (by first | exact g_x21 rfl rfl | exact g_x31 rfl rfl) rfl rfl rfl ?_
              refine aw_g (g_mo (.inr rfl) rfl) rfl rfl rfl ?_
              refine aw_g (by first | exact g_mv (.inr rfl) rfl | exact g_mp (.inr rfl) rfl | exact g_mo (.inr rfl) rfl | exact g_ml (.inr rfl) rfl | exact g_mc (.inr rfl) rfl | exact g_mr (.inr rfl) rfl | exact g_mf1 (.inr rfl) rfl | exact g_mf2 (.inr rfl) rfl | exact g_mw (.inr rfl) rfl | exact g_me (.inr rfl) rfl | exact g_ms (.inr rfl) rfl | exact g_mt2 (.inr rfl) rfl | exact g_mt3 (.inr rfl) rfl | exact g_mi (.inr rfl) rfl) rfl rfl rfl ?_
              refine aw_nil ?_
              have hS : applyOf p l = (p, (spendOf out t).2.2) := by unfold applyOf; rw [if_neg (Classical.not_not.2 hmp), if_neg (show ¬ 4 < l.length by omega)]; rw [hinv.2.2, runTxs_stop (fun h => by first | exact g57 h.1 | exact g55 h.2) hx ht66]
              exact aw_ret2 rfl rfl (ret_fresh_eq rfl rfl (by rw [hS])) (ret_eq rfl (by rw [hS]))
            · skip
              refine aw_skip ?_
              refine aw_seq ?_
              refine aw_region ?_
              refine aw_g (g_mo (.inl rfl) rfl) rfl rfl rfl ?_
              refine aw_g (g_mo (.inr rfl) rfl) rfl rfl rfl ?_
              refine aw_nil ?_
              refine aw_region ?_
              refine aw_g (g_mv (.inl rfl) rfl) rfl rfl rfl ?_
              refine aw_g (by first | exact g_mv (.inl rfl) rfl | exact g_mp (.inl rfl) rfl | exact g_mo (.inl rfl) rfl | exact g_ml (.inl rfl) rfl | exact g_mc (.inl rfl) rfl | exact g_mr (.inl rfl) rfl | exact g_mf1 (.inl rfl) rfl | exact g_mf2 (.inl rfl) rfl | exact g_mw (.inl rfl) rfl | exact g_me (.inl rfl) rfl | exact g_ms (.inl rfl) rfl | exact g_mt2 (.inl rfl) rfl | exact g_mt3 (.inl rfl) rfl | exact g_mi (.inl rfl) rfl) rfl rfl rfl ?_
              refine aw_g (by first | exact g_add rfl rfl rfl (wrap_eq (by first | omega | (simp; omega))) | exact g_add rfl rfl rfl rfl) rfl rfl rfl ?_
              refine aw_g (g_mv (.inr rfl) rfl) rfl rfl rfl ?_
              refine aw_nil ?_
              refine aw_inBlock ?_
              refine aw_region ?_
              refine aw_g (by first | exact g_add rfl rfl rfl (wrap_eq (by first | omega | (simp; omega))) | exact g_add rfl rfl rfl rfl) rfl rfl rfl ?_
              refine aw_g (g_mv (.inl rfl) rfl) rfl rfl rfl ?_
              refine aw_nil ?_
              refine aw_drop 1 ?_
              refine aw_ren 3 1 4 rfl rfl rfl rfl rfl rfl ?_
              exact aw_next ((k + 1, (spendOf out t).1, IntKind.i64.wrap (room + (spendOf out t).2.1))) (by first | exact ⟨by omega, hinv.2.1, by rw [hinv.2.2, g55, remTxs_first g57]⟩ | exact ⟨by omega, spendOf_may hinv.2.1, hinv.2.2.trans (runTxs_step (fun h => by first | exact g57 h.1 | exact g55 h.2) hx (Classical.not_not.1 ht66))⟩) (by show _ < l.length - k; simp only []; omega) rfl (by (repeat refine Fr.le_set ?_ (by first | rfl | (simp; done))); exact Fr.le_none _) (by (repeat refine Hp.le_set ?_ rfl); exact Hp.le_none _) (by (repeat refine Fr.below_setB ?_ rfl); exact Fr.below_none _) (by (repeat refine Hp.below_set ?_ (by decide)); exact Hp.below_none _)
        · skip
          have hrun : runTxs p 50 (remTxs l 0) = .inr (out, room) := by rw [hinv.2.2, remTxs_end k (by omega)]; rfl
          refine aw_exit rfl ?_
          refine aw_seq ?_
          refine aw_seq ?_
          refine aw_region ?_
          refine aw_g (g_mv (.inl rfl) rfl) rfl rfl rfl ?_
          refine aw_g (g_not rfl rfl) rfl rfl rfl ?_
          refine aw_nil ?_
          refine aw_ifc (p := ¬ isFirst l = true) rfl (by simp) (fun ht78 => ?_) (fun ht78 => ?_)
          · skip
            have hnf := ht78
            refine aw_seq ?_
            refine aw_region ?_
            refine aw_g (g_mo (.inl rfl) rfl) rfl rfl rfl ?_
            refine aw_g (g_mo (.inr rfl) rfl) rfl rfl rfl ?_
            refine aw_g (g_mv (.inr rfl) rfl) rfl rfl rfl ?_
            refine aw_nil ?_
            have hS : applyOf p l = (out, 0) := by unfold applyOf; rw [if_neg (Classical.not_not.2 hmp), if_neg (show ¬ 4 < l.length by omega)]; rw [hrun]; simp only [if_neg ht78]
            exact aw_ret2 rfl rfl (ret_fresh_eq rfl rfl (by rw [hS])) (ret_eq rfl (by rw [hS]))
          · skip
            have hf := Classical.not_not.1 ht78
            refine aw_skip ?_
            refine aw_seq ?_
            refine aw_seq ?_
            refine aw_region ?_
            refine aw_g (g_mv (.inl rfl) rfl) rfl rfl rfl ?_
            refine aw_g (g_ia_i (i := 0) rfl rfl rfl (by omega) sl_27 (by assumption)) rfl rfl rfl ?_
            refine aw_g (g_load_r rfl rfl ty_26) rfl rfl rfl ?_
            refine aw_g (g_call (mayTx_ok _) rfl fn_27 ⟨(by first | exact arg_same rfl | exact arg_bsl rfl | exact arg_own rfl rfl | exact arg_nil rfl | exact arg_rptr rfl | exact arg_fn rfl rfl | exact arg_lit rfl), trivial⟩ rfl) rfl rfl rfl ?_
            refine aw_g (g_not rfl rfl) rfl rfl rfl ?_
            refine aw_nil ?_
            refine aw_ifc (p := ¬ mayTx t0 = true) rfl (by simp) (fun ht84 => ?_) (fun ht84 => ?_)
            · skip
              refine aw_seq ?_
              refine aw_region ?_
              refine aw_g (g_mc (.inl rfl) rfl) rfl rfl rfl ?_
              refine aw_callg2 (As := [_]) (Cs := [_]) (applyFail p _ hp) rfl rfl fn_37 ⟨(arg_v rfl), trivial⟩ (by intro n hn; simp only [List.mem_cons, List.not_mem_nil, or_false] at hn; rcases hn with rfl <;> exact ⟨_, _, _, _, rfl⟩) ⟨(by exact arg_cap rfl), trivial⟩ flat_int rfl rfl rfl ?_
              refine aw_g (by first | exact g_x20 rfl rfl | exact g_x30 rfl rfl) rfl rfl rfl ?_
              refine aw_g (by first | exact g_x21 rfl rfl | exact g_x31 rfl rfl) rfl rfl rfl ?_
              refine aw_g (g_mo (.inr rfl) rfl) rfl rfl rfl ?_
              refine aw_g (by first | exact g_mv (.inr rfl) rfl | exact g_mp (.inr rfl) rfl | exact g_mo (.inr rfl) rfl | exact g_ml (.inr rfl) rfl | exact g_mc (.inr rfl) rfl | exact g_mr (.inr rfl) rfl | exact g_mf1 (.inr rfl) rfl | exact g_mf2 (.inr rfl) rfl | exact g_mw (.inr rfl) rfl | exact g_me (.inr rfl) rfl | exact g_ms (.inr rfl) rfl | exact g_mt2 (.inr rfl) rfl | exact g_mt3 (.inr rfl) rfl | exact g_mi (.inr rfl) rfl) rfl rfl rfl ?_
              refine aw_nil ?_
              have hS : applyOf p l = (p, 1) := by unfold applyOf; rw [if_neg (Classical.not_not.2 hmp), if_neg (show ¬ 4 < l.length by omega)]; rw [hrun]; simp only [if_pos hf, ht0]; rw [if_pos ht84]
              exact aw_ret2 rfl rfl (ret_fresh_eq rfl rfl (by rw [hS])) (ret_eq rfl (by rw [hS]))
            · skip
              have hmt := Classical.not_not.1 ht84
              refine aw_skip ?_
              refine aw_seq ?_
              refine aw_region ?_
              refine aw_g (g_mo (.inl rfl) rfl) rfl rfl rfl ?_
              refine aw_g (g_mv (.inl rfl) rfl) rfl rfl rfl ?_
              refine aw_g (g_ia_i (i := 0) rfl rfl rfl (by omega) sl_27 (by assumption)) rfl rfl rfl ?_
              refine aw_g (g_load_r rfl rfl ty_26) rfl rfl rfl ?_
              refine aw_callc2 (made_ok out t0 (by omega) (mayTx_lens hmt).2.2 (apart_new (Sorted.apart (mayCoins_iff.1 hinv.2.1).2.1))) rfl fn_31 rfl trivial flat_int ⟨(by first | exact argm_own rfl | exact argm_ptr rfl | exact argm_same rfl | exact argm_bsl rfl | exact argm_lit rfl | exact argm_clo rfl | exact argm_row rfl rfl (by decide)), (by first | exact argm_own rfl | exact argm_ptr rfl | exact argm_same rfl | exact argm_bsl rfl | exact argm_lit rfl | exact argm_clo rfl | exact argm_row rfl rfl (by decide)), trivial⟩ rfl rfl rfl ?_
              refine aw_g (by first | exact g_mt2 (.inl rfl) rfl | exact g_mt3 (.inl rfl) rfl) rfl rfl rfl ?_
              refine aw_g (by first | exact g_x20 rfl rfl | exact g_x30 rfl rfl) rfl rfl rfl ?_
              refine aw_g (by first | exact g_x21 rfl rfl | exact g_x31 rfl rfl) rfl rfl rfl ?_
              refine aw_g (g_mo (.inr rfl) rfl) rfl rfl rfl ?_
              refine aw_g (by first | exact g_mv (.inr rfl) rfl | exact g_mp (.inr rfl) rfl | exact g_mo (.inr rfl) rfl | exact g_ml (.inr rfl) rfl | exact g_mc (.inr rfl) rfl | exact g_mr (.inr rfl) rfl | exact g_mf1 (.inr rfl) rfl | exact g_mf2 (.inr rfl) rfl | exact g_mw (.inr rfl) rfl | exact g_me (.inr rfl) rfl | exact g_ms (.inr rfl) rfl | exact g_mt2 (.inr rfl) rfl | exact g_mt3 (.inr rfl) rfl | exact g_mi (.inr rfl) rfl) rfl rfl rfl ?_
              refine aw_nil ?_
              refine aw_seq ?_
              refine aw_block ?_
              refine aw_seq ?_
              refine aw_region ?_
              refine aw_g (by first | exact g_mv (.inl rfl) rfl | exact g_mp (.inl rfl) rfl | exact g_mo (.inl rfl) rfl | exact g_ml (.inl rfl) rfl | exact g_mc (.inl rfl) rfl | exact g_mr (.inl rfl) rfl | exact g_mf1 (.inl rfl) rfl | exact g_mf2 (.inl rfl) rfl | exact g_mw (.inl rfl) rfl | exact g_me (.inl rfl) rfl | exact g_ms (.inl rfl) rfl | exact g_mt2 (.inl rfl) rfl | exact g_mt3 (.inl rfl) rfl | exact g_mi (.inl rfl) rfl) rfl rfl rfl ?_
              refine aw_g (g_neq rfl rfl rfl rfl) rfl rfl rfl ?_
              refine aw_g (g_mv (.inr rfl) rfl) rfl rfl rfl ?_
              refine aw_nil ?_
              refine aw_ifc (p := ¬ (madeOf out t0).2 = 0) rfl (by simp [IntL.toI]) (fun ht97 => ?_) (fun ht97 => ?_)
              · skip
                refine aw_seq ?_
                refine aw_region ?_
                refine aw_g (g_mc (.inl rfl) rfl) rfl rfl rfl ?_
                refine aw_g (by first | exact g_mv (.inl rfl) rfl | exact g_mp (.inl rfl) rfl | exact g_mo (.inl rfl) rfl | exact g_ml (.inl rfl) rfl | exact g_mc (.inl rfl) rfl | exact g_mr (.inl rfl) rfl | exact g_mf1 (.inl rfl) rfl | exact g_mf2 (.inl rfl) rfl | exact g_mw (.inl rfl) rfl | exact g_me (.inl rfl) rfl | exact g_ms (.inl rfl) rfl | exact g_mt2 (.inl rfl) rfl | exact g_mt3 (.inl rfl) rfl | exact g_mi (.inl rfl) rfl) rfl rfl rfl ?_
                refine aw_callg2 (As := [_]) (Cs := [_]) (applyFail p _ hp) rfl rfl fn_37 ⟨(by first | exact arg_same rfl | exact arg_bsl rfl | exact arg_own rfl rfl | exact arg_nil rfl | exact arg_rptr rfl | exact arg_fn rfl rfl | exact arg_lit rfl), trivial⟩ (by intro n hn; simp only [List.mem_cons, List.not_mem_nil, or_false] at hn; rcases hn with rfl <;> exact ⟨_, _, _, _, rfl⟩) ⟨(by exact arg_cap rfl), trivial⟩ flat_int rfl rfl rfl ?_
                refine aw_g (by first | exact g_x20 rfl rfl | exact g_x30 rfl rfl) rfl rfl rfl ?_
                refine aw_g (by first | exact g_x21 rfl rfl | exact g_x31 rfl rfl) rfl rfl rfl ?_
                refine aw_g (g_mo (.inr rfl) rfl) rfl rfl rfl ?_
                refine aw_g (by first | exact g_mv (.inr rfl) rfl | exact g_mp (.inr rfl) rfl | exact g_mo (.inr rfl) rfl | exact g_ml (.inr rfl) rfl | exact g_mc (.inr rfl) rfl | exact g_mr (.inr rfl) rfl | exact g_mf1 (.inr rfl) rfl | exact g_mf2 (.inr rfl) rfl | exact g_mw (.inr rfl) rfl | exact g_me (.inr rfl) rfl | exact g_ms (.inr rfl) rfl | exact g_mt2 (.inr rfl) rfl | exact g_mt3 (.inr rfl) rfl | exact g_mi (.inr rfl) rfl) rfl rfl rfl ?_
                refine aw_nil ?_
                have hS : applyOf p l = (p, (madeOf out t0).2) := by unfold applyOf; rw [if_neg (Classical.not_not.2 hmp), if_neg (show ¬ 4 < l.length by omega)]; rw [hrun]; simp only [if_pos hf, ht0]; rw [if_neg (Classical.not_not.2 hmt), if_pos ht97]
                exact aw_ret2 rfl rfl (ret_fresh_eq rfl rfl (by rw [hS])) (ret_eq rfl (by rw [hS]))
              · skip
                refine aw_seq ?_
                refine aw_region ?_
                refine aw_g (g_mv (.inl rfl) rfl) rfl rfl rfl ?_
                refine aw_g (g_ia_i (i := 0) rfl rfl rfl (by omega) sl_27 (by assumption)) rfl rfl rfl ?_
                refine aw_g (g_load_r rfl rfl ty_26) rfl rfl rfl ?_
                refine aw_g (g_call (outs_ok _) rfl fn_30 ⟨(by first | exact arg_same rfl | exact arg_bsl rfl | exact arg_own rfl rfl | exact arg_nil rfl | exact arg_rptr rfl | exact arg_fn rfl rfl | exact arg_lit rfl), trivial⟩ rfl) rfl rfl rfl ?_
                refine aw_g (g_mv (.inl rfl) rfl) rfl rfl rfl ?_
                refine aw_g (g_gtr rfl rfl rfl rfl) rfl rfl rfl ?_
                refine aw_g (g_mv (.inr rfl) rfl) rfl rfl rfl ?_
                refine aw_nil ?_
                refine aw_ifc (p := room < worthF (·.v) t0.outs) rfl (by first | rfl | (rw [decide_eq_decide]; simp only [IntL.toI, id_eq]; omega) | (simp [IntL.toI]; done) | (simp [IntL.toI]; omega)) (fun ht105 => ?_) (fun ht105 => ?_)
                · skip
                  refine aw_seq ?_
                  refine aw_region ?_
                  refine aw_g (g_mc (.inl rfl) rfl) rfl rfl rfl ?_
                  refine aw_callg2 (As := [_]) (Cs := [_]) (applyFail p _ hp) rfl rfl fn_37 ⟨(arg_v rfl), trivial⟩ (by intro n hn; simp only [List.mem_cons, List.not_mem_nil, or_false] at hn; rcases hn with rfl <;> exact ⟨_, _, _, _, rfl⟩) ⟨(by exact arg_cap rfl), trivial⟩ flat_int rfl rfl rfl ?_
                  refine aw_g (by first | exact g_x20 rfl rfl | exact g_x30 rfl rfl) rfl rfl rfl ?_
                  refine aw_g (by first | exact g_x21 rfl rfl | exact g_x31 rfl rfl) rfl rfl rfl ?_
                  refine aw_g (g_mo (.inr rfl) rfl) rfl rfl rfl ?_
                  refine aw_g (by first | exact g_mv (.inr rfl) rfl | exact g_mp (.inr rfl) rfl | exact g_mo (.inr rfl) rfl | exact g_ml (.inr rfl) rfl | exact g_mc (.inr rfl) rfl | exact g_mr (.inr rfl) rfl | exact g_mf1 (.inr rfl) rfl | exact g_mf2 (.inr rfl) rfl | exact g_mw (.inr rfl) rfl | exact g_me (.inr rfl) rfl | exact g_ms (.inr rfl) rfl | exact g_mt2 (.inr rfl) rfl | exact g_mt3 (.inr rfl) rfl | exact g_mi (.inr rfl) rfl) rfl rfl rfl ?_
                  refine aw_nil ?_
                  have hS : applyOf p l = (p, 8) := by unfold applyOf; rw [if_neg (Classical.not_not.2 hmp), if_neg (show ¬ 4 < l.length by omega)]; rw [hrun]; simp only [if_pos hf, ht0]; rw [if_neg (Classical.not_not.2 hmt), if_neg ht97, if_pos ht105]
                  exact aw_ret2 rfl rfl (ret_fresh_eq rfl rfl (by rw [hS])) (ret_eq rfl (by rw [hS]))
                · skip
                  refine aw_seq ?_
                  refine aw_region ?_
                  refine aw_g (g_mo (.inl rfl) rfl) rfl rfl rfl ?_
                  refine aw_g (g_len_o rfl rfl rfl isl_22) rfl rfl rfl ?_
                  refine aw_g (g_gtr rfl rfl rfl rfl) rfl rfl rfl ?_
                  refine aw_g (g_mv (.inr rfl) rfl) rfl rfl rfl ?_
                  refine aw_nil ?_
                  refine aw_ifc (p := 48 < (madeOf out t0).1.length) rfl (by first | rfl | (rw [decide_eq_decide]; simp only [IntL.toI, id_eq]; omega) | (simp [IntL.toI]; done) | (simp [IntL.toI]; omega)) (fun ht116 => ?_) (fun ht116 => ?_)
                  · skip
                    refine aw_seq ?_
                    refine aw_region ?_
                    refine aw_g (g_mc (.inl rfl) rfl) rfl rfl rfl ?_
                    refine aw_callg2 (As := [_]) (Cs := [_]) (applyFail p _ hp) rfl rfl fn_37 ⟨(arg_v rfl), trivial⟩ (by intro n hn; simp only [List.mem_cons, List.not_mem_nil, or_false] at hn; rcases hn with rfl <;> exact ⟨_, _, _, _, rfl⟩) ⟨(by exact arg_cap rfl), trivial⟩ flat_int rfl rfl rfl ?_
                    refine aw_g (by first | exact g_x20 rfl rfl | exact g_x30 rfl rfl) rfl rfl rfl ?_
                    refine aw_g (by first | exact g_x21 rfl rfl | exact g_x31 rfl rfl) rfl rfl rfl ?_
                    refine aw_g (g_mo (.inr rfl) rfl) rfl rfl rfl ?_
                    refine aw_g (by first | exact g_mv (.inr rfl) rfl | exact g_mp (.inr rfl) rfl | exact g_mo (.inr rfl) rfl | exact g_ml (.inr rfl) rfl | exact g_mc (.inr rfl) rfl | exact g_mr (.inr rfl) rfl | exact g_mf1 (.inr rfl) rfl | exact g_mf2 (.inr rfl) rfl | exact g_mw (.inr rfl) rfl | exact g_me (.inr rfl) rfl | exact g_ms (.inr rfl) rfl | exact g_mt2 (.inr rfl) rfl | exact g_mt3 (.inr rfl) rfl | exact g_mi (.inr rfl) rfl) rfl rfl rfl ?_
                    refine aw_nil ?_
                    have hS : applyOf p l = (p, 11) := by unfold applyOf; rw [if_neg (Classical.not_not.2 hmp), if_neg (show ¬ 4 < l.length by omega)]; rw [hrun]; simp only [if_pos hf, ht0]; rw [if_neg (Classical.not_not.2 hmt), if_neg ht97, if_neg ht105, if_pos ht116]
                    exact aw_ret2 rfl rfl (ret_fresh_eq rfl rfl (by rw [hS])) (ret_eq rfl (by rw [hS]))
                  · skip
                    refine aw_skip ?_
                    refine aw_inBlock ?_
                    refine aw_seq ?_
                    refine aw_region ?_
                    refine aw_g (g_mo (.inl rfl) rfl) rfl rfl rfl ?_
                    refine aw_g (g_mo (.inr rfl) rfl) rfl rfl rfl ?_
                    refine aw_g (g_mv (.inr rfl) rfl) rfl rfl rfl ?_
                    refine aw_nil ?_
                    have hS : applyOf p l = ((madeOf out t0).1, 0) := by unfold applyOf; rw [if_neg (Classical.not_not.2 hmp), if_neg (show ¬ 4 < l.length by omega)]; rw [hrun]; simp only [if_pos hf, ht0]; rw [if_neg (Classical.not_not.2 hmt), if_neg ht97, if_neg ht105, if_neg ht116]
                    exact aw_ret2 rfl rfl (ret_fresh_eq rfl rfl (by rw [hS])) (ret_eq rfl (by rw [hS]))
      · skip
        refine aw_gn rfl rfl rfl rfl rfl rfl rfl rfl ?_
        refine aw_gn rfl rfl rfl rfl rfl rfl rfl rfl ?_
        refine aw_gn rfl rfl rfl rfl rfl rfl rfl rfl ?_
        refine aw_gn rfl rfl rfl rfl rfl rfl rfl rfl ?_
        refine aw_gn rfl rfl rfl rfl rfl rfl rfl rfl ?_
        refine aw_gn rfl rfl rfl rfl rfl rfl rfl rfl ?_
        refine aw_g (g_pick rfl rfl rfl) rfl rfl rfl ?_
        refine aw_reval (d := 45) (y := isFirst l) rfl (by first | (rw [isFirst_at ht0, decide_eq_decide]; simp only [IntL.toI, id_eq]; omega) | exact (isFirst_nil g38).symm) ?_
        refine aw_g (g_mv (.inr rfl) rfl) rfl rfl rfl ?_
        refine aw_nil ?_
        refine aw_seq ?_
        refine aw_seq ?_
        refine aw_region ?_
        refine aw_g (g_mv (.inl rfl) rfl) rfl rfl rfl ?_
        refine aw_g (g_len rfl rfl isl_27) rfl rfl rfl ?_
        refine aw_g (g_mv (.inl rfl) rfl) rfl rfl rfl ?_
        refine aw_nil ?_
        refine aw_block ?_
        refine aw_loopI (ι := Nat × List Coin × Int) 2 rfl (fun (i : Nat × List Coin × Int) => match i with | (k, out, room) => (((((((((Fr.none).set 1 (.val (bsl txT) l)).set 2 (.ptr 0 0)).set 6 (.clo 37 [0])).set 7 (.own 1)).set 8 (.val i64T room)).set 9 (.val boolT (isFirst l))).set 46 (.val (bsl txT) l)).set 47 (.val i64T (l.length : Int))).set 48 (.val i64T (k : Int))) (fun (i : Nat × List Coin × Int) => match i with | (k, out, room) => ((Hp.none).set 0 (.box 22 (bsl coinT) p)).set 1 (.row 50 coinT out)) (fun (i : Nat × List Coin × Int) => match i with | (k, out, room) => k ≤ l.length ∧ mayCoins out = true ∧ runTxs p 50 (remTxs l 0) = runTxs out room (remTxs l k)) (fun (i : Nat × List Coin × Int) => match i with | (k, out, room) => l.length - k) ((0, p, 50)) (⟨Nat.zero_le _, hmp, rfl⟩) (by (repeat refine Fr.le_set ?_ (by first | rfl | (simp; done))); exact Fr.le_none _) (by (repeat refine Hp.le_set ?_ rfl); exact Hp.le_none _) (by (repeat refine Fr.below_setB ?_ rfl); exact Fr.below_none _) (by (repeat refine Hp.below_set ?_ (by decide)); exact Hp.below_none _) ?_
        intro ⟨k, out, room⟩ hinv
        dsimp only at hinv
        have hol := mayCoins_len hinv.2.1
        refine aw_seq ?_
        refine aw_region ?_
        refine aw_g (g_lss rfl rfl rfl rfl) rfl rfl rfl ?_
        refine aw_nil ?_
        refine aw_seq ?_
        refine aw_ifc (p := k < l.length) rfl (by first | rfl | (rw [decide_eq_decide]; simp only [IntL.toI, id_eq]; omega) | (simp [IntL.toI]; done) | (simp [IntL.toI]; omega)) (fun ht49 => ?_) (fun ht49 => ?_)
        · skip
          exfalso
          omega
        · skip
          have hrun : runTxs p 50 (remTxs l 0) = .inr (out, room) := by rw [hinv.2.2, remTxs_end k (by omega)]; rfl
          refine aw_exit rfl ?_
          refine aw_seq ?_
          refine aw_seq ?_
          refine aw_region ?_
          refine aw_g (g_mv (.inl rfl) rfl) rfl rfl rfl ?_
          refine aw_g (g_not rfl rfl) rfl rfl rfl ?_
          refine aw_nil ?_
          refine aw_ifc (p := ¬ isFirst l = true) rfl (by simp) (fun ht78 => ?_) (fun ht78 => ?_)
          · skip
            have hnf := ht78
            refine aw_seq ?_
            refine aw_region ?_
            refine aw_g (g_mo (.inl rfl) rfl) rfl rfl rfl ?_
            refine aw_g (g_mo (.inr rfl) rfl) rfl rfl rfl ?_
            refine aw_g (g_mv (.inr rfl) rfl) rfl rfl rfl ?_
            refine aw_nil ?_
            have hS : applyOf p l = (out, 0) := by unfold applyOf; rw [if_neg (Classical.not_not.2 hmp), if_neg (show ¬ 4 < l.length by omega)]; rw [hrun]; simp only [if_neg ht78]
            exact aw_ret2 rfl rfl (ret_fresh_eq rfl rfl (by rw [hS])) (ret_eq rfl (by rw [hS]))
          · skip
            exact absurd (Classical.not_not.1 ht78) (by rw [isFirst_nil g38]; simp)

end Go.Proofs.Ytmfgemnmelbflaa
