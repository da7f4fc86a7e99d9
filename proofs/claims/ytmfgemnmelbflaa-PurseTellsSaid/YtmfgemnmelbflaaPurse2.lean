/- Layers 9 and 10: may a transaction be, what is worth, where a coin is. -/
import Derived.Test.YtmfgemnmelbflaaPurse
set_option maxRecDepth 20000
namespace Go.Proofs.Ytmfgemnmelbflaa
set_option linter.unusedVariables false
set_option linter.unusedSimpArgs false
open Go.Ab Go.RowKit

/-- What all are worth, as Go adds. -/
def worthF {α : Type} (f : α → Int) (l : List α) : Int := l.foldl (fun n x => IntKind.i64.wrap (n + f x)) 0
theorem worth_step {α : Type} {f : α → Int} {l : List α} {k : Nat} {x : α} (h : l[k]? = some x) : worthF f (l.take (k + 1)) = IntKind.i64.wrap (worthF f (l.take k) + f x) := by
  unfold worthF
  rw [List.take_add_one, h, List.foldl_append]; rfl
theorem idx_eq_step {α : Type} [DecidableEq α] {l : List α} {k : Nat} {x y : α} : idx (fun c => decide (x = c)) l = idx (fun c => decide (c = x)) l := by
  congr 1; funext c; exact decide_eq_decide.2 ⟨Eq.symm, Eq.symm⟩

theorem worthCoin (l : List Coin) (f : Coin → Int) : Tells P 43 [.val (bsl coinT) l, .fn1 P coinT i64T f] (.val i64T (worthF f l)) := by
  refine fn_of_aw Try.func43 rfl rfl rfl (fun ext w hext => ?_)
  refine aw_fact (d := 0) rfl fact_sl (fun hsl0 => ?_)
  refine aw_seq ?_
  refine aw_region ?_
  refine aw_g (g_mv (.inr rfl) rfl) rfl rfl rfl ?_
  refine aw_nil ?_
  refine aw_seq ?_
  refine aw_region ?_
  refine aw_g (g_mv (.inr rfl) rfl) rfl rfl rfl ?_
  refine aw_nil ?_
  refine aw_seq ?_
  refine aw_seq ?_
  refine aw_region ?_
  refine aw_g (g_mv (.inl rfl) rfl) rfl rfl rfl ?_
  refine aw_g (g_len rfl rfl isl_22) rfl rfl rfl ?_
  refine aw_g (g_mv (.inl rfl) rfl) rfl rfl rfl ?_
  refine aw_nil ?_
  refine aw_block ?_
  refine aw_loopI (ι := Nat) 0 rfl (fun (k : Nat) => (((((Fr.none).set 1 (.fn1 P coinT i64T f)).set 5 (.val i64T (worthF f (l.take k)))).set 8 (.val (bsl coinT) l)).set 9 (.val i64T (l.length : Int))).set 10 (.val i64T (k : Int))) (fun (k : Nat) => Hp.none) (fun (k : Nat) => k ≤ l.length) (fun (k : Nat) => l.length - k) (0) (Nat.zero_le _) (by (repeat refine Fr.le_set ?_ (by first | rfl | (simp; done))); exact Fr.le_none _) (by (repeat refine Hp.le_set ?_ rfl); exact Hp.le_none _) (by (repeat refine Fr.below_setB ?_ rfl); exact Fr.below_none _) (by (repeat refine Hp.below_set ?_ (by decide)); exact Hp.below_none _) ?_
  intro k hinv
  refine aw_seq ?_
  refine aw_region ?_
  refine aw_g (g_lss rfl rfl rfl rfl) rfl rfl rfl ?_
  refine aw_nil ?_
  refine aw_seq ?_
  refine aw_ifc (p := k < l.length) rfl (by first | rfl | (rw [decide_eq_decide]; simp only [IntL.toI, id_eq]; omega) | (simp [IntL.toI]; done) | (simp [IntL.toI]; omega)) (fun ht11 => ?_) (fun ht11 => ?_)
  · skip
    obtain ⟨x, hx⟩ : ∃ x, l[k]? = some x := ⟨_, List.getElem?_eq_getElem ht11⟩
    refine aw_skip ?_
    refine aw_seq ?_
    refine aw_block ?_
    refine aw_seq ?_
    refine aw_region ?_
    refine aw_g (g_ia_n rfl rfl rfl sl_22 (by assumption)) rfl rfl rfl ?_
    refine aw_g (g_load_r rfl rfl ty_50) rfl rfl rfl ?_
    refine aw_alloc ze_50 rfl rfl rfl rfl ?_
    refine aw_store_b rfl rfl rfl rfl rfl (Lens.self _) ty_50 rfl ?_
    refine aw_nil ?_
    refine aw_region ?_
    refine aw_g (g_mv (.inl rfl) rfl) rfl rfl rfl ?_
    refine aw_g (g_mf1 (.inl rfl) rfl) rfl rfl rfl ?_
    refine aw_g (g_load_b rfl rfl rfl (Lens.self _) ty_50) rfl rfl rfl ?_
    refine aw_g (g_callf1 rfl rfl (arg_v rfl)) rfl rfl rfl ?_
    refine aw_g (by first | exact g_add rfl rfl rfl (wrap_eq (by first | omega | (simp; omega))) | exact g_add rfl rfl rfl rfl) rfl rfl rfl ?_
    refine aw_g (g_mv (.inr rfl) rfl) rfl rfl rfl ?_
    refine aw_nil ?_
    refine aw_inBlock ?_
    refine aw_region ?_
    refine aw_g (by first | exact g_add rfl rfl rfl (wrap_eq (by first | omega | (simp; omega))) | exact g_add rfl rfl rfl rfl) rfl rfl rfl ?_
    refine aw_g (g_mv (.inl rfl) rfl) rfl rfl rfl ?_
    refine aw_nil ?_
    refine aw_reval (d := 5) rfl (worth_step hx).symm ?_
    exact aw_next (k + 1) (by omega) (by omega) rfl (by (repeat refine Fr.le_set ?_ (by first | rfl | (simp; done))); exact Fr.le_none _) (by (repeat refine Hp.le_set ?_ rfl); exact Hp.le_none _) (by (repeat refine Fr.below_setB ?_ rfl); exact Fr.below_none _) (by (repeat refine Hp.below_set ?_ (by decide)); exact Hp.below_none _)
  · skip
    refine aw_exit rfl ?_
    refine aw_seq ?_
    refine aw_region ?_
    refine aw_g (g_mv (.inl rfl) rfl) rfl rfl rfl ?_
    refine aw_g (g_mv (.inr rfl) rfl) rfl rfl rfl ?_
    refine aw_nil ?_
    exact aw_ret1 rfl rfl (ret_eq rfl (by rw [List.take_of_length_le (by omega)]))

theorem worthOut (l : List Out) (f : Out → Int) : Tells P 52 [.val (bsl outT) l, .fn1 P outT i64T f] (.val i64T (worthF f l)) := by
  refine fn_of_aw Try.func52 rfl rfl rfl (fun ext w hext => ?_)
  refine aw_fact (d := 0) rfl fact_sl (fun hsl0 => ?_)
  refine aw_seq ?_
  refine aw_region ?_
  refine aw_g (g_mv (.inr rfl) rfl) rfl rfl rfl ?_
  refine aw_nil ?_
  refine aw_seq ?_
  refine aw_region ?_
  refine aw_g (g_mv (.inr rfl) rfl) rfl rfl rfl ?_
  refine aw_nil ?_
  refine aw_seq ?_
  refine aw_seq ?_
  refine aw_region ?_
  refine aw_g (g_mv (.inl rfl) rfl) rfl rfl rfl ?_
  refine aw_g (g_len rfl rfl isl_24) rfl rfl rfl ?_
  refine aw_g (g_mv (.inl rfl) rfl) rfl rfl rfl ?_
  refine aw_nil ?_
  refine aw_block ?_
  refine aw_loopI (ι := Nat) 0 rfl (fun (k : Nat) => (((((Fr.none).set 1 (.fn1 P outT i64T f)).set 5 (.val i64T (worthF f (l.take k)))).set 8 (.val (bsl outT) l)).set 9 (.val i64T (l.length : Int))).set 10 (.val i64T (k : Int))) (fun (k : Nat) => Hp.none) (fun (k : Nat) => k ≤ l.length) (fun (k : Nat) => l.length - k) (0) (Nat.zero_le _) (by (repeat refine Fr.le_set ?_ (by first | rfl | (simp; done))); exact Fr.le_none _) (by (repeat refine Hp.le_set ?_ rfl); exact Hp.le_none _) (by (repeat refine Fr.below_setB ?_ rfl); exact Fr.below_none _) (by (repeat refine Hp.below_set ?_ (by decide)); exact Hp.below_none _) ?_
  intro k hinv
  refine aw_seq ?_
  refine aw_region ?_
  refine aw_g (g_lss rfl rfl rfl rfl) rfl rfl rfl ?_
  refine aw_nil ?_
  refine aw_seq ?_
  refine aw_ifc (p := k < l.length) rfl (by first | rfl | (rw [decide_eq_decide]; simp only [IntL.toI, id_eq]; omega) | (simp [IntL.toI]; done) | (simp [IntL.toI]; omega)) (fun ht11 => ?_) (fun ht11 => ?_)
  · skip
    obtain ⟨x, hx⟩ : ∃ x, l[k]? = some x := ⟨_, List.getElem?_eq_getElem ht11⟩
    refine aw_skip ?_
    refine aw_seq ?_
    refine aw_block ?_
    refine aw_seq ?_
    refine aw_region ?_
    refine aw_g (g_ia_n rfl rfl rfl sl_24 (by assumption)) rfl rfl rfl ?_
    refine aw_g (g_load_r rfl rfl ty_48) rfl rfl rfl ?_
    refine aw_alloc ze_48 rfl rfl rfl rfl ?_
    refine aw_store_b rfl rfl rfl rfl rfl (Lens.self _) ty_48 rfl ?_
    refine aw_nil ?_
    refine aw_region ?_
    refine aw_g (g_mv (.inl rfl) rfl) rfl rfl rfl ?_
    refine aw_g (g_mf1 (.inl rfl) rfl) rfl rfl rfl ?_
    refine aw_g (g_load_b rfl rfl rfl (Lens.self _) ty_48) rfl rfl rfl ?_
    refine aw_g (g_callf1 rfl rfl (arg_v rfl)) rfl rfl rfl ?_
    refine aw_g (by first | exact g_add rfl rfl rfl (wrap_eq (by first | omega | (simp; omega))) | exact g_add rfl rfl rfl rfl) rfl rfl rfl ?_
    refine aw_g (g_mv (.inr rfl) rfl) rfl rfl rfl ?_
    refine aw_nil ?_
    refine aw_inBlock ?_
    refine aw_region ?_
    refine aw_g (by first | exact g_add rfl rfl rfl (wrap_eq (by first | omega | (simp; omega))) | exact g_add rfl rfl rfl rfl) rfl rfl rfl ?_
    refine aw_g (g_mv (.inl rfl) rfl) rfl rfl rfl ?_
    refine aw_nil ?_
    refine aw_reval (d := 5) rfl (worth_step hx).symm ?_
    exact aw_next (k + 1) (by omega) (by omega) rfl (by (repeat refine Fr.le_set ?_ (by first | rfl | (simp; done))); exact Fr.le_none _) (by (repeat refine Hp.le_set ?_ rfl); exact Hp.le_none _) (by (repeat refine Fr.below_setB ?_ rfl); exact Fr.below_none _) (by (repeat refine Hp.below_set ?_ (by decide)); exact Hp.below_none _)
  · skip
    refine aw_exit rfl ?_
    refine aw_seq ?_
    refine aw_region ?_
    refine aw_g (g_mv (.inl rfl) rfl) rfl rfl rfl ?_
    refine aw_g (g_mv (.inr rfl) rfl) rfl rfl rfl ?_
    refine aw_nil ?_
    exact aw_ret1 rfl rfl (ret_eq rfl (by rw [List.take_of_length_le (by omega)]))

theorem sum1_ok (c : Coin) : Tells P 44 [.val coinT c] (.val i64T c.out.v) := by
  refine fn_of_aw Try.func44 rfl rfl rfl (fun ext w hext => ?_)
  refine aw_seq ?_
  refine aw_region ?_
  refine aw_box rfl rfl rfl rfl rfl ?_
  refine aw_g (g_mv (.inr rfl) rfl) rfl rfl rfl ?_
  refine aw_nil ?_
  refine aw_seq ?_
  refine aw_region ?_
  refine aw_g (g_fa_p rfl rfl fd_50_1 rfl) rfl rfl rfl ?_
  refine aw_g (g_fa_p rfl rfl fd_48_0 rfl) rfl rfl rfl ?_
  refine aw_g (g_load_b rfl rfl rfl (L_Coin_out.comp L_Out_v) ty_3) rfl rfl rfl ?_
  refine aw_g (g_mv (.inr rfl) rfl) rfl rfl rfl ?_
  refine aw_nil ?_
  exact aw_ret1 rfl rfl (by first | exact ret_val rfl | exact ret_own rfl rfl | exact ret_nil rfl | exact ret_fresh rfl rfl | exact ret_fresh_nil rfl | exact ret_lit rfl)

theorem outs1_ok (o : Out) : Tells P 53 [.val outT o] (.val i64T o.v) := by
  refine fn_of_aw Try.func53 rfl rfl rfl (fun ext w hext => ?_)
  refine aw_seq ?_
  refine aw_region ?_
  refine aw_box rfl rfl rfl rfl rfl ?_
  refine aw_g (g_mv (.inr rfl) rfl) rfl rfl rfl ?_
  refine aw_nil ?_
  refine aw_seq ?_
  refine aw_region ?_
  refine aw_g (g_fa_p rfl rfl fd_48_0 rfl) rfl rfl rfl ?_
  refine aw_g (g_load_b rfl rfl rfl L_Out_v ty_3) rfl rfl rfl ?_
  refine aw_g (g_mv (.inr rfl) rfl) rfl rfl rfl ?_
  refine aw_nil ?_
  exact aw_ret1 rfl rfl (by first | exact ret_val rfl | exact ret_own rfl rfl | exact ret_nil rfl | exact ret_fresh rfl rfl | exact ret_fresh_nil rfl | exact ret_lit rfl)

theorem outs_ok (t : Tx) : Tells P 30 [.val txT t] (.val i64T (worthF (·.v) t.outs)) := by
  refine fn_of_aw Try.func30 rfl rfl rfl (fun ext w hext => ?_)
  refine aw_seq ?_
  refine aw_region ?_
  refine aw_box rfl rfl rfl rfl rfl ?_
  refine aw_g (g_mv (.inr rfl) rfl) rfl rfl rfl ?_
  refine aw_nil ?_
  refine aw_seq ?_
  refine aw_region ?_
  refine aw_g (g_fa_p rfl rfl fd_26_1 rfl) rfl rfl rfl ?_
  refine aw_g (g_load_b rfl rfl rfl L_Tx_outs ty_24) rfl rfl rfl ?_
  refine aw_g (g_call (worthOut _ _) rfl fn_52 ⟨(arg_v rfl), (by first | exact arg_fn1 (Cs := []) rfl fn_53 (by intro n hn; cases hn) trivial rfl (fun x => outs1_ok _) | exact arg_fn2 (Cs := []) rfl fn_53 (by intro n hn; cases hn) trivial rfl (fun x y => outs1_ok _) | exact arg_clo rfl), trivial⟩ rfl) rfl rfl rfl ?_
  refine aw_g (g_mv (.inr rfl) rfl) rfl rfl rfl ?_
  refine aw_nil ?_
  exact aw_ret1 rfl rfl (by first | exact ret_val rfl | exact ret_own rfl rfl | exact ret_nil rfl | exact ret_fresh rfl rfl | exact ret_fresh_nil rfl | exact ret_lit rfl)

theorem psum_ok (p : List Coin) : Tells P 22 [.val (bsl coinT) p] (.val i64T (if mayCoins p = true then worthF (·.out.v) p else 0)) := by
  refine fn_of_aw Try.func22 rfl rfl rfl (fun ext w hext => ?_)
  refine aw_fact (d := 0) rfl fact_sl (fun hsl0 => ?_)
  refine aw_seq ?_
  refine aw_region ?_
  refine aw_g (g_mv (.inr rfl) rfl) rfl rfl rfl ?_
  refine aw_nil ?_
  refine aw_seq ?_
  refine aw_seq ?_
  refine aw_region ?_
  refine aw_g (g_mv (.inl rfl) rfl) rfl rfl rfl ?_
  refine aw_g (g_call (may_ok _) rfl fn_20 ⟨(arg_v rfl), trivial⟩ rfl) rfl rfl rfl ?_
  refine aw_g (g_not rfl rfl) rfl rfl rfl ?_
  refine aw_nil ?_
  refine aw_ifc (p := ¬ mayCoins p = true) rfl (by simp) (fun ht5 => ?_) (fun ht5 => ?_)
  · skip
    refine aw_seq ?_
    refine aw_region ?_
    refine aw_g (g_mv (.inr rfl) rfl) rfl rfl rfl ?_
    refine aw_nil ?_
    exact aw_ret1 rfl rfl (ret_eq rfl (if_neg ht5).symm)
  · skip
    refine aw_skip ?_
    refine aw_seq ?_
    refine aw_region ?_
    refine aw_g (g_mv (.inl rfl) rfl) rfl rfl rfl ?_
    refine aw_g (g_call (worthCoin _ _) rfl fn_43 ⟨(arg_v rfl), (by first | exact arg_fn1 (Cs := []) rfl fn_44 (by intro n hn; cases hn) trivial rfl (fun x => sum1_ok _) | exact arg_fn2 (Cs := []) rfl fn_44 (by intro n hn; cases hn) trivial rfl (fun x y => sum1_ok _) | exact arg_clo rfl), trivial⟩ rfl) rfl rfl rfl ?_
    refine aw_g (g_mv (.inr rfl) rfl) rfl rfl rfl ?_
    refine aw_nil ?_
    exact aw_ret1 rfl rfl (ret_eq rfl (if_pos (Classical.not_not.1 ht5)).symm)

theorem made1_ok (id : Ab.Id) (c : Coin) : Tells P 55 [.val coinT c, .rptr idT id] (.val boolT (decide (c.inn.tx = id))) := by
  refine fn_of_aw Try.func55 rfl rfl rfl (fun ext w hext => ?_)
  refine aw_seq ?_
  refine aw_region ?_
  refine aw_box rfl rfl rfl rfl rfl ?_
  refine aw_g (g_mv (.inr rfl) rfl) rfl rfl rfl ?_
  refine aw_nil ?_
  refine aw_seq ?_
  refine aw_region ?_
  refine aw_g (g_fa_p rfl rfl fd_50_0 rfl) rfl rfl rfl ?_
  refine aw_g (g_fa_p rfl rfl fd_42_0 rfl) rfl rfl rfl ?_
  refine aw_g (g_load_b rfl rfl rfl (L_Coin_inn.comp L_In_tx) ty_40) rfl rfl rfl ?_
  refine aw_g (g_load_r rfl rfl ty_40) rfl rfl rfl ?_
  refine aw_g (g_eqlS rfl rfl rfl (eqt_40)) rfl rfl rfl ?_
  refine aw_g (g_mv (.inr rfl) rfl) rfl rfl rfl ?_
  refine aw_nil ?_
  exact aw_ret1 rfl rfl (by first | exact ret_val rfl | exact ret_own rfl rfl | exact ret_nil rfl | exact ret_fresh rfl rfl | exact ret_fresh_nil rfl | exact ret_lit rfl)

theorem made2_ok (a b : Coin) : Tells P 57 [.val coinT a, .val coinT b] (.val i64T (ordIn a.inn b.inn)) := by
  refine fn_of_aw Try.func57 rfl rfl rfl (fun ext w hext => ?_)
  refine aw_seq ?_
  refine aw_region ?_
  refine aw_box rfl rfl rfl rfl rfl ?_
  refine aw_box rfl rfl rfl rfl rfl ?_
  refine aw_g (g_mv (.inr rfl) rfl) rfl rfl rfl ?_
  refine aw_nil ?_
  refine aw_seq ?_
  refine aw_region ?_
  refine aw_g (g_fa_p rfl rfl fd_50_0 rfl) rfl rfl rfl ?_
  refine aw_g (g_load_b rfl rfl rfl L_Coin_inn ty_42) rfl rfl rfl ?_
  refine aw_g (g_fa_p rfl rfl fd_50_0 rfl) rfl rfl rfl ?_
  refine aw_g (g_load_b rfl rfl rfl L_Coin_inn ty_42) rfl rfl rfl ?_
  refine aw_g (g_call (order_ok _ _) rfl fn_41 ⟨(arg_v rfl), (arg_v rfl), trivial⟩ rfl) rfl rfl rfl ?_
  refine aw_g (g_mv (.inr rfl) rfl) rfl rfl rfl ?_
  refine aw_nil ?_
  exact aw_ret1 rfl rfl (by first | exact ret_val rfl | exact ret_own rfl rfl | exact ret_nil rfl | exact ret_fresh rfl rfl | exact ret_fresh_nil rfl | exact ret_lit rfl)

theorem place1_ok (c : Coin) (x : In) : Tells P 51 [.val coinT c, .val inT x] (.val i64T (ordIn c.inn x)) := by
  refine fn_of_aw Try.func51 rfl rfl rfl (fun ext w hext => ?_)
  refine aw_seq ?_
  refine aw_region ?_
  refine aw_box rfl rfl rfl rfl rfl ?_
  refine aw_box rfl rfl rfl rfl rfl ?_
  refine aw_g (g_mv (.inr rfl) rfl) rfl rfl rfl ?_
  refine aw_nil ?_
  refine aw_seq ?_
  refine aw_region ?_
  refine aw_g (g_fa_p rfl rfl fd_50_0 rfl) rfl rfl rfl ?_
  refine aw_g (g_load_b rfl rfl rfl L_Coin_inn ty_42) rfl rfl rfl ?_
  refine aw_g (g_load_b rfl rfl rfl (Lens.self _) ty_42) rfl rfl rfl ?_
  refine aw_g (g_call (order_ok _ _) rfl fn_41 ⟨(arg_v rfl), (arg_v rfl), trivial⟩ rfl) rfl rfl rfl ?_
  refine aw_g (g_mv (.inr rfl) rfl) rfl rfl rfl ?_
  refine aw_nil ?_
  exact aw_ret1 rfl rfl (by first | exact ret_val rfl | exact ret_own rfl rfl | exact ret_nil rfl | exact ret_fresh rfl rfl | exact ret_fresh_nil rfl | exact ret_lit rfl)

theorem indexIn (l : List In) (v : In) : Tells P 68 [.val (bsl inT) l, .val inT v] (.val i64T (idx (fun c => decide (v = c)) l)) := by
  refine fn_of_aw Try.func68 rfl rfl rfl (fun ext w hext => ?_)
  refine aw_fact (d := 0) rfl fact_sl (fun hsl0 => ?_)
  refine aw_seq ?_
  refine aw_region ?_
  refine aw_box rfl rfl rfl rfl rfl ?_
  refine aw_g (g_mv (.inr rfl) rfl) rfl rfl rfl ?_
  refine aw_nil ?_
  refine aw_seq ?_
  refine aw_seq ?_
  refine aw_region ?_
  refine aw_g (g_mv (.inl rfl) rfl) rfl rfl rfl ?_
  refine aw_g (g_len rfl rfl isl_23) rfl rfl rfl ?_
  refine aw_g (g_mv (.inl rfl) rfl) rfl rfl rfl ?_
  refine aw_nil ?_
  refine aw_block ?_
  refine aw_loopI (ι := Nat) 1 rfl (fun (k : Nat) => (((((Fr.none).set 0 (.val (bsl inT) l)).set 3 (.ptr 0 0)).set 6 (.val (bsl inT) l)).set 7 (.val i64T (l.length : Int))).set 8 (.val i64T (k : Int))) (fun (k : Nat) => (Hp.none).set 0 (.box 42 inT v)) (fun (k : Nat) => k ≤ l.length ∧ idx (fun c => decide (v = c)) l = shift k (idx (fun c => decide (v = c)) (l.drop k))) (fun (k : Nat) => l.length - k) (0) (⟨Nat.zero_le _, shift_zero _ l⟩) (by (repeat refine Fr.le_set ?_ (by first | rfl | (simp; done))); exact Fr.le_none _) (by (repeat refine Hp.le_set ?_ rfl); exact Hp.le_none _) (by (repeat refine Fr.below_setB ?_ rfl); exact Fr.below_none _) (by (repeat refine Hp.below_set ?_ (by decide)); exact Hp.below_none _) ?_
  intro k hinv
  refine aw_seq ?_
  refine aw_region ?_
  refine aw_g (g_lss rfl rfl rfl rfl) rfl rfl rfl ?_
  refine aw_nil ?_
  refine aw_seq ?_
  refine aw_ifc (p := k < l.length) rfl (by first | rfl | (rw [decide_eq_decide]; simp only [IntL.toI, id_eq]; omega) | (simp [IntL.toI]; done) | (simp [IntL.toI]; omega)) (fun ht9 => ?_) (fun ht9 => ?_)
  · skip
    obtain ⟨x, hx⟩ : ∃ x, l[k]? = some x := ⟨_, List.getElem?_eq_getElem ht9⟩
    refine aw_skip ?_
    refine aw_seq ?_
    refine aw_block ?_
    refine aw_seq ?_
    refine aw_region ?_
    refine aw_g (g_mv (.inl rfl) rfl) rfl rfl rfl ?_
    refine aw_g (g_mv (.inr rfl) rfl) rfl rfl rfl ?_
    refine aw_nil ?_
    refine aw_seq ?_
    refine aw_draw mixed (by decide +kernel) ?_
    refine GK.g (g_load_b rfl rfl rfl (Lens.self _) ty_42) rfl rfl rfl ?_
    refine GK.g (g_mv (.inl rfl) rfl) rfl rfl rfl ?_
    refine GK.g (g_mv (.inl rfl) rfl) rfl rfl rfl ?_
    refine GK.g (g_ia_n rfl rfl rfl sl_23 (by assumption)) rfl rfl rfl ?_
    refine GK.g (g_load_r rfl rfl ty_42) rfl rfl rfl ?_
    refine GK.g (g_eqlS rfl rfl rfl (eqt_42)) rfl rfl rfl ?_
    refine GK.nil ?_
    refine aw_ifc (p := decide (v = x) = true) rfl (by simp) (fun ht16 => ?_) (fun ht16 => ?_)
    · skip
      refine aw_seq ?_
      refine aw_region ?_
      refine aw_g (g_mv (.inl rfl) rfl) rfl rfl rfl ?_
      refine aw_g (g_mv (.inr rfl) rfl) rfl rfl rfl ?_
      refine aw_nil ?_
      exact aw_ret1 rfl rfl (ret_eq rfl (hinv.2.trans (idx_yes hx ht16)).symm)
    · skip
      refine aw_skip ?_
      refine aw_inBlock ?_
      refine aw_region ?_
      refine aw_g (by first | exact g_add rfl rfl rfl (wrap_eq (by first | omega | (simp; omega))) | exact g_add rfl rfl rfl rfl) rfl rfl rfl ?_
      refine aw_g (g_mv (.inl rfl) rfl) rfl rfl rfl ?_
      refine aw_nil ?_
      exact aw_next (k + 1) (⟨by omega, hinv.2.trans (idx_no hx ht16)⟩) (by omega) rfl (by (repeat refine Fr.le_set ?_ (by first | rfl | (simp; done))); exact Fr.le_none _) (by (repeat refine Hp.le_set ?_ rfl); exact Hp.le_none _) (by (repeat refine Fr.below_setB ?_ rfl); exact Fr.below_none _) (by (repeat refine Hp.below_set ?_ (by decide)); exact Hp.below_none _)
  · skip
    refine aw_exit rfl ?_
    refine aw_seq ?_
    refine aw_region ?_
    refine aw_g (g_mv (.inr rfl) rfl) rfl rfl rfl ?_
    refine aw_nil ?_
    exact aw_ret1 rfl rfl (ret_eq rfl (hinv.2.trans (idx_end (by omega))).symm)

theorem containsIn (l : List In) (v : In) : Tells P 47 [.val (bsl inT) l, .val inT v] (.val boolT (l.any fun c => decide (v = c))) := by
  refine fn_of_aw Try.func47 rfl rfl rfl (fun ext w hext => ?_)
  refine aw_fact (d := 0) rfl fact_sl (fun hsl0 => ?_)
  refine aw_seq ?_
  refine aw_region ?_
  refine aw_box rfl rfl rfl rfl rfl ?_
  refine aw_g (g_mv (.inr rfl) rfl) rfl rfl rfl ?_
  refine aw_nil ?_
  refine aw_seq ?_
  refine aw_region ?_
  refine aw_g (g_mv (.inl rfl) rfl) rfl rfl rfl ?_
  refine aw_g (g_load_b rfl rfl rfl (Lens.self _) ty_42) rfl rfl rfl ?_
  refine aw_g (g_call (indexIn _ _) rfl fn_68 ⟨(arg_v rfl), (arg_v rfl), trivial⟩ rfl) rfl rfl rfl ?_
  refine aw_g (g_geq rfl rfl rfl rfl) rfl rfl rfl ?_
  refine aw_g (g_mv (.inr rfl) rfl) rfl rfl rfl ?_
  refine aw_nil ?_
  exact aw_ret1 rfl rfl (ret_eq rfl (idx_any _ l))

theorem odd_ok (o : Out) : Tells P 48 [.val outT o] (.val boolT (decide (o.v < 1 ∨ 1099511627776 < o.v ∨ o.to < 0 ∨ 255 < o.to))) := by
  refine fn_of_aw Try.func48 rfl rfl rfl (fun ext w hext => ?_)
  refine aw_seq ?_
  refine aw_region ?_
  refine aw_box rfl rfl rfl rfl rfl ?_
  refine aw_g (g_mv (.inr rfl) rfl) rfl rfl rfl ?_
  refine aw_nil ?_
  refine aw_seq ?_
  refine aw_region ?_
  refine aw_g (g_fa_p rfl rfl fd_48_0 rfl) rfl rfl rfl ?_
  refine aw_g (g_load_b rfl rfl rfl L_Out_v ty_3) rfl rfl rfl ?_
  refine aw_g (g_lss rfl rfl rfl rfl) rfl rfl rfl ?_
  refine aw_g (g_mv (.inl rfl) rfl) rfl rfl rfl ?_
  refine aw_splitp (d := 6) (p := o.v < 1) rfl (by first | rfl | (rw [decide_eq_decide]; simp only [IntL.toI, id_eq]; omega) | (simp [IntL.toI]; done) | (simp [IntL.toI]; omega)) (fun g6 => ?_) (fun g6 => ?_)
  · skip
    refine aw_gn rfl rfl rfl rfl rfl rfl rfl rfl ?_
    refine aw_gn rfl rfl rfl rfl rfl rfl rfl rfl ?_
    refine aw_gn rfl rfl rfl rfl rfl rfl rfl rfl ?_
    refine aw_g (g_pick rfl rfl rfl) rfl rfl rfl ?_
    refine aw_g (g_mv (.inl rfl) rfl) rfl rfl rfl ?_
    refine aw_gn rfl rfl rfl rfl rfl rfl rfl rfl ?_
    refine aw_gn rfl rfl rfl rfl rfl rfl rfl rfl ?_
    refine aw_gn rfl rfl rfl rfl rfl rfl rfl rfl ?_
    refine aw_g (g_pick rfl rfl rfl) rfl rfl rfl ?_
    refine aw_g (g_mv (.inl rfl) rfl) rfl rfl rfl ?_
    refine aw_gn rfl rfl rfl rfl rfl rfl rfl rfl ?_
    refine aw_gn rfl rfl rfl rfl rfl rfl rfl rfl ?_
    refine aw_gn rfl rfl rfl rfl rfl rfl rfl rfl ?_
    refine aw_g (g_pick rfl rfl rfl) rfl rfl rfl ?_
    refine aw_g (g_mv (.inr rfl) rfl) rfl rfl rfl ?_
    refine aw_nil ?_
    exact aw_ret1 rfl rfl (ret_eq rfl (by symm; first | (apply decide_eq_true; omega) | (apply decide_eq_false; omega)))
  · skip
    refine aw_gi (g_fa_p rfl rfl fd_48_0 rfl) rfl rfl rfl rfl rfl rfl rfl rfl ?_
    refine aw_gi (g_load_b rfl rfl rfl L_Out_v ty_3) rfl rfl rfl rfl rfl rfl rfl rfl ?_
    refine aw_gi (g_gtr rfl rfl rfl rfl) rfl rfl rfl rfl rfl rfl rfl rfl ?_
    refine aw_g (g_pick rfl rfl rfl) rfl rfl rfl ?_
    refine aw_g (g_mv (.inl rfl) rfl) rfl rfl rfl ?_
    refine aw_splitp (d := 11) (p := 1099511627776 < o.v) rfl (by first | rfl | (rw [decide_eq_decide]; simp only [IntL.toI, id_eq]; omega) | (simp [IntL.toI]; done) | (simp [IntL.toI]; omega)) (fun g11 => ?_) (fun g11 => ?_)
    · skip
      refine aw_gn rfl rfl rfl rfl rfl rfl rfl rfl ?_
      refine aw_gn rfl rfl rfl rfl rfl rfl rfl rfl ?_
      refine aw_gn rfl rfl rfl rfl rfl rfl rfl rfl ?_
      refine aw_g (g_pick rfl rfl rfl) rfl rfl rfl ?_
      refine aw_g (g_mv (.inl rfl) rfl) rfl rfl rfl ?_
      refine aw_gn rfl rfl rfl rfl rfl rfl rfl rfl ?_
      refine aw_gn rfl rfl rfl rfl rfl rfl rfl rfl ?_
      refine aw_gn rfl rfl rfl rfl rfl rfl rfl rfl ?_
      refine aw_g (g_pick rfl rfl rfl) rfl rfl rfl ?_
      refine aw_g (g_mv (.inr rfl) rfl) rfl rfl rfl ?_
      refine aw_nil ?_
      exact aw_ret1 rfl rfl (ret_eq rfl (by symm; first | (apply decide_eq_true; omega) | (apply decide_eq_false; omega)))
    · skip
      refine aw_gi (g_fa_p rfl rfl fd_48_1 rfl) rfl rfl rfl rfl rfl rfl rfl rfl ?_
      refine aw_gi (g_load_b rfl rfl rfl L_Out_to ty_3) rfl rfl rfl rfl rfl rfl rfl rfl ?_
      refine aw_gi (g_lss rfl rfl rfl rfl) rfl rfl rfl rfl rfl rfl rfl rfl ?_
      refine aw_g (g_pick rfl rfl rfl) rfl rfl rfl ?_
      refine aw_g (g_mv (.inl rfl) rfl) rfl rfl rfl ?_
      refine aw_splitp (d := 16) (p := o.to < 0) rfl (by first | rfl | (rw [decide_eq_decide]; simp only [IntL.toI, id_eq]; omega) | (simp [IntL.toI]; done) | (simp [IntL.toI]; omega)) (fun g16 => ?_) (fun g16 => ?_)
      · skip
        refine aw_gn rfl rfl rfl rfl rfl rfl rfl rfl ?_
        refine aw_gn rfl rfl rfl rfl rfl rfl rfl rfl ?_
        refine aw_gn rfl rfl rfl rfl rfl rfl rfl rfl ?_
        refine aw_g (g_pick rfl rfl rfl) rfl rfl rfl ?_
        refine aw_g (g_mv (.inr rfl) rfl) rfl rfl rfl ?_
        refine aw_nil ?_
        exact aw_ret1 rfl rfl (ret_eq rfl (by symm; first | (apply decide_eq_true; omega) | (apply decide_eq_false; omega)))
      · skip
        refine aw_gi (g_fa_p rfl rfl fd_48_1 rfl) rfl rfl rfl rfl rfl rfl rfl rfl ?_
        refine aw_gi (g_load_b rfl rfl rfl L_Out_to ty_3) rfl rfl rfl rfl rfl rfl rfl rfl ?_
        refine aw_gi (g_gtr rfl rfl rfl rfl) rfl rfl rfl rfl rfl rfl rfl rfl ?_
        refine aw_g (g_pick rfl rfl rfl) rfl rfl rfl ?_
        refine aw_splitp (d := 20) (p := 255 < o.to) rfl (by first | rfl | (rw [decide_eq_decide]; simp only [IntL.toI, id_eq]; omega) | (simp [IntL.toI]; done) | (simp [IntL.toI]; omega)) (fun g20 => ?_) (fun g20 => ?_)
        · skip
          refine aw_g (g_mv (.inr rfl) rfl) rfl rfl rfl ?_
          refine aw_nil ?_
          exact aw_ret1 rfl rfl (ret_eq rfl (by symm; first | (apply decide_eq_true; omega) | (apply decide_eq_false; omega)))
        · skip
          refine aw_g (g_mv (.inr rfl) rfl) rfl rfl rfl ?_
          refine aw_nil ?_
          exact aw_ret1 rfl rfl (ret_eq rfl (by symm; first | (apply decide_eq_true; omega) | (apply decide_eq_false; omega)))

end Go.Proofs.Ytmfgemnmelbflaa
