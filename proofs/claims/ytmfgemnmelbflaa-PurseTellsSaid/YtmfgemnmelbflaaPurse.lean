/- Layer 10 (purse): what its plain functions tell. -/
import Derived.Test.YtmfgemnmelbflaaLists
import Derived.Test.YtmfgemnmelbflaaExt
set_option maxRecDepth 20000
namespace Go.Proofs.Ytmfgemnmelbflaa
set_option linter.unusedVariables false
set_option linter.unusedSimpArgs false
open Go.Ab Go.RowKit

theorem ext_bcmp : ExtAt P 74 Extern.BytealgCompare.compare := ⟨_, rfl, rfl, rfl, rfl, rfl⟩
/-- The first one that is not 0. -/
def orL : List Int → Int
  | [] => 0
  | x :: l => if x = 0 then orL l else x
theorem orL_step {l : List Int} {k : Nat} {x : Int} (h : l[k]? = some x) (e : ¬ x ≠ 0) : orL (l.drop k) = orL (l.drop (k + 1)) := by
  obtain ⟨hk, rfl⟩ := List.getElem?_eq_some_iff.1 h
  rw [List.drop_eq_getElem_cons hk]
  simp [orL, Classical.not_not.1 e]
theorem orL_hit {l : List Int} {k : Nat} {x : Int} (h : l[k]? = some x) (e : x ≠ 0) : orL (l.drop k) = x := by
  obtain ⟨hk, rfl⟩ := List.getElem?_eq_some_iff.1 h
  rw [List.drop_eq_getElem_cons hk]
  simp [orL, e]

theorem orInt (l : List Int) : Tells P 62 [.val (bsl i64T) l] (.val i64T (orL l)) := by
  refine fn_of_aw Try.func62 rfl rfl rfl (fun ext w hext => ?_)
  refine aw_fact (d := 0) rfl fact_sl (fun hsl0 => ?_)
  refine aw_seq ?_
  refine aw_region ?_
  refine aw_g (g_mv (.inr rfl) rfl) rfl rfl rfl ?_
  refine aw_nil ?_
  refine aw_seq ?_
  refine aw_region ?_
  refine aw_g (g_mv (.inr rfl) rfl) rfl rfl rfl ?_
  refine aw_nil ?_
  refine aw_seq ?_
  refine aw_seq ?_
  refine aw_region ?_
  refine aw_g (g_mv (.inl rfl) rfl) rfl rfl rfl ?_
  refine aw_g (g_len rfl rfl isl_101) rfl rfl rfl ?_
  refine aw_g (g_mv (.inl rfl) rfl) rfl rfl rfl ?_
  refine aw_nil ?_
  refine aw_block ?_
  refine aw_loopI (ι := Nat) 0 rfl (fun (k : Nat) => ((((Fr.none).set 3 (.val i64T 0)).set 6 (.val (bsl i64T) l)).set 7 (.val i64T (l.length : Int))).set 8 (.val i64T (k : Int))) (fun (k : Nat) => Hp.none) (fun (k : Nat) => k ≤ l.length ∧ orL l = orL (l.drop k)) (fun (k : Nat) => l.length - k) (0) (⟨Nat.zero_le _, rfl⟩) (by (repeat refine Fr.le_set ?_ (by first | rfl | (simp; done))); exact Fr.le_none _) (by (repeat refine Hp.le_set ?_ rfl); exact Hp.le_none _) (by (repeat refine Fr.below_setB ?_ rfl); exact Fr.below_none _) (by (repeat refine Hp.below_set ?_ (by decide)); exact Hp.below_none _) ?_
  intro k hinv
  refine aw_seq ?_
  refine aw_region ?_
  refine aw_g (g_lss rfl rfl rfl rfl) rfl rfl rfl ?_
  refine aw_nil ?_
  refine aw_seq ?_
  refine aw_ifc (p := k < l.length) rfl (by first | rfl | (rw [decide_eq_decide]; simp only [IntL.toI, id_eq]; omega) | (simp [IntL.toI]; done) | (simp [IntL.toI]; omega)) (fun ht9 => ?_) (fun ht9 => ?_)
  · skip
    obtain ⟨x, hx⟩ : ∃ x, l[k]? = some x := ⟨_, List.getElem?_eq_getElem ht9⟩
    refine aw_skip ?_
    refine aw_seq ?_
    refine aw_block ?_
    refine aw_seq ?_
    refine aw_region ?_
    refine aw_g (g_ia_n rfl rfl rfl sl_101 (by assumption)) rfl rfl rfl ?_
    refine aw_g (g_load_r rfl rfl ty_3) rfl rfl rfl ?_
    refine aw_g (by first | exact g_mv (.inr rfl) rfl | exact g_mp (.inr rfl) rfl | exact g_mo (.inr rfl) rfl | exact g_ml (.inr rfl) rfl | exact g_mc (.inr rfl) rfl | exact g_mr (.inr rfl) rfl | exact g_mf1 (.inr rfl) rfl | exact g_mf2 (.inr rfl) rfl | exact g_mw (.inr rfl) rfl | exact g_me (.inr rfl) rfl | exact g_ms (.inr rfl) rfl | exact g_mt2 (.inr rfl) rfl | exact g_mt3 (.inr rfl) rfl | exact g_mi (.inr rfl) rfl) rfl rfl rfl ?_
    refine aw_nil ?_
    refine aw_seq ?_
    refine aw_region ?_
    refine aw_g (by first | exact g_mv (.inl rfl) rfl | exact g_mp (.inl rfl) rfl | exact g_mo (.inl rfl) rfl | exact g_ml (.inl rfl) rfl | exact g_mc (.inl rfl) rfl | exact g_mr (.inl rfl) rfl | exact g_mf1 (.inl rfl) rfl | exact g_mf2 (.inl rfl) rfl | exact g_mw (.inl rfl) rfl | exact g_me (.inl rfl) rfl | exact g_ms (.inl rfl) rfl | exact g_mt2 (.inl rfl) rfl | exact g_mt3 (.inl rfl) rfl | exact g_mi (.inl rfl) rfl) rfl rfl rfl ?_
    refine aw_g (g_mv (.inl rfl) rfl) rfl rfl rfl ?_
    refine aw_g (g_neq rfl rfl rfl rfl) rfl rfl rfl ?_
    refine aw_nil ?_
    refine aw_ifc (p := x ≠ 0) rfl (by simp [IntL.toI]) (fun ht14 => ?_) (fun ht14 => ?_)
    · skip
      refine aw_seq ?_
      refine aw_region ?_
      refine aw_g (by first | exact g_mv (.inl rfl) rfl | exact g_mp (.inl rfl) rfl | exact g_mo (.inl rfl) rfl | exact g_ml (.inl rfl) rfl | exact g_mc (.inl rfl) rfl | exact g_mr (.inl rfl) rfl | exact g_mf1 (.inl rfl) rfl | exact g_mf2 (.inl rfl) rfl | exact g_mw (.inl rfl) rfl | exact g_me (.inl rfl) rfl | exact g_ms (.inl rfl) rfl | exact g_mt2 (.inl rfl) rfl | exact g_mt3 (.inl rfl) rfl | exact g_mi (.inl rfl) rfl) rfl rfl rfl ?_
      refine aw_g (by first | exact g_mv (.inr rfl) rfl | exact g_mp (.inr rfl) rfl | exact g_mo (.inr rfl) rfl | exact g_ml (.inr rfl) rfl | exact g_mc (.inr rfl) rfl | exact g_mr (.inr rfl) rfl | exact g_mf1 (.inr rfl) rfl | exact g_mf2 (.inr rfl) rfl | exact g_mw (.inr rfl) rfl | exact g_me (.inr rfl) rfl | exact g_ms (.inr rfl) rfl | exact g_mt2 (.inr rfl) rfl | exact g_mt3 (.inr rfl) rfl | exact g_mi (.inr rfl) rfl) rfl rfl rfl ?_
      refine aw_nil ?_
      exact aw_ret1 rfl rfl (ret_eq rfl (hinv.2.trans (orL_hit hx ht14)).symm)
    · skip
      refine aw_skip ?_
      refine aw_inBlock ?_
      refine aw_region ?_
      refine aw_g (by first | exact g_add rfl rfl rfl (wrap_eq (by first | omega | (simp; omega))) | exact g_add rfl rfl rfl rfl) rfl rfl rfl ?_
      refine aw_g (g_mv (.inl rfl) rfl) rfl rfl rfl ?_
      refine aw_nil ?_
      exact aw_next (k + 1) (⟨by omega, hinv.2.trans (orL_step hx ht14)⟩) (by omega) rfl (by (repeat refine Fr.le_set ?_ (by first | rfl | (simp; done))); exact Fr.le_none _) (by (repeat refine Hp.le_set ?_ rfl); exact Hp.le_none _) (by (repeat refine Fr.below_setB ?_ rfl); exact Fr.below_none _) (by (repeat refine Hp.below_set ?_ (by decide)); exact Hp.below_none _)
  · skip
    refine aw_exit rfl ?_
    refine aw_seq ?_
    refine aw_region ?_
    refine aw_g (g_mv (.inl rfl) rfl) rfl rfl rfl ?_
    refine aw_g (g_mv (.inr rfl) rfl) rfl rfl rfl ?_
    refine aw_nil ?_
    exact aw_ret1 rfl rfl (ret_eq rfl (by rw [hinv.2, List.drop_of_length_le (by omega)]; rfl))

theorem bcompare (a b : List UInt8) : Tells P 63 [.val (bsl u8T) a, .val (bsl u8T) b] (.val i64T (Lib.compareBytes a b)) := by
  refine fn_of_aw Try.func63 rfl rfl rfl (fun ext w hext => ?_)
  refine aw_fact (d := 0) rfl fact_sl (fun hsl0 => ?_)
  refine aw_fact (d := 1) rfl fact_sl (fun hsl1 => ?_)
  refine aw_seq ?_
  refine aw_region ?_
  refine aw_g (g_mv (.inr rfl) rfl) rfl rfl rfl ?_
  refine aw_nil ?_
  refine aw_seq ?_
  refine aw_region ?_
  refine aw_g (g_mv (.inl rfl) rfl) rfl rfl rfl ?_
  refine aw_g (g_mv (.inl rfl) rfl) rfl rfl rfl ?_
  refine aw_g (g_bcmp rfl ext_bcmp rfl rfl) rfl rfl rfl ?_
  refine aw_g (by first | exact g_mv (.inr rfl) rfl | exact g_mp (.inr rfl) rfl | exact g_mo (.inr rfl) rfl | exact g_ml (.inr rfl) rfl | exact g_mc (.inr rfl) rfl | exact g_mr (.inr rfl) rfl | exact g_mf1 (.inr rfl) rfl | exact g_mf2 (.inr rfl) rfl | exact g_mw (.inr rfl) rfl | exact g_me (.inr rfl) rfl | exact g_ms (.inr rfl) rfl | exact g_mt2 (.inr rfl) rfl | exact g_mt3 (.inr rfl) rfl | exact g_mi (.inr rfl) rfl) rfl rfl rfl ?_
  refine aw_nil ?_
  exact aw_ret1 rfl rfl (by first | exact ret_val rfl | exact ret_own rfl rfl | exact ret_nil rfl | exact ret_fresh rfl rfl | exact ret_fresh_nil rfl | exact ret_lit rfl)

/-- The order of two coins. -/
def ordIn (a b : In) : Int := orL [Lib.compareBytes a.tx b.tx, cmpInt a.i b.i]

theorem order_ok (a b : In) : Tells P 41 [.val inT a, .val inT b] (.val i64T (ordIn a b)) := by
  refine fn_of_aw Try.func41 rfl rfl rfl (fun ext w hext => ?_)
  refine aw_seq ?_
  refine aw_region ?_
  refine aw_box rfl rfl rfl rfl rfl ?_
  refine aw_box rfl rfl rfl rfl rfl ?_
  refine aw_g (g_mv (.inr rfl) rfl) rfl rfl rfl ?_
  refine aw_nil ?_
  refine aw_seq ?_
  refine aw_draw mixed (by decide +kernel) ?_
  refine GK.g (g_fa_p rfl rfl fd_42_0 rfl) rfl rfl rfl ?_
  refine GK.g (g_slice_b rfl rfl ar_40 rfl rfl) rfl rfl rfl ?_
  refine GK.g (g_fa_p rfl rfl fd_42_0 rfl) rfl rfl rfl ?_
  refine GK.g (g_slice_b rfl rfl ar_40 rfl rfl) rfl rfl rfl ?_
  refine GK.g (g_call (bcompare _ _) rfl fn_63 ⟨(by exact arg_vw rfl rfl L_In_tx), (by exact arg_vw rfl rfl L_In_tx), trivial⟩ rfl) rfl rfl rfl ?_
  refine GK.g (g_fa_p rfl rfl fd_42_1 rfl) rfl rfl rfl ?_
  refine GK.g (g_load_b rfl rfl rfl L_In_i ty_3) rfl rfl rfl ?_
  refine GK.g (g_fa_p rfl rfl fd_42_1 rfl) rfl rfl rfl ?_
  refine GK.g (g_load_b rfl rfl rfl L_In_i ty_3) rfl rfl rfl ?_
  refine GK.g (g_call (cmpInt_ok _ _) rfl fn_64 ⟨(arg_v rfl), (arg_v rfl), trivial⟩ rfl) rfl rfl rfl ?_
  refine GK.g (g_bslice (T := i64T) (xs := [_, _]) rfl sl_101 row_101 ⟨rfl, rfl, rfl, rfl, trivial⟩ rfl rfl) rfl rfl rfl ?_
  refine GK.g (g_call (orInt _) rfl fn_62 ⟨(arg_v rfl), trivial⟩ rfl) rfl rfl rfl ?_
  refine GK.g (g_mv (.inr rfl) rfl) rfl rfl rfl ?_
  refine GK.nil ?_
  exact aw_ret1 rfl rfl (by first | exact ret_val rfl | exact ret_own rfl rfl | exact ret_nil rfl | exact ret_fresh rfl rfl | exact ret_fresh_nil rfl | exact ret_lit rfl)

theorem all_range_succ {p : Nat → Bool} {k : Nat} (h : (List.range k).all p = true) (hk : p k = true) : (List.range (k + 1)).all p = true := by
  rw [List.range_succ, List.all_append, h]; simp [hk]
theorem all_range_fail {p : Nat → Bool} {k n : Nat} (hk : k < n) (h : p k = false) : (List.range n).all p = false := by
  rw [List.all_eq_false]; exact ⟨k, by simpa using hk, by simp [h]⟩
/-- May a coin's parts be? -/
def coinOk (c : Coin) : Bool := decide (0 ≤ c.inn.i ∧ c.inn.i < 3 ∧ 1 ≤ c.out.v ∧ c.out.v ≤ 1099511627776 ∧ 0 ≤ c.out.to ∧ c.out.to ≤ 255)
def coinAt (p : List Coin) (k : Nat) : Bool := match p[k]? with
  | none => true
  | some c => coinOk c && (match k with | 0 => true | k + 1 => match p[k]? with | none => true | some b => decide (ordIn b.inn c.inn < 0))
/-- May coins be? -/
def mayCoins (p : List Coin) : Bool := (List.range p.length).all (coinAt p) && decide (p.length ≤ 48)
theorem coinAt_bad {p : List Coin} {k : Nat} {c : Coin} (h : p[k]? = some c) (hk : k < p.length) (hb : ¬ (0 ≤ c.inn.i ∧ c.inn.i < 3 ∧ 1 ≤ c.out.v ∧ c.out.v ≤ 1099511627776 ∧ 0 ≤ c.out.to ∧ c.out.to ≤ 255)) : mayCoins p = false := by
  unfold mayCoins
  rw [all_range_fail hk (by unfold coinAt coinOk; rw [h]; simp only [decide_eq_false hb, Bool.false_and]), Bool.false_and]
theorem coinAt_unsorted {p : List Coin} {k : Nat} {b c : Coin} (h : p[k]? = some c) (hk : k < p.length) (h0 : 0 < k) (hb : p[k - 1]? = some b) (ho : ¬ ordIn b.inn c.inn < 0) : mayCoins p = false := by
  unfold mayCoins
  obtain ⟨m, rfl⟩ : ∃ m, k = m + 1 := ⟨k - 1, by omega⟩
  simp only [Nat.add_sub_cancel] at hb
  rw [all_range_fail hk (by unfold coinAt; rw [h]; simp only [hb, decide_eq_false ho, Bool.and_false]), Bool.false_and]
theorem coinAt_first {p : List Coin} {c : Coin} (h : p[0]? = some c) (hb : 0 ≤ c.inn.i ∧ c.inn.i < 3 ∧ 1 ≤ c.out.v ∧ c.out.v ≤ 1099511627776 ∧ 0 ≤ c.out.to ∧ c.out.to ≤ 255) : coinAt p 0 = true := by
  unfold coinAt coinOk; rw [h]; simp only [decide_eq_true hb, Bool.and_self]
theorem coinAt_next {p : List Coin} {k : Nat} {b c : Coin} (h : p[k]? = some c) (h0 : 0 < k) (hb : p[k - 1]? = some b) (ho : ordIn b.inn c.inn < 0) (hc : 0 ≤ c.inn.i ∧ c.inn.i < 3 ∧ 1 ≤ c.out.v ∧ c.out.v ≤ 1099511627776 ∧ 0 ≤ c.out.to ∧ c.out.to ≤ 255) : coinAt p k = true := by
  obtain ⟨m, rfl⟩ : ∃ m, k = m + 1 := ⟨k - 1, by omega⟩
  simp only [Nat.add_sub_cancel] at hb
  unfold coinAt coinOk; rw [h]; simp only [hb, decide_eq_true ho, decide_eq_true hc, Bool.and_self]

theorem may_ok (p : List Coin) : Tells P 20 [.val (bsl coinT) p] (.val boolT (mayCoins p)) := by
  refine fn_of_aw Try.func20 rfl rfl rfl (fun ext w hext => ?_)
  refine aw_fact (d := 0) rfl fact_sl (fun hsl0 => ?_)
  refine aw_seq ?_
  refine aw_region ?_
  refine aw_g (g_mv (.inr rfl) rfl) rfl rfl rfl ?_
  refine aw_nil ?_
  refine aw_seq ?_
  refine aw_seq ?_
  refine aw_region ?_
  refine aw_g (g_mv (.inl rfl) rfl) rfl rfl rfl ?_
  refine aw_g (g_len rfl rfl isl_22) rfl rfl rfl ?_
  refine aw_g (g_mv (.inl rfl) rfl) rfl rfl rfl ?_
  refine aw_nil ?_
  refine aw_block ?_
  refine aw_loopI (ι := Nat) 0 rfl (fun (k : Nat) => ((((Fr.none).set 0 (.val (bsl coinT) p)).set 5 (.val (bsl coinT) p)).set 6 (.val i64T (p.length : Int))).set 7 (.val i64T (k : Int))) (fun (k : Nat) => Hp.none) (fun (k : Nat) => k ≤ p.length ∧ (List.range k).all (coinAt p) = true) (fun (k : Nat) => p.length - k) (0) (⟨Nat.zero_le _, rfl⟩) (by (repeat refine Fr.le_set ?_ (by first | rfl | (simp; done))); exact Fr.le_none _) (by (repeat refine Hp.le_set ?_ rfl); exact Hp.le_none _) (by (repeat refine Fr.below_setB ?_ rfl); exact Fr.below_none _) (by (repeat refine Hp.below_set ?_ (by decide)); exact Hp.below_none _) ?_
  intro k hinv
  refine aw_seq ?_
  refine aw_region ?_
  refine aw_g (g_lss rfl rfl rfl rfl) rfl rfl rfl ?_
  refine aw_nil ?_
  refine aw_seq ?_
  refine aw_ifc (p := k < p.length) rfl (by first | rfl | (rw [decide_eq_decide]; simp only [IntL.toI, id_eq]; omega) | (simp [IntL.toI]; done) | (simp [IntL.toI]; omega)) (fun ht8 => ?_) (fun ht8 => ?_)
  · skip
    obtain ⟨c, hc⟩ : ∃ c, p[k]? = some c := ⟨_, List.getElem?_eq_getElem ht8⟩
    refine aw_skip ?_
    refine aw_seq ?_
    refine aw_block ?_
    refine aw_seq ?_
    refine aw_region ?_
    refine aw_g (g_mv (.inl rfl) rfl) rfl rfl rfl ?_
    refine aw_g (g_ia_n rfl rfl rfl sl_22 (by assumption)) rfl rfl rfl ?_
    refine aw_g (g_load_r rfl rfl ty_50) rfl rfl rfl ?_
    refine aw_alloc ze_50 rfl rfl rfl rfl ?_
    refine aw_g (g_mv (.inr rfl) rfl) rfl rfl rfl ?_
    refine aw_store_b rfl rfl rfl rfl rfl (Lens.self _) ty_50 rfl ?_
    refine aw_nil ?_
    refine aw_seq ?_
    refine aw_seq ?_
    refine aw_region ?_
    refine aw_g (g_fa_p rfl rfl fd_50_0 rfl) rfl rfl rfl ?_
    refine aw_g (g_fa_p rfl rfl fd_42_1 rfl) rfl rfl rfl ?_
    refine aw_g (g_load_b rfl rfl rfl (L_Coin_inn.comp L_In_i) ty_3) rfl rfl rfl ?_
    refine aw_g (g_lss rfl rfl rfl rfl) rfl rfl rfl ?_
    refine aw_g (g_mv (.inl rfl) rfl) rfl rfl rfl ?_
    refine aw_splitp (d := 16) (p := c.inn.i < 0) rfl (by first | rfl | (rw [decide_eq_decide]; simp only [IntL.toI, id_eq]; omega) | (simp [IntL.toI]; done) | (simp [IntL.toI]; omega)) (fun g16 => ?_) (fun g16 => ?_)
    · skip
      refine aw_gn rfl rfl rfl rfl rfl rfl rfl rfl ?_
      refine aw_gn rfl rfl rfl rfl rfl rfl rfl rfl ?_
      refine aw_gn rfl rfl rfl rfl rfl rfl rfl rfl ?_
      refine aw_gn rfl rfl rfl rfl rfl rfl rfl rfl ?_
      refine aw_g (g_pick rfl rfl rfl) rfl rfl rfl ?_
      refine aw_g (g_mv (.inl rfl) rfl) rfl rfl rfl ?_
      refine aw_gn rfl rfl rfl rfl rfl rfl rfl rfl ?_
      refine aw_gn rfl rfl rfl rfl rfl rfl rfl rfl ?_
      refine aw_gn rfl rfl rfl rfl rfl rfl rfl rfl ?_
      refine aw_gn rfl rfl rfl rfl rfl rfl rfl rfl ?_
      refine aw_g (g_pick rfl rfl rfl) rfl rfl rfl ?_
      refine aw_g (g_mv (.inl rfl) rfl) rfl rfl rfl ?_
      refine aw_gn rfl rfl rfl rfl rfl rfl rfl rfl ?_
      refine aw_gn rfl rfl rfl rfl rfl rfl rfl rfl ?_
      refine aw_gn rfl rfl rfl rfl rfl rfl rfl rfl ?_
      refine aw_gn rfl rfl rfl rfl rfl rfl rfl rfl ?_
      refine aw_g (g_pick rfl rfl rfl) rfl rfl rfl ?_
      refine aw_g (g_mv (.inl rfl) rfl) rfl rfl rfl ?_
      refine aw_gn rfl rfl rfl rfl rfl rfl rfl rfl ?_
      refine aw_gn rfl rfl rfl rfl rfl rfl rfl rfl ?_
      refine aw_gn rfl rfl rfl rfl rfl rfl rfl rfl ?_
      refine aw_gn rfl rfl rfl rfl rfl rfl rfl rfl ?_
      refine aw_g (g_pick rfl rfl rfl) rfl rfl rfl ?_
      refine aw_g (g_mv (.inl rfl) rfl) rfl rfl rfl ?_
      refine aw_gn rfl rfl rfl rfl rfl rfl rfl rfl ?_
      refine aw_gn rfl rfl rfl rfl rfl rfl rfl rfl ?_
      refine aw_gn rfl rfl rfl rfl rfl rfl rfl rfl ?_
      refine aw_gn rfl rfl rfl rfl rfl rfl rfl rfl ?_
      refine aw_g (g_pick rfl rfl rfl) rfl rfl rfl ?_
      refine aw_nil ?_
      refine aw_if_t rfl (rfl) ?_
      refine aw_seq ?_
      refine aw_region ?_
      refine aw_g (g_mv (.inr rfl) rfl) rfl rfl rfl ?_
      refine aw_nil ?_
      exact aw_ret1 rfl rfl (ret_eq rfl (coinAt_bad hc ht8 (by omega)).symm)
    · skip
      refine aw_gi (g_fa_p rfl rfl fd_50_0 rfl) rfl rfl rfl rfl rfl rfl rfl rfl ?_
      refine aw_gi (g_fa_p rfl rfl fd_42_1 rfl) rfl rfl rfl rfl rfl rfl rfl rfl ?_
      refine aw_gi (g_load_b rfl rfl rfl (L_Coin_inn.comp L_In_i) ty_3) rfl rfl rfl rfl rfl rfl rfl rfl ?_
      refine aw_gi (g_geq rfl rfl rfl rfl) rfl rfl rfl rfl rfl rfl rfl rfl ?_
      refine aw_g (g_pick rfl rfl rfl) rfl rfl rfl ?_
      refine aw_g (g_mv (.inl rfl) rfl) rfl rfl rfl ?_
      refine aw_splitp (d := 22) (p := 3 ≤ c.inn.i) rfl (by first | rfl | (rw [decide_eq_decide]; simp only [IntL.toI, id_eq]; omega) | (simp [IntL.toI]; done) | (simp [IntL.toI]; omega)) (fun g22 => ?_) (fun g22 => ?_)
      · skip
        refine aw_gn rfl rfl rfl rfl rfl rfl rfl rfl ?_
        refine aw_gn rfl rfl rfl rfl rfl rfl rfl rfl ?_
        refine aw_gn rfl rfl rfl rfl rfl rfl rfl rfl ?_
        refine aw_gn rfl rfl rfl rfl rfl rfl rfl rfl ?_
        refine aw_g (g_pick rfl rfl rfl) rfl rfl rfl ?_
        refine aw_g (g_mv (.inl rfl) rfl) rfl rfl rfl ?_
        refine aw_gn rfl rfl rfl rfl rfl rfl rfl rfl ?_
        refine aw_gn rfl rfl rfl rfl rfl rfl rfl rfl ?_
        refine aw_gn rfl rfl rfl rfl rfl rfl rfl rfl ?_
        refine aw_gn rfl rfl rfl rfl rfl rfl rfl rfl ?_
        refine aw_g (g_pick rfl rfl rfl) rfl rfl rfl ?_
        refine aw_g (g_mv (.inl rfl) rfl) rfl rfl rfl ?_
        refine aw_gn rfl rfl rfl rfl rfl rfl rfl rfl ?_
        refine aw_gn rfl rfl rfl rfl rfl rfl rfl rfl ?_
        refine aw_gn rfl rfl rfl rfl rfl rfl rfl rfl ?_
        refine aw_gn rfl rfl rfl rfl rfl rfl rfl rfl ?_
        refine aw_g (g_pick rfl rfl rfl) rfl rfl rfl ?_
        refine aw_g (g_mv (.inl rfl) rfl) rfl rfl rfl ?_
        refine aw_gn rfl rfl rfl rfl rfl rfl rfl rfl ?_
        refine aw_gn rfl rfl rfl rfl rfl rfl rfl rfl ?_
        refine aw_gn rfl rfl rfl rfl rfl rfl rfl rfl ?_
        refine aw_gn rfl rfl rfl rfl rfl rfl rfl rfl ?_
        refine aw_g (g_pick rfl rfl rfl) rfl rfl rfl ?_
        refine aw_nil ?_
        refine aw_if_t rfl (rfl) ?_
        refine aw_seq ?_
        refine aw_region ?_
        refine aw_g (g_mv (.inr rfl) rfl) rfl rfl rfl ?_
        refine aw_nil ?_
        exact aw_ret1 rfl rfl (ret_eq rfl (coinAt_bad hc ht8 (by omega)).symm)
      · skip
        refine aw_gi (g_fa_p rfl rfl fd_50_1 rfl) rfl rfl rfl rfl rfl rfl rfl rfl ?_
        refine aw_gi (g_fa_p rfl rfl fd_48_0 rfl) rfl rfl rfl rfl rfl rfl rfl rfl ?_
        refine aw_gi (g_load_b rfl rfl rfl (L_Coin_out.comp L_Out_v) ty_3) rfl rfl rfl rfl rfl rfl rfl rfl ?_
        refine aw_gi (g_lss rfl rfl rfl rfl) rfl rfl rfl rfl rfl rfl rfl rfl ?_
        refine aw_g (g_pick rfl rfl rfl) rfl rfl rfl ?_
        refine aw_g (g_mv (.inl rfl) rfl) rfl rfl rfl ?_
        refine aw_splitp (d := 28) (p := c.out.v < 1) rfl (by first | rfl | (rw [decide_eq_decide]; simp only [IntL.toI, id_eq]; omega) | (simp [IntL.toI]; done) | (simp [IntL.toI]; omega)) (fun g28 => ?_) (fun g28 => ?_)
        · skip
          refine aw_gn rfl rfl rfl rfl rfl rfl rfl rfl ?_
          refine aw_gn rfl rfl rfl rfl rfl rfl rfl rfl ?_
          refine aw_gn rfl rfl rfl rfl rfl rfl rfl rfl ?_
          refine aw_gn rfl rfl rfl rfl rfl rfl rfl rfl ?_
          refine aw_g (g_pick rfl rfl rfl) rfl rfl rfl ?_
          refine aw_g (g_mv (.inl rfl) rfl) rfl rfl rfl ?_
          refine aw_gn rfl rfl rfl rfl rfl rfl rfl rfl ?_
          refine aw_gn rfl rfl rfl rfl rfl rfl rfl rfl ?_
          refine aw_gn rfl rfl rfl rfl rfl rfl rfl rfl ?_
          refine aw_gn rfl rfl rfl rfl rfl rfl rfl rfl ?_
          refine aw_g (g_pick rfl rfl rfl) rfl rfl rfl ?_
          refine aw_g (g_mv (.inl rfl) rfl) rfl rfl rfl ?_
          refine aw_gn rfl rfl rfl rfl rfl rfl rfl rfl ?_
          refine aw_gn rfl rfl rfl rfl rfl rfl rfl rfl ?_
          refine aw_gn rfl rfl rfl rfl rfl rfl rfl rfl ?_
          refine aw_gn rfl rfl rfl rfl rfl rfl rfl rfl ?_
          refine aw_g (g_pick rfl rfl rfl) rfl rfl rfl ?_
          refine aw_nil ?_
          refine aw_if_t rfl (rfl) ?_
          refine aw_seq ?_
          refine aw_region ?_
          refine aw_g (g_mv (.inr rfl) rfl) rfl rfl rfl ?_
          refine aw_nil ?_
          exact aw_ret1 rfl rfl (ret_eq rfl (coinAt_bad hc ht8 (by omega)).symm)
        · skip
          refine aw_gi (g_fa_p rfl rfl fd_50_1 rfl) rfl rfl rfl rfl rfl rfl rfl rfl ?_
          refine aw_gi (g_fa_p rfl rfl fd_48_0 rfl) rfl rfl rfl rfl rfl rfl rfl rfl ?_
          refine aw_gi (g_load_b rfl rfl rfl (L_Coin_out.comp L_Out_v) ty_3) rfl rfl rfl rfl rfl rfl rfl rfl ?_
          refine aw_gi (g_gtr rfl rfl rfl rfl) rfl rfl rfl rfl rfl rfl rfl rfl ?_
          refine aw_g (g_pick rfl rfl rfl) rfl rfl rfl ?_
          refine aw_g (g_mv (.inl rfl) rfl) rfl rfl rfl ?_
          refine aw_splitp (d := 34) (p := 1099511627776 < c.out.v) rfl (by first | rfl | (rw [decide_eq_decide]; simp only [IntL.toI, id_eq]; omega) | (simp [IntL.toI]; done) | (simp [IntL.toI]; omega)) (fun g34 => ?_) (fun g34 => ?_)
          · skip
            refine aw_gn rfl rfl rfl rfl rfl rfl rfl rfl ?_
            refine aw_gn rfl rfl rfl rfl rfl rfl rfl rfl ?_
            refine aw_gn rfl rfl rfl rfl rfl rfl rfl rfl ?_
            refine aw_gn rfl rfl rfl rfl rfl rfl rfl rfl ?_
            refine aw_g (g_pick rfl rfl rfl) rfl rfl rfl ?_
            refine aw_g (g_mv (.inl rfl) rfl) rfl rfl rfl ?_
            refine aw_gn rfl rfl rfl rfl rfl rfl rfl rfl ?_
            refine aw_gn rfl rfl rfl rfl rfl rfl rfl rfl ?_
            refine aw_gn rfl rfl rfl rfl rfl rfl rfl rfl ?_
            refine aw_gn rfl rfl rfl rfl rfl rfl rfl rfl ?_
            refine aw_g (g_pick rfl rfl rfl) rfl rfl rfl ?_
            refine aw_nil ?_
            refine aw_if_t rfl (rfl) ?_
            refine aw_seq ?_
            refine aw_region ?_
            refine aw_g (g_mv (.inr rfl) rfl) rfl rfl rfl ?_
            refine aw_nil ?_
            exact aw_ret1 rfl rfl (ret_eq rfl (coinAt_bad hc ht8 (by omega)).symm)
          · skip
            refine aw_gi (g_fa_p rfl rfl fd_50_1 rfl) rfl rfl rfl rfl rfl rfl rfl rfl ?_
            refine aw_gi (g_fa_p rfl rfl fd_48_1 rfl) rfl rfl rfl rfl rfl rfl rfl rfl ?_
            refine aw_gi (g_load_b rfl rfl rfl (L_Coin_out.comp L_Out_to) ty_3) rfl rfl rfl rfl rfl rfl rfl rfl ?_
            refine aw_gi (g_lss rfl rfl rfl rfl) rfl rfl rfl rfl rfl rfl rfl rfl ?_
            refine aw_g (g_pick rfl rfl rfl) rfl rfl rfl ?_
            refine aw_g (g_mv (.inl rfl) rfl) rfl rfl rfl ?_
            refine aw_splitp (d := 40) (p := c.out.to < 0) rfl (by first | rfl | (rw [decide_eq_decide]; simp only [IntL.toI, id_eq]; omega) | (simp [IntL.toI]; done) | (simp [IntL.toI]; omega)) (fun g40 => ?_) (fun g40 => ?_)
            · skip
              refine aw_gn rfl rfl rfl rfl rfl rfl rfl rfl ?_
              refine aw_gn rfl rfl rfl rfl rfl rfl rfl rfl ?_
              refine aw_gn rfl rfl rfl rfl rfl rfl rfl rfl ?_
              refine aw_gn rfl rfl rfl rfl rfl rfl rfl rfl ?_
              refine aw_g (g_pick rfl rfl rfl) rfl rfl rfl ?_
              refine aw_nil ?_
              refine aw_if_t rfl (rfl) ?_
              refine aw_seq ?_
              refine aw_region ?_
              refine aw_g (g_mv (.inr rfl) rfl) rfl rfl rfl ?_
              refine aw_nil ?_
              exact aw_ret1 rfl rfl (ret_eq rfl (coinAt_bad hc ht8 (by omega)).symm)
            · skip
              refine aw_gi (g_fa_p rfl rfl fd_50_1 rfl) rfl rfl rfl rfl rfl rfl rfl rfl ?_
              refine aw_gi (g_fa_p rfl rfl fd_48_1 rfl) rfl rfl rfl rfl rfl rfl rfl rfl ?_
              refine aw_gi (g_load_b rfl rfl rfl (L_Coin_out.comp L_Out_to) ty_3) rfl rfl rfl rfl rfl rfl rfl rfl ?_
              refine aw_gi (g_gtr rfl rfl rfl rfl) rfl rfl rfl rfl rfl rfl rfl rfl ?_
              refine aw_g (g_pick rfl rfl rfl) rfl rfl rfl ?_
              refine aw_splitp (d := 45) (p := 255 < c.out.to) rfl (by first | rfl | (rw [decide_eq_decide]; simp only [IntL.toI, id_eq]; omega) | (simp [IntL.toI]; done) | (simp [IntL.toI]; omega)) (fun g45 => ?_) (fun g45 => ?_)
              · skip
                refine aw_nil ?_
                refine aw_if_t rfl (rfl) ?_
                refine aw_seq ?_
                refine aw_region ?_
                refine aw_g (g_mv (.inr rfl) rfl) rfl rfl rfl ?_
                refine aw_nil ?_
                exact aw_ret1 rfl rfl (ret_eq rfl (coinAt_bad hc ht8 (by omega)).symm)
              · skip
                refine aw_nil ?_
                refine aw_if_f rfl (rfl) ?_
                refine aw_skip ?_
                refine aw_seq ?_
                refine aw_draw mixed (by decide +kernel) ?_
                refine GK.g (g_mv (.inl rfl) rfl) rfl rfl rfl ?_
                refine GK.g (g_gtr rfl rfl rfl rfl) rfl rfl rfl ?_
                refine GK.g (g_mv (.inl rfl) rfl) rfl rfl rfl ?_
                refine GK_splitp (d := 48) (p := 0 < k) rfl (by first | rfl | (rw [decide_eq_decide]; simp only [IntL.toI, id_eq]; omega) | (simp [IntL.toI]; done) | (simp [IntL.toI]; omega)) (fun g48 => ?_) (fun g48 => ?_)
                · skip
                  obtain ⟨b, hb⟩ : ∃ b, p[k - 1]? = some b := ⟨_, List.getElem?_eq_getElem (by omega)⟩
                  refine GK.gi (g_mv (.inl rfl) rfl) rfl rfl rfl rfl rfl rfl rfl rfl ?_
                  refine GK.gi (g_mv (.inl rfl) rfl) rfl rfl rfl rfl rfl rfl rfl rfl ?_
                  refine GK.gi (by first | exact g_sub rfl rfl rfl (wrap_eq (by first | omega | (simp; omega))) | exact g_sub rfl rfl rfl rfl) rfl rfl rfl rfl rfl rfl rfl rfl ?_
                  refine GK.gi (g_ia_i (i := k - 1) rfl rfl rfl (by omega) sl_22 (by assumption)) rfl rfl rfl rfl rfl rfl rfl rfl ?_
                  refine GK.gi (g_fa_r rfl rfl fd_50_0 L_Coin_inn) rfl rfl rfl rfl rfl rfl rfl rfl ?_
                  refine GK.gi (g_load_r rfl rfl ty_42) rfl rfl rfl rfl rfl rfl rfl rfl ?_
                  refine GK.gi (g_fa_p rfl rfl fd_50_0 rfl) rfl rfl rfl rfl rfl rfl rfl rfl ?_
                  refine GK.gi (g_load_b rfl rfl rfl L_Coin_inn ty_42) rfl rfl rfl rfl rfl rfl rfl rfl ?_
                  refine GK.gi (g_call (order_ok _ _) rfl fn_41 ⟨(by first | exact arg_same rfl | exact arg_bsl rfl | exact arg_own rfl rfl | exact arg_nil rfl | exact arg_rptr rfl | exact arg_fn rfl rfl | exact arg_lit rfl), (arg_v rfl), trivial⟩ rfl) rfl rfl rfl rfl rfl rfl rfl rfl ?_
                  refine GK.gi (g_geq rfl rfl rfl rfl) rfl rfl rfl rfl rfl rfl rfl rfl ?_
                  refine GK.g (g_pick rfl rfl rfl) rfl rfl rfl ?_
                  refine GK_splitp (d := 59) (p := ¬ ordIn b.inn c.inn < 0) rfl (by first | rfl | (rw [decide_eq_decide]; simp only [IntL.toI, id_eq]; omega) | (simp [IntL.toI]; done) | (simp [IntL.toI]; omega)) (fun g59 => ?_) (fun g59 => ?_)
                  · skip
                    refine GK.nil ?_
                    refine aw_if_t rfl (rfl) ?_
                    refine aw_seq ?_
                    refine aw_region ?_
                    refine aw_g (g_mv (.inr rfl) rfl) rfl rfl rfl ?_
                    refine aw_nil ?_
                    exact aw_ret1 rfl rfl (ret_eq rfl (coinAt_unsorted hc ht8 (by omega) hb g59).symm)
                  · skip
                    refine GK.nil ?_
                    refine aw_if_f rfl (rfl) ?_
                    refine aw_skip ?_
                    refine aw_inBlock ?_
                    refine aw_region ?_
                    refine aw_g (by first | exact g_add rfl rfl rfl (wrap_eq (by first | omega | (simp; omega))) | exact g_add rfl rfl rfl rfl) rfl rfl rfl ?_
                    refine aw_g (g_mv (.inl rfl) rfl) rfl rfl rfl ?_
                    refine aw_nil ?_
                    exact aw_next (k + 1) (⟨by omega, all_range_succ hinv.2 (by first | exact coinAt_next hc g48 hb (by simpa using g59) (by omega) | (obtain rfl : k = 0 := (by omega); exact coinAt_first hc (by omega)))⟩) (by omega) rfl (by (repeat refine Fr.le_set ?_ (by first | rfl | (simp; done))); exact Fr.le_none _) (by (repeat refine Hp.le_set ?_ rfl); exact Hp.le_none _) (by (repeat refine Fr.below_setB ?_ rfl); exact Fr.below_none _) (by (repeat refine Hp.below_set ?_ (by decide)); exact Hp.below_none _)
                · skip
                  refine GK.gn rfl rfl rfl rfl rfl rfl rfl rfl ?_
                  refine GK.gn rfl rfl rfl rfl rfl rfl rfl rfl ?_
                  refine GK.gn rfl rfl rfl rfl rfl rfl rfl rfl ?_
                  refine GK.gn rfl rfl rfl rfl rfl rfl rfl rfl ?_
                  refine GK.gn rfl rfl rfl rfl rfl rfl rfl rfl ?_
                  refine GK.gn rfl rfl rfl rfl rfl rfl rfl rfl ?_
                  refine GK.gn rfl rfl rfl rfl rfl rfl rfl rfl ?_
                  refine GK.gn rfl rfl rfl rfl rfl rfl rfl rfl ?_
                  refine GK.gn rfl rfl rfl rfl rfl rfl rfl rfl ?_
                  refine GK.gn rfl rfl rfl rfl rfl rfl rfl rfl ?_
                  refine GK.g (g_pick rfl rfl rfl) rfl rfl rfl ?_
                  refine GK.nil ?_
                  refine aw_if_f rfl (rfl) ?_
                  refine aw_skip ?_
                  refine aw_inBlock ?_
                  refine aw_region ?_
                  refine aw_g (by first | exact g_add rfl rfl rfl (wrap_eq (by first | omega | (simp; omega))) | exact g_add rfl rfl rfl rfl) rfl rfl rfl ?_
                  refine aw_g (g_mv (.inl rfl) rfl) rfl rfl rfl ?_
                  refine aw_nil ?_
                  exact aw_next (k + 1) (⟨by omega, all_range_succ hinv.2 (by first | exact coinAt_next hc g48 hb (by simpa using g59) (by omega) | (obtain rfl : k = 0 := (by omega); exact coinAt_first hc (by omega)))⟩) (by omega) rfl (by (repeat refine Fr.le_set ?_ (by first | rfl | (simp; done))); exact Fr.le_none _) (by (repeat refine Hp.le_set ?_ rfl); exact Hp.le_none _) (by (repeat refine Fr.below_setB ?_ rfl); exact Fr.below_none _) (by (repeat refine Hp.below_set ?_ (by decide)); exact Hp.below_none _)
  · skip
    refine aw_exit rfl ?_
    refine aw_seq ?_
    refine aw_region ?_
    refine aw_g (g_mv (.inl rfl) rfl) rfl rfl rfl ?_
    refine aw_g (g_len rfl rfl isl_22) rfl rfl rfl ?_
    refine aw_g (g_leq rfl rfl rfl rfl) rfl rfl rfl ?_
    refine aw_g (g_mv (.inr rfl) rfl) rfl rfl rfl ?_
    refine aw_nil ?_
    exact aw_ret1 rfl rfl (ret_eq rfl (by unfold mayCoins; rw [show k = p.length by omega] at hinv; rw [hinv.2, Bool.true_and, decide_eq_decide]; simp only [IntL.toI, id_eq]; omega))

theorem same_ok (p q : List Coin) : Tells P 21 [.val (bsl coinT) p, .val (bsl coinT) q] (.val boolT (decide (p = q))) := by
  refine fn_of_aw Try.func21 rfl rfl rfl (fun ext w hext => ?_)
  refine aw_fact (d := 0) rfl fact_sl (fun hsl0 => ?_)
  refine aw_fact (d := 1) rfl fact_sl (fun hsl1 => ?_)
  refine aw_seq ?_
  refine aw_region ?_
  refine aw_g (g_mv (.inr rfl) rfl) rfl rfl rfl ?_
  refine aw_nil ?_
  refine aw_seq ?_
  refine aw_region ?_
  refine aw_g (g_mv (.inl rfl) rfl) rfl rfl rfl ?_
  refine aw_g (g_mv (.inl rfl) rfl) rfl rfl rfl ?_
  refine aw_g (g_call (equalCoin _ _) rfl fn_42 ⟨(arg_v rfl), (arg_v rfl), trivial⟩ rfl) rfl rfl rfl ?_
  refine aw_g (g_mv (.inr rfl) rfl) rfl rfl rfl ?_
  refine aw_nil ?_
  exact aw_ret1 rfl rfl (by first | exact ret_val rfl | exact ret_own rfl rfl | exact ret_nil rfl | exact ret_fresh rfl rfl | exact ret_fresh_nil rfl | exact ret_lit rfl)

theorem find1_ok (x : In) (c : Coin) : Tells P 40 [.val coinT c, .rptr inT x] (.val boolT (decide (c.inn = x))) := by
  refine fn_of_aw Try.func40 rfl rfl rfl (fun ext w hext => ?_)
  refine aw_seq ?_
  refine aw_region ?_
  refine aw_box rfl rfl rfl rfl rfl ?_
  refine aw_g (g_mv (.inr rfl) rfl) rfl rfl rfl ?_
  refine aw_nil ?_
  refine aw_seq ?_
  refine aw_region ?_
  refine aw_g (g_fa_p rfl rfl fd_50_0 rfl) rfl rfl rfl ?_
  refine aw_g (g_load_b rfl rfl rfl L_Coin_inn ty_42) rfl rfl rfl ?_
  refine aw_g (g_load_r rfl rfl ty_42) rfl rfl rfl ?_
  refine aw_g (g_eqlS rfl rfl rfl (eqt_42)) rfl rfl rfl ?_
  refine aw_g (g_mv (.inr rfl) rfl) rfl rfl rfl ?_
  refine aw_nil ?_
  exact aw_ret1 rfl rfl (by first | exact ret_val rfl | exact ret_own rfl rfl | exact ret_nil rfl | exact ret_fresh rfl rfl | exact ret_fresh_nil rfl | exact ret_lit rfl)

theorem find_ok (p : List Coin) (x : In) : Tells P 18 [.val (bsl coinT) p, .val inT x] (.val i64T (idx (fun c => decide (c.inn = x)) p)) := by
  refine fn_of_aw Try.func18 rfl rfl rfl (fun ext w hext => ?_)
  refine aw_fact (d := 0) rfl fact_sl (fun hsl0 => ?_)
  refine aw_seq ?_
  refine aw_region ?_
  refine aw_box rfl rfl rfl rfl rfl ?_
  refine aw_g (g_mv (.inr rfl) rfl) rfl rfl rfl ?_
  refine aw_nil ?_
  refine aw_seq ?_
  refine aw_region ?_
  refine aw_g (g_mv (.inl rfl) rfl) rfl rfl rfl ?_
  refine aw_g (g_mkf (caps := [_]) rfl rfl) rfl rfl rfl ?_
  refine aw_g (g_call (indexFuncCoin _ _) rfl fn_39 ⟨(arg_v rfl), (by first | exact arg_fn1 (Cs := [_]) rfl fn_40 (by intro n hn; simp only [List.mem_cons, List.not_mem_nil, or_false] at hn; rcases hn with rfl <;> exact ⟨_, _, _, _, rfl⟩) ⟨(by exact arg_cap rfl), trivial⟩ rfl (fun x => find1_ok _ x) | exact arg_fn2 (Cs := [_]) rfl fn_40 (by intro n hn; simp only [List.mem_cons, List.not_mem_nil, or_false] at hn; rcases hn with rfl <;> exact ⟨_, _, _, _, rfl⟩) ⟨(by exact arg_cap rfl), trivial⟩ rfl (fun x y => find1_ok _ x) | exact arg_clo rfl), trivial⟩ rfl) rfl rfl rfl ?_
  refine aw_g (g_mv (.inr rfl) rfl) rfl rfl rfl ?_
  refine aw_nil ?_
  exact aw_ret1 rfl rfl (by first | exact ret_val rfl | exact ret_own rfl rfl | exact ret_nil rfl | exact ret_fresh rfl rfl | exact ret_fresh_nil rfl | exact ret_lit rfl)

end Go.Proofs.Ytmfgemnmelbflaa
