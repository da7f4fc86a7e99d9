/- Layers 9 and 10: may a transaction be; the search by halves; what is cut out. -/
import Derived.Test.YtmfgemnmelbflaaPurse2
set_option maxRecDepth 20000
namespace Go.Proofs.Ytmfgemnmelbflaa
set_option linter.unusedVariables false
set_option linter.unusedSimpArgs false
open Go.Ab Go.RowKit

def outOdd (o : Out) : Bool := decide (o.v < 1 ∨ 1099511627776 < o.v ∨ o.to < 0 ∨ 255 < o.to)
def inAt (t : Tx) (k : Nat) : Bool := match t.ins[k]? with
  | none => true
  | some x => decide (0 ≤ x.i ∧ x.i < 3) && !((t.ins.take k).any fun c => decide (x = c))
/-- May a transaction be? -/
def mayTx (t : Tx) : Bool := (List.range t.ins.length).all (inAt t) && (decide (t.ins.length ≤ 3) && (decide (0 < t.outs.length) && (decide (t.outs.length ≤ 3) && !(t.outs.any outOdd))))
theorem inAt_bad {t : Tx} {k : Nat} {x : In} (h : t.ins[k]? = some x) (hk : k < t.ins.length) (hb : ¬ (0 ≤ x.i ∧ x.i < 3)) : mayTx t = false := by
  unfold mayTx
  rw [all_range_fail hk (by unfold inAt; rw [h]; simp only [decide_eq_false hb, Bool.false_and]), Bool.false_and]
theorem inAt_twice {t : Tx} {k : Nat} {x : In} (h : t.ins[k]? = some x) (hk : k < t.ins.length) (hb : ((t.ins.take k).any fun c => decide (x = c)) = true) : mayTx t = false := by
  unfold mayTx
  rw [all_range_fail hk (by unfold inAt; rw [h]; simp only [hb, Bool.not_true, Bool.and_false]), Bool.false_and]
theorem inAt_good {t : Tx} {k : Nat} {x : In} (h : t.ins[k]? = some x) (hb : 0 ≤ x.i ∧ x.i < 3) (hc : ¬ ((t.ins.take k).any fun c => decide (x = c)) = true) : inAt t k = true := by
  unfold inAt; rw [h]; simp only [decide_eq_true hb, Bool.true_and]
  cases hh : ((t.ins.take k).any fun c => decide (x = c)) with
  | true => exact absurd hh hc
  | false => rfl

theorem mayTx_ok (t : Tx) : Tells P 27 [.val txT t] (.val boolT (mayTx t)) := by
  refine fn_of_aw Try.func27 rfl rfl rfl (fun ext w hext => ?_)
  refine aw_seq ?_
  refine aw_region ?_
  refine aw_box rfl rfl rfl rfl rfl ?_
  refine aw_g (g_mv (.inr rfl) rfl) rfl rfl rfl ?_
  refine aw_nil ?_
  refine aw_seq ?_
  refine aw_seq ?_
  refine aw_region ?_
  refine aw_g (g_fa_p rfl rfl fd_26_0 rfl) rfl rfl rfl ?_
  refine aw_g (g_load_b rfl rfl rfl L_Tx_ins ty_23) rfl rfl rfl ?_
  refine aw_g (g_len rfl rfl isl_23) rfl rfl rfl ?_
  refine aw_g (g_mv (.inl rfl) rfl) rfl rfl rfl ?_
  refine aw_nil ?_
  refine aw_block ?_
  refine aw_loopI (ι := Nat) 1 rfl (fun (k : Nat) => ((((Fr.none).set 1 (.ptr 0 0)).set 7 (.val (sl inT) t.ins)).set 8 (.val i64T (t.ins.length : Int))).set 9 (.val i64T (k : Int))) (fun (k : Nat) => (Hp.none).set 0 (.box 26 txT t)) (fun (k : Nat) => k ≤ t.ins.length ∧ (List.range k).all (inAt t) = true) (fun (k : Nat) => t.ins.length - k) (0) (⟨Nat.zero_le _, rfl⟩) (by (repeat refine Fr.le_set ?_ (by first | rfl | (simp; done))); exact Fr.le_none _) (by (repeat refine Hp.le_set ?_ rfl); exact Hp.le_none _) (by (repeat refine Fr.below_setB ?_ rfl); exact Fr.below_none _) (by (repeat refine Hp.below_set ?_ (by decide)); exact Hp.below_none _) ?_
  intro k hinv
  refine aw_fact (d := 7) rfl fact_sl (fun hsi => ?_)
  refine aw_seq ?_
  refine aw_region ?_
  refine aw_g (g_lss rfl rfl rfl rfl) rfl rfl rfl ?_
  refine aw_nil ?_
  refine aw_seq ?_
  refine aw_ifc (p := k < t.ins.length) rfl (by first | rfl | (rw [decide_eq_decide]; simp only [IntL.toI, id_eq]; omega) | (simp [IntL.toI]; done) | (simp [IntL.toI]; omega)) (fun ht10 => ?_) (fun ht10 => ?_)
  · skip
    obtain ⟨x, hx⟩ : ∃ x, t.ins[k]? = some x := ⟨_, List.getElem?_eq_getElem ht10⟩
    refine aw_skip ?_
    refine aw_seq ?_
    refine aw_block ?_
    refine aw_seq ?_
    refine aw_region ?_
    refine aw_g (g_mv (.inl rfl) rfl) rfl rfl rfl ?_
    refine aw_g (g_ia_n rfl rfl rfl sl_23 (by assumption)) rfl rfl rfl ?_
    refine aw_g (g_load_r rfl rfl ty_42) rfl rfl rfl ?_
    refine aw_alloc ze_42 rfl rfl rfl rfl ?_
    refine aw_g (g_mv (.inr rfl) rfl) rfl rfl rfl ?_
    refine aw_store_b rfl rfl rfl rfl rfl (Lens.self _) ty_42 rfl ?_
    refine aw_nil ?_
    refine aw_seq ?_
    refine aw_draw mixed (by decide +kernel) ?_
    refine GK.g (g_fa_p rfl rfl fd_42_1 rfl) rfl rfl rfl ?_
    refine GK.g (g_load_b rfl rfl rfl L_In_i ty_3) rfl rfl rfl ?_
    refine GK.g (g_lss rfl rfl rfl rfl) rfl rfl rfl ?_
    refine GK.g (g_mv (.inl rfl) rfl) rfl rfl rfl ?_
    refine GK_splitp (d := 17) (p := x.i < 0) rfl (by first | rfl | (rw [decide_eq_decide]; simp only [IntL.toI, id_eq]; omega) | (simp [IntL.toI]; done) | (simp [IntL.toI]; omega)) (fun g17 => ?_) (fun g17 => ?_)
    · skip
      refine GK.gn rfl rfl rfl rfl rfl rfl rfl rfl ?_
      refine GK.gn rfl rfl rfl rfl rfl rfl rfl rfl ?_
      refine GK.gn rfl rfl rfl rfl rfl rfl rfl rfl ?_
      refine GK.g (g_pick rfl rfl rfl) rfl rfl rfl ?_
      refine GK.g (g_mv (.inl rfl) rfl) rfl rfl rfl ?_
      refine GK.gn rfl rfl rfl rfl rfl rfl rfl rfl ?_
      refine GK.gn rfl rfl rfl rfl rfl rfl rfl rfl ?_
      refine GK.gn rfl rfl rfl rfl rfl rfl rfl rfl ?_
      refine GK.gn rfl rfl rfl rfl rfl rfl rfl rfl ?_
      refine GK.gn rfl rfl rfl rfl rfl rfl rfl rfl ?_
      refine GK.gn rfl rfl rfl rfl rfl rfl rfl rfl ?_
      refine GK.g (g_pick rfl rfl rfl) rfl rfl rfl ?_
      refine GK.nil ?_
      refine aw_if_t rfl (rfl) ?_
      refine aw_seq ?_
      refine aw_region ?_
      refine aw_g (g_mv (.inr rfl) rfl) rfl rfl rfl ?_
      refine aw_nil ?_
      exact aw_ret1 rfl rfl (ret_eq rfl (inAt_bad hx ht10 (by omega)).symm)
    · skip
      refine GK.gi (g_fa_p rfl rfl fd_42_1 rfl) rfl rfl rfl rfl rfl rfl rfl rfl ?_
      refine GK.gi (g_load_b rfl rfl rfl L_In_i ty_3) rfl rfl rfl rfl rfl rfl rfl rfl ?_
      refine GK.gi (g_geq rfl rfl rfl rfl) rfl rfl rfl rfl rfl rfl rfl rfl ?_
      refine GK.g (g_pick rfl rfl rfl) rfl rfl rfl ?_
      refine GK.g (g_mv (.inl rfl) rfl) rfl rfl rfl ?_
      refine GK_splitp (d := 22) (p := 3 ≤ x.i) rfl (by first | rfl | (rw [decide_eq_decide]; simp only [IntL.toI, id_eq]; omega) | (simp [IntL.toI]; done) | (simp [IntL.toI]; omega)) (fun g22 => ?_) (fun g22 => ?_)
      · skip
        refine GK.gn rfl rfl rfl rfl rfl rfl rfl rfl ?_
        refine GK.gn rfl rfl rfl rfl rfl rfl rfl rfl ?_
        refine GK.gn rfl rfl rfl rfl rfl rfl rfl rfl ?_
        refine GK.gn rfl rfl rfl rfl rfl rfl rfl rfl ?_
        refine GK.gn rfl rfl rfl rfl rfl rfl rfl rfl ?_
        refine GK.gn rfl rfl rfl rfl rfl rfl rfl rfl ?_
        refine GK.g (g_pick rfl rfl rfl) rfl rfl rfl ?_
        refine GK.nil ?_
        refine aw_if_t rfl (rfl) ?_
        refine aw_seq ?_
        refine aw_region ?_
        refine aw_g (g_mv (.inr rfl) rfl) rfl rfl rfl ?_
        refine aw_nil ?_
        exact aw_ret1 rfl rfl (ret_eq rfl (inAt_bad hx ht10 (by omega)).symm)
      · skip
        refine GK.gi (g_fa_p rfl rfl fd_26_0 rfl) rfl rfl rfl rfl rfl rfl rfl rfl ?_
        refine GK.gi (g_load_b rfl rfl rfl L_Tx_ins ty_23) rfl rfl rfl rfl rfl rfl rfl rfl ?_
        refine GK.gi (g_mv (.inl rfl) rfl) rfl rfl rfl rfl rfl rfl rfl rfl ?_
        refine GK.gi (by first | exact g_sl_nil rfl rfl rfl (by first | rfl | omega) sl_23 | exact g_sl_h rfl rfl rfl sl_23 (by first | assumption | omega | (simp; omega))) rfl rfl rfl rfl rfl rfl rfl rfl ?_
        refine GK.gi (g_load_b rfl rfl rfl (Lens.self _) ty_42) rfl rfl rfl rfl rfl rfl rfl rfl ?_
        refine GK.gi (g_call (containsIn _ _) rfl fn_47 ⟨(arg_v rfl), (arg_v rfl), trivial⟩ rfl) rfl rfl rfl rfl rfl rfl rfl rfl ?_
        refine GK.g (g_pick rfl rfl rfl) rfl rfl rfl ?_
        refine GK.nil ?_
        refine aw_ifc (p := ((t.ins.take k).any fun c => decide (x = c)) = true) rfl (Bool.decide_eq_true.symm) (fun ht29 => ?_) (fun ht29 => ?_)
        · skip
          refine aw_seq ?_
          refine aw_region ?_
          refine aw_g (g_mv (.inr rfl) rfl) rfl rfl rfl ?_
          refine aw_nil ?_
          exact aw_ret1 rfl rfl (ret_eq rfl (inAt_twice hx ht10 ht29).symm)
        · skip
          refine aw_skip ?_
          refine aw_inBlock ?_
          refine aw_region ?_
          refine aw_g (by first | exact g_add rfl rfl rfl (wrap_eq (by first | omega | (simp; omega))) | exact g_add rfl rfl rfl rfl) rfl rfl rfl ?_
          refine aw_g (g_mv (.inl rfl) rfl) rfl rfl rfl ?_
          refine aw_nil ?_
          exact aw_next (k + 1) (⟨by omega, all_range_succ hinv.2 (inAt_good hx (by omega) ht29)⟩) (by omega) rfl (by (repeat refine Fr.le_set ?_ (by first | rfl | (simp; done))); exact Fr.le_none _) (by (repeat refine Hp.le_set ?_ rfl); exact Hp.le_none _) (by (repeat refine Fr.below_setB ?_ rfl); exact Fr.below_none _) (by (repeat refine Hp.below_set ?_ (by decide)); exact Hp.below_none _)
  · skip
    refine aw_exit rfl ?_
    refine aw_seq ?_
    refine aw_region ?_
    refine aw_g (g_mc (.inr rfl) rfl) rfl rfl rfl ?_
    refine aw_nil ?_
    refine aw_seq ?_
    refine aw_region ?_
    refine aw_g (g_fa_p rfl rfl fd_26_0 rfl) rfl rfl rfl ?_
    refine aw_g (g_load_b rfl rfl rfl L_Tx_ins ty_23) rfl rfl rfl ?_
    refine aw_g (g_len rfl rfl isl_23) rfl rfl rfl ?_
    refine aw_g (g_leq rfl rfl rfl rfl) rfl rfl rfl ?_
    refine aw_g (g_mv (.inl rfl) rfl) rfl rfl rfl ?_
    refine aw_splitp (d := 35) (p := t.ins.length ≤ 3) rfl (by first | rfl | (rw [decide_eq_decide]; simp only [IntL.toI, id_eq]; omega) | (simp [IntL.toI]; done) | (simp [IntL.toI]; omega)) (fun g35 => ?_) (fun g35 => ?_)
    · skip
      refine aw_gi (g_fa_p rfl rfl fd_26_1 rfl) rfl rfl rfl rfl rfl rfl rfl rfl ?_
      refine aw_gi (g_load_b rfl rfl rfl L_Tx_outs ty_24) rfl rfl rfl rfl rfl rfl rfl rfl ?_
      refine aw_gi (g_len rfl rfl isl_24) rfl rfl rfl rfl rfl rfl rfl rfl ?_
      refine aw_gi (g_gtr rfl rfl rfl rfl) rfl rfl rfl rfl rfl rfl rfl rfl ?_
      refine aw_g (g_pick rfl rfl rfl) rfl rfl rfl ?_
      refine aw_g (g_mv (.inl rfl) rfl) rfl rfl rfl ?_
      refine aw_splitp (d := 41) (p := 0 < t.outs.length) rfl (by first | rfl | (rw [decide_eq_decide]; simp only [IntL.toI, id_eq]; omega) | (simp [IntL.toI]; done) | (simp [IntL.toI]; omega)) (fun g41 => ?_) (fun g41 => ?_)
      · skip
        refine aw_gi (g_fa_p rfl rfl fd_26_1 rfl) rfl rfl rfl rfl rfl rfl rfl rfl ?_
        refine aw_gi (g_load_b rfl rfl rfl L_Tx_outs ty_24) rfl rfl rfl rfl rfl rfl rfl rfl ?_
        refine aw_gi (g_len rfl rfl isl_24) rfl rfl rfl rfl rfl rfl rfl rfl ?_
        refine aw_gi (g_leq rfl rfl rfl rfl) rfl rfl rfl rfl rfl rfl rfl rfl ?_
        refine aw_g (g_pick rfl rfl rfl) rfl rfl rfl ?_
        refine aw_g (g_mv (.inl rfl) rfl) rfl rfl rfl ?_
        refine aw_splitp (d := 47) (p := t.outs.length ≤ 3) rfl (by first | rfl | (rw [decide_eq_decide]; simp only [IntL.toI, id_eq]; omega) | (simp [IntL.toI]; done) | (simp [IntL.toI]; omega)) (fun g47 => ?_) (fun g47 => ?_)
        · skip
          refine aw_gi (g_fa_p rfl rfl fd_26_1 rfl) rfl rfl rfl rfl rfl rfl rfl rfl ?_
          refine aw_gi (g_load_b rfl rfl rfl L_Tx_outs ty_24) rfl rfl rfl rfl rfl rfl rfl rfl ?_
          refine aw_gi (g_mc (.inl rfl) rfl) rfl rfl rfl rfl rfl rfl rfl rfl ?_
          refine aw_gi (g_call (containsFuncOut _ _) rfl fn_49 ⟨(arg_v rfl), (by first | exact arg_fn1 (Cs := []) rfl fn_48 (by intro n hn; cases hn) trivial rfl (fun x => odd_ok _) | exact arg_fn2 (Cs := []) rfl fn_48 (by intro n hn; cases hn) trivial rfl (fun x y => odd_ok _) | exact arg_clo rfl), trivial⟩ rfl) rfl rfl rfl rfl rfl rfl rfl rfl ?_
          refine aw_gi (g_not rfl rfl) rfl rfl rfl rfl rfl rfl rfl rfl ?_
          refine aw_g (g_pick rfl rfl rfl) rfl rfl rfl ?_
          refine aw_g (g_mv (.inr rfl) rfl) rfl rfl rfl ?_
          refine aw_nil ?_
          exact aw_ret1 rfl rfl (ret_eq rfl (by rw [show k = t.ins.length by omega] at hinv; unfold mayTx; rw [hinv.2, decide_eq_true g35, decide_eq_true g41, decide_eq_true g47]; rfl))
        · skip
          refine aw_gn rfl rfl rfl rfl rfl rfl rfl rfl ?_
          refine aw_gn rfl rfl rfl rfl rfl rfl rfl rfl ?_
          refine aw_gn rfl rfl rfl rfl rfl rfl rfl rfl ?_
          refine aw_gn rfl rfl rfl rfl rfl rfl rfl rfl ?_
          refine aw_gn rfl rfl rfl rfl rfl rfl rfl rfl ?_
          refine aw_g (g_pick rfl rfl rfl) rfl rfl rfl ?_
          refine aw_g (g_mv (.inr rfl) rfl) rfl rfl rfl ?_
          refine aw_nil ?_
          exact aw_ret1 rfl rfl (ret_eq rfl (by unfold mayTx; simp only [decide_eq_false g47, Bool.false_and, Bool.and_false]))
      · skip
        refine aw_gn rfl rfl rfl rfl rfl rfl rfl rfl ?_
        refine aw_gn rfl rfl rfl rfl rfl rfl rfl rfl ?_
        refine aw_gn rfl rfl rfl rfl rfl rfl rfl rfl ?_
        refine aw_gn rfl rfl rfl rfl rfl rfl rfl rfl ?_
        refine aw_g (g_pick rfl rfl rfl) rfl rfl rfl ?_
        refine aw_g (g_mv (.inl rfl) rfl) rfl rfl rfl ?_
        refine aw_gn rfl rfl rfl rfl rfl rfl rfl rfl ?_
        refine aw_gn rfl rfl rfl rfl rfl rfl rfl rfl ?_
        refine aw_gn rfl rfl rfl rfl rfl rfl rfl rfl ?_
        refine aw_gn rfl rfl rfl rfl rfl rfl rfl rfl ?_
        refine aw_gn rfl rfl rfl rfl rfl rfl rfl rfl ?_
        refine aw_g (g_pick rfl rfl rfl) rfl rfl rfl ?_
        refine aw_g (g_mv (.inr rfl) rfl) rfl rfl rfl ?_
        refine aw_nil ?_
        exact aw_ret1 rfl rfl (ret_eq rfl (by unfold mayTx; simp only [decide_eq_false g41, Bool.false_and, Bool.and_false]))
    · skip
      refine aw_gn rfl rfl rfl rfl rfl rfl rfl rfl ?_
      refine aw_gn rfl rfl rfl rfl rfl rfl rfl rfl ?_
      refine aw_gn rfl rfl rfl rfl rfl rfl rfl rfl ?_
      refine aw_gn rfl rfl rfl rfl rfl rfl rfl rfl ?_
      refine aw_g (g_pick rfl rfl rfl) rfl rfl rfl ?_
      refine aw_g (g_mv (.inl rfl) rfl) rfl rfl rfl ?_
      refine aw_gn rfl rfl rfl rfl rfl rfl rfl rfl ?_
      refine aw_gn rfl rfl rfl rfl rfl rfl rfl rfl ?_
      refine aw_gn rfl rfl rfl rfl rfl rfl rfl rfl ?_
      refine aw_gn rfl rfl rfl rfl rfl rfl rfl rfl ?_
      refine aw_g (g_pick rfl rfl rfl) rfl rfl rfl ?_
      refine aw_g (g_mv (.inl rfl) rfl) rfl rfl rfl ?_
      refine aw_gn rfl rfl rfl rfl rfl rfl rfl rfl ?_
      refine aw_gn rfl rfl rfl rfl rfl rfl rfl rfl ?_
      refine aw_gn rfl rfl rfl rfl rfl rfl rfl rfl ?_
      refine aw_gn rfl rfl rfl rfl rfl rfl rfl rfl ?_
      refine aw_gn rfl rfl rfl rfl rfl rfl rfl rfl ?_
      refine aw_g (g_pick rfl rfl rfl) rfl rfl rfl ?_
      refine aw_g (g_mv (.inr rfl) rfl) rfl rfl rfl ?_
      refine aw_nil ?_
      exact aw_ret1 rfl rfl (ret_eq rfl (by unfold mayTx; simp only [decide_eq_false g35, Bool.false_and, Bool.and_false]))

/-- The first place, from 'lo' up to 'hi', by halves, that does not lie ahead. -/
def halves {α : Type} (c : α → Int) (l : List α) (lo hi : Nat) : Nat :=
  if h : lo < hi then
    match l[(lo + hi) / 2]? with
    | none => lo
    | some x => if c x < 0 then halves c l ((lo + hi) / 2 + 1) hi else halves c l lo ((lo + hi) / 2)
  else lo
termination_by hi - lo
theorem halves_le {α : Type} (c : α → Int) (l : List α) (lo hi : Nat) (h : lo ≤ hi) : halves c l lo hi ≤ hi := by
  induction lo, hi using halves.induct c l with
  | case1 lo hi hlt x => unfold halves; rw [dif_pos hlt]; simp only [x]; exact h
  | case2 lo hi hlt x hx hc ih => unfold halves; rw [dif_pos hlt]; simp only [hx, if_pos hc]; exact ih (by omega)
  | case3 lo hi hlt x hx hc ih => unfold halves; rw [dif_pos hlt]; simp only [hx, if_neg hc]; have := ih (by omega); omega
  | case4 lo hi hlt => unfold halves; rw [dif_neg hlt]; exact h
theorem halves_lt {α : Type} {c : α → Int} {l : List α} {lo hi : Nat} {x : α} (h : lo < hi) (hx : l[(lo + hi) / 2]? = some x) (hc : c x < 0) : halves c l lo hi = halves c l ((lo + hi) / 2 + 1) hi := by
  rw [halves, dif_pos h]; simp only [hx, if_pos hc]
theorem halves_ge {α : Type} {c : α → Int} {l : List α} {lo hi : Nat} {x : α} (h : lo < hi) (hx : l[(lo + hi) / 2]? = some x) (hc : ¬ c x < 0) : halves c l lo hi = halves c l lo ((lo + hi) / 2) := by
  rw [halves, dif_pos h]; simp only [hx, if_neg hc]
theorem halves_end {α : Type} {c : α → Int} {l : List α} {lo : Nat} : halves c l lo lo = lo := by rw [halves, dif_neg (Nat.lt_irrefl _)]
def foundAt {α : Type} (c : α → Int) (l : List α) (i : Nat) : Bool := match l[i]? with | none => false | some x => decide (c x = 0)
theorem mid_eq {lo hi : Nat} (h : lo + hi < 18446744073709551616) : IntKind.i64.wrap (IntL.toI u64T (shr64 (u64OfI (IntL.toI i64T ((lo : Int) + (hi : Int)))) (IntL.toI u64T (1 : UInt64)).toNat)) = (((lo + hi) / 2 : Nat) : Int) := by
  have e1 : (u64OfI ((lo : Int) + (hi : Int))).toNat = lo + hi := by
    unfold u64OfI
    rw [UInt64.toNat_ofNat_of_lt' (by show (((lo : Int) + hi) % 18446744073709551616).toNat < 18446744073709551616; omega)]; omega
  have e2 : (shr64 (u64OfI ((lo : Int) + (hi : Int))) 1).toNat = (lo + hi) / 2 := by
    unfold shr64
    rw [e1, UInt64.toNat_ofNat_of_lt' (by show (lo + hi) / 2 ^ min 1 64 < 18446744073709551616; rw [show min 1 64 = 1 from rfl]; omega)]
    rfl
  show IntKind.i64.wrap (((shr64 (u64OfI ((lo : Int) + (hi : Int))) 1).toNat : Nat) : Int) = _
  rw [e2]
  exact wrap_eq (by omega)

theorem bsearch (l : List Coin) (y : In) (f : Coin → In → Int) (hl : l.length < 4611686018427387904) : Tells P 50 [.val (bsl coinT) l, .val inT y, .fn2 P coinT inT i64T f] (.tup2 (.val i64T (halves (fun x => f x y) l 0 l.length : Nat)) (.val boolT (foundAt (fun x => f x y) l (halves (fun x => f x y) l 0 l.length)))) := by
  refine fn_of_aw Try.func50 rfl rfl rfl (fun ext w hext => ?_)
  refine aw_fact (d := 0) rfl fact_sl (fun hsl0 => ?_)
  refine aw_seq ?_
  refine aw_region ?_
  refine aw_box rfl rfl rfl rfl rfl ?_
  refine aw_g (g_mv (.inr rfl) rfl) rfl rfl rfl ?_
  refine aw_g (g_mv (.inr rfl) rfl) rfl rfl rfl ?_
  refine aw_nil ?_
  refine aw_seq ?_
  refine aw_region ?_
  refine aw_g (g_mv (.inl rfl) rfl) rfl rfl rfl ?_
  refine aw_g (g_len rfl rfl isl_22) rfl rfl rfl ?_
  refine aw_g (g_mv (.inr rfl) rfl) rfl rfl rfl ?_
  refine aw_nil ?_
  refine aw_seq ?_
  refine aw_region ?_
  refine aw_g (g_mv (.inl rfl) rfl) rfl rfl rfl ?_
  refine aw_g (g_mv (.inr rfl) rfl) rfl rfl rfl ?_
  refine aw_g (g_mv (.inr rfl) rfl) rfl rfl rfl ?_
  refine aw_nil ?_
  refine aw_seq ?_
  refine aw_block ?_
  refine aw_loopI (ι := Nat × Nat) 1 rfl (fun (i : Nat × Nat) => match i with | (lo, hi) => ((((((Fr.none).set 0 (.val (bsl coinT) l)).set 2 (.fn2 P coinT inT i64T f)).set 4 (.ptr 0 0)).set 8 (.val i64T (l.length : Int))).set 9 (.val i64T (lo : Int))).set 10 (.val i64T (hi : Int))) (fun (i : Nat × Nat) => match i with | (lo, hi) => (Hp.none).set 0 (.box 42 inT y)) (fun (i : Nat × Nat) => match i with | (lo, hi) => lo ≤ hi ∧ hi ≤ l.length ∧ halves (fun x => f x y) l 0 l.length = halves (fun x => f x y) l lo hi) (fun (i : Nat × Nat) => match i with | (lo, hi) => hi - lo) ((0, l.length)) (⟨Nat.zero_le _, Nat.le_refl _, rfl⟩) (by (repeat refine Fr.le_set ?_ (by first | rfl | (simp; done))); exact Fr.le_none _) (by (repeat refine Hp.le_set ?_ rfl); exact Hp.le_none _) (by (repeat refine Fr.below_setB ?_ rfl); exact Fr.below_none _) (by (repeat refine Hp.below_set ?_ (by decide)); exact Hp.below_none _) ?_
  intro ⟨lo, hi⟩ hinv
  dsimp only at hinv
  refine aw_seq ?_
  refine aw_seq ?_
  refine aw_region ?_
  refine aw_g (g_mv (.inl rfl) rfl) rfl rfl rfl ?_
  refine aw_g (g_mv (.inl rfl) rfl) rfl rfl rfl ?_
  refine aw_g (g_lss rfl rfl rfl rfl) rfl rfl rfl ?_
  refine aw_nil ?_
  refine aw_ifc (p := lo < hi) rfl (by first | rfl | (rw [decide_eq_decide]; simp only [IntL.toI, id_eq]; omega) | (simp [IntL.toI]; done) | (simp [IntL.toI]; omega)) (fun ht17 => ?_) (fun ht17 => ?_)
  · skip
    obtain ⟨x, hx⟩ : ∃ x, l[(lo + hi) / 2]? = some x := ⟨_, List.getElem?_eq_getElem (by omega)⟩
    refine aw_skip ?_
    refine aw_block ?_
    refine aw_seq ?_
    refine aw_region ?_
    refine aw_g (g_mv (.inl rfl) rfl) rfl rfl rfl ?_
    refine aw_g (g_mv (.inl rfl) rfl) rfl rfl rfl ?_
    refine aw_g (by first | exact g_add rfl rfl rfl (wrap_eq (by first | omega | (simp; omega))) | exact g_add rfl rfl rfl rfl) rfl rfl rfl ?_
    refine aw_g (g_cv64 rfl (ui_98) (us_3) rfl) rfl rfl rfl ?_
    refine aw_g (g_shr64 rfl rfl rfl (by first | decide | (simp [IntL.toI]; done) | (simp [IntL.toI]; omega)) rfl) rfl rfl rfl ?_
    refine aw_g (g_cvi rfl (ui_3) (us_98) rfl (mid_eq (by omega))) rfl rfl rfl ?_
    refine aw_g (g_mv (.inr rfl) rfl) rfl rfl rfl ?_
    refine aw_nil ?_
    refine aw_seq ?_
    refine aw_draw mixed (by decide +kernel) ?_
    refine GK.g (g_mf2 (.inl rfl) rfl) rfl rfl rfl ?_
    refine GK.g (g_mv (.inl rfl) rfl) rfl rfl rfl ?_
    refine GK.g (g_mv (.inl rfl) rfl) rfl rfl rfl ?_
    refine GK.g (g_ia_n rfl rfl rfl sl_22 (by assumption)) rfl rfl rfl ?_
    refine GK.g (g_load_r rfl rfl ty_50) rfl rfl rfl ?_
    refine GK.g (g_load_b rfl rfl rfl (Lens.self _) ty_42) rfl rfl rfl ?_
    refine GK.g (g_callf2 rfl rfl (by first | exact arg_same rfl | exact arg_bsl rfl | exact arg_own rfl rfl | exact arg_nil rfl | exact arg_rptr rfl | exact arg_fn rfl rfl | exact arg_lit rfl) (arg_v rfl)) rfl rfl rfl ?_
    refine GK.g (g_lss rfl rfl rfl rfl) rfl rfl rfl ?_
    refine GK.nil ?_
    refine aw_ifc (p := f x y < 0) rfl (by first | rfl | (rw [decide_eq_decide]; simp only [IntL.toI, id_eq]; omega) | (simp [IntL.toI]; done) | (simp [IntL.toI]; omega)) (fun ht31 => ?_) (fun ht31 => ?_)
    · skip
      refine aw_region ?_
      refine aw_g (g_mv (.inl rfl) rfl) rfl rfl rfl ?_
      refine aw_g (by first | exact g_add rfl rfl rfl (wrap_eq (by first | omega | (simp; omega))) | exact g_add rfl rfl rfl rfl) rfl rfl rfl ?_
      refine aw_g (g_mv (.inr rfl) rfl) rfl rfl rfl ?_
      refine aw_nil ?_
      refine aw_inBlock ?_
      exact aw_next (((lo + hi) / 2 + 1, hi)) (by first | exact ⟨by omega, by omega, hinv.2.2.trans (halves_lt ht17 hx ht31)⟩ | exact ⟨by omega, by omega, hinv.2.2.trans (halves_ge ht17 hx ht31)⟩) (by show _ < hi - lo; simp only []; omega) rfl (by (repeat refine Fr.le_set ?_ (by first | rfl | (simp; done))); exact Fr.le_none _) (by (repeat refine Hp.le_set ?_ rfl); exact Hp.le_none _) (by (repeat refine Fr.below_setB ?_ rfl); exact Fr.below_none _) (by (repeat refine Hp.below_set ?_ (by decide)); exact Hp.below_none _)
    · skip
      refine aw_region ?_
      refine aw_g (g_mv (.inl rfl) rfl) rfl rfl rfl ?_
      refine aw_g (g_mv (.inr rfl) rfl) rfl rfl rfl ?_
      refine aw_nil ?_
      refine aw_inBlock ?_
      exact aw_next ((lo, (lo + hi) / 2)) (by first | exact ⟨by omega, by omega, hinv.2.2.trans (halves_lt ht17 hx ht31)⟩ | exact ⟨by omega, by omega, hinv.2.2.trans (halves_ge ht17 hx ht31)⟩) (by show _ < hi - lo; simp only []; omega) rfl (by (repeat refine Fr.le_set ?_ (by first | rfl | (simp; done))); exact Fr.le_none _) (by (repeat refine Hp.le_set ?_ rfl); exact Hp.le_none _) (by (repeat refine Fr.below_setB ?_ rfl); exact Fr.below_none _) (by (repeat refine Hp.below_set ?_ (by decide)); exact Hp.below_none _)
  · skip
    refine aw_exit rfl ?_
    refine aw_seq ?_
    refine aw_draw mixed (by decide +kernel) ?_
    refine GK.g (g_mv (.inl rfl) rfl) rfl rfl rfl ?_
    refine GK.g (g_mv (.inl rfl) rfl) rfl rfl rfl ?_
    refine GK.g (g_mv (.inl rfl) rfl) rfl rfl rfl ?_
    refine GK.g (g_lss rfl rfl rfl rfl) rfl rfl rfl ?_
    refine GK.g (g_mv (.inl rfl) rfl) rfl rfl rfl ?_
    refine GK_splitp (d := 39) (p := lo < l.length) rfl (by first | rfl | (rw [decide_eq_decide]; simp only [IntL.toI, id_eq]; omega) | (simp [IntL.toI]; done) | (simp [IntL.toI]; omega)) (fun g39 => ?_) (fun g39 => ?_)
    · skip
      obtain ⟨x, hx⟩ : ∃ x, l[lo]? = some x := ⟨_, List.getElem?_eq_getElem g39⟩
      refine GK.gi (g_mf2 (.inl rfl) rfl) rfl rfl rfl rfl rfl rfl rfl rfl ?_
      refine GK.gi (g_mv (.inl rfl) rfl) rfl rfl rfl rfl rfl rfl rfl rfl ?_
      refine GK.gi (g_mv (.inl rfl) rfl) rfl rfl rfl rfl rfl rfl rfl rfl ?_
      refine GK.gi (g_ia_n rfl rfl rfl sl_22 (by assumption)) rfl rfl rfl rfl rfl rfl rfl rfl ?_
      refine GK.gi (g_load_r rfl rfl ty_50) rfl rfl rfl rfl rfl rfl rfl rfl ?_
      refine GK.gi (g_load_b rfl rfl rfl (Lens.self _) ty_42) rfl rfl rfl rfl rfl rfl rfl rfl ?_
      refine GK.gi (g_callf2 rfl rfl (by first | exact arg_same rfl | exact arg_bsl rfl | exact arg_own rfl rfl | exact arg_nil rfl | exact arg_rptr rfl | exact arg_fn rfl rfl | exact arg_lit rfl) (arg_v rfl)) rfl rfl rfl rfl rfl rfl rfl rfl ?_
      refine GK.gi (g_eql rfl rfl rfl rfl) rfl rfl rfl rfl rfl rfl rfl rfl ?_
      refine GK.g (g_pick rfl rfl rfl) rfl rfl rfl ?_
      refine GK.g (g_mv (.inr rfl) rfl) rfl rfl rfl ?_
      refine GK.g (g_mv (.inr rfl) rfl) rfl rfl rfl ?_
      refine GK.nil ?_
      exact aw_ret2 rfl rfl (ret_eq rfl (by rw [hinv.2.2, show hi = lo by omega, halves_end])) (ret_eq rfl (by rw [hinv.2.2, show hi = lo by omega, halves_end]; unfold foundAt; rw [hx]; rfl))
    · skip
      refine GK.gn rfl rfl rfl rfl rfl rfl rfl rfl ?_
      refine GK.gn rfl rfl rfl rfl rfl rfl rfl rfl ?_
      refine GK.gn rfl rfl rfl rfl rfl rfl rfl rfl ?_
      refine GK.gn rfl rfl rfl rfl rfl rfl rfl rfl ?_
      refine GK.gn rfl rfl rfl rfl rfl rfl rfl rfl ?_
      refine GK.gn rfl rfl rfl rfl rfl rfl rfl rfl ?_
      refine GK.gn rfl rfl rfl rfl rfl rfl rfl rfl ?_
      refine GK.gn rfl rfl rfl rfl rfl rfl rfl rfl ?_
      refine GK.g (g_pick rfl rfl rfl) rfl rfl rfl ?_
      refine GK.g (g_mv (.inr rfl) rfl) rfl rfl rfl ?_
      refine GK.g (g_mv (.inr rfl) rfl) rfl rfl rfl ?_
      refine GK.nil ?_
      exact aw_ret2 rfl rfl (ret_eq rfl (by rw [hinv.2.2, show hi = lo by omega, halves_end])) (ret_eq rfl (by rw [hinv.2.2, show hi = lo by omega, halves_end]; unfold foundAt; rw [List.getElem?_eq_none (by omega)]))

/-- Where a coin is, by halves; is it there? -/
def placeOf (p : List Coin) (x : In) : Nat := halves (fun c => ordIn c.inn x) p 0 p.length
def isThere (p : List Coin) (x : In) : Bool := foundAt (fun c => ordIn c.inn x) p (placeOf p x)

theorem place_ok (p : List Coin) (x : In) (hl : p.length < 4611686018427387904) : Tells P 28 [.val (bsl coinT) p, .val inT x] (.tup2 (.val i64T (placeOf p x : Nat)) (.val boolT (isThere p x))) := by
  refine fn_of_aw Try.func28 rfl rfl rfl (fun ext w hext => ?_)
  refine aw_fact (d := 0) rfl fact_sl (fun hsl0 => ?_)
  refine aw_seq ?_
  refine aw_region ?_
  refine aw_box rfl rfl rfl rfl rfl ?_
  refine aw_g (g_mv (.inr rfl) rfl) rfl rfl rfl ?_
  refine aw_g (g_mv (.inr rfl) rfl) rfl rfl rfl ?_
  refine aw_nil ?_
  refine aw_seq ?_
  refine aw_region ?_
  refine aw_g (g_mv (.inl rfl) rfl) rfl rfl rfl ?_
  refine aw_g (g_load_b rfl rfl rfl (Lens.self _) ty_42) rfl rfl rfl ?_
  refine aw_g (g_call (bsearch p x (fun c x => ordIn c.inn x) hl) rfl fn_50 ⟨(arg_v rfl), (arg_v rfl), (by first | exact arg_fn1 (Cs := []) rfl fn_51 (by intro n hn; cases hn) trivial rfl (fun x => place1_ok _ _) | exact arg_fn2 (Cs := []) rfl fn_51 (by intro n hn; cases hn) trivial rfl (fun x y => place1_ok _ _) | exact arg_clo rfl), trivial⟩ rfl) rfl rfl rfl ?_
  refine aw_g (by first | exact g_x20 rfl rfl | exact g_x30 rfl rfl) rfl rfl rfl ?_
  refine aw_g (by first | exact g_x21 rfl rfl | exact g_x31 rfl rfl) rfl rfl rfl ?_
  refine aw_g (g_mv (.inr rfl) rfl) rfl rfl rfl ?_
  refine aw_g (g_mv (.inr rfl) rfl) rfl rfl rfl ?_
  refine aw_nil ?_
  exact aw_ret2 rfl rfl (ret_val rfl) (ret_val rfl)

theorem delete_ok (l : List Coin) (i : Nat) (hi : i < l.length) : TellsM P 29 (.row 50 coinT l) [.own 0, .val i64T (i : Int), .val i64T ((i : Int) + 1)] (.fresh 50 coinT (l.take i ++ l.drop (i + 1))) (.none_) := by
  refine fnm_of_aw trivial Try.func29 rfl rfl ⟨Nat.one_pos, ⟨trivial, ⟨trivial, trivial⟩⟩⟩ (fun ext pg w hext hgr => ?_)
  refine aw_fact (d := 1) rfl fact_int (fun hin1 => ?_)
  refine aw_fact (d := 2) rfl fact_int (fun hin2 => ?_)
  refine aw_factrow (n := 0) rfl (fun hrl => ?_)
  refine aw_seq ?_
  refine aw_region ?_
  refine aw_g (g_ml (.inr rfl) rfl) rfl rfl rfl ?_
  refine aw_nil ?_
  refine aw_seq ?_
  refine aw_region ?_
  refine aw_g (g_mo (.inl rfl) rfl) rfl rfl rfl ?_
  refine aw_g (g_mv (.inl rfl) rfl) rfl rfl rfl ?_
  refine aw_g (g_mv (.inl rfl) rfl) rfl rfl rfl ?_
  refine aw_g (g_mo (.inl rfl) rfl) rfl rfl rfl ?_
  refine aw_g (g_len_o rfl rfl rfl isl_22) rfl rfl rfl ?_
  refine aw_g (g_os_chk (p := i) (q := i + 1) (r := l.length) rfl rfl rfl rfl rfl rfl sl_22 (by first | omega | rfl) (by first | omega | rfl) (by first | omega | rfl) (by first | assumption | omega | (simp; omega))) rfl rfl rfl ?_
  refine aw_nil ?_
  refine aw_seq ?_
  refine aw_seq ?_
  refine aw_region ?_
  refine aw_g (g_mv (.inl rfl) rfl) rfl rfl rfl ?_
  refine aw_g (g_mv (.inl rfl) rfl) rfl rfl rfl ?_
  refine aw_g (g_eql rfl rfl rfl rfl) rfl rfl rfl ?_
  refine aw_isf (d := 16) rfl (by simp [IntL.toI]; omega) ?_
  refine aw_nil ?_
  refine aw_if_f rfl (rfl) ?_
  refine aw_skip ?_
  refine aw_seq ?_
  refine aw_region ?_
  refine aw_g (g_mo (.inl rfl) rfl) rfl rfl rfl ?_
  refine aw_g (g_len_o rfl rfl rfl isl_22) rfl rfl rfl ?_
  refine aw_g (g_mv (.inr rfl) rfl) rfl rfl rfl ?_
  refine aw_nil ?_
  refine aw_seq ?_
  refine aw_drawx [some 1, some 1, some 1, some 1, some 1, some 1, none, some 1] mixed (by decide +kernel) ?_
  refine XK.g (g_mo (.inl rfl) rfl) rfl rfl rfl ?_
  refine XK.g (g_mv (.inl rfl) rfl) rfl rfl rfl ?_
  refine XK.g (g_os_h (q := i) rfl rfl rfl rfl sl_22 (by first | omega | rfl) (by first | assumption | omega | (simp; omega))) rfl rfl rfl ?_
  refine XK.g (g_mo (.inl rfl) rfl) rfl rfl rfl ?_
  refine XK.g (g_mv (.inl rfl) rfl) rfl rfl rfl ?_
  refine XK.g (g_os_l (p := i + 1) rfl rfl rfl rfl sl_22 (by first | omega | rfl) (by first | assumption | omega | (simp; omega))) rfl rfl rfl ?_
  refine XK.e (fun fr' hfr kk H => by exact aw_append_in rfl rfl rfl rfl ((hfr 22 (by decide +kernel)).trans rfl) ((hfr 25 (by decide +kernel)).trans rfl) rfl row_22 (by omega) (aw_nil H)) ?_
  refine XK.g (g_ms (.inr rfl) rfl) rfl rfl rfl ?_
  refine XK.nil' ?_
  refine aw_seq ?_
  refine aw_region ?_
  refine aw_g (g_ms (.inl rfl) rfl) rfl rfl rfl ?_
  refine aw_g (g_ms (.inl rfl) rfl) rfl rfl rfl ?_
  refine aw_g (g_len_s rfl rfl (by omega) isl_22) rfl rfl rfl ?_
  refine aw_g (g_mv (.inl rfl) rfl) rfl rfl rfl ?_
  refine aw_g (g_os_lh (p := i + (l.length - (i + 1))) (q := l.length) rfl rfl rfl rfl rfl sl_22 (by first | omega | rfl) (by first | omega | rfl) (by first | assumption | omega | (simp; omega))) rfl rfl rfl ?_
  refine aw_clear rfl rfl rfl rfl rfl row_22 ze_50 (by simp; omega) ?_
  refine aw_nil ?_
  refine aw_seq ?_
  refine aw_region ?_
  refine aw_g (g_ms (.inl rfl) rfl) rfl rfl rfl ?_
  refine aw_g (g_ms (.inr rfl) rfl) rfl rfl rfl ?_
  refine aw_nil ?_
  exact aw_retm1 rfl rfl rfl rfl rfl give_none (retm_fresh_s rfl rfl (by simp; omega) (by rw [List.take_append_of_le_length (by simp; omega), List.take_take, Nat.min_self, List.take_append_of_le_length (by simp; omega)]; exact List.take_of_length_le (by simp; omega)))

end Go.Proofs.Ytmfgemnmelbflaa
