/- The document's answers of layers 9 and 10, small parts. -/
import Derived.Test.YtmfgemnmelbflaaSums
set_option maxRecDepth 20000
namespace Go.Proofs.Ytmfgemnmelbflaa
set_option linter.unusedVariables false
set_option linter.unusedSimpArgs false
open Go.Ab Go.RowKit

theorem cb_split {x y : UInt8} {a b : List UInt8} (h : x ≠ y) : Lib.compareBytes (x :: a) (y :: b) < 0 ↔ x < y := by
  unfold Lib.compareBytes
  by_cases h1 : x < y
  · simp [h1]
  · have h2 : y < x := by
      rcases UInt8.lt_or_lt_of_ne h with h | h
      · exact absurd h h1
      · exact h
    simp [h1, h2]
theorem cb_same : ∀ {p a b : List UInt8}, Lib.compareBytes (p ++ a) (p ++ b) = Lib.compareBytes a b
  | [], _, _ => rfl
  | x :: p, a, b => by
    rw [List.cons_append, List.cons_append, Lib.compareBytes, if_neg (UInt8.lt_irrefl _), if_neg (UInt8.lt_irrefl _)]
    exact cb_same
theorem less_at {a b : List UInt8} {k : Nat} (ha : k < a.length) (hb : k < b.length) (h : a.take k = b.take k) (hn : a.getD k default ≠ b.getD k default) : decide (a.getD k default < b.getD k default) = decide (Lib.compareBytes a b < 0) := by
  rw [decide_eq_decide]
  have e1 : a = a.take k ++ a[k] :: a.drop (k + 1) := by rw [← List.drop_eq_getElem_cons ha, List.take_append_drop]
  have e2 : b = a.take k ++ b[k] :: b.drop (k + 1) := by rw [h, ← List.drop_eq_getElem_cons hb, List.take_append_drop]
  have g1 : a.getD k default = a[k] := by simp [List.getD, ha]
  have g2 : b.getD k default = b[k] := by simp [List.getD, hb]
  rw [g1, g2] at hn ⊢
  have : Lib.compareBytes a b = Lib.compareBytes (a[k] :: a.drop (k + 1)) (b[k] :: b.drop (k + 1)) := by
    conv => lhs; rw [e1, e2]
    exact cb_same
  rw [this]
  exact (cb_split hn).symm
theorem take_same {α : Type} [Inhabited α] {a b : List α} {k : Nat} (ha : k < a.length) (hb : k < b.length) (h : a.take k = b.take k) (hn : a.getD k default = b.getD k default) : a.take (k + 1) = b.take (k + 1) := by
  rw [List.take_add_one, List.take_add_one, h, List.getElem?_eq_getElem ha, List.getElem?_eq_getElem hb]
  congr 2
  simpa [List.getD, ha, hb] using hn
theorem fact_id {a : Ab.Id} {ρ : Nat → Value} {B : Nat → Prop} {U N : Nat → Prop} {w : World} {v : Value} (h : (AV.val idT a).rel ρ B U N w v) : a.length = 32 := by
  obtain ⟨cs, h, _⟩ := h
  exact h.1
theorem fact_txl {t : Tx} {ρ : Nat → Value} {B : Nat → Prop} {U N : Nat → Prop} {w : World} {v : Value} (h : (AV.val txT t).rel ρ B U N w v) : t.ins.length ≤ 9223372036854775807 ∧ t.outs.length ≤ 9223372036854775807 := by
  obtain ⟨cs, ⟨c1, c2, _, ⟨_, cap, _, h1, h2, _⟩, ⟨_, cap', _, h3, h4, _⟩⟩, _⟩ := h
  unfold maxLen at h2 h4
  exact ⟨Nat.le_trans h1 h2, Nat.le_trans h3 h4⟩
theorem before_eq {a b : In} : decide (ordIn a b < 0) = (decide (Lib.compareBytes a.tx b.tx < 0) || (decide (a.tx = b.tx) && decide (a.i < b.i))) := by
  rw [ordIn_eq]
  by_cases h : Lib.compareBytes a.tx b.tx = 0
  · have h' := cb_zero.1 h
    rw [if_pos h, h]
    simp only [h', cmpInt]
    by_cases c : a.i < b.i <;> by_cases d : b.i < a.i <;> simp [c, d]
  · rw [if_neg h]
    have h' : ¬ a.tx = b.tx := fun e => h (cb_zero.2 e)
    simp [h']
theorem same_end {α : Type} {p q : List α} (hl : p.length = q.length) (h : p.take p.length = q.take p.length) : p = q := by
  rw [List.take_length, hl, List.take_length] at h
  exact h
theorem same_step {α : Type} {p q : List α} {k : Nat} {c : α} (h : p.take k = q.take k) (hp : p[k]? = some c) (hq : q[k]? = some c) : p.take (k + 1) = q.take (k + 1) := by
  rw [List.take_add_one, List.take_add_one, h, hp, hq]
theorem any_step {α : Type} {f : α → Bool} {p : List α} {k : Nat} {c : α} (h : (p.take k).any f = false) (hp : p[k]? = some c) (hf : f c = false) : (p.take (k + 1)).any f = false := by
  rw [List.take_add_one, hp, List.any_append, h]; simp [hf]
theorem any_hit {α : Type} {f : α → Bool} {p : List α} {c : α} {k : Nat} (hp : p[k]? = some c) (hf : f c = true) : p.any f = true := List.any_eq_true.2 ⟨c, List.mem_of_getElem? hp, hf⟩
theorem any_hit_take {α : Type} {f : α → Bool} {p : List α} {c : α} {j k : Nat} (hp : p[j]? = some c) (hj : j < k) (hf : f c = true) : (p.take k).any f = true := any_hit (k := j) (by rw [List.getElem?_take_of_lt hj]; exact hp) hf
theorem odd_bad {t : Tx} {o : Out} {k : Nat} (h : t.outs[k]? = some o) (hb : o.v < 1 ∨ 1099511627776 < o.v ∨ o.to < 0 ∨ 255 < o.to) : mayTx t = false := by
  have : t.outs.any outOdd = true := any_hit h (decide_eq_true hb)
  unfold mayTx
  rw [this]; simp
theorem sum_end {p : List Coin} {k : Nat} (hk : k = p.length) (h : k = 0 ∨ mayCoins p = true) : worthF (·.out.v) (p.take k) = if mayCoins p = true then worthF (·.out.v) p else 0 := by
  rw [hk, List.take_length]
  split
  · rfl
  · rename_i hn
    rcases h with h | h
    · have : p = [] := List.eq_nil_of_length_eq_zero (by omega)
      rw [this]; rfl
    · exact absurd h hn
theorem sum_stop {p : List Coin} {k : Nat} (hn : ¬ mayCoins p = true) (h : k = 0 ∨ mayCoins p = true) : worthF (·.out.v) (p.take k) = if mayCoins p = true then worthF (·.out.v) p else 0 := by
  rw [if_neg hn]
  rcases h with h | h
  · rw [h]; rfl
  · exact absurd h hn

theorem rless_ok (a b : Ab.Id) : Tells P 61 [.val idT a, .val idT b] (.val boolT (decide (Lib.compareBytes a b < 0))) := by
  refine fn_of_aw Try.func61 rfl rfl rfl (fun ext w hext => ?_)
  refine aw_fact (d := 0) rfl fact_id (fun ha => ?_)
  refine aw_fact (d := 1) rfl fact_id (fun hb => ?_)
  refine aw_seq ?_
  refine aw_region ?_
  refine aw_box rfl rfl rfl rfl rfl ?_
  refine aw_box rfl rfl rfl rfl rfl ?_
  refine aw_g (g_mv (.inr rfl) rfl) rfl rfl rfl ?_
  refine aw_nil ?_
  refine aw_seq ?_
  refine aw_seq ?_
  refine aw_region ?_
  refine aw_g (g_mv (.inr rfl) rfl) rfl rfl rfl ?_
  refine aw_nil ?_
  refine aw_block ?_
  refine aw_loopI (ι := Nat) 2 rfl (fun (k : Nat) => (((Fr.none).set 2 (.ptr 0 0)).set 3 (.ptr 1 0)).set 5 (.val i64T (k : Int))) (fun (k : Nat) => ((Hp.none).set 0 (.box 40 idT a)).set 1 (.box 40 idT b)) (fun (k : Nat) => k ≤ 32 ∧ a.take k = b.take k) (fun (k : Nat) => 32 - k) (0) (⟨Nat.zero_le _, rfl⟩) (by (repeat refine Fr.le_set ?_ (by first | rfl | (simp; done))); exact Fr.le_none _) (by (repeat refine Hp.le_set ?_ rfl); exact Hp.le_none _) (by (repeat refine Fr.below_setB ?_ rfl); exact Fr.below_none _) (by (repeat refine Hp.below_set ?_ (by decide)); exact Hp.below_none _) ?_
  intro k hinv
  refine aw_seq ?_
  refine aw_seq ?_
  refine aw_region ?_
  refine aw_g (g_mv (.inl rfl) rfl) rfl rfl rfl ?_
  refine aw_g (g_lss rfl rfl rfl rfl) rfl rfl rfl ?_
  refine aw_nil ?_
  refine aw_ifc (p := k < 32) rfl (by first | rfl | (rw [decide_eq_decide]; simp only [IntL.toI, id_eq]; omega) | (simp [IntL.toI]; done) | (simp [IntL.toI]; omega)) (fun ht7 => ?_) (fun ht7 => ?_)
  · skip
    refine aw_skip ?_
    refine aw_seq ?_
    refine aw_block ?_
    refine aw_seq ?_
    refine aw_draw mixed (by decide +kernel) ?_
    refine GK.g (g_mv (.inl rfl) rfl) rfl rfl rfl ?_
    refine GK.g (g_ia_b0 (i := k) rfl rfl rfl (by first | omega | rfl) ar_40 (by omega)) rfl rfl rfl ?_
    refine GK.g (g_load_b rfl rfl rfl (Lens.elem (i := k) (by omega) u8T) ty_5) rfl rfl rfl ?_
    refine GK.g (g_mv (.inl rfl) rfl) rfl rfl rfl ?_
    refine GK.g (g_ia_b0 (i := k) rfl rfl rfl (by first | omega | rfl) ar_40 (by omega)) rfl rfl rfl ?_
    refine GK.g (g_load_b rfl rfl rfl (Lens.elem (i := k) (by omega) u8T) ty_5) rfl rfl rfl ?_
    refine GK.g (g_neq rfl rfl rfl rfl) rfl rfl rfl ?_
    refine GK.nil ?_
    refine aw_ifc (p := a.getD k default ≠ b.getD k default) rfl (by simp [IntL.toI]; exact Int.ofNat_inj.trans UInt8.toNat_inj) (fun ht16 => ?_) (fun ht16 => ?_)
    · skip
      refine aw_seq ?_
      refine aw_draw mixed (by decide +kernel) ?_
      refine GK.g (g_mv (.inl rfl) rfl) rfl rfl rfl ?_
      refine GK.g (g_ia_b0 (i := k) rfl rfl rfl (by first | omega | rfl) ar_40 (by omega)) rfl rfl rfl ?_
      refine GK.g (g_load_b rfl rfl rfl (Lens.elem (i := k) (by omega) u8T) ty_5) rfl rfl rfl ?_
      refine GK.g (g_mv (.inl rfl) rfl) rfl rfl rfl ?_
      refine GK.g (g_ia_b0 (i := k) rfl rfl rfl (by first | omega | rfl) ar_40 (by omega)) rfl rfl rfl ?_
      refine GK.g (g_load_b rfl rfl rfl (Lens.elem (i := k) (by omega) u8T) ty_5) rfl rfl rfl ?_
      refine GK.g (g_lss rfl rfl rfl rfl) rfl rfl rfl ?_
      refine GK.g (g_mv (.inr rfl) rfl) rfl rfl rfl ?_
      refine GK.nil ?_
      exact aw_ret1 rfl rfl (ret_eq rfl ((by simp [IntL.toI, UInt8.lt_iff_toNat_lt] : _ = _).trans (less_at (by omega) (by omega) hinv.2 ht16)))
    · skip
      refine aw_skip ?_
      refine aw_inBlock ?_
      refine aw_region ?_
      refine aw_g (g_mv (.inl rfl) rfl) rfl rfl rfl ?_
      refine aw_g (by first | exact g_add rfl rfl rfl (wrap_eq (by first | omega | (simp; omega))) | exact g_add rfl rfl rfl rfl) rfl rfl rfl ?_
      refine aw_g (g_mv (.inr rfl) rfl) rfl rfl rfl ?_
      refine aw_nil ?_
      exact aw_next (k + 1) (⟨by omega, take_same (by omega) (by omega) hinv.2 (Classical.not_not.1 ht16)⟩) (by omega) rfl (by (repeat refine Fr.le_set ?_ (by first | rfl | (simp; done))); exact Fr.le_none _) (by (repeat refine Hp.le_set ?_ rfl); exact Hp.le_none _) (by (repeat refine Fr.below_setB ?_ rfl); exact Fr.below_none _) (by (repeat refine Hp.below_set ?_ (by decide)); exact Hp.below_none _)
  · skip
    refine aw_exit rfl ?_
    refine aw_seq ?_
    refine aw_region ?_
    refine aw_g (g_mv (.inr rfl) rfl) rfl rfl rfl ?_
    refine aw_nil ?_
    exact aw_ret1 rfl rfl (ret_eq rfl (decide_eq_false (by have h := hinv.2; rw [List.take_of_length_le (by omega), List.take_of_length_le (by omega)] at h; rw [h, cb_zero.2 rfl]; exact Int.lt_irrefl 0)).symm)

theorem rbefore_ok (a b : Coin) : Tells P 38 [.val coinT a, .val coinT b] (.val boolT (decide (ordIn a.inn b.inn < 0))) := by
  refine fn_of_aw Try.func38 rfl rfl rfl (fun ext w hext => ?_)
  refine aw_seq ?_
  refine aw_region ?_
  refine aw_box rfl rfl rfl rfl rfl ?_
  refine aw_box rfl rfl rfl rfl rfl ?_
  refine aw_g (g_mv (.inr rfl) rfl) rfl rfl rfl ?_
  refine aw_nil ?_
  refine aw_seq ?_
  refine aw_region ?_
  refine aw_g (g_fa_p rfl rfl fd_50_0 rfl) rfl rfl rfl ?_
  refine aw_g (g_fa_p rfl rfl fd_42_0 rfl) rfl rfl rfl ?_
  refine aw_g (g_load_b rfl rfl rfl (L_Coin_inn.comp L_In_tx) ty_40) rfl rfl rfl ?_
  refine aw_g (g_fa_p rfl rfl fd_50_0 rfl) rfl rfl rfl ?_
  refine aw_g (g_fa_p rfl rfl fd_42_0 rfl) rfl rfl rfl ?_
  refine aw_g (g_load_b rfl rfl rfl (L_Coin_inn.comp L_In_tx) ty_40) rfl rfl rfl ?_
  refine aw_g (g_call (rless_ok _ _) rfl fn_61 ⟨(arg_v rfl), (arg_v rfl), trivial⟩ rfl) rfl rfl rfl ?_
  refine aw_splitp (d := 12) (p := Lib.compareBytes a.inn.tx b.inn.tx < 0) rfl (by first | rfl | (rw [decide_eq_decide]; simp only [IntL.toI, id_eq]; omega) | (simp [IntL.toI]; done) | (simp [IntL.toI]; omega)) (fun g12 => ?_) (fun g12 => ?_)
  · skip
    refine aw_g (g_mv (.inr rfl) rfl) rfl rfl rfl ?_
    refine aw_nil ?_
    refine aw_seq ?_
    refine aw_region ?_
    refine aw_g (g_mv (.inl rfl) rfl) rfl rfl rfl ?_
    refine aw_g (g_mv (.inl rfl) rfl) rfl rfl rfl ?_
    refine aw_gn rfl rfl rfl rfl rfl rfl rfl rfl ?_
    refine aw_gn rfl rfl rfl rfl rfl rfl rfl rfl ?_
    refine aw_gn rfl rfl rfl rfl rfl rfl rfl rfl ?_
    refine aw_gn rfl rfl rfl rfl rfl rfl rfl rfl ?_
    refine aw_gn rfl rfl rfl rfl rfl rfl rfl rfl ?_
    refine aw_gn rfl rfl rfl rfl rfl rfl rfl rfl ?_
    refine aw_gn rfl rfl rfl rfl rfl rfl rfl rfl ?_
    refine aw_gn rfl rfl rfl rfl rfl rfl rfl rfl ?_
    refine aw_gu rfl rfl rfl rfl rfl rfl rfl ?_
    refine aw_gu rfl rfl rfl rfl rfl rfl rfl ?_
    refine aw_gu rfl rfl rfl rfl rfl rfl rfl ?_
    refine aw_gu rfl rfl rfl rfl rfl rfl rfl ?_
    refine aw_gu rfl rfl rfl rfl rfl rfl rfl ?_
    refine aw_gu rfl rfl rfl rfl rfl rfl rfl ?_
    refine aw_gu rfl rfl rfl rfl rfl rfl rfl ?_
    refine aw_gn rfl rfl rfl rfl rfl rfl rfl rfl ?_
    refine aw_g (g_pick rfl rfl rfl) rfl rfl rfl ?_
    refine aw_g (g_mv (.inr rfl) rfl) rfl rfl rfl ?_
    refine aw_nil ?_
    exact aw_ret1 rfl rfl (ret_eq rfl (by rw [before_eq]; simp [g12]))
  · skip
    refine aw_g (g_mv (.inr rfl) rfl) rfl rfl rfl ?_
    refine aw_nil ?_
    refine aw_seq ?_
    refine aw_region ?_
    refine aw_g (g_mv (.inl rfl) rfl) rfl rfl rfl ?_
    refine aw_g (g_mv (.inl rfl) rfl) rfl rfl rfl ?_
    refine aw_gi (g_fa_p rfl rfl fd_50_0 rfl) rfl rfl rfl rfl rfl rfl rfl rfl ?_
    refine aw_gi (g_fa_p rfl rfl fd_42_0 rfl) rfl rfl rfl rfl rfl rfl rfl rfl ?_
    refine aw_gi (g_load_b rfl rfl rfl (L_Coin_inn.comp L_In_tx) ty_40) rfl rfl rfl rfl rfl rfl rfl rfl ?_
    refine aw_gi (g_fa_p rfl rfl fd_50_0 rfl) rfl rfl rfl rfl rfl rfl rfl rfl ?_
    refine aw_gi (g_fa_p rfl rfl fd_42_0 rfl) rfl rfl rfl rfl rfl rfl rfl rfl ?_
    refine aw_gi (g_load_b rfl rfl rfl (L_Coin_inn.comp L_In_tx) ty_40) rfl rfl rfl rfl rfl rfl rfl rfl ?_
    refine aw_gi (g_eqlS rfl rfl rfl (eqt_40)) rfl rfl rfl rfl rfl rfl rfl rfl ?_
    refine aw_splitp (d := 21) (p := a.inn.tx = b.inn.tx) rfl (by simp) (fun g21 => ?_) (fun g21 => ?_)
    · skip
      refine aw_gi (g_mv (.inl rfl) rfl) rfl rfl rfl rfl rfl rfl rfl rfl ?_
      refine aw_gi (g_fa_p rfl rfl fd_50_0 rfl) rfl rfl rfl rfl rfl rfl rfl rfl ?_
      refine aw_gi (g_fa_p rfl rfl fd_42_1 rfl) rfl rfl rfl rfl rfl rfl rfl rfl ?_
      refine aw_gi (g_load_b rfl rfl rfl (L_Coin_inn.comp L_In_i) ty_3) rfl rfl rfl rfl rfl rfl rfl rfl ?_
      refine aw_gi (g_fa_p rfl rfl fd_50_0 rfl) rfl rfl rfl rfl rfl rfl rfl rfl ?_
      refine aw_gi (g_fa_p rfl rfl fd_42_1 rfl) rfl rfl rfl rfl rfl rfl rfl rfl ?_
      refine aw_gi (g_load_b rfl rfl rfl (L_Coin_inn.comp L_In_i) ty_3) rfl rfl rfl rfl rfl rfl rfl rfl ?_
      refine aw_gi (g_lss rfl rfl rfl rfl) rfl rfl rfl rfl rfl rfl rfl rfl ?_
      refine aw_gi (g_pick rfl rfl rfl) rfl rfl rfl rfl rfl rfl rfl rfl ?_
      refine aw_g (g_pick rfl rfl rfl) rfl rfl rfl ?_
      refine aw_g (g_mv (.inr rfl) rfl) rfl rfl rfl ?_
      refine aw_nil ?_
      exact aw_ret1 rfl rfl (ret_eq rfl (by rw [before_eq, decide_eq_false g12, Bool.false_or, decide_eq_true g21, Bool.true_and]; rfl))
    · skip
      refine aw_gi (g_mv (.inl rfl) rfl) rfl rfl rfl rfl rfl rfl rfl rfl ?_
      refine aw_gn rfl rfl rfl rfl rfl rfl rfl rfl ?_
      refine aw_gn rfl rfl rfl rfl rfl rfl rfl rfl ?_
      refine aw_gn rfl rfl rfl rfl rfl rfl rfl rfl ?_
      refine aw_gn rfl rfl rfl rfl rfl rfl rfl rfl ?_
      refine aw_gn rfl rfl rfl rfl rfl rfl rfl rfl ?_
      refine aw_gn rfl rfl rfl rfl rfl rfl rfl rfl ?_
      refine aw_gn rfl rfl rfl rfl rfl rfl rfl rfl ?_
      refine aw_gi (g_pick rfl rfl rfl) rfl rfl rfl rfl rfl rfl rfl rfl ?_
      refine aw_g (g_pick rfl rfl rfl) rfl rfl rfl ?_
      refine aw_g (g_mv (.inr rfl) rfl) rfl rfl rfl ?_
      refine aw_nil ?_
      exact aw_ret1 rfl rfl (ret_eq rfl (by rw [before_eq, decide_eq_false g12, decide_eq_false g21]; rfl))

theorem rmay_ok (p : List Coin) : Tells P 17 [.val (bsl coinT) p] (.val boolT (mayCoins p)) := by
  refine fn_of_aw Try.func17 rfl rfl rfl (fun ext w hext => ?_)
  refine aw_fact (d := 0) rfl fact_sl (fun hsl0 => ?_)
  refine aw_seq ?_
  refine aw_region ?_
  refine aw_g (g_mv (.inr rfl) rfl) rfl rfl rfl ?_
  refine aw_nil ?_
  refine aw_seq ?_
  refine aw_seq ?_
  refine aw_region ?_
  refine aw_g (g_mv (.inr rfl) rfl) rfl rfl rfl ?_
  refine aw_nil ?_
  refine aw_block ?_
  refine aw_loopI (ι := Nat) 0 rfl (fun (k : Nat) => ((Fr.none).set 0 (.val (bsl coinT) p)).set 3 (.val i64T (k : Int))) (fun (k : Nat) => Hp.none) (fun (k : Nat) => k ≤ p.length ∧ (List.range k).all (coinAt p) = true) (fun (k : Nat) => p.length - k) (0) (⟨Nat.zero_le _, rfl⟩) (by (repeat refine Fr.le_set ?_ (by first | rfl | (simp; done))); exact Fr.le_none _) (by (repeat refine Hp.le_set ?_ rfl); exact Hp.le_none _) (by (repeat refine Fr.below_setB ?_ rfl); exact Fr.below_none _) (by (repeat refine Hp.below_set ?_ (by decide)); exact Hp.below_none _) ?_
  intro k hinv
  refine aw_seq ?_
  refine aw_seq ?_
  refine aw_region ?_
  refine aw_g (g_mv (.inl rfl) rfl) rfl rfl rfl ?_
  refine aw_g (g_mv (.inl rfl) rfl) rfl rfl rfl ?_
  refine aw_g (g_len rfl rfl isl_22) rfl rfl rfl ?_
  refine aw_g (g_lss rfl rfl rfl rfl) rfl rfl rfl ?_
  refine aw_nil ?_
  refine aw_ifc (p := k < p.length) rfl (by first | rfl | (rw [decide_eq_decide]; simp only [IntL.toI, id_eq]; omega) | (simp [IntL.toI]; done) | (simp [IntL.toI]; omega)) (fun ht9 => ?_) (fun ht9 => ?_)
  · skip
    obtain ⟨c, hc⟩ : ∃ c, p[k]? = some c := ⟨_, List.getElem?_eq_getElem ht9⟩
    refine aw_skip ?_
    refine aw_seq ?_
    refine aw_block ?_
    refine aw_seq ?_
    refine aw_region ?_
    refine aw_g (g_mv (.inl rfl) rfl) rfl rfl rfl ?_
    refine aw_g (g_mv (.inl rfl) rfl) rfl rfl rfl ?_
    refine aw_g (g_ia_i (i := k) rfl rfl rfl (by omega) sl_22 (by assumption)) rfl rfl rfl ?_
    refine aw_g (g_load_r rfl rfl ty_50) rfl rfl rfl ?_
    refine aw_alloc ze_50 rfl rfl rfl rfl ?_
    refine aw_store_b rfl rfl rfl rfl rfl (Lens.self _) ty_50 rfl ?_
    refine aw_nil ?_
    refine aw_seq ?_
    refine aw_seq ?_
    refine aw_region ?_
    refine aw_g (g_fa_p rfl rfl fd_50_0 rfl) rfl rfl rfl ?_
    refine aw_g (g_fa_p rfl rfl fd_42_1 rfl) rfl rfl rfl ?_
    refine aw_g (g_load_b rfl rfl rfl (L_Coin_inn.comp L_In_i) ty_3) rfl rfl rfl ?_
    refine aw_g (g_lss rfl rfl rfl rfl) rfl rfl rfl ?_
    refine aw_splitp (d := 19) (p := c.inn.i < 0) rfl (by first | rfl | (rw [decide_eq_decide]; simp only [IntL.toI, id_eq]; omega) | (simp [IntL.toI]; done) | (simp [IntL.toI]; omega)) (fun g19 => ?_) (fun g19 => ?_)
    · skip
      refine aw_g (g_mv (.inl rfl) rfl) rfl rfl rfl ?_
      refine aw_gn rfl rfl rfl rfl rfl rfl rfl rfl ?_
      refine aw_gn rfl rfl rfl rfl rfl rfl rfl rfl ?_
      refine aw_gn rfl rfl rfl rfl rfl rfl rfl rfl ?_
      refine aw_gn rfl rfl rfl rfl rfl rfl rfl rfl ?_
      refine aw_g (g_pick rfl rfl rfl) rfl rfl rfl ?_
      refine aw_g (g_mv (.inl rfl) rfl) rfl rfl rfl ?_
      refine aw_gn rfl rfl rfl rfl rfl rfl rfl rfl ?_
      refine aw_gn rfl rfl rfl rfl rfl rfl rfl rfl ?_
      refine aw_gn rfl rfl rfl rfl rfl rfl rfl rfl ?_
      refine aw_gn rfl rfl rfl rfl rfl rfl rfl rfl ?_
      refine aw_g (g_pick rfl rfl rfl) rfl rfl rfl ?_
      refine aw_g (g_mv (.inl rfl) rfl) rfl rfl rfl ?_
      refine aw_gn rfl rfl rfl rfl rfl rfl rfl rfl ?_
      refine aw_gn rfl rfl rfl rfl rfl rfl rfl rfl ?_
      refine aw_gn rfl rfl rfl rfl rfl rfl rfl rfl ?_
      refine aw_gn rfl rfl rfl rfl rfl rfl rfl rfl ?_
      refine aw_g (g_pick rfl rfl rfl) rfl rfl rfl ?_
      refine aw_g (g_mv (.inl rfl) rfl) rfl rfl rfl ?_
      refine aw_gn rfl rfl rfl rfl rfl rfl rfl rfl ?_
      refine aw_gn rfl rfl rfl rfl rfl rfl rfl rfl ?_
      refine aw_gn rfl rfl rfl rfl rfl rfl rfl rfl ?_
      refine aw_gn rfl rfl rfl rfl rfl rfl rfl rfl ?_
      refine aw_g (g_pick rfl rfl rfl) rfl rfl rfl ?_
      refine aw_g (g_mv (.inl rfl) rfl) rfl rfl rfl ?_
      refine aw_gn rfl rfl rfl rfl rfl rfl rfl rfl ?_
      refine aw_gn rfl rfl rfl rfl rfl rfl rfl rfl ?_
      refine aw_gn rfl rfl rfl rfl rfl rfl rfl rfl ?_
      refine aw_gn rfl rfl rfl rfl rfl rfl rfl rfl ?_
      refine aw_g (g_pick rfl rfl rfl) rfl rfl rfl ?_
      refine aw_nil ?_
      refine aw_if_t rfl (rfl) ?_
      refine aw_seq ?_
      refine aw_region ?_
      refine aw_g (g_mv (.inr rfl) rfl) rfl rfl rfl ?_
      refine aw_nil ?_
      exact aw_ret1 rfl rfl (ret_eq rfl (coinAt_bad hc ht9 (by omega)).symm)
    · skip
      refine aw_g (g_mv (.inl rfl) rfl) rfl rfl rfl ?_
      refine aw_gi (g_fa_p rfl rfl fd_50_0 rfl) rfl rfl rfl rfl rfl rfl rfl rfl ?_
      refine aw_gi (g_fa_p rfl rfl fd_42_1 rfl) rfl rfl rfl rfl rfl rfl rfl rfl ?_
      refine aw_gi (g_load_b rfl rfl rfl (L_Coin_inn.comp L_In_i) ty_3) rfl rfl rfl rfl rfl rfl rfl rfl ?_
      refine aw_gi (g_geq rfl rfl rfl rfl) rfl rfl rfl rfl rfl rfl rfl rfl ?_
      refine aw_splitp (d := 24) (p := 3 ≤ c.inn.i) rfl (by first | rfl | (rw [decide_eq_decide]; simp only [IntL.toI, id_eq]; omega) | (simp [IntL.toI]; done) | (simp [IntL.toI]; omega)) (fun g24 => ?_) (fun g24 => ?_)
      · skip
        refine aw_g (g_pick rfl rfl rfl) rfl rfl rfl ?_
        refine aw_g (g_mv (.inl rfl) rfl) rfl rfl rfl ?_
        refine aw_gn rfl rfl rfl rfl rfl rfl rfl rfl ?_
        refine aw_gn rfl rfl rfl rfl rfl rfl rfl rfl ?_
        refine aw_gn rfl rfl rfl rfl rfl rfl rfl rfl ?_
        refine aw_gn rfl rfl rfl rfl rfl rfl rfl rfl ?_
        refine aw_g (g_pick rfl rfl rfl) rfl rfl rfl ?_
        refine aw_g (g_mv (.inl rfl) rfl) rfl rfl rfl ?_
        refine aw_gn rfl rfl rfl rfl rfl rfl rfl rfl ?_
        refine aw_gn rfl rfl rfl rfl rfl rfl rfl rfl ?_
        refine aw_gn rfl rfl rfl rfl rfl rfl rfl rfl ?_
        refine aw_gn rfl rfl rfl rfl rfl rfl rfl rfl ?_
        refine aw_g (g_pick rfl rfl rfl) rfl rfl rfl ?_
        refine aw_g (g_mv (.inl rfl) rfl) rfl rfl rfl ?_
        refine aw_gn rfl rfl rfl rfl rfl rfl rfl rfl ?_
        refine aw_gn rfl rfl rfl rfl rfl rfl rfl rfl ?_
        refine aw_gn rfl rfl rfl rfl rfl rfl rfl rfl ?_
        refine aw_gn rfl rfl rfl rfl rfl rfl rfl rfl ?_
        refine aw_g (g_pick rfl rfl rfl) rfl rfl rfl ?_
        refine aw_g (g_mv (.inl rfl) rfl) rfl rfl rfl ?_
        refine aw_gn rfl rfl rfl rfl rfl rfl rfl rfl ?_
        refine aw_gn rfl rfl rfl rfl rfl rfl rfl rfl ?_
        refine aw_gn rfl rfl rfl rfl rfl rfl rfl rfl ?_
        refine aw_gn rfl rfl rfl rfl rfl rfl rfl rfl ?_
        refine aw_g (g_pick rfl rfl rfl) rfl rfl rfl ?_
        refine aw_nil ?_
        refine aw_if_t rfl (rfl) ?_
        refine aw_seq ?_
        refine aw_region ?_
        refine aw_g (g_mv (.inr rfl) rfl) rfl rfl rfl ?_
        refine aw_nil ?_
        exact aw_ret1 rfl rfl (ret_eq rfl (coinAt_bad hc ht9 (by omega)).symm)
      · skip
        refine aw_g (g_pick rfl rfl rfl) rfl rfl rfl ?_
        refine aw_g (g_mv (.inl rfl) rfl) rfl rfl rfl ?_
        refine aw_gi (g_fa_p rfl rfl fd_50_1 rfl) rfl rfl rfl rfl rfl rfl rfl rfl ?_
        refine aw_gi (g_fa_p rfl rfl fd_48_0 rfl) rfl rfl rfl rfl rfl rfl rfl rfl ?_
        refine aw_gi (g_load_b rfl rfl rfl (L_Coin_out.comp L_Out_v) ty_3) rfl rfl rfl rfl rfl rfl rfl rfl ?_
        refine aw_gi (g_lss rfl rfl rfl rfl) rfl rfl rfl rfl rfl rfl rfl rfl ?_
        refine aw_splitp (d := 30) (p := c.out.v < 1) rfl (by first | rfl | (rw [decide_eq_decide]; simp only [IntL.toI, id_eq]; omega) | (simp [IntL.toI]; done) | (simp [IntL.toI]; omega)) (fun g30 => ?_) (fun g30 => ?_)
        · skip
          refine aw_g (g_pick rfl rfl rfl) rfl rfl rfl ?_
          refine aw_g (g_mv (.inl rfl) rfl) rfl rfl rfl ?_
          refine aw_gn rfl rfl rfl rfl rfl rfl rfl rfl ?_
          refine aw_gn rfl rfl rfl rfl rfl rfl rfl rfl ?_
          refine aw_gn rfl rfl rfl rfl rfl rfl rfl rfl ?_
          refine aw_gn rfl rfl rfl rfl rfl rfl rfl rfl ?_
          refine aw_g (g_pick rfl rfl rfl) rfl rfl rfl ?_
          refine aw_g (g_mv (.inl rfl) rfl) rfl rfl rfl ?_
          refine aw_gn rfl rfl rfl rfl rfl rfl rfl rfl ?_
          refine aw_gn rfl rfl rfl rfl rfl rfl rfl rfl ?_
          refine aw_gn rfl rfl rfl rfl rfl rfl rfl rfl ?_
          refine aw_gn rfl rfl rfl rfl rfl rfl rfl rfl ?_
          refine aw_g (g_pick rfl rfl rfl) rfl rfl rfl ?_
          refine aw_g (g_mv (.inl rfl) rfl) rfl rfl rfl ?_
          refine aw_gn rfl rfl rfl rfl rfl rfl rfl rfl ?_
          refine aw_gn rfl rfl rfl rfl rfl rfl rfl rfl ?_
          refine aw_gn rfl rfl rfl rfl rfl rfl rfl rfl ?_
          refine aw_gn rfl rfl rfl rfl rfl rfl rfl rfl ?_
          refine aw_g (g_pick rfl rfl rfl) rfl rfl rfl ?_
          refine aw_nil ?_
          refine aw_if_t rfl (rfl) ?_
          refine aw_seq ?_
          refine aw_region ?_
          refine aw_g (g_mv (.inr rfl) rfl) rfl rfl rfl ?_
          refine aw_nil ?_
          exact aw_ret1 rfl rfl (ret_eq rfl (coinAt_bad hc ht9 (by omega)).symm)
        · skip
          refine aw_g (g_pick rfl rfl rfl) rfl rfl rfl ?_
          refine aw_g (g_mv (.inl rfl) rfl) rfl rfl rfl ?_
          refine aw_gi (g_fa_p rfl rfl fd_50_1 rfl) rfl rfl rfl rfl rfl rfl rfl rfl ?_
          refine aw_gi (g_fa_p rfl rfl fd_48_0 rfl) rfl rfl rfl rfl rfl rfl rfl rfl ?_
          refine aw_gi (g_load_b rfl rfl rfl (L_Coin_out.comp L_Out_v) ty_3) rfl rfl rfl rfl rfl rfl rfl rfl ?_
          refine aw_gi (g_gtr rfl rfl rfl rfl) rfl rfl rfl rfl rfl rfl rfl rfl ?_
          refine aw_splitp (d := 36) (p := 1099511627776 < c.out.v) rfl (by first | rfl | (rw [decide_eq_decide]; simp only [IntL.toI, id_eq]; omega) | (simp [IntL.toI]; done) | (simp [IntL.toI]; omega)) (fun g36 => ?_) (fun g36 => ?_)
          · skip
            refine aw_g (g_pick rfl rfl rfl) rfl rfl rfl ?_
            refine aw_g (g_mv (.inl rfl) rfl) rfl rfl rfl ?_
            refine aw_gn rfl rfl rfl rfl rfl rfl rfl rfl ?_
            refine aw_gn rfl rfl rfl rfl rfl rfl rfl rfl ?_
            refine aw_gn rfl rfl rfl rfl rfl rfl rfl rfl ?_
            refine aw_gn rfl rfl rfl rfl rfl rfl rfl rfl ?_
            refine aw_g (g_pick rfl rfl rfl) rfl rfl rfl ?_
            refine aw_g (g_mv (.inl rfl) rfl) rfl rfl rfl ?_
            refine aw_gn rfl rfl rfl rfl rfl rfl rfl rfl ?_
            refine aw_gn rfl rfl rfl rfl rfl rfl rfl rfl ?_
            refine aw_gn rfl rfl rfl rfl rfl rfl rfl rfl ?_
            refine aw_gn rfl rfl rfl rfl rfl rfl rfl rfl ?_
            refine aw_g (g_pick rfl rfl rfl) rfl rfl rfl ?_
            refine aw_nil ?_
            refine aw_if_t rfl (rfl) ?_
            refine aw_seq ?_
            refine aw_region ?_
            refine aw_g (g_mv (.inr rfl) rfl) rfl rfl rfl ?_
            refine aw_nil ?_
            exact aw_ret1 rfl rfl (ret_eq rfl (coinAt_bad hc ht9 (by omega)).symm)
          · skip
            refine aw_g (g_pick rfl rfl rfl) rfl rfl rfl ?_
            refine aw_g (g_mv (.inl rfl) rfl) rfl rfl rfl ?_
            refine aw_gi (g_fa_p rfl rfl fd_50_1 rfl) rfl rfl rfl rfl rfl rfl rfl rfl ?_
            refine aw_gi (g_fa_p rfl rfl fd_48_1 rfl) rfl rfl rfl rfl rfl rfl rfl rfl ?_
            refine aw_gi (g_load_b rfl rfl rfl (L_Coin_out.comp L_Out_to) ty_3) rfl rfl rfl rfl rfl rfl rfl rfl ?_
            refine aw_gi (g_lss rfl rfl rfl rfl) rfl rfl rfl rfl rfl rfl rfl rfl ?_
            refine aw_splitp (d := 42) (p := c.out.to < 0) rfl (by first | rfl | (rw [decide_eq_decide]; simp only [IntL.toI, id_eq]; omega) | (simp [IntL.toI]; done) | (simp [IntL.toI]; omega)) (fun g42 => ?_) (fun g42 => ?_)
            · skip
              refine aw_g (g_pick rfl rfl rfl) rfl rfl rfl ?_
              refine aw_g (g_mv (.inl rfl) rfl) rfl rfl rfl ?_
              refine aw_gn rfl rfl rfl rfl rfl rfl rfl rfl ?_
              refine aw_gn rfl rfl rfl rfl rfl rfl rfl rfl ?_
              refine aw_gn rfl rfl rfl rfl rfl rfl rfl rfl ?_
              refine aw_gn rfl rfl rfl rfl rfl rfl rfl rfl ?_
              refine aw_g (g_pick rfl rfl rfl) rfl rfl rfl ?_
              refine aw_nil ?_
              refine aw_if_t rfl (rfl) ?_
              refine aw_seq ?_
              refine aw_region ?_
              refine aw_g (g_mv (.inr rfl) rfl) rfl rfl rfl ?_
              refine aw_nil ?_
              exact aw_ret1 rfl rfl (ret_eq rfl (coinAt_bad hc ht9 (by omega)).symm)
            · skip
              refine aw_g (g_pick rfl rfl rfl) rfl rfl rfl ?_
              refine aw_g (g_mv (.inl rfl) rfl) rfl rfl rfl ?_
              refine aw_gi (g_fa_p rfl rfl fd_50_1 rfl) rfl rfl rfl rfl rfl rfl rfl rfl ?_
              refine aw_gi (g_fa_p rfl rfl fd_48_1 rfl) rfl rfl rfl rfl rfl rfl rfl rfl ?_
              refine aw_gi (g_load_b rfl rfl rfl (L_Coin_out.comp L_Out_to) ty_3) rfl rfl rfl rfl rfl rfl rfl rfl ?_
              refine aw_gi (g_gtr rfl rfl rfl rfl) rfl rfl rfl rfl rfl rfl rfl rfl ?_
              refine aw_splitp (d := 48) (p := 255 < c.out.to) rfl (by first | rfl | (rw [decide_eq_decide]; simp only [IntL.toI, id_eq]; omega) | (simp [IntL.toI]; done) | (simp [IntL.toI]; omega)) (fun g48 => ?_) (fun g48 => ?_)
              · skip
                refine aw_g (g_pick rfl rfl rfl) rfl rfl rfl ?_
                refine aw_nil ?_
                refine aw_if_t rfl (rfl) ?_
                refine aw_seq ?_
                refine aw_region ?_
                refine aw_g (g_mv (.inr rfl) rfl) rfl rfl rfl ?_
                refine aw_nil ?_
                exact aw_ret1 rfl rfl (ret_eq rfl (coinAt_bad hc ht9 (by omega)).symm)
              · skip
                refine aw_g (g_pick rfl rfl rfl) rfl rfl rfl ?_
                refine aw_nil ?_
                refine aw_if_f rfl (rfl) ?_
                refine aw_skip ?_
                refine aw_seq ?_
                refine aw_draw mixed (by decide +kernel) ?_
                refine GK.g (g_mv (.inl rfl) rfl) rfl rfl rfl ?_
                refine GK.g (g_eql rfl rfl rfl rfl) rfl rfl rfl ?_
                refine GK_splitp (d := 51) (p := k = 0) rfl (by first | rfl | (rw [decide_eq_decide]; simp only [IntL.toI, id_eq]; omega) | (simp [IntL.toI]; done) | (simp [IntL.toI]; omega)) (fun g51 => ?_) (fun g51 => ?_)
                · skip
                  refine GK.g (g_mv (.inl rfl) rfl) rfl rfl rfl ?_
                  refine GK.gn rfl rfl rfl rfl rfl rfl rfl rfl ?_
                  refine GK.gn rfl rfl rfl rfl rfl rfl rfl rfl ?_
                  refine GK.gn rfl rfl rfl rfl rfl rfl rfl rfl ?_
                  refine GK.gn rfl rfl rfl rfl rfl rfl rfl rfl ?_
                  refine GK.gn rfl rfl rfl rfl rfl rfl rfl rfl ?_
                  refine GK.gn rfl rfl rfl rfl rfl rfl rfl rfl ?_
                  refine GK.gn rfl rfl rfl rfl rfl rfl rfl rfl ?_
                  refine GK.g (g_pick rfl rfl rfl) rfl rfl rfl ?_
                  refine GK.g (g_mv (.inr rfl) rfl) rfl rfl rfl ?_
                  refine GK.nil ?_
                  refine aw_seq ?_
                  refine aw_region ?_
                  refine aw_g (g_mv (.inl rfl) rfl) rfl rfl rfl ?_
                  refine aw_g (g_not rfl rfl) rfl rfl rfl ?_
                  refine aw_nil ?_
                  refine aw_if_f rfl (rfl) ?_
                  refine aw_skip ?_
                  refine aw_inBlock ?_
                  refine aw_region ?_
                  refine aw_g (g_mv (.inl rfl) rfl) rfl rfl rfl ?_
                  refine aw_g (by first | exact g_add rfl rfl rfl (wrap_eq (by first | omega | (simp; omega))) | exact g_add rfl rfl rfl rfl) rfl rfl rfl ?_
                  refine aw_g (g_mv (.inr rfl) rfl) rfl rfl rfl ?_
                  refine aw_nil ?_
                  exact aw_next (k + 1) (⟨by omega, all_range_succ hinv.2 (by first | exact coinAt_next hc (by omega) hb g59 (by omega) | (obtain rfl : k = 0 := (by omega); exact coinAt_first hc (by omega)))⟩) (by omega) rfl (by (repeat refine Fr.le_set ?_ (by first | rfl | (simp; done))); exact Fr.le_none _) (by (repeat refine Hp.le_set ?_ rfl); exact Hp.le_none _) (by (repeat refine Fr.below_setB ?_ rfl); exact Fr.below_none _) (by (repeat refine Hp.below_set ?_ (by decide)); exact Hp.below_none _)
                · skip
                  obtain ⟨b, hb⟩ : ∃ b, p[k - 1]? = some b := ⟨_, List.getElem?_eq_getElem (by omega)⟩
                  refine GK.g (g_mv (.inl rfl) rfl) rfl rfl rfl ?_
                  refine GK.gi (g_mv (.inl rfl) rfl) rfl rfl rfl rfl rfl rfl rfl rfl ?_
                  refine GK.gi (g_mv (.inl rfl) rfl) rfl rfl rfl rfl rfl rfl rfl rfl ?_
                  refine GK.gi (by first | exact g_sub rfl rfl rfl (wrap_eq (by first | omega | (simp; omega))) | exact g_sub rfl rfl rfl rfl) rfl rfl rfl rfl rfl rfl rfl rfl ?_
                  refine GK.gi (g_ia_i (i := k - 1) rfl rfl rfl (by omega) sl_22 (by assumption)) rfl rfl rfl rfl rfl rfl rfl rfl ?_
                  refine GK.gi (g_load_r rfl rfl ty_50) rfl rfl rfl rfl rfl rfl rfl rfl ?_
                  refine GK.gi (g_load_b rfl rfl rfl (Lens.self _) ty_50) rfl rfl rfl rfl rfl rfl rfl rfl ?_
                  refine GK.gi (g_call (rbefore_ok _ _) rfl fn_38 ⟨(by first | exact arg_same rfl | exact arg_bsl rfl | exact arg_own rfl rfl | exact arg_nil rfl | exact arg_rptr rfl | exact arg_fn rfl rfl | exact arg_lit rfl), (arg_v rfl), trivial⟩ rfl) rfl rfl rfl rfl rfl rfl rfl rfl ?_
                  refine GK_splitp (d := 59) (p := ordIn b.inn c.inn < 0) rfl (by first | rfl | (rw [decide_eq_decide]; simp only [IntL.toI, id_eq]; omega) | (simp [IntL.toI]; done) | (simp [IntL.toI]; omega)) (fun g59 => ?_) (fun g59 => ?_)
                  · skip
                    refine GK.g (g_pick rfl rfl rfl) rfl rfl rfl ?_
                    refine GK.g (g_mv (.inr rfl) rfl) rfl rfl rfl ?_
                    refine GK.nil ?_
                    refine aw_seq ?_
                    refine aw_region ?_
                    refine aw_g (g_mv (.inl rfl) rfl) rfl rfl rfl ?_
                    refine aw_g (g_not rfl rfl) rfl rfl rfl ?_
                    refine aw_nil ?_
                    refine aw_if_f rfl (rfl) ?_
                    refine aw_skip ?_
                    refine aw_inBlock ?_
                    refine aw_region ?_
                    refine aw_g (g_mv (.inl rfl) rfl) rfl rfl rfl ?_
                    refine aw_g (by first | exact g_add rfl rfl rfl (wrap_eq (by first | omega | (simp; omega))) | exact g_add rfl rfl rfl rfl) rfl rfl rfl ?_
                    refine aw_g (g_mv (.inr rfl) rfl) rfl rfl rfl ?_
                    refine aw_nil ?_
                    exact aw_next (k + 1) (⟨by omega, all_range_succ hinv.2 (by first | exact coinAt_next hc (by omega) hb g59 (by omega) | (obtain rfl : k = 0 := (by omega); exact coinAt_first hc (by omega)))⟩) (by omega) rfl (by (repeat refine Fr.le_set ?_ (by first | rfl | (simp; done))); exact Fr.le_none _) (by (repeat refine Hp.le_set ?_ rfl); exact Hp.le_none _) (by (repeat refine Fr.below_setB ?_ rfl); exact Fr.below_none _) (by (repeat refine Hp.below_set ?_ (by decide)); exact Hp.below_none _)
                  · skip
                    refine GK.g (g_pick rfl rfl rfl) rfl rfl rfl ?_
                    refine GK.g (g_mv (.inr rfl) rfl) rfl rfl rfl ?_
                    refine GK.nil ?_
                    refine aw_seq ?_
                    refine aw_region ?_
                    refine aw_g (g_mv (.inl rfl) rfl) rfl rfl rfl ?_
                    refine aw_g (g_not rfl rfl) rfl rfl rfl ?_
                    refine aw_nil ?_
                    refine aw_if_t rfl (rfl) ?_
                    refine aw_seq ?_
                    refine aw_region ?_
                    refine aw_g (g_mv (.inr rfl) rfl) rfl rfl rfl ?_
                    refine aw_nil ?_
                    exact aw_ret1 rfl rfl (ret_eq rfl (coinAt_unsorted hc ht9 (by omega) hb g59).symm)
  · skip
    refine aw_exit rfl ?_
    refine aw_seq ?_
    refine aw_region ?_
    refine aw_g (g_mv (.inl rfl) rfl) rfl rfl rfl ?_
    refine aw_g (g_len rfl rfl isl_22) rfl rfl rfl ?_
    refine aw_g (g_leq rfl rfl rfl rfl) rfl rfl rfl ?_
    refine aw_g (g_mv (.inr rfl) rfl) rfl rfl rfl ?_
    refine aw_nil ?_
    exact aw_ret1 rfl rfl (ret_eq rfl (by unfold mayCoins; rw [show k = p.length by omega] at hinv; rw [hinv.2, Bool.true_and, decide_eq_decide]; simp only [IntL.toI, id_eq]; omega))

theorem rsame_ok (p q : List Coin) : Tells P 16 [.val (bsl coinT) p, .val (bsl coinT) q] (.val boolT (decide (p = q))) := by
  refine fn_of_aw Try.func16 rfl rfl rfl (fun ext w hext => ?_)
  refine aw_fact (d := 0) rfl fact_sl (fun hsl0 => ?_)
  refine aw_fact (d := 1) rfl fact_sl (fun hsl1 => ?_)
  refine aw_seq ?_
  refine aw_region ?_
  refine aw_g (g_mv (.inr rfl) rfl) rfl rfl rfl ?_
  refine aw_nil ?_
  refine aw_seq ?_
  refine aw_seq ?_
  refine aw_region ?_
  refine aw_g (g_mv (.inl rfl) rfl) rfl rfl rfl ?_
  refine aw_g (g_len rfl rfl isl_22) rfl rfl rfl ?_
  refine aw_g (g_mv (.inl rfl) rfl) rfl rfl rfl ?_
  refine aw_g (g_len rfl rfl isl_22) rfl rfl rfl ?_
  refine aw_g (g_neq rfl rfl rfl rfl) rfl rfl rfl ?_
  refine aw_nil ?_
  refine aw_ifc (p := ¬ p.length = q.length) rfl (by simp [IntL.toI]; omega) (fun ht10 => ?_) (fun ht10 => ?_)
  · skip
    refine aw_seq ?_
    refine aw_region ?_
    refine aw_g (g_mv (.inr rfl) rfl) rfl rfl rfl ?_
    refine aw_nil ?_
    exact aw_ret1 rfl rfl (ret_eq rfl (decide_eq_false (fun e => ht10 (by rw [e]))).symm)
  · skip
    have hpq := Classical.not_not.1 ht10
    refine aw_skip ?_
    refine aw_seq ?_
    refine aw_seq ?_
    refine aw_region ?_
    refine aw_g (g_mv (.inr rfl) rfl) rfl rfl rfl ?_
    refine aw_nil ?_
    refine aw_block ?_
    refine aw_loopI (ι := Nat) 0 rfl (fun (k : Nat) => (((Fr.none).set 0 (.val (bsl coinT) p)).set 1 (.val (bsl coinT) q)).set 5 (.val i64T (k : Int))) (fun (k : Nat) => Hp.none) (fun (k : Nat) => k ≤ p.length ∧ p.take k = q.take k) (fun (k : Nat) => p.length - k) (0) (⟨Nat.zero_le _, rfl⟩) (by (repeat refine Fr.le_set ?_ (by first | rfl | (simp; done))); exact Fr.le_none _) (by (repeat refine Hp.le_set ?_ rfl); exact Hp.le_none _) (by (repeat refine Fr.below_setB ?_ rfl); exact Fr.below_none _) (by (repeat refine Hp.below_set ?_ (by decide)); exact Hp.below_none _) ?_
    intro k hinv
    refine aw_seq ?_
    refine aw_seq ?_
    refine aw_region ?_
    refine aw_g (g_mv (.inl rfl) rfl) rfl rfl rfl ?_
    refine aw_g (g_mv (.inl rfl) rfl) rfl rfl rfl ?_
    refine aw_g (g_len rfl rfl isl_22) rfl rfl rfl ?_
    refine aw_g (g_lss rfl rfl rfl rfl) rfl rfl rfl ?_
    refine aw_nil ?_
    refine aw_ifc (p := k < p.length) rfl (by first | rfl | (rw [decide_eq_decide]; simp only [IntL.toI, id_eq]; omega) | (simp [IntL.toI]; done) | (simp [IntL.toI]; omega)) (fun ht14 => ?_) (fun ht14 => ?_)
    · skip
      obtain ⟨c, hc⟩ : ∃ c, p[k]? = some c := ⟨_, List.getElem?_eq_getElem ht14⟩
      obtain ⟨d, hd⟩ : ∃ d, q[k]? = some d := ⟨_, List.getElem?_eq_getElem (by omega)⟩
      refine aw_skip ?_
      refine aw_seq ?_
      refine aw_block ?_
      refine aw_seq ?_
      refine aw_draw mixed (by decide +kernel) ?_
      refine GK.g (g_mv (.inl rfl) rfl) rfl rfl rfl ?_
      refine GK.g (g_mv (.inl rfl) rfl) rfl rfl rfl ?_
      refine GK.g (g_ia_i (i := k) rfl rfl rfl (by omega) sl_22 (by assumption)) rfl rfl rfl ?_
      refine GK.g (g_load_r rfl rfl ty_50) rfl rfl rfl ?_
      refine GK.g (g_mv (.inl rfl) rfl) rfl rfl rfl ?_
      refine GK.g (g_mv (.inl rfl) rfl) rfl rfl rfl ?_
      refine GK.g (g_ia_i (i := k) rfl rfl rfl (by omega) sl_22 (by assumption)) rfl rfl rfl ?_
      refine GK.g (g_load_r rfl rfl ty_50) rfl rfl rfl ?_
      refine GK.g (g_neqS rfl rfl rfl (eqt_50)) rfl rfl rfl ?_
      refine GK.nil ?_
      refine aw_ifc (p := ¬ c = d) rfl (by simp) (fun ht25 => ?_) (fun ht25 => ?_)
      · skip
        refine aw_seq ?_
        refine aw_region ?_
        refine aw_g (g_mv (.inr rfl) rfl) rfl rfl rfl ?_
        refine aw_nil ?_
        exact aw_ret1 rfl rfl (ret_eq rfl (decide_eq_false (fun e => ht25 (by rw [e, hd] at hc; injection hc with hc; exact hc.symm))).symm)
      · skip
        refine aw_skip ?_
        refine aw_inBlock ?_
        refine aw_region ?_
        refine aw_g (g_mv (.inl rfl) rfl) rfl rfl rfl ?_
        refine aw_g (by first | exact g_add rfl rfl rfl (wrap_eq (by first | omega | (simp; omega))) | exact g_add rfl rfl rfl rfl) rfl rfl rfl ?_
        refine aw_g (g_mv (.inr rfl) rfl) rfl rfl rfl ?_
        refine aw_nil ?_
        exact aw_next (k + 1) (⟨by omega, same_step hinv.2 hc ((Classical.not_not.1 ht25) ▸ hd)⟩) (by omega) rfl (by (repeat refine Fr.le_set ?_ (by first | rfl | (simp; done))); exact Fr.le_none _) (by (repeat refine Hp.le_set ?_ rfl); exact Hp.le_none _) (by (repeat refine Fr.below_setB ?_ rfl); exact Fr.below_none _) (by (repeat refine Hp.below_set ?_ (by decide)); exact Hp.below_none _)
    · skip
      refine aw_exit rfl ?_
      refine aw_seq ?_
      refine aw_region ?_
      refine aw_g (g_mv (.inr rfl) rfl) rfl rfl rfl ?_
      refine aw_nil ?_
      exact aw_ret1 rfl rfl (ret_eq rfl (decide_eq_true (same_end hpq (by have h := hinv.2; rw [show k = p.length by omega] at h; exact h))).symm)

theorem rfind_ok (p : List Coin) (x : In) : Tells P 19 [.val (bsl coinT) p, .val inT x] (.val i64T (findC p x)) := by
  refine fn_of_aw Try.func19 rfl rfl rfl (fun ext w hext => ?_)
  refine aw_fact (d := 0) rfl fact_sl (fun hsl0 => ?_)
  refine aw_seq ?_
  refine aw_region ?_
  refine aw_box rfl rfl rfl rfl rfl ?_
  refine aw_g (g_mv (.inr rfl) rfl) rfl rfl rfl ?_
  refine aw_nil ?_
  refine aw_seq ?_
  refine aw_seq ?_
  refine aw_region ?_
  refine aw_g (g_mv (.inr rfl) rfl) rfl rfl rfl ?_
  refine aw_nil ?_
  refine aw_block ?_
  refine aw_loopI (ι := Nat) 1 rfl (fun (k : Nat) => (((Fr.none).set 0 (.val (bsl coinT) p)).set 3 (.ptr 0 0)).set 5 (.val i64T (k : Int))) (fun (k : Nat) => (Hp.none).set 0 (.box 42 inT x)) (fun (k : Nat) => k ≤ p.length ∧ findC p x = shift k (idx (fun c => decide (c.inn = x)) (p.drop k))) (fun (k : Nat) => p.length - k) (0) (⟨Nat.zero_le _, by unfold findC shift; rw [List.drop_zero]; have := findC_ge p x; unfold findC at this; split <;> omega⟩) (by (repeat refine Fr.le_set ?_ (by first | rfl | (simp; done))); exact Fr.le_none _) (by (repeat refine Hp.le_set ?_ rfl); exact Hp.le_none _) (by (repeat refine Fr.below_setB ?_ rfl); exact Fr.below_none _) (by (repeat refine Hp.below_set ?_ (by decide)); exact Hp.below_none _) ?_
  intro k hinv
  refine aw_seq ?_
  refine aw_seq ?_
  refine aw_region ?_
  refine aw_g (g_mv (.inl rfl) rfl) rfl rfl rfl ?_
  refine aw_g (g_mv (.inl rfl) rfl) rfl rfl rfl ?_
  refine aw_g (g_len rfl rfl isl_22) rfl rfl rfl ?_
  refine aw_g (g_lss rfl rfl rfl rfl) rfl rfl rfl ?_
  refine aw_nil ?_
  refine aw_ifc (p := k < p.length) rfl (by first | rfl | (rw [decide_eq_decide]; simp only [IntL.toI, id_eq]; omega) | (simp [IntL.toI]; done) | (simp [IntL.toI]; omega)) (fun ht9 => ?_) (fun ht9 => ?_)
  · skip
    obtain ⟨c, hc⟩ : ∃ c, p[k]? = some c := ⟨_, List.getElem?_eq_getElem ht9⟩
    refine aw_skip ?_
    refine aw_seq ?_
    refine aw_block ?_
    refine aw_seq ?_
    refine aw_draw mixed (by decide +kernel) ?_
    refine GK.g (g_mv (.inl rfl) rfl) rfl rfl rfl ?_
    refine GK.g (g_mv (.inl rfl) rfl) rfl rfl rfl ?_
    refine GK.g (g_ia_i (i := k) rfl rfl rfl (by omega) sl_22 (by assumption)) rfl rfl rfl ?_
    refine GK.g (g_fa_r rfl rfl fd_50_0 L_Coin_inn) rfl rfl rfl ?_
    refine GK.g (g_load_r rfl rfl ty_42) rfl rfl rfl ?_
    refine GK.g (g_load_b rfl rfl rfl (Lens.self _) ty_42) rfl rfl rfl ?_
    refine GK.g (g_eqlS rfl rfl rfl (eqt_42)) rfl rfl rfl ?_
    refine GK.nil ?_
    refine aw_ifc (p := c.inn = x) rfl (by first | rfl | (rw [decide_eq_decide]; simp only [IntL.toI, id_eq]; omega) | (simp [IntL.toI]; done) | (simp [IntL.toI]; omega)) (fun ht18 => ?_) (fun ht18 => ?_)
    · skip
      refine aw_seq ?_
      refine aw_region ?_
      refine aw_g (g_mv (.inl rfl) rfl) rfl rfl rfl ?_
      refine aw_g (g_mv (.inr rfl) rfl) rfl rfl rfl ?_
      refine aw_nil ?_
      exact aw_ret1 rfl rfl (ret_eq rfl (hinv.2.trans (idx_yes hc (by simpa using ht18))).symm)
    · skip
      refine aw_skip ?_
      refine aw_inBlock ?_
      refine aw_region ?_
      refine aw_g (g_mv (.inl rfl) rfl) rfl rfl rfl ?_
      refine aw_g (by first | exact g_add rfl rfl rfl (wrap_eq (by first | omega | (simp; omega))) | exact g_add rfl rfl rfl rfl) rfl rfl rfl ?_
      refine aw_g (g_mv (.inr rfl) rfl) rfl rfl rfl ?_
      refine aw_nil ?_
      exact aw_next (k + 1) (⟨by omega, hinv.2.trans (idx_no hc (by simpa using ht18))⟩) (by omega) rfl (by (repeat refine Fr.le_set ?_ (by first | rfl | (simp; done))); exact Fr.le_none _) (by (repeat refine Hp.le_set ?_ rfl); exact Hp.le_none _) (by (repeat refine Fr.below_setB ?_ rfl); exact Fr.below_none _) (by (repeat refine Hp.below_set ?_ (by decide)); exact Hp.below_none _)
  · skip
    refine aw_exit rfl ?_
    refine aw_seq ?_
    refine aw_region ?_
    refine aw_g (g_mv (.inr rfl) rfl) rfl rfl rfl ?_
    refine aw_nil ?_
    exact aw_ret1 rfl rfl (ret_eq rfl (hinv.2.trans (idx_end (by omega))).symm)

theorem rthere_ok (p : List Coin) (id : Ab.Id) : Tells P 34 [.val (bsl coinT) p, .val idT id] (.val boolT (p.any fun c => decide (c.inn.tx = id))) := by
  refine fn_of_aw Try.func34 rfl rfl rfl (fun ext w hext => ?_)
  refine aw_fact (d := 0) rfl fact_sl (fun hsl0 => ?_)
  refine aw_seq ?_
  refine aw_region ?_
  refine aw_box rfl rfl rfl rfl rfl ?_
  refine aw_g (g_mv (.inr rfl) rfl) rfl rfl rfl ?_
  refine aw_nil ?_
  refine aw_seq ?_
  refine aw_seq ?_
  refine aw_region ?_
  refine aw_g (g_mv (.inr rfl) rfl) rfl rfl rfl ?_
  refine aw_nil ?_
  refine aw_block ?_
  refine aw_loopI (ι := Nat) 1 rfl (fun (k : Nat) => (((Fr.none).set 0 (.val (bsl coinT) p)).set 3 (.ptr 0 0)).set 5 (.val i64T (k : Int))) (fun (k : Nat) => (Hp.none).set 0 (.box 40 idT id)) (fun (k : Nat) => k ≤ p.length ∧ ((p.take k).any fun c => decide (c.inn.tx = id)) = false) (fun (k : Nat) => p.length - k) (0) (⟨Nat.zero_le _, rfl⟩) (by (repeat refine Fr.le_set ?_ (by first | rfl | (simp; done))); exact Fr.le_none _) (by (repeat refine Hp.le_set ?_ rfl); exact Hp.le_none _) (by (repeat refine Fr.below_setB ?_ rfl); exact Fr.below_none _) (by (repeat refine Hp.below_set ?_ (by decide)); exact Hp.below_none _) ?_
  intro k hinv
  refine aw_seq ?_
  refine aw_seq ?_
  refine aw_region ?_
  refine aw_g (g_mv (.inl rfl) rfl) rfl rfl rfl ?_
  refine aw_g (g_mv (.inl rfl) rfl) rfl rfl rfl ?_
  refine aw_g (g_len rfl rfl isl_22) rfl rfl rfl ?_
  refine aw_g (g_lss rfl rfl rfl rfl) rfl rfl rfl ?_
  refine aw_nil ?_
  refine aw_ifc (p := k < p.length) rfl (by first | rfl | (rw [decide_eq_decide]; simp only [IntL.toI, id_eq]; omega) | (simp [IntL.toI]; done) | (simp [IntL.toI]; omega)) (fun ht9 => ?_) (fun ht9 => ?_)
  · skip
    obtain ⟨c, hc⟩ : ∃ c, p[k]? = some c := ⟨_, List.getElem?_eq_getElem ht9⟩
    refine aw_skip ?_
    refine aw_seq ?_
    refine aw_block ?_
    refine aw_seq ?_
    refine aw_draw mixed (by decide +kernel) ?_
    refine GK.g (g_mv (.inl rfl) rfl) rfl rfl rfl ?_
    refine GK.g (g_mv (.inl rfl) rfl) rfl rfl rfl ?_
    refine GK.g (g_ia_i (i := k) rfl rfl rfl (by omega) sl_22 (by assumption)) rfl rfl rfl ?_
    refine GK.g (g_fa_r rfl rfl fd_50_0 L_Coin_inn) rfl rfl rfl ?_
    refine GK.g (g_fa_r rfl rfl fd_42_0 L_In_tx) rfl rfl rfl ?_
    refine GK.g (g_load_r rfl rfl ty_40) rfl rfl rfl ?_
    refine GK.g (g_load_b rfl rfl rfl (Lens.self _) ty_40) rfl rfl rfl ?_
    refine GK.g (g_eqlS rfl rfl rfl (eqt_40)) rfl rfl rfl ?_
    refine GK.nil ?_
    refine aw_ifc (p := c.inn.tx = id) rfl (by first | rfl | (rw [decide_eq_decide]; simp only [IntL.toI, id_eq]; omega) | (simp [IntL.toI]; done) | (simp [IntL.toI]; omega)) (fun ht19 => ?_) (fun ht19 => ?_)
    · skip
      refine aw_seq ?_
      refine aw_region ?_
      refine aw_g (g_mv (.inr rfl) rfl) rfl rfl rfl ?_
      refine aw_nil ?_
      exact aw_ret1 rfl rfl (ret_eq rfl (any_hit hc (by simpa using ht19)).symm)
    · skip
      refine aw_skip ?_
      refine aw_inBlock ?_
      refine aw_region ?_
      refine aw_g (g_mv (.inl rfl) rfl) rfl rfl rfl ?_
      refine aw_g (by first | exact g_add rfl rfl rfl (wrap_eq (by first | omega | (simp; omega))) | exact g_add rfl rfl rfl rfl) rfl rfl rfl ?_
      refine aw_g (g_mv (.inr rfl) rfl) rfl rfl rfl ?_
      refine aw_nil ?_
      exact aw_next (k + 1) (⟨by omega, any_step hinv.2 hc (by simpa using ht19)⟩) (by omega) rfl (by (repeat refine Fr.le_set ?_ (by first | rfl | (simp; done))); exact Fr.le_none _) (by (repeat refine Hp.le_set ?_ rfl); exact Hp.le_none _) (by (repeat refine Fr.below_setB ?_ rfl); exact Fr.below_none _) (by (repeat refine Hp.below_set ?_ (by decide)); exact Hp.below_none _)
  · skip
    refine aw_exit rfl ?_
    refine aw_seq ?_
    refine aw_region ?_
    refine aw_g (g_mv (.inr rfl) rfl) rfl rfl rfl ?_
    refine aw_nil ?_
    exact aw_ret1 rfl rfl (ret_eq rfl (by have h := hinv.2; rw [List.take_of_length_le (by omega)] at h; exact h.symm))

theorem rworth_ok (t : Tx) : Tells P 33 [.val txT t] (.val i64T (worthF (·.v) t.outs)) := by
  refine fn_of_aw Try.func33 rfl rfl rfl (fun ext w hext => ?_)
  refine aw_fact (d := 0) rfl fact_txl (fun htl => ?_)
  refine aw_seq ?_
  refine aw_region ?_
  refine aw_box rfl rfl rfl rfl rfl ?_
  refine aw_g (g_mv (.inr rfl) rfl) rfl rfl rfl ?_
  refine aw_nil ?_
  refine aw_seq ?_
  refine aw_region ?_
  refine aw_g (g_mv (.inr rfl) rfl) rfl rfl rfl ?_
  refine aw_nil ?_
  refine aw_seq ?_
  refine aw_seq ?_
  refine aw_region ?_
  refine aw_g (g_mv (.inr rfl) rfl) rfl rfl rfl ?_
  refine aw_nil ?_
  refine aw_block ?_
  refine aw_loopI (ι := Nat) 1 rfl (fun (k : Nat) => (((Fr.none).set 1 (.ptr 0 0)).set 3 (.val i64T (worthF (·.v) (t.outs.take k)))).set 4 (.val i64T (k : Int))) (fun (k : Nat) => (Hp.none).set 0 (.box 26 txT t)) (fun (k : Nat) => k ≤ t.outs.length) (fun (k : Nat) => t.outs.length - k) (0) (Nat.zero_le _) (by (repeat refine Fr.le_set ?_ (by first | rfl | (simp; done))); exact Fr.le_none _) (by (repeat refine Hp.le_set ?_ rfl); exact Hp.le_none _) (by (repeat refine Fr.below_setB ?_ rfl); exact Fr.below_none _) (by (repeat refine Hp.below_set ?_ (by decide)); exact Hp.below_none _) ?_
  intro k hinv
  refine aw_seq ?_
  refine aw_seq ?_
  refine aw_region ?_
  refine aw_g (g_mv (.inl rfl) rfl) rfl rfl rfl ?_
  refine aw_g (g_fa_p rfl rfl fd_26_1 rfl) rfl rfl rfl ?_
  refine aw_g (g_load_b rfl rfl rfl L_Tx_outs ty_24) rfl rfl rfl ?_
  refine aw_g (g_len rfl rfl isl_24) rfl rfl rfl ?_
  refine aw_g (g_lss rfl rfl rfl rfl) rfl rfl rfl ?_
  refine aw_nil ?_
  refine aw_ifc (p := k < t.outs.length) rfl (by first | rfl | (rw [decide_eq_decide]; simp only [IntL.toI, id_eq]; omega) | (simp [IntL.toI]; done) | (simp [IntL.toI]; omega)) (fun ht9 => ?_) (fun ht9 => ?_)
  · skip
    obtain ⟨o, ho⟩ : ∃ o, t.outs[k]? = some o := ⟨_, List.getElem?_eq_getElem ht9⟩
    refine aw_skip ?_
    refine aw_seq ?_
    refine aw_block ?_
    refine aw_region ?_
    refine aw_g (g_mv (.inl rfl) rfl) rfl rfl rfl ?_
    refine aw_g (g_fa_p rfl rfl fd_26_1 rfl) rfl rfl rfl ?_
    refine aw_g (g_load_b rfl rfl rfl L_Tx_outs ty_24) rfl rfl rfl ?_
    refine aw_g (g_mv (.inl rfl) rfl) rfl rfl rfl ?_
    refine aw_g (g_ia_i (i := k) rfl rfl rfl (by omega) sl_24 (by assumption)) rfl rfl rfl ?_
    refine aw_g (g_fa_r rfl rfl fd_48_0 L_Out_v) rfl rfl rfl ?_
    refine aw_g (g_load_r rfl rfl ty_3) rfl rfl rfl ?_
    refine aw_g (by first | exact g_add rfl rfl rfl (wrap_eq (by first | omega | (simp; omega))) | exact g_add rfl rfl rfl rfl) rfl rfl rfl ?_
    refine aw_g (g_mv (.inr rfl) rfl) rfl rfl rfl ?_
    refine aw_nil ?_
    refine aw_inBlock ?_
    refine aw_region ?_
    refine aw_g (g_mv (.inl rfl) rfl) rfl rfl rfl ?_
    refine aw_g (by first | exact g_add rfl rfl rfl (wrap_eq (by first | omega | (simp; omega))) | exact g_add rfl rfl rfl rfl) rfl rfl rfl ?_
    refine aw_g (g_mv (.inr rfl) rfl) rfl rfl rfl ?_
    refine aw_nil ?_
    refine aw_reval (d := 3) rfl (worth_step ho).symm ?_
    exact aw_next (k + 1) (by omega) (by omega) rfl (by (repeat refine Fr.le_set ?_ (by first | rfl | (simp; done))); exact Fr.le_none _) (by (repeat refine Hp.le_set ?_ rfl); exact Hp.le_none _) (by (repeat refine Fr.below_setB ?_ rfl); exact Fr.below_none _) (by (repeat refine Hp.below_set ?_ (by decide)); exact Hp.below_none _)
  · skip
    refine aw_exit rfl ?_
    refine aw_seq ?_
    refine aw_region ?_
    refine aw_g (g_mv (.inl rfl) rfl) rfl rfl rfl ?_
    refine aw_g (g_mv (.inr rfl) rfl) rfl rfl rfl ?_
    refine aw_nil ?_
    exact aw_ret1 rfl rfl (ret_eq rfl (by rw [List.take_of_length_le (by omega)]))

theorem rsum_ok (p : List Coin) : Tells P 23 [.val (bsl coinT) p] (.val i64T (if mayCoins p = true then worthF (·.out.v) p else 0)) := by
  refine fn_of_aw Try.func23 rfl rfl rfl (fun ext w hext => ?_)
  refine aw_fact (d := 0) rfl fact_sl (fun hsl0 => ?_)
  refine aw_seq ?_
  refine aw_region ?_
  refine aw_g (g_mv (.inr rfl) rfl) rfl rfl rfl ?_
  refine aw_nil ?_
  refine aw_seq ?_
  refine aw_region ?_
  refine aw_g (g_mv (.inr rfl) rfl) rfl rfl rfl ?_
  refine aw_nil ?_
  refine aw_seq ?_
  refine aw_region ?_
  refine aw_g (g_mv (.inl rfl) rfl) rfl rfl rfl ?_
  refine aw_g (g_call (rmay_ok _) rfl fn_17 ⟨(arg_v rfl), trivial⟩ rfl) rfl rfl rfl ?_
  refine aw_g (g_mv (.inr rfl) rfl) rfl rfl rfl ?_
  refine aw_nil ?_
  refine aw_seq ?_
  refine aw_seq ?_
  refine aw_region ?_
  refine aw_g (g_mv (.inr rfl) rfl) rfl rfl rfl ?_
  refine aw_nil ?_
  refine aw_block ?_
  refine aw_loopI (ι := Nat) 0 rfl (fun (k : Nat) => ((((Fr.none).set 0 (.val (bsl coinT) p)).set 3 (.val i64T (worthF (·.out.v) (p.take k)))).set 4 (.val boolT (mayCoins p))).set 5 (.val i64T (k : Int))) (fun (k : Nat) => Hp.none) (fun (k : Nat) => k ≤ p.length ∧ (k = 0 ∨ mayCoins p = true)) (fun (k : Nat) => p.length - k) (0) (⟨Nat.zero_le _, .inl rfl⟩) (by (repeat refine Fr.le_set ?_ (by first | rfl | (simp; done))); exact Fr.le_none _) (by (repeat refine Hp.le_set ?_ rfl); exact Hp.le_none _) (by (repeat refine Fr.below_setB ?_ rfl); exact Fr.below_none _) (by (repeat refine Hp.below_set ?_ (by decide)); exact Hp.below_none _) ?_
  intro k hinv
  refine aw_seq ?_
  refine aw_seq ?_
  refine aw_region ?_
  refine aw_g (g_mv (.inl rfl) rfl) rfl rfl rfl ?_
  refine aw_g (g_mv (.inl rfl) rfl) rfl rfl rfl ?_
  refine aw_g (g_len rfl rfl isl_22) rfl rfl rfl ?_
  refine aw_g (g_lss rfl rfl rfl rfl) rfl rfl rfl ?_
  refine aw_splitp (d := 11) (p := k < p.length) rfl (by first | rfl | (rw [decide_eq_decide]; simp only [IntL.toI, id_eq]; omega) | (simp [IntL.toI]; done) | (simp [IntL.toI]; omega)) (fun g11 => ?_) (fun g11 => ?_)
  · skip
    obtain ⟨c, hc⟩ : ∃ c, p[k]? = some c := ⟨_, List.getElem?_eq_getElem g11⟩
    refine aw_g (g_mv (.inl rfl) rfl) rfl rfl rfl ?_
    refine aw_gi (g_mv (.inl rfl) rfl) rfl rfl rfl rfl rfl rfl rfl rfl ?_
    refine aw_g (g_pick rfl rfl rfl) rfl rfl rfl ?_
    refine aw_nil ?_
    refine aw_ifc (p := mayCoins p = true) rfl (by simp) (fun ht14 => ?_) (fun ht14 => ?_)
    · skip
      refine aw_skip ?_
      refine aw_seq ?_
      refine aw_block ?_
      refine aw_region ?_
      refine aw_g (g_mv (.inl rfl) rfl) rfl rfl rfl ?_
      refine aw_g (g_mv (.inl rfl) rfl) rfl rfl rfl ?_
      refine aw_g (g_mv (.inl rfl) rfl) rfl rfl rfl ?_
      refine aw_g (g_ia_i (i := k) rfl rfl rfl (by omega) sl_22 (by assumption)) rfl rfl rfl ?_
      refine aw_g (g_fa_r rfl rfl fd_50_1 L_Coin_out) rfl rfl rfl ?_
      refine aw_g (g_fa_r rfl rfl fd_48_0 L_Out_v) rfl rfl rfl ?_
      refine aw_g (g_load_r rfl rfl ty_3) rfl rfl rfl ?_
      refine aw_g (by first | exact g_add rfl rfl rfl (wrap_eq (by first | omega | (simp; omega))) | exact g_add rfl rfl rfl rfl) rfl rfl rfl ?_
      refine aw_g (g_mv (.inr rfl) rfl) rfl rfl rfl ?_
      refine aw_nil ?_
      refine aw_inBlock ?_
      refine aw_region ?_
      refine aw_g (g_mv (.inl rfl) rfl) rfl rfl rfl ?_
      refine aw_g (by first | exact g_add rfl rfl rfl (wrap_eq (by first | omega | (simp; omega))) | exact g_add rfl rfl rfl rfl) rfl rfl rfl ?_
      refine aw_g (g_mv (.inr rfl) rfl) rfl rfl rfl ?_
      refine aw_nil ?_
      refine aw_reval (d := 3) rfl (worth_step hc).symm ?_
      exact aw_next (k + 1) (⟨by omega, .inr ht14⟩) (by omega) rfl (by (repeat refine Fr.le_set ?_ (by first | rfl | (simp; done))); exact Fr.le_none _) (by (repeat refine Hp.le_set ?_ rfl); exact Hp.le_none _) (by (repeat refine Fr.below_setB ?_ rfl); exact Fr.below_none _) (by (repeat refine Hp.below_set ?_ (by decide)); exact Hp.below_none _)
    · skip
      refine aw_exit rfl ?_
      refine aw_seq ?_
      refine aw_region ?_
      refine aw_g (g_mv (.inl rfl) rfl) rfl rfl rfl ?_
      refine aw_g (g_mv (.inr rfl) rfl) rfl rfl rfl ?_
      refine aw_nil ?_
      exact aw_ret1 rfl rfl (ret_eq rfl (by first | exact sum_stop ht14 hinv.2 | exact sum_end (by omega) hinv.2))
  · skip
    refine aw_g (g_mv (.inl rfl) rfl) rfl rfl rfl ?_
    refine aw_gn rfl rfl rfl rfl rfl rfl rfl rfl ?_
    refine aw_g (g_pick rfl rfl rfl) rfl rfl rfl ?_
    refine aw_nil ?_
    refine aw_if_f rfl (rfl) ?_
    refine aw_exit rfl ?_
    refine aw_seq ?_
    refine aw_region ?_
    refine aw_g (g_mv (.inl rfl) rfl) rfl rfl rfl ?_
    refine aw_g (g_mv (.inr rfl) rfl) rfl rfl rfl ?_
    refine aw_nil ?_
    exact aw_ret1 rfl rfl (ret_eq rfl (by first | exact sum_stop ht14 hinv.2 | exact sum_end (by omega) hinv.2))

theorem rmayTx_ok (t : Tx) : Tells P 32 [.val txT t] (.val boolT (mayTx t)) := by
  refine fn_of_aw Try.func32 rfl rfl rfl (fun ext w hext => ?_)
  refine aw_fact (d := 0) rfl fact_txl (fun htl => ?_)
  refine aw_seq ?_
  refine aw_region ?_
  refine aw_box rfl rfl rfl rfl rfl ?_
  refine aw_g (g_mv (.inr rfl) rfl) rfl rfl rfl ?_
  refine aw_nil ?_
  refine aw_seq ?_
  refine aw_seq ?_
  refine aw_region ?_
  refine aw_g (g_mv (.inr rfl) rfl) rfl rfl rfl ?_
  refine aw_nil ?_
  refine aw_block ?_
  refine aw_loopI (ι := Nat) 1 rfl (fun (k : Nat) => ((Fr.none).set 1 (.ptr 0 0)).set 3 (.val i64T (k : Int))) (fun (k : Nat) => (Hp.none).set 0 (.box 26 txT t)) (fun (k : Nat) => k ≤ t.ins.length ∧ (List.range k).all (inAt t) = true) (fun (k : Nat) => t.ins.length - k) (0) (⟨Nat.zero_le _, rfl⟩) (by (repeat refine Fr.le_set ?_ (by first | rfl | (simp; done))); exact Fr.le_none _) (by (repeat refine Hp.le_set ?_ rfl); exact Hp.le_none _) (by (repeat refine Fr.below_setB ?_ rfl); exact Fr.below_none _) (by (repeat refine Hp.below_set ?_ (by decide)); exact Hp.below_none _) ?_
  intro k hinv
  refine aw_seq ?_
  refine aw_seq ?_
  refine aw_region ?_
  refine aw_g (g_mv (.inl rfl) rfl) rfl rfl rfl ?_
  refine aw_g (g_fa_p rfl rfl fd_26_0 rfl) rfl rfl rfl ?_
  refine aw_g (g_load_b rfl rfl rfl L_Tx_ins ty_23) rfl rfl rfl ?_
  refine aw_g (g_len rfl rfl isl_23) rfl rfl rfl ?_
  refine aw_g (g_lss rfl rfl rfl rfl) rfl rfl rfl ?_
  refine aw_nil ?_
  refine aw_ifc (p := k < t.ins.length) rfl (by first | rfl | (rw [decide_eq_decide]; simp only [IntL.toI, id_eq]; omega) | (simp [IntL.toI]; done) | (simp [IntL.toI]; omega)) (fun ht11 => ?_) (fun ht11 => ?_)
  · skip
    obtain ⟨x, hx⟩ : ∃ x, t.ins[k]? = some x := ⟨_, List.getElem?_eq_getElem ht11⟩
    refine aw_skip ?_
    refine aw_seq ?_
    refine aw_block ?_
    refine aw_seq ?_
    refine aw_seq ?_
    refine aw_region ?_
    refine aw_g (g_fa_p rfl rfl fd_26_0 rfl) rfl rfl rfl ?_
    refine aw_g (g_load_b rfl rfl rfl L_Tx_ins ty_23) rfl rfl rfl ?_
    refine aw_g (g_mv (.inl rfl) rfl) rfl rfl rfl ?_
    refine aw_g (g_ia_i (i := k) rfl rfl rfl (by omega) sl_23 (by assumption)) rfl rfl rfl ?_
    refine aw_g (g_fa_r rfl rfl fd_42_1 L_In_i) rfl rfl rfl ?_
    refine aw_g (g_load_r rfl rfl ty_3) rfl rfl rfl ?_
    refine aw_g (g_lss rfl rfl rfl rfl) rfl rfl rfl ?_
    refine aw_splitp (d := 20) (p := x.i < 0) rfl (by first | rfl | (rw [decide_eq_decide]; simp only [IntL.toI, id_eq]; omega) | (simp [IntL.toI]; done) | (simp [IntL.toI]; omega)) (fun g20 => ?_) (fun g20 => ?_)
    · skip
      refine aw_g (g_mv (.inl rfl) rfl) rfl rfl rfl ?_
      refine aw_gn rfl rfl rfl rfl rfl rfl rfl rfl ?_
      refine aw_gn rfl rfl rfl rfl rfl rfl rfl rfl ?_
      refine aw_gn rfl rfl rfl rfl rfl rfl rfl rfl ?_
      refine aw_gn rfl rfl rfl rfl rfl rfl rfl rfl ?_
      refine aw_gn rfl rfl rfl rfl rfl rfl rfl rfl ?_
      refine aw_gn rfl rfl rfl rfl rfl rfl rfl rfl ?_
      refine aw_gn rfl rfl rfl rfl rfl rfl rfl rfl ?_
      refine aw_g (g_pick rfl rfl rfl) rfl rfl rfl ?_
      refine aw_nil ?_
      refine aw_if_t rfl (rfl) ?_
      refine aw_seq ?_
      refine aw_region ?_
      refine aw_g (g_mv (.inr rfl) rfl) rfl rfl rfl ?_
      refine aw_nil ?_
      exact aw_ret1 rfl rfl (ret_eq rfl (by first | exact (inAt_bad hx ht11 (by omega)).symm | exact (inAt_twice hx ht11 (any_hit_take hy ht32 (by simp [ht45]))).symm | exact (odd_bad ho (by omega)).symm | (unfold mayTx; rw [hall, hodd]; simp [g79, g84, g90, IntL.toI]; try omega) | (unfold mayTx; rw [hall, hodd]; simp [g79, g84, IntL.toI]; try omega) | (unfold mayTx; rw [hall, hodd]; simp [g79, IntL.toI]; try omega)))
    · skip
      refine aw_g (g_mv (.inl rfl) rfl) rfl rfl rfl ?_
      refine aw_gi (g_fa_p rfl rfl fd_26_0 rfl) rfl rfl rfl rfl rfl rfl rfl rfl ?_
      refine aw_gi (g_load_b rfl rfl rfl L_Tx_ins ty_23) rfl rfl rfl rfl rfl rfl rfl rfl ?_
      refine aw_gi (g_mv (.inl rfl) rfl) rfl rfl rfl rfl rfl rfl rfl rfl ?_
      refine aw_gi (g_ia_i (i := k) rfl rfl rfl (by omega) sl_23 (by assumption)) rfl rfl rfl rfl rfl rfl rfl rfl ?_
      refine aw_gi (g_fa_r rfl rfl fd_42_1 L_In_i) rfl rfl rfl rfl rfl rfl rfl rfl ?_
      refine aw_gi (g_load_r rfl rfl ty_3) rfl rfl rfl rfl rfl rfl rfl rfl ?_
      refine aw_gi (g_geq rfl rfl rfl rfl) rfl rfl rfl rfl rfl rfl rfl rfl ?_
      refine aw_splitp (d := 28) (p := 3 ≤ x.i) rfl (by first | rfl | (rw [decide_eq_decide]; simp only [IntL.toI, id_eq]; omega) | (simp [IntL.toI]; done) | (simp [IntL.toI]; omega)) (fun g28 => ?_) (fun g28 => ?_)
      · skip
        refine aw_g (g_pick rfl rfl rfl) rfl rfl rfl ?_
        refine aw_nil ?_
        refine aw_if_t rfl (rfl) ?_
        refine aw_seq ?_
        refine aw_region ?_
        refine aw_g (g_mv (.inr rfl) rfl) rfl rfl rfl ?_
        refine aw_nil ?_
        exact aw_ret1 rfl rfl (ret_eq rfl (by first | exact (inAt_bad hx ht11 (by omega)).symm | exact (inAt_twice hx ht11 (any_hit_take hy ht32 (by simp [ht45]))).symm | exact (odd_bad ho (by omega)).symm | (unfold mayTx; rw [hall, hodd]; simp [g79, g84, g90, IntL.toI]; try omega) | (unfold mayTx; rw [hall, hodd]; simp [g79, g84, IntL.toI]; try omega) | (unfold mayTx; rw [hall, hodd]; simp [g79, IntL.toI]; try omega)))
      · skip
        have hout := hinv.2
        have hkl := hinv.1
        refine aw_g (g_pick rfl rfl rfl) rfl rfl rfl ?_
        refine aw_nil ?_
        refine aw_if_f rfl (rfl) ?_
        refine aw_skip ?_
        refine aw_seq ?_
        refine aw_region ?_
        refine aw_g (g_mv (.inr rfl) rfl) rfl rfl rfl ?_
        refine aw_nil ?_
        refine aw_block ?_
        refine aw_loopI (ι := Nat) 1 rfl (fun (j : Nat) => (((Fr.none).set 1 (.ptr 0 0)).set 3 (.val i64T (k : Int))).set 4 (.val i64T (j : Int))) (fun (j : Nat) => (Hp.none).set 0 (.box 26 txT t)) (fun (j : Nat) => j ≤ k ∧ ((t.ins.take j).any fun c => decide (x = c)) = false) (fun (j : Nat) => k - j) (0) (⟨Nat.zero_le _, rfl⟩) (by (repeat refine Fr.le_set ?_ (by first | rfl | (simp; done))); exact Fr.le_none _) (by (repeat refine Hp.le_set ?_ rfl); exact Hp.le_none _) (by (repeat refine Fr.below_setB ?_ rfl); exact Fr.below_none _) (by (repeat refine Hp.below_set ?_ (by decide)); exact Hp.below_none _) ?_
        intro j hinv
        refine aw_seq ?_
        refine aw_seq ?_
        refine aw_region ?_
        refine aw_g (g_mv (.inl rfl) rfl) rfl rfl rfl ?_
        refine aw_g (g_mv (.inl rfl) rfl) rfl rfl rfl ?_
        refine aw_g (g_lss rfl rfl rfl rfl) rfl rfl rfl ?_
        refine aw_nil ?_
        refine aw_ifc (p := j < k) rfl (by first | rfl | (rw [decide_eq_decide]; simp only [IntL.toI, id_eq]; omega) | (simp [IntL.toI]; done) | (simp [IntL.toI]; omega)) (fun ht32 => ?_) (fun ht32 => ?_)
        · skip
          obtain ⟨y, hy⟩ : ∃ y, t.ins[j]? = some y := ⟨_, List.getElem?_eq_getElem (by omega)⟩
          refine aw_skip ?_
          refine aw_seq ?_
          refine aw_block ?_
          refine aw_seq ?_
          refine aw_draw mixed (by decide +kernel) ?_
          refine GK.g (g_fa_p rfl rfl fd_26_0 rfl) rfl rfl rfl ?_
          refine GK.g (g_load_b rfl rfl rfl L_Tx_ins ty_23) rfl rfl rfl ?_
          refine GK.g (g_mv (.inl rfl) rfl) rfl rfl rfl ?_
          refine GK.g (g_ia_i (i := j) rfl rfl rfl (by omega) sl_23 (by assumption)) rfl rfl rfl ?_
          refine GK.g (g_load_r rfl rfl ty_42) rfl rfl rfl ?_
          refine GK.g (g_fa_p rfl rfl fd_26_0 rfl) rfl rfl rfl ?_
          refine GK.g (g_load_b rfl rfl rfl L_Tx_ins ty_23) rfl rfl rfl ?_
          refine GK.g (g_mv (.inl rfl) rfl) rfl rfl rfl ?_
          refine GK.g (g_ia_i (i := k) rfl rfl rfl (by omega) sl_23 (by assumption)) rfl rfl rfl ?_
          refine GK.g (g_load_r rfl rfl ty_42) rfl rfl rfl ?_
          refine GK.g (g_eqlS rfl rfl rfl (eqt_42)) rfl rfl rfl ?_
          refine GK.nil ?_
          refine aw_ifc (p := y = x) rfl (by first | rfl | (rw [decide_eq_decide]; simp only [IntL.toI, id_eq]; omega) | (simp [IntL.toI]; done) | (simp [IntL.toI]; omega)) (fun ht45 => ?_) (fun ht45 => ?_)
          · skip
            refine aw_seq ?_
            refine aw_region ?_
            refine aw_g (g_mv (.inr rfl) rfl) rfl rfl rfl ?_
            refine aw_nil ?_
            exact aw_ret1 rfl rfl (ret_eq rfl (by first | exact (inAt_bad hx ht11 (by omega)).symm | exact (inAt_twice hx ht11 (any_hit_take hy ht32 (by simp [ht45]))).symm | exact (odd_bad ho (by omega)).symm | (unfold mayTx; rw [hall, hodd]; simp [g79, g84, g90, IntL.toI]; try omega) | (unfold mayTx; rw [hall, hodd]; simp [g79, g84, IntL.toI]; try omega) | (unfold mayTx; rw [hall, hodd]; simp [g79, IntL.toI]; try omega)))
          · skip
            refine aw_skip ?_
            refine aw_inBlock ?_
            refine aw_region ?_
            refine aw_g (g_mv (.inl rfl) rfl) rfl rfl rfl ?_
            refine aw_g (by first | exact g_add rfl rfl rfl (wrap_eq (by first | omega | (simp; omega))) | exact g_add rfl rfl rfl rfl) rfl rfl rfl ?_
            refine aw_g (g_mv (.inr rfl) rfl) rfl rfl rfl ?_
            refine aw_nil ?_
            exact aw_next (j + 1) (⟨by omega, any_step hinv.2 hy (by simpa using fun e => ht45 e.symm)⟩) (by omega) rfl (by (repeat refine Fr.le_set ?_ (by first | rfl | (simp; done))); exact Fr.le_none _) (by (repeat refine Hp.le_set ?_ rfl); exact Hp.le_none _) (by (repeat refine Fr.below_setB ?_ rfl); exact Fr.below_none _) (by (repeat refine Hp.below_set ?_ (by decide)); exact Hp.below_none _)
        · skip
          obtain rfl : k = j := (by omega)
          refine aw_exit rfl ?_
          refine aw_inBlock ?_
          refine aw_region ?_
          refine aw_g (g_mv (.inl rfl) rfl) rfl rfl rfl ?_
          refine aw_g (by first | exact g_add rfl rfl rfl (wrap_eq (by first | omega | (simp; omega))) | exact g_add rfl rfl rfl rfl) rfl rfl rfl ?_
          refine aw_g (g_mv (.inr rfl) rfl) rfl rfl rfl ?_
          refine aw_nil ?_
          exact aw_next (k + 1) (⟨by omega, all_range_succ hout (inAt_good hx (by omega) (by rw [hinv.2]; simp))⟩) (by omega) rfl (by (repeat refine Fr.le_set ?_ (by first | rfl | (simp; done))); exact Fr.le_none _) (by (repeat refine Hp.le_set ?_ rfl); exact Hp.le_none _) (by (repeat refine Fr.below_setB ?_ rfl); exact Fr.below_none _) (by (repeat refine Hp.below_set ?_ (by decide)); exact Hp.below_none _)
  · skip
    have hall : (List.range t.ins.length).all (inAt t) = true := by have h := hinv.2; rw [show k = t.ins.length by omega] at h; exact h
    refine aw_exit rfl ?_
    refine aw_seq ?_
    refine aw_seq ?_
    refine aw_region ?_
    refine aw_g (g_mv (.inr rfl) rfl) rfl rfl rfl ?_
    refine aw_nil ?_
    refine aw_block ?_
    refine aw_loopI (ι := Nat) 1 rfl (fun (k : Nat) => ((Fr.none).set 1 (.ptr 0 0)).set 5 (.val i64T (k : Int))) (fun (k : Nat) => (Hp.none).set 0 (.box 26 txT t)) (fun (k : Nat) => k ≤ t.outs.length ∧ (t.outs.take k).any outOdd = false) (fun (k : Nat) => t.outs.length - k) (0) (⟨Nat.zero_le _, rfl⟩) (by (repeat refine Fr.le_set ?_ (by first | rfl | (simp; done))); exact Fr.le_none _) (by (repeat refine Hp.le_set ?_ rfl); exact Hp.le_none _) (by (repeat refine Fr.below_setB ?_ rfl); exact Fr.below_none _) (by (repeat refine Hp.below_set ?_ (by decide)); exact Hp.below_none _) ?_
    intro k hinv
    refine aw_seq ?_
    refine aw_seq ?_
    refine aw_region ?_
    refine aw_g (g_mv (.inl rfl) rfl) rfl rfl rfl ?_
    refine aw_g (g_fa_p rfl rfl fd_26_1 rfl) rfl rfl rfl ?_
    refine aw_g (g_load_b rfl rfl rfl L_Tx_outs ty_24) rfl rfl rfl ?_
    refine aw_g (g_len rfl rfl isl_24) rfl rfl rfl ?_
    refine aw_g (g_lss rfl rfl rfl rfl) rfl rfl rfl ?_
    refine aw_nil ?_
    refine aw_ifc (p := k < t.outs.length) rfl (by first | rfl | (rw [decide_eq_decide]; simp only [IntL.toI, id_eq]; omega) | (simp [IntL.toI]; done) | (simp [IntL.toI]; omega)) (fun ht50 => ?_) (fun ht50 => ?_)
    · skip
      obtain ⟨o, ho⟩ : ∃ o, t.outs[k]? = some o := ⟨_, List.getElem?_eq_getElem ht50⟩
      refine aw_skip ?_
      refine aw_seq ?_
      refine aw_block ?_
      refine aw_seq ?_
      refine aw_region ?_
      refine aw_g (g_fa_p rfl rfl fd_26_1 rfl) rfl rfl rfl ?_
      refine aw_g (g_load_b rfl rfl rfl L_Tx_outs ty_24) rfl rfl rfl ?_
      refine aw_g (g_mv (.inl rfl) rfl) rfl rfl rfl ?_
      refine aw_g (g_ia_i (i := k) rfl rfl rfl (by omega) sl_24 (by assumption)) rfl rfl rfl ?_
      refine aw_g (g_load_r rfl rfl ty_48) rfl rfl rfl ?_
      refine aw_alloc ze_48 rfl rfl rfl rfl ?_
      refine aw_store_b rfl rfl rfl rfl rfl (Lens.self _) ty_48 rfl ?_
      refine aw_nil ?_
      refine aw_seq ?_
      refine aw_region ?_
      refine aw_g (g_fa_p rfl rfl fd_48_0 rfl) rfl rfl rfl ?_
      refine aw_g (g_load_b rfl rfl rfl L_Out_v ty_3) rfl rfl rfl ?_
      refine aw_g (g_lss rfl rfl rfl rfl) rfl rfl rfl ?_
      refine aw_splitp (d := 60) (p := o.v < 1) rfl (by first | rfl | (rw [decide_eq_decide]; simp only [IntL.toI, id_eq]; omega) | (simp [IntL.toI]; done) | (simp [IntL.toI]; omega)) (fun g60 => ?_) (fun g60 => ?_)
      · skip
        refine aw_g (g_mv (.inl rfl) rfl) rfl rfl rfl ?_
        refine aw_gn rfl rfl rfl rfl rfl rfl rfl rfl ?_
        refine aw_gn rfl rfl rfl rfl rfl rfl rfl rfl ?_
        refine aw_gn rfl rfl rfl rfl rfl rfl rfl rfl ?_
        refine aw_g (g_pick rfl rfl rfl) rfl rfl rfl ?_
        refine aw_g (g_mv (.inl rfl) rfl) rfl rfl rfl ?_
        refine aw_gn rfl rfl rfl rfl rfl rfl rfl rfl ?_
        refine aw_gn rfl rfl rfl rfl rfl rfl rfl rfl ?_
        refine aw_gn rfl rfl rfl rfl rfl rfl rfl rfl ?_
        refine aw_g (g_pick rfl rfl rfl) rfl rfl rfl ?_
        refine aw_g (g_mv (.inl rfl) rfl) rfl rfl rfl ?_
        refine aw_gn rfl rfl rfl rfl rfl rfl rfl rfl ?_
        refine aw_gn rfl rfl rfl rfl rfl rfl rfl rfl ?_
        refine aw_gn rfl rfl rfl rfl rfl rfl rfl rfl ?_
        refine aw_g (g_pick rfl rfl rfl) rfl rfl rfl ?_
        refine aw_nil ?_
        refine aw_if_t rfl (rfl) ?_
        refine aw_seq ?_
        refine aw_region ?_
        refine aw_g (g_mv (.inr rfl) rfl) rfl rfl rfl ?_
        refine aw_nil ?_
        exact aw_ret1 rfl rfl (ret_eq rfl (by first | exact (inAt_bad hx ht11 (by omega)).symm | exact (inAt_twice hx ht11 (any_hit_take hy ht32 (by simp [ht45]))).symm | exact (odd_bad ho (by omega)).symm | (unfold mayTx; rw [hall, hodd]; simp [g79, g84, g90, IntL.toI]; try omega) | (unfold mayTx; rw [hall, hodd]; simp [g79, g84, IntL.toI]; try omega) | (unfold mayTx; rw [hall, hodd]; simp [g79, IntL.toI]; try omega)))
      · skip
        refine aw_g (g_mv (.inl rfl) rfl) rfl rfl rfl ?_
        refine aw_gi (g_fa_p rfl rfl fd_48_0 rfl) rfl rfl rfl rfl rfl rfl rfl rfl ?_
        refine aw_gi (g_load_b rfl rfl rfl L_Out_v ty_3) rfl rfl rfl rfl rfl rfl rfl rfl ?_
        refine aw_gi (g_gtr rfl rfl rfl rfl) rfl rfl rfl rfl rfl rfl rfl rfl ?_
        refine aw_splitp (d := 64) (p := 1099511627776 < o.v) rfl (by first | rfl | (rw [decide_eq_decide]; simp only [IntL.toI, id_eq]; omega) | (simp [IntL.toI]; done) | (simp [IntL.toI]; omega)) (fun g64 => ?_) (fun g64 => ?_)
        · skip
          refine aw_g (g_pick rfl rfl rfl) rfl rfl rfl ?_
          refine aw_g (g_mv (.inl rfl) rfl) rfl rfl rfl ?_
          refine aw_gn rfl rfl rfl rfl rfl rfl rfl rfl ?_
          refine aw_gn rfl rfl rfl rfl rfl rfl rfl rfl ?_
          refine aw_gn rfl rfl rfl rfl rfl rfl rfl rfl ?_
          refine aw_g (g_pick rfl rfl rfl) rfl rfl rfl ?_
          refine aw_g (g_mv (.inl rfl) rfl) rfl rfl rfl ?_
          refine aw_gn rfl rfl rfl rfl rfl rfl rfl rfl ?_
          refine aw_gn rfl rfl rfl rfl rfl rfl rfl rfl ?_
          refine aw_gn rfl rfl rfl rfl rfl rfl rfl rfl ?_
          refine aw_g (g_pick rfl rfl rfl) rfl rfl rfl ?_
          refine aw_nil ?_
          refine aw_if_t rfl (rfl) ?_
          refine aw_seq ?_
          refine aw_region ?_
          refine aw_g (g_mv (.inr rfl) rfl) rfl rfl rfl ?_
          refine aw_nil ?_
          exact aw_ret1 rfl rfl (ret_eq rfl (by first | exact (inAt_bad hx ht11 (by omega)).symm | exact (inAt_twice hx ht11 (any_hit_take hy ht32 (by simp [ht45]))).symm | exact (odd_bad ho (by omega)).symm | (unfold mayTx; rw [hall, hodd]; simp [g79, g84, g90, IntL.toI]; try omega) | (unfold mayTx; rw [hall, hodd]; simp [g79, g84, IntL.toI]; try omega) | (unfold mayTx; rw [hall, hodd]; simp [g79, IntL.toI]; try omega)))
        · skip
          refine aw_g (g_pick rfl rfl rfl) rfl rfl rfl ?_
          refine aw_g (g_mv (.inl rfl) rfl) rfl rfl rfl ?_
          refine aw_gi (g_fa_p rfl rfl fd_48_1 rfl) rfl rfl rfl rfl rfl rfl rfl rfl ?_
          refine aw_gi (g_load_b rfl rfl rfl L_Out_to ty_3) rfl rfl rfl rfl rfl rfl rfl rfl ?_
          refine aw_gi (g_lss rfl rfl rfl rfl) rfl rfl rfl rfl rfl rfl rfl rfl ?_
          refine aw_splitp (d := 69) (p := o.to < 0) rfl (by first | rfl | (rw [decide_eq_decide]; simp only [IntL.toI, id_eq]; omega) | (simp [IntL.toI]; done) | (simp [IntL.toI]; omega)) (fun g69 => ?_) (fun g69 => ?_)
          · skip
            refine aw_g (g_pick rfl rfl rfl) rfl rfl rfl ?_
            refine aw_g (g_mv (.inl rfl) rfl) rfl rfl rfl ?_
            refine aw_gn rfl rfl rfl rfl rfl rfl rfl rfl ?_
            refine aw_gn rfl rfl rfl rfl rfl rfl rfl rfl ?_
            refine aw_gn rfl rfl rfl rfl rfl rfl rfl rfl ?_
            refine aw_g (g_pick rfl rfl rfl) rfl rfl rfl ?_
            refine aw_nil ?_
            refine aw_if_t rfl (rfl) ?_
            refine aw_seq ?_
            refine aw_region ?_
            refine aw_g (g_mv (.inr rfl) rfl) rfl rfl rfl ?_
            refine aw_nil ?_
            exact aw_ret1 rfl rfl (ret_eq rfl (by first | exact (inAt_bad hx ht11 (by omega)).symm | exact (inAt_twice hx ht11 (any_hit_take hy ht32 (by simp [ht45]))).symm | exact (odd_bad ho (by omega)).symm | (unfold mayTx; rw [hall, hodd]; simp [g79, g84, g90, IntL.toI]; try omega) | (unfold mayTx; rw [hall, hodd]; simp [g79, g84, IntL.toI]; try omega) | (unfold mayTx; rw [hall, hodd]; simp [g79, IntL.toI]; try omega)))
          · skip
            refine aw_g (g_pick rfl rfl rfl) rfl rfl rfl ?_
            refine aw_g (g_mv (.inl rfl) rfl) rfl rfl rfl ?_
            refine aw_gi (g_fa_p rfl rfl fd_48_1 rfl) rfl rfl rfl rfl rfl rfl rfl rfl ?_
            refine aw_gi (g_load_b rfl rfl rfl L_Out_to ty_3) rfl rfl rfl rfl rfl rfl rfl rfl ?_
            refine aw_gi (g_gtr rfl rfl rfl rfl) rfl rfl rfl rfl rfl rfl rfl rfl ?_
            refine aw_splitp (d := 74) (p := 255 < o.to) rfl (by first | rfl | (rw [decide_eq_decide]; simp only [IntL.toI, id_eq]; omega) | (simp [IntL.toI]; done) | (simp [IntL.toI]; omega)) (fun g74 => ?_) (fun g74 => ?_)
            · skip
              refine aw_g (g_pick rfl rfl rfl) rfl rfl rfl ?_
              refine aw_nil ?_
              refine aw_if_t rfl (rfl) ?_
              refine aw_seq ?_
              refine aw_region ?_
              refine aw_g (g_mv (.inr rfl) rfl) rfl rfl rfl ?_
              refine aw_nil ?_
              exact aw_ret1 rfl rfl (ret_eq rfl (by first | exact (inAt_bad hx ht11 (by omega)).symm | exact (inAt_twice hx ht11 (any_hit_take hy ht32 (by simp [ht45]))).symm | exact (odd_bad ho (by omega)).symm | (unfold mayTx; rw [hall, hodd]; simp [g79, g84, g90, IntL.toI]; try omega) | (unfold mayTx; rw [hall, hodd]; simp [g79, g84, IntL.toI]; try omega) | (unfold mayTx; rw [hall, hodd]; simp [g79, IntL.toI]; try omega)))
            · skip
              refine aw_g (g_pick rfl rfl rfl) rfl rfl rfl ?_
              refine aw_nil ?_
              refine aw_if_f rfl (rfl) ?_
              refine aw_skip ?_
              refine aw_inBlock ?_
              refine aw_region ?_
              refine aw_g (g_mv (.inl rfl) rfl) rfl rfl rfl ?_
              refine aw_g (by first | exact g_add rfl rfl rfl (wrap_eq (by first | omega | (simp; omega))) | exact g_add rfl rfl rfl rfl) rfl rfl rfl ?_
              refine aw_g (g_mv (.inr rfl) rfl) rfl rfl rfl ?_
              refine aw_nil ?_
              exact aw_next (k + 1) (⟨by omega, any_step hinv.2 ho (by unfold outOdd; apply decide_eq_false; omega)⟩) (by omega) rfl (by (repeat refine Fr.le_set ?_ (by first | rfl | (simp; done))); exact Fr.le_none _) (by (repeat refine Hp.le_set ?_ rfl); exact Hp.le_none _) (by (repeat refine Fr.below_setB ?_ rfl); exact Fr.below_none _) (by (repeat refine Hp.below_set ?_ (by decide)); exact Hp.below_none _)
    · skip
      have hodd : t.outs.any outOdd = false := by have h := hinv.2; rw [List.take_of_length_le (by omega)] at h; exact h
      refine aw_exit rfl ?_
      refine aw_seq ?_
      refine aw_region ?_
      refine aw_g (g_fa_p rfl rfl fd_26_0 rfl) rfl rfl rfl ?_
      refine aw_g (g_load_b rfl rfl rfl L_Tx_ins ty_23) rfl rfl rfl ?_
      refine aw_g (g_len rfl rfl isl_23) rfl rfl rfl ?_
      refine aw_g (g_leq rfl rfl rfl rfl) rfl rfl rfl ?_
      refine aw_splitp (d := 79) (p := t.ins.length ≤ 3) rfl (by first | rfl | (rw [decide_eq_decide]; simp only [IntL.toI, id_eq]; omega) | (simp [IntL.toI]; done) | (simp [IntL.toI]; omega)) (fun g79 => ?_) (fun g79 => ?_)
      · skip
        refine aw_g (g_mv (.inl rfl) rfl) rfl rfl rfl ?_
        refine aw_gi (g_fa_p rfl rfl fd_26_1 rfl) rfl rfl rfl rfl rfl rfl rfl rfl ?_
        refine aw_gi (g_load_b rfl rfl rfl L_Tx_outs ty_24) rfl rfl rfl rfl rfl rfl rfl rfl ?_
        refine aw_gi (g_len rfl rfl isl_24) rfl rfl rfl rfl rfl rfl rfl rfl ?_
        refine aw_gi (g_geq rfl rfl rfl rfl) rfl rfl rfl rfl rfl rfl rfl rfl ?_
        refine aw_splitp (d := 84) (p := 1 ≤ t.outs.length) rfl (by first | rfl | (rw [decide_eq_decide]; simp only [IntL.toI, id_eq]; omega) | (simp [IntL.toI]; done) | (simp [IntL.toI]; omega)) (fun g84 => ?_) (fun g84 => ?_)
        · skip
          refine aw_g (g_pick rfl rfl rfl) rfl rfl rfl ?_
          refine aw_g (g_mv (.inl rfl) rfl) rfl rfl rfl ?_
          refine aw_gi (g_fa_p rfl rfl fd_26_1 rfl) rfl rfl rfl rfl rfl rfl rfl rfl ?_
          refine aw_gi (g_load_b rfl rfl rfl L_Tx_outs ty_24) rfl rfl rfl rfl rfl rfl rfl rfl ?_
          refine aw_gi (g_len rfl rfl isl_24) rfl rfl rfl rfl rfl rfl rfl rfl ?_
          refine aw_gi (g_leq rfl rfl rfl rfl) rfl rfl rfl rfl rfl rfl rfl rfl ?_
          refine aw_splitp (d := 90) (p := t.outs.length ≤ 3) rfl (by first | rfl | (rw [decide_eq_decide]; simp only [IntL.toI, id_eq]; omega) | (simp [IntL.toI]; done) | (simp [IntL.toI]; omega)) (fun g90 => ?_) (fun g90 => ?_)
          · skip
            refine aw_g (g_pick rfl rfl rfl) rfl rfl rfl ?_
            refine aw_g (g_mv (.inr rfl) rfl) rfl rfl rfl ?_
            refine aw_nil ?_
            exact aw_ret1 rfl rfl (ret_eq rfl (by first | exact (inAt_bad hx ht11 (by omega)).symm | exact (inAt_twice hx ht11 (any_hit_take hy ht32 (by simp [ht45]))).symm | exact (odd_bad ho (by omega)).symm | (unfold mayTx; rw [hall, hodd]; simp [g79, g84, g90, IntL.toI]; try omega) | (unfold mayTx; rw [hall, hodd]; simp [g79, g84, IntL.toI]; try omega) | (unfold mayTx; rw [hall, hodd]; simp [g79, IntL.toI]; try omega)))
          · skip
            refine aw_g (g_pick rfl rfl rfl) rfl rfl rfl ?_
            refine aw_g (g_mv (.inr rfl) rfl) rfl rfl rfl ?_
            refine aw_nil ?_
            exact aw_ret1 rfl rfl (ret_eq rfl (by first | exact (inAt_bad hx ht11 (by omega)).symm | exact (inAt_twice hx ht11 (any_hit_take hy ht32 (by simp [ht45]))).symm | exact (odd_bad ho (by omega)).symm | (unfold mayTx; rw [hall, hodd]; simp [g79, g84, g90, IntL.toI]; try omega) | (unfold mayTx; rw [hall, hodd]; simp [g79, g84, IntL.toI]; try omega) | (unfold mayTx; rw [hall, hodd]; simp [g79, IntL.toI]; try omega)))
        · skip
          refine aw_g (g_pick rfl rfl rfl) rfl rfl rfl ?_
          refine aw_g (g_mv (.inl rfl) rfl) rfl rfl rfl ?_
          refine aw_gn rfl rfl rfl rfl rfl rfl rfl rfl ?_
          refine aw_gn rfl rfl rfl rfl rfl rfl rfl rfl ?_
          refine aw_gn rfl rfl rfl rfl rfl rfl rfl rfl ?_
          refine aw_gn rfl rfl rfl rfl rfl rfl rfl rfl ?_
          refine aw_g (g_pick rfl rfl rfl) rfl rfl rfl ?_
          refine aw_g (g_mv (.inr rfl) rfl) rfl rfl rfl ?_
          refine aw_nil ?_
          exact aw_ret1 rfl rfl (ret_eq rfl (by first | exact (inAt_bad hx ht11 (by omega)).symm | exact (inAt_twice hx ht11 (any_hit_take hy ht32 (by simp [ht45]))).symm | exact (odd_bad ho (by omega)).symm | (unfold mayTx; rw [hall, hodd]; simp [g79, g84, g90, IntL.toI]; try omega) | (unfold mayTx; rw [hall, hodd]; simp [g79, g84, IntL.toI]; try omega) | (unfold mayTx; rw [hall, hodd]; simp [g79, IntL.toI]; try omega)))
      · skip
        refine aw_g (g_mv (.inl rfl) rfl) rfl rfl rfl ?_
        refine aw_gn rfl rfl rfl rfl rfl rfl rfl rfl ?_
        refine aw_gn rfl rfl rfl rfl rfl rfl rfl rfl ?_
        refine aw_gn rfl rfl rfl rfl rfl rfl rfl rfl ?_
        refine aw_gn rfl rfl rfl rfl rfl rfl rfl rfl ?_
        refine aw_g (g_pick rfl rfl rfl) rfl rfl rfl ?_
        refine aw_g (g_mv (.inl rfl) rfl) rfl rfl rfl ?_
        refine aw_gn rfl rfl rfl rfl rfl rfl rfl rfl ?_
        refine aw_gn rfl rfl rfl rfl rfl rfl rfl rfl ?_
        refine aw_gn rfl rfl rfl rfl rfl rfl rfl rfl ?_
        refine aw_gn rfl rfl rfl rfl rfl rfl rfl rfl ?_
        refine aw_g (g_pick rfl rfl rfl) rfl rfl rfl ?_
        refine aw_g (g_mv (.inr rfl) rfl) rfl rfl rfl ?_
        refine aw_nil ?_
        exact aw_ret1 rfl rfl (ret_eq rfl (by first | exact (inAt_bad hx ht11 (by omega)).symm | exact (inAt_twice hx ht11 (any_hit_take hy ht32 (by simp [ht45]))).symm | exact (odd_bad ho (by omega)).symm | (unfold mayTx; rw [hall, hodd]; simp [g79, g84, g90, IntL.toI]; try omega) | (unfold mayTx; rw [hall, hodd]; simp [g79, g84, IntL.toI]; try omega) | (unfold mayTx; rw [hall, hodd]; simp [g79, IntL.toI]; try omega)))

end Go.Proofs.Ytmfgemnmelbflaa
