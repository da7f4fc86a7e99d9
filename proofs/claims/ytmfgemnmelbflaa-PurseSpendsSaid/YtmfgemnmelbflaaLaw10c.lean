/- The laws of layer 10 (purse): PurseSpends. -/
import Derived.Test.YtmfgemnmelbflaaLaw10b
set_option maxRecDepth 20000
namespace Go.Proofs.Ytmfgemnmelbflaa
set_option linter.unusedVariables false
set_option linter.unusedSimpArgs false
open Go.Ab Go.RowKit

theorem del_mem {l : List Coin} {i : Nat} {d c : Coin} (hd : l[i]? = some d) (hs : Sorted l) : c ∈ l.take i ++ l.drop (i + 1) ↔ c ∈ l ∧ c.inn ≠ d.inn := by
  rw [← List.eraseIdx_eq_take_drop_succ, List.mem_eraseIdx_iff_getElem?]
  constructor
  · rintro ⟨j, hj, hc⟩
    refine ⟨List.mem_of_getElem? hc, fun e => ?_⟩
    obtain ⟨h1, h2⟩ := List.getElem?_eq_some_iff.1 hd
    obtain ⟨h3, h4⟩ := List.getElem?_eq_some_iff.1 hc
    have h0 := ordIn_zero.2 e
    have h5 := ordIn_neg c.inn d.inn
    rcases Nat.lt_or_gt_of_ne hj with h | h
    · have := List.pairwise_iff_getElem.1 hs j i h3 h1 h
      rw [h2, h4] at this; omega
    · have := List.pairwise_iff_getElem.1 hs i j h1 h3 h
      rw [h2, h4] at this; omega
  · rintro ⟨hc, hn⟩
    obtain ⟨j, hj⟩ := List.mem_iff_getElem?.1 hc
    refine ⟨j, fun e => hn ?_, hj⟩
    rw [e, hd] at hj; injection hj with hj; rw [hj]
theorem takeIns_mem : ∀ {ins : List In} {p rest : List Coin} {n m : Int}, takeIns p n ins = some (rest, m) → Sorted p → ∀ c, c ∈ rest ↔ c ∈ p ∧ ∀ x ∈ ins, x ≠ c.inn
  | [], p, rest, n, m, h, hs, c => by
    rw [takeIns.eq_1] at h
    injection h with h; injection h with h1 h2; subst h1
    exact ⟨fun h => ⟨h, fun x hx => absurd hx List.not_mem_nil⟩, fun h => h.1⟩
  | x :: ins, p, rest, n, m, h, hs, c => by
    rw [takeIns.eq_2] at h
    split at h
    · cases h
    · rename_i d hd
      split at h
      · rename_i h0
        have h0 := ordIn_zero.1 h0
        rw [takeIns_mem h (del_sorted _ hs) c, del_mem hd hs, h0]
        constructor
        · rintro ⟨⟨h1, h2⟩, h3⟩
          refine ⟨h1, fun y hy => ?_⟩
          rcases List.mem_cons.1 hy with e | hy
          · rw [e]; exact fun e => h2 e.symm
          · exact h3 y hy
        · rintro ⟨h1, h2⟩
          exact ⟨⟨h1, fun e => h2 x List.mem_cons_self e.symm⟩, fun y hy => h2 y (List.mem_cons_of_mem _ hy)⟩
      · cases h
theorem newN_mem {id : Ab.Id} {outs : List Out} {j : Nat} {o : Out} (h : outs[j]? = some o) : (⟨⟨id, (j : Int)⟩, o⟩ : Coin) ∈ newN id outs outs.length := by
  unfold newN
  rw [List.take_length]
  exact List.mem_map.2 ⟨(o, j), List.mk_mem_zipIdx_iff_getElem?.2 h, rfl⟩
theorem newN_tx {id : Ab.Id} {outs : List Out} {k : Nat} {c : Coin} (h : c ∈ newN id outs k) : c.inn.tx = id := by
  unfold newN at h
  obtain ⟨x, _, rfl⟩ := List.mem_map.1 h
  rfl
theorem spend_in {p : List Coin} {t : Tx} (h : (spendOf p t).2.2 = 0) : mayCoins p = true ∧ mayTx t = true ∧ t.ins ≠ [] ∧ mayCoins (spendOf p t).1 = true ∧ (spendOf p t).1.length + t.ins.length = p.length + t.outs.length ∧ (∀ c, c ∈ (spendOf p t).1 ↔ (c ∈ p ∧ ∀ x ∈ t.ins, x ≠ c.inn) ∨ c ∈ newN (idOf t) t.outs t.outs.length) := by
  by_cases hall : mayCoins p = true ∧ mayTx t = true ∧ t.ins ≠ []
  · refine ⟨hall.1, hall.2.1, hall.2.2, spendOf_may hall.1, ?_⟩
    obtain ⟨h1, h2, h3⟩ := mayCoins_iff.1 hall.1
    have hT := coins_tot h1 h3
    unfold spendOf at h ⊢
    rw [if_neg (Classical.not_not.2 hall)] at h ⊢
    split at h
    · exact absurd h (by simp)
    · rename_i rest n hrest
      have ht := takeIns_tot hrest h1 h3 (Int.le_refl _) (by omega)
      have hm := takeIns_mem hrest h2
      split at h
      · exact absurd h (by simp)
      · rename_i hw
        rw [if_neg hw]
        split at h
        · rename_i hz
          rw [if_pos hz]
          split at h
          · exact absurd h (by simp)
          · rename_i hl
            rw [if_neg hl]
            have hmt := (madeOf_tot hz).2
            refine ⟨by simp only []; omega, fun c => ?_⟩
            rw [← hm c]
            unfold madeOf at hz ⊢
            split
            · rename_i e; rw [if_pos e] at hz; exact absurd hz (by decide)
            · rw [(sortC_perm _).mem_iff, List.mem_append]
        · rename_i hz; exact absurd h hz
  · unfold spendOf at h
    rw [if_pos hall] at h
    exact absurd h (by simp)
theorem spend_again {q : List Coin} {t : Tx} (hne : t.ins ≠ []) (hg : ∀ x ∈ t.ins, ∀ c ∈ q, c.inn ≠ x) : ¬ (spendOf q t).2.2 = 0 := by
  obtain ⟨x, l, hx⟩ := List.exists_cons_of_ne_nil hne
  have hn : takeIns q 0 t.ins = none := by
    rw [hx, takeIns.eq_2]
    split
    · rfl
    · rename_i c hc
      rw [if_neg]
      intro h0
      exact hg x (by rw [hx]; exact List.mem_cons_self) c (List.mem_of_getElem? hc) (ordIn_zero.1 h0)
  unfold spendOf
  split
  · simp
  · rw [hn]; simp
theorem find_is {q : List Coin} {c : Coin} {x : In} (hq : mayCoins q = true) (hc : c ∈ q) (hx : c.inn = x) : ∃ i : Nat, findC q x = i ∧ q[i]? = some c := by
  obtain ⟨i, hi⟩ := List.mem_iff_getElem?.1 hc
  exact ⟨i, by rw [← hx]; exact find_sorted hq hi, hi⟩
theorem find_not {q : List Coin} {x : In} (h : ∀ c ∈ q, c.inn ≠ x) : findC q x = -1 := by
  have h1 := findC_ge q x
  by_cases h0 : 0 ≤ findC q x
  · obtain ⟨c, hc, hcx, _⟩ := findC_some h0
    exact absurd hcx (h c (List.mem_of_getElem? hc))
  · omega
theorem take_step {α : Type} {P : α → Prop} {l : List α} {j : Nat} {x : α} (h : ∀ y ∈ l.take j, P y) (hx : l[j]? = some x) (hp : P x) : ∀ y ∈ l.take (j + 1), P y := fun y hy => by
  rw [List.take_add_one, hx, List.mem_append] at hy
  rcases hy with hy | hy
  · exact h y hy
  · simp at hy; subst hy; exact hp

theorem PurseSpends_ok (p : List Coin) (t : Tx) (k : Int) : Tells P 5 [.val (sl coinT) p, .val txT t, .val i64T k] (.val boolT true) := by
  refine fn_of_aw Try.func5 rfl rfl rfl (fun ext w hext => ?_)
  refine aw_fact (d := 0) rfl fact_sl (fun hsl0 => ?_)
  refine aw_fact (d := 2) rfl fact_int (fun hin2 => ?_)
  refine aw_seq ?_
  refine aw_region ?_
  refine aw_box rfl rfl rfl rfl rfl ?_
  refine aw_g (g_mv (.inr rfl) rfl) rfl rfl rfl ?_
  refine aw_nil ?_
  refine aw_seq ?_
  refine aw_region ?_
  refine aw_g (g_call (awake_ok) rfl fn_9 trivial rfl) rfl rfl rfl ?_
  refine aw_g (g_mv (.inr rfl) rfl) rfl rfl rfl ?_
  refine aw_nil ?_
  refine aw_seq ?_
  refine aw_region ?_
  refine aw_g (g_load_b rfl rfl rfl (Lens.self _) ty_26) rfl rfl rfl ?_
  refine aw_g (g_call (few_ok _) rfl fn_10 ⟨(arg_v rfl), trivial⟩ rfl) rfl rfl rfl ?_
  refine aw_g (g_mv (.inr rfl) rfl) rfl rfl rfl ?_
  refine aw_nil ?_
  refine aw_seq ?_
  refine aw_seq ?_
  refine aw_region ?_
  refine aw_g (g_mv (.inl rfl) rfl) rfl rfl rfl ?_
  refine aw_g (g_not rfl rfl) rfl rfl rfl ?_
  refine aw_isf (d := 26) rfl (rfl) ?_
  refine aw_g (g_mv (.inl rfl) rfl) rfl rfl rfl ?_
  refine aw_gi (g_mv (.inl rfl) rfl) rfl rfl rfl rfl rfl rfl rfl rfl ?_
  refine aw_gi (g_not rfl rfl) rfl rfl rfl rfl rfl rfl rfl rfl ?_
  refine aw_splitp (d := 29) (p := ¬ few t = true) rfl (by simp) (fun g29 => ?_) (fun g29 => ?_)
  · skip
    refine aw_g (g_pick rfl rfl rfl) rfl rfl rfl ?_
    refine aw_g (g_mv (.inl rfl) rfl) rfl rfl rfl ?_
    refine aw_gn rfl rfl rfl rfl rfl rfl rfl rfl ?_
    refine aw_gn rfl rfl rfl rfl rfl rfl rfl rfl ?_
    refine aw_gn rfl rfl rfl rfl rfl rfl rfl rfl ?_
    refine aw_g (g_pick rfl rfl rfl) rfl rfl rfl ?_
    refine aw_nil ?_
    refine aw_if_t rfl (rfl) ?_
    refine aw_seq ?_
    refine aw_region ?_
    refine aw_g (g_mv (.inl rfl) rfl) rfl rfl rfl ?_
    refine aw_g (g_mv (.inr rfl) rfl) rfl rfl rfl ?_
    refine aw_nil ?_
    exact aw_ret1 rfl rfl (ret_eq rfl rfl)
  · skip
    refine aw_g (g_pick rfl rfl rfl) rfl rfl rfl ?_
    refine aw_g (g_mv (.inl rfl) rfl) rfl rfl rfl ?_
    refine aw_gi (g_mv (.inl rfl) rfl) rfl rfl rfl rfl rfl rfl rfl rfl ?_
    refine aw_gi (g_len rfl rfl isl_22) rfl rfl rfl rfl rfl rfl rfl rfl ?_
    refine aw_gi (g_gtr rfl rfl rfl rfl) rfl rfl rfl rfl rfl rfl rfl rfl ?_
    refine aw_splitp (d := 34) (p := 60 < p.length) rfl (by first | rfl | (rw [decide_eq_decide]; simp only [IntL.toI, id_eq]; omega) | (simp [IntL.toI]; done) | (simp [IntL.toI]; omega)) (fun g34 => ?_) (fun g34 => ?_)
    · skip
      refine aw_g (g_pick rfl rfl rfl) rfl rfl rfl ?_
      refine aw_nil ?_
      refine aw_if_t rfl (rfl) ?_
      refine aw_seq ?_
      refine aw_region ?_
      refine aw_g (g_mv (.inl rfl) rfl) rfl rfl rfl ?_
      refine aw_g (g_mv (.inr rfl) rfl) rfl rfl rfl ?_
      refine aw_nil ?_
      exact aw_ret1 rfl rfl (ret_eq rfl rfl)
    · skip
      refine aw_g (g_pick rfl rfl rfl) rfl rfl rfl ?_
      refine aw_nil ?_
      refine aw_if_f rfl (rfl) ?_
      refine aw_skip ?_
      refine aw_seq ?_
      refine aw_region ?_
      refine aw_g (g_mv (.inl rfl) rfl) rfl rfl rfl ?_
      refine aw_g (g_load_b rfl rfl rfl (Lens.self _) ty_26) rfl rfl rfl ?_
      refine aw_g (g_call (tells_pub3 (spend_ok p t (by omega))) rfl fn_12 ⟨(arg_v rfl), (arg_v rfl), trivial⟩ rfl) rfl rfl rfl ?_
      refine aw_g (by first | exact g_mv (.inl rfl) rfl | exact g_mp (.inl rfl) rfl | exact g_mo (.inl rfl) rfl | exact g_ml (.inl rfl) rfl | exact g_mc (.inl rfl) rfl | exact g_mr (.inl rfl) rfl | exact g_mf1 (.inl rfl) rfl | exact g_mf2 (.inl rfl) rfl | exact g_mw (.inl rfl) rfl | exact g_me (.inl rfl) rfl | exact g_ms (.inl rfl) rfl | exact g_mt2 (.inl rfl) rfl | exact g_mt3 (.inl rfl) rfl | exact g_mi (.inl rfl) rfl) rfl rfl rfl ?_
      refine aw_g (by first | exact g_x20 rfl rfl | exact g_x30 rfl rfl) rfl rfl rfl ?_
      refine aw_g (by first | exact g_x21 rfl rfl | exact g_x31 rfl rfl) rfl rfl rfl ?_
      refine aw_g (g_x32 rfl rfl) rfl rfl rfl ?_
      refine aw_g (g_mv (.inr rfl) rfl) rfl rfl rfl ?_
      refine aw_g (g_mv (.inr rfl) rfl) rfl rfl rfl ?_
      refine aw_g (g_mv (.inr rfl) rfl) rfl rfl rfl ?_
      refine aw_nil ?_
      refine aw_seq ?_
      refine aw_seq ?_
      refine aw_region ?_
      refine aw_g (g_mv (.inl rfl) rfl) rfl rfl rfl ?_
      refine aw_g (g_neq rfl rfl rfl rfl) rfl rfl rfl ?_
      refine aw_nil ?_
      refine aw_ifc (p := ¬ (spendOf p t).2.2 = 0) rfl (by simp [IntL.toI]) (fun ht45 => ?_) (fun ht45 => ?_)
      · skip
        refine aw_seq ?_
        refine aw_region ?_
        refine aw_g (g_mv (.inr rfl) rfl) rfl rfl rfl ?_
        refine aw_nil ?_
        exact aw_ret1 rfl rfl (ret_eq rfl rfl)
      · skip
        obtain ⟨hmp, hmt, hne, hmq, hlen, hmem⟩ := spend_in (Classical.not_not.1 ht45)
        have hpl := mayCoins_len hmp
        have hql := mayCoins_len hmq
        have htl := mayTx_lens hmt
        refine aw_skip ?_
        refine aw_seq ?_
        refine aw_region ?_
        refine aw_g (g_load_b rfl rfl rfl (Lens.self _) ty_26) rfl rfl rfl ?_
        refine aw_g (g_call (id_ok _) rfl fn_24 ⟨(arg_v rfl), trivial⟩ rfl) rfl rfl rfl ?_
        refine aw_alloc ze_40 rfl rfl rfl rfl ?_
        refine aw_store_b rfl rfl rfl rfl rfl (Lens.self _) ty_40 rfl ?_
        refine aw_nil ?_
        refine aw_seq ?_
        refine aw_seq ?_
        refine aw_region ?_
        refine aw_g (g_mv (.inr rfl) rfl) rfl rfl rfl ?_
        refine aw_nil ?_
        refine aw_block ?_
        refine aw_loopI (ι := Nat) 2 rfl (fun (j : Nat) => ((((((Fr.none).set 0 (.val (sl coinT) p)).set 2 (.val i64T k)).set 4 (.ptr 0 0)).set 9 (.val (sl coinT) (spendOf p t).1)).set 12 (.ptr 1 0)).set 13 (.val i64T (j : Int))) (fun (j : Nat) => ((Hp.none).set 0 (.box 26 txT t)).set 1 (.box 40 idT (idOf t))) (fun (j : Nat) => j ≤ t.ins.length ∧ ∀ x ∈ t.ins.take j, x.tx ≠ idOf t) (fun (j : Nat) => t.ins.length - j) (0) (⟨Nat.zero_le _, by simp⟩) (by (repeat refine Fr.le_set ?_ (by first | rfl | (simp; done))); exact Fr.le_none _) (by (repeat refine Hp.le_set ?_ rfl); exact Hp.le_none _) (by (repeat refine Fr.below_setB ?_ rfl); exact Fr.below_none _) (by (repeat refine Hp.below_set ?_ (by decide)); exact Hp.below_none _) ?_
        intro j hinv
        refine aw_seq ?_
        refine aw_seq ?_
        refine aw_region ?_
        refine aw_g (g_mv (.inl rfl) rfl) rfl rfl rfl ?_
        refine aw_g (g_fa_p rfl rfl fd_26_0 rfl) rfl rfl rfl ?_
        refine aw_g (g_load_b rfl rfl rfl L_Tx_ins ty_23) rfl rfl rfl ?_
        refine aw_g (g_len rfl rfl isl_23) rfl rfl rfl ?_
        refine aw_g (g_lss rfl rfl rfl rfl) rfl rfl rfl ?_
        refine aw_nil ?_
        refine aw_ifc (p := j < t.ins.length) rfl (by first | rfl | (rw [decide_eq_decide]; simp only [IntL.toI, id_eq]; omega) | (simp [IntL.toI]; done) | (simp [IntL.toI]; omega)) (fun ht52 => ?_) (fun ht52 => ?_)
        · skip
          obtain ⟨x, hx⟩ : ∃ x, t.ins[j]? = some x := ⟨_, List.getElem?_eq_getElem ht52⟩
          refine aw_skip ?_
          refine aw_seq ?_
          refine aw_block ?_
          refine aw_seq ?_
          refine aw_draw mixed (by decide +kernel) ?_
          refine GK.g (g_fa_p rfl rfl fd_26_0 rfl) rfl rfl rfl ?_
          refine GK.g (g_load_b rfl rfl rfl L_Tx_ins ty_23) rfl rfl rfl ?_
          refine GK.g (g_mv (.inl rfl) rfl) rfl rfl rfl ?_
          refine GK.g (g_ia_i (i := j) rfl rfl rfl (by omega) sl_23 (by assumption)) rfl rfl rfl ?_
          refine GK.g (g_fa_r rfl rfl fd_42_0 L_In_tx) rfl rfl rfl ?_
          refine GK.g (g_load_r rfl rfl ty_40) rfl rfl rfl ?_
          refine GK.g (g_load_b rfl rfl rfl (Lens.self _) ty_40) rfl rfl rfl ?_
          refine GK.g (g_eqlS rfl rfl rfl (eqt_40)) rfl rfl rfl ?_
          refine GK.nil ?_
          refine aw_ifc (p := x.tx = idOf t) rfl (by first | rfl | (rw [decide_eq_decide]; simp only [IntL.toI, id_eq]; omega) | (simp [IntL.toI]; done) | (simp [IntL.toI]; omega)) (fun ht62 => ?_) (fun ht62 => ?_)
          · skip
            refine aw_seq ?_
            refine aw_region ?_
            refine aw_g (g_mv (.inr rfl) rfl) rfl rfl rfl ?_
            refine aw_nil ?_
            exact aw_ret1 rfl rfl (ret_eq rfl rfl)
          · skip
            refine aw_skip ?_
            refine aw_inBlock ?_
            refine aw_region ?_
            refine aw_g (g_mv (.inl rfl) rfl) rfl rfl rfl ?_
            refine aw_g (by first | exact g_add rfl rfl rfl (wrap_eq (by first | omega | (simp; omega))) | exact g_add rfl rfl rfl rfl) rfl rfl rfl ?_
            refine aw_g (g_mv (.inr rfl) rfl) rfl rfl rfl ?_
            refine aw_nil ?_
            exact aw_next (j + 1) (⟨by omega, take_step hinv.2 hx ht62⟩) (by omega) rfl (by (repeat refine Fr.le_set ?_ (by first | rfl | (simp; done))); exact Fr.le_none _) (by (repeat refine Hp.le_set ?_ rfl); exact Hp.le_none _) (by (repeat refine Fr.below_setB ?_ rfl); exact Fr.below_none _) (by (repeat refine Hp.below_set ?_ (by decide)); exact Hp.below_none _)
        · skip
          obtain rfl : j = t.ins.length := (by omega)
          have hown : ∀ x ∈ t.ins, x.tx ≠ idOf t := by have h := hinv.2; rw [List.take_length] at h; exact h
          have hgone : ∀ x ∈ t.ins, ∀ c ∈ (spendOf p t).1, c.inn ≠ x := fun x hx c hc e => by rcases (hmem c).1 hc with h | h; exact h.2 x hx e.symm; exact hown x hx (by rw [← e]; exact newN_tx h)
          have hag := spend_again hne hgone
          refine aw_exit rfl ?_
          refine aw_seq ?_
          refine aw_seq ?_
          refine aw_region ?_
          refine aw_g (g_mv (.inl rfl) rfl) rfl rfl rfl ?_
          refine aw_g (g_len rfl rfl isl_22) rfl rfl rfl ?_
          refine aw_g (g_mv (.inl rfl) rfl) rfl rfl rfl ?_
          refine aw_g (g_len rfl rfl isl_22) rfl rfl rfl ?_
          refine aw_g (g_fa_p rfl rfl fd_26_0 rfl) rfl rfl rfl ?_
          refine aw_g (g_load_b rfl rfl rfl L_Tx_ins ty_23) rfl rfl rfl ?_
          refine aw_g (g_len rfl rfl isl_23) rfl rfl rfl ?_
          refine aw_g (by first | exact g_sub rfl rfl rfl (wrap_eq (by first | omega | (simp; omega))) | exact g_sub rfl rfl rfl rfl) rfl rfl rfl ?_
          refine aw_g (g_fa_p rfl rfl fd_26_1 rfl) rfl rfl rfl ?_
          refine aw_g (g_load_b rfl rfl rfl L_Tx_outs ty_24) rfl rfl rfl ?_
          refine aw_g (g_len rfl rfl isl_24) rfl rfl rfl ?_
          refine aw_g (by first | exact g_add rfl rfl rfl (wrap_eq (by first | omega | (simp; omega))) | exact g_add rfl rfl rfl rfl) rfl rfl rfl ?_
          refine aw_g (g_neq rfl rfl rfl rfl) rfl rfl rfl ?_
          refine aw_nil ?_
          refine aw_if_f rfl (by simp [IntL.toI]; omega) ?_
          refine aw_skip ?_
          refine aw_seq ?_
          refine aw_seq ?_
          refine aw_region ?_
          refine aw_g (g_mv (.inr rfl) rfl) rfl rfl rfl ?_
          refine aw_nil ?_
          refine aw_block ?_
          refine aw_loopI (ι := Nat) 2 rfl (fun (j : Nat) => ((((((Fr.none).set 0 (.val (sl coinT) p)).set 2 (.val i64T k)).set 4 (.ptr 0 0)).set 9 (.val (sl coinT) (spendOf p t).1)).set 12 (.ptr 1 0)).set 14 (.val i64T (j : Int))) (fun (j : Nat) => ((Hp.none).set 0 (.box 26 txT t)).set 1 (.box 40 idT (idOf t))) (fun (j : Nat) => j ≤ t.outs.length) (fun (j : Nat) => t.outs.length - j) (0) (Nat.zero_le _) (by (repeat refine Fr.le_set ?_ (by first | rfl | (simp; done))); exact Fr.le_none _) (by (repeat refine Hp.le_set ?_ rfl); exact Hp.le_none _) (by (repeat refine Fr.below_setB ?_ rfl); exact Fr.below_none _) (by (repeat refine Hp.below_set ?_ (by decide)); exact Hp.below_none _) ?_
          intro j hinv
          refine aw_seq ?_
          refine aw_seq ?_
          refine aw_region ?_
          refine aw_g (g_mv (.inl rfl) rfl) rfl rfl rfl ?_
          refine aw_g (g_fa_p rfl rfl fd_26_1 rfl) rfl rfl rfl ?_
          refine aw_g (g_load_b rfl rfl rfl L_Tx_outs ty_24) rfl rfl rfl ?_
          refine aw_g (g_len rfl rfl isl_24) rfl rfl rfl ?_
          refine aw_g (g_lss rfl rfl rfl rfl) rfl rfl rfl ?_
          refine aw_nil ?_
          refine aw_ifc (p := j < t.outs.length) rfl (by first | rfl | (rw [decide_eq_decide]; simp only [IntL.toI, id_eq]; omega) | (simp [IntL.toI]; done) | (simp [IntL.toI]; omega)) (fun ht80 => ?_) (fun ht80 => ?_)
          · skip
            obtain ⟨o, ho⟩ : ∃ o, t.outs[j]? = some o := ⟨_, List.getElem?_eq_getElem ht80⟩
            refine aw_skip ?_
            refine aw_seq ?_
            refine aw_block ?_
            refine aw_seq ?_
            refine aw_region ?_
            refine aw_g (g_mv (.inl rfl) rfl) rfl rfl rfl ?_
            refine aw_g (g_load_b rfl rfl rfl (Lens.self _) ty_40) rfl rfl rfl ?_
            refine aw_g (g_mv (.inl rfl) rfl) rfl rfl rfl ?_
            refine aw_g (g_build rfl ze_42 bd_42 (.cons fd_42_0 L_In_tx ty_40 rfl (.cons fd_42_1 L_In_i ty_3 rfl .nil)) rfl) rfl rfl rfl ?_
            refine aw_g (g_call (find_ok (spendOf p t).1 ⟨idOf t, (j : Int)⟩) rfl fn_18 ⟨(arg_v rfl), (arg_v rfl), trivial⟩ rfl) rfl rfl rfl ?_
            obtain ⟨i, hi, hqi⟩ := find_is hmq ((hmem _).2 (.inr (newN_mem ho))) rfl
            have hil := (List.getElem?_eq_some_iff.1 hqi).1
            refine aw_reval (d := 87) (y := (i : Int)) rfl hi ?_
            refine aw_g (g_mv (.inr rfl) rfl) rfl rfl rfl ?_
            refine aw_nil ?_
            refine aw_seq ?_
            refine aw_draw mixed (by decide +kernel) ?_
            refine GK.g (g_mv (.inl rfl) rfl) rfl rfl rfl ?_
            refine GK.g (g_lss rfl rfl rfl rfl) rfl rfl rfl ?_
            refine GK_isf (d := 89) rfl (decide_eq_false (by simp only [IntL.toI, id_eq]; omega)) ?_
            refine GK.g (g_mv (.inl rfl) rfl) rfl rfl rfl ?_
            refine GK.gi (g_mv (.inl rfl) rfl) rfl rfl rfl rfl rfl rfl rfl rfl ?_
            refine GK.gi (g_mv (.inl rfl) rfl) rfl rfl rfl rfl rfl rfl rfl rfl ?_
            refine GK.gi (g_len rfl rfl isl_22) rfl rfl rfl rfl rfl rfl rfl rfl ?_
            refine GK.gi (g_geq rfl rfl rfl rfl) rfl rfl rfl rfl rfl rfl rfl rfl ?_
            refine GK_isf (d := 94) rfl (decide_eq_false (by simp only [IntL.toI, id_eq]; omega)) ?_
            refine GK.g (g_pick rfl rfl rfl) rfl rfl rfl ?_
            refine GK.g (g_mv (.inl rfl) rfl) rfl rfl rfl ?_
            refine GK.gi (g_mv (.inl rfl) rfl) rfl rfl rfl rfl rfl rfl rfl rfl ?_
            refine GK.gi (g_mv (.inl rfl) rfl) rfl rfl rfl rfl rfl rfl rfl rfl ?_
            refine GK.gi (g_ia_i (i := i) rfl rfl rfl (by omega) sl_22 (by assumption)) rfl rfl rfl rfl rfl rfl rfl rfl ?_
            refine GK.gi (g_fa_r rfl rfl fd_50_1 L_Coin_out) rfl rfl rfl rfl rfl rfl rfl rfl ?_
            refine GK.gi (g_load_r rfl rfl ty_48) rfl rfl rfl rfl rfl rfl rfl rfl ?_
            refine GK.gi (g_fa_p rfl rfl fd_26_1 rfl) rfl rfl rfl rfl rfl rfl rfl rfl ?_
            refine GK.gi (g_load_b rfl rfl rfl L_Tx_outs ty_24) rfl rfl rfl rfl rfl rfl rfl rfl ?_
            refine GK.gi (g_mv (.inl rfl) rfl) rfl rfl rfl rfl rfl rfl rfl rfl ?_
            refine GK.gi (g_ia_i (i := j) rfl rfl rfl (by omega) sl_24 (by assumption)) rfl rfl rfl rfl rfl rfl rfl rfl ?_
            refine GK.gi (g_load_r rfl rfl ty_48) rfl rfl rfl rfl rfl rfl rfl rfl ?_
            refine GK.gi (g_neqS rfl rfl rfl (eqt_48)) rfl rfl rfl rfl rfl rfl rfl rfl ?_
            refine GK_isf (d := 107) rfl (by simp) ?_
            refine GK.g (g_pick rfl rfl rfl) rfl rfl rfl ?_
            refine GK.nil ?_
            refine aw_if_f rfl (rfl) ?_
            refine aw_skip ?_
            refine aw_inBlock ?_
            refine aw_region ?_
            refine aw_g (g_mv (.inl rfl) rfl) rfl rfl rfl ?_
            refine aw_g (by first | exact g_add rfl rfl rfl (wrap_eq (by first | omega | (simp; omega))) | exact g_add rfl rfl rfl rfl) rfl rfl rfl ?_
            refine aw_g (g_mv (.inr rfl) rfl) rfl rfl rfl ?_
            refine aw_nil ?_
            exact aw_next (j + 1) (by omega) (by omega) rfl (by (repeat refine Fr.le_set ?_ (by first | rfl | (simp; done))); exact Fr.le_none _) (by (repeat refine Hp.le_set ?_ rfl); exact Hp.le_none _) (by (repeat refine Fr.below_setB ?_ rfl); exact Fr.below_none _) (by (repeat refine Hp.below_set ?_ (by decide)); exact Hp.below_none _)
          · skip
            refine aw_exit rfl ?_
            refine aw_seq ?_
            refine aw_seq ?_
            refine aw_region ?_
            refine aw_g (g_mv (.inr rfl) rfl) rfl rfl rfl ?_
            refine aw_nil ?_
            refine aw_block ?_
            refine aw_loopI (ι := Nat) 2 rfl (fun (j : Nat) => (((((Fr.none).set 0 (.val (sl coinT) p)).set 2 (.val i64T k)).set 4 (.ptr 0 0)).set 9 (.val (sl coinT) (spendOf p t).1)).set 16 (.val i64T (j : Int))) (fun (j : Nat) => (Hp.none).set 0 (.box 26 txT t)) (fun (j : Nat) => j ≤ t.ins.length) (fun (j : Nat) => t.ins.length - j) (0) (Nat.zero_le _) (by (repeat refine Fr.le_set ?_ (by first | rfl | (simp; done))); exact Fr.le_none _) (by (repeat refine Hp.le_set ?_ rfl); exact Hp.le_none _) (by (repeat refine Fr.below_setB ?_ rfl); exact Fr.below_none _) (by (repeat refine Hp.below_set ?_ (by decide)); exact Hp.below_none _) ?_
            intro j hinv
            refine aw_seq ?_
            refine aw_seq ?_
            refine aw_region ?_
            refine aw_g (g_mv (.inl rfl) rfl) rfl rfl rfl ?_
            refine aw_g (g_fa_p rfl rfl fd_26_0 rfl) rfl rfl rfl ?_
            refine aw_g (g_load_b rfl rfl rfl L_Tx_ins ty_23) rfl rfl rfl ?_
            refine aw_g (g_len rfl rfl isl_23) rfl rfl rfl ?_
            refine aw_g (g_lss rfl rfl rfl rfl) rfl rfl rfl ?_
            refine aw_nil ?_
            refine aw_ifc (p := j < t.ins.length) rfl (by first | rfl | (rw [decide_eq_decide]; simp only [IntL.toI, id_eq]; omega) | (simp [IntL.toI]; done) | (simp [IntL.toI]; omega)) (fun ht113 => ?_) (fun ht113 => ?_)
            · skip
              obtain ⟨x, hx⟩ : ∃ x, t.ins[j]? = some x := ⟨_, List.getElem?_eq_getElem ht113⟩
              refine aw_skip ?_
              refine aw_seq ?_
              refine aw_block ?_
              refine aw_seq ?_
              refine aw_region ?_
              refine aw_g (g_mv (.inl rfl) rfl) rfl rfl rfl ?_
              refine aw_g (g_fa_p rfl rfl fd_26_0 rfl) rfl rfl rfl ?_
              refine aw_g (g_load_b rfl rfl rfl L_Tx_ins ty_23) rfl rfl rfl ?_
              refine aw_g (g_mv (.inl rfl) rfl) rfl rfl rfl ?_
              refine aw_g (g_ia_i (i := j) rfl rfl rfl (by omega) sl_23 (by assumption)) rfl rfl rfl ?_
              refine aw_g (g_load_r rfl rfl ty_42) rfl rfl rfl ?_
              refine aw_g (g_call (find_ok (spendOf p t).1 x) rfl fn_18 ⟨(arg_v rfl), (by first | exact arg_same rfl | exact arg_bsl rfl | exact arg_own rfl rfl | exact arg_nil rfl | exact arg_rptr rfl | exact arg_fn rfl rfl | exact arg_lit rfl), trivial⟩ rfl) rfl rfl rfl ?_
              refine aw_reval (d := 122) (y := (-1 : Int)) rfl (find_not (hgone x (List.mem_of_getElem? hx))) ?_
              refine aw_g (g_neq rfl rfl rfl rfl) rfl rfl rfl ?_
              refine aw_nil ?_
              refine aw_if_f rfl (by simp [IntL.toI]) ?_
              refine aw_skip ?_
              refine aw_inBlock ?_
              refine aw_region ?_
              refine aw_g (g_mv (.inl rfl) rfl) rfl rfl rfl ?_
              refine aw_g (by first | exact g_add rfl rfl rfl (wrap_eq (by first | omega | (simp; omega))) | exact g_add rfl rfl rfl rfl) rfl rfl rfl ?_
              refine aw_g (g_mv (.inr rfl) rfl) rfl rfl rfl ?_
              refine aw_nil ?_
              exact aw_next (j + 1) (by omega) (by omega) rfl (by (repeat refine Fr.le_set ?_ (by first | rfl | (simp; done))); exact Fr.le_none _) (by (repeat refine Hp.le_set ?_ rfl); exact Hp.le_none _) (by (repeat refine Fr.below_setB ?_ rfl); exact Fr.below_none _) (by (repeat refine Hp.below_set ?_ (by decide)); exact Hp.below_none _)
            · skip
              refine aw_exit rfl ?_
              refine aw_seq ?_
              refine aw_region ?_
              refine aw_g (g_mv (.inl rfl) rfl) rfl rfl rfl ?_
              refine aw_g (g_load_b rfl rfl rfl (Lens.self _) ty_26) rfl rfl rfl ?_
              refine aw_g (g_call (tells_pub3 (spend_ok (spendOf p t).1 t (by have := mayCoins_len hmq; omega))) rfl fn_12 ⟨(arg_v rfl), (arg_v rfl), trivial⟩ rfl) rfl rfl rfl ?_
              refine aw_g (by first | exact g_mv (.inl rfl) rfl | exact g_mp (.inl rfl) rfl | exact g_mo (.inl rfl) rfl | exact g_ml (.inl rfl) rfl | exact g_mc (.inl rfl) rfl | exact g_mr (.inl rfl) rfl | exact g_mf1 (.inl rfl) rfl | exact g_mf2 (.inl rfl) rfl | exact g_mw (.inl rfl) rfl | exact g_me (.inl rfl) rfl | exact g_ms (.inl rfl) rfl | exact g_mt2 (.inl rfl) rfl | exact g_mt3 (.inl rfl) rfl | exact g_mi (.inl rfl) rfl) rfl rfl rfl ?_
              refine aw_g (by first | exact g_x20 rfl rfl | exact g_x30 rfl rfl) rfl rfl rfl ?_
              refine aw_g (by first | exact g_x21 rfl rfl | exact g_x31 rfl rfl) rfl rfl rfl ?_
              refine aw_g (g_x32 rfl rfl) rfl rfl rfl ?_
              refine aw_g (g_mv (.inr rfl) rfl) rfl rfl rfl ?_
              refine aw_g (g_mv (.inr rfl) rfl) rfl rfl rfl ?_
              refine aw_g (g_mv (.inr rfl) rfl) rfl rfl rfl ?_
              refine aw_nil ?_
              refine aw_seq ?_
              refine aw_seq ?_
              refine aw_region ?_
              refine aw_g (g_mv (.inl rfl) rfl) rfl rfl rfl ?_
              refine aw_g (g_eql rfl rfl rfl rfl) rfl rfl rfl ?_
              refine aw_isf (d := 132) rfl (decide_eq_false hag) ?_
              refine aw_g (g_mv (.inl rfl) rfl) rfl rfl rfl ?_
              refine aw_gi (g_mv (.inl rfl) rfl) rfl rfl rfl rfl rfl rfl rfl rfl ?_
              refine aw_gi (g_lss rfl rfl rfl rfl) rfl rfl rfl rfl rfl rfl rfl rfl ?_
              refine aw_splitp (d := 135) (p := k < 0) rfl (by first | rfl | (rw [decide_eq_decide]; simp only [IntL.toI, id_eq]; omega) | (simp [IntL.toI]; done) | (simp [IntL.toI]; omega)) (fun g135 => ?_) (fun g135 => ?_)
              · skip
                refine aw_g (g_pick rfl rfl rfl) rfl rfl rfl ?_
                refine aw_g (g_mv (.inl rfl) rfl) rfl rfl rfl ?_
                refine aw_gn rfl rfl rfl rfl rfl rfl rfl rfl ?_
                refine aw_gn rfl rfl rfl rfl rfl rfl rfl rfl ?_
                refine aw_gn rfl rfl rfl rfl rfl rfl rfl rfl ?_
                refine aw_gn rfl rfl rfl rfl rfl rfl rfl rfl ?_
                refine aw_g (g_pick rfl rfl rfl) rfl rfl rfl ?_
                refine aw_nil ?_
                refine aw_if_t rfl (rfl) ?_
                refine aw_seq ?_
                refine aw_region ?_
                refine aw_g (g_mv (.inl rfl) rfl) rfl rfl rfl ?_
                refine aw_g (g_neq rfl rfl rfl rfl) rfl rfl rfl ?_
                refine aw_ist (d := 144) rfl (by simp [IntL.toI, hag]) ?_
                refine aw_g (g_mv (.inr rfl) rfl) rfl rfl rfl ?_
                refine aw_nil ?_
                exact aw_ret1 rfl rfl (ret_eq rfl rfl)
              · skip
                refine aw_g (g_pick rfl rfl rfl) rfl rfl rfl ?_
                refine aw_g (g_mv (.inl rfl) rfl) rfl rfl rfl ?_
                refine aw_gi (g_mv (.inl rfl) rfl) rfl rfl rfl rfl rfl rfl rfl rfl ?_
                refine aw_gi (g_mv (.inl rfl) rfl) rfl rfl rfl rfl rfl rfl rfl rfl ?_
                refine aw_gi (g_len rfl rfl isl_22) rfl rfl rfl rfl rfl rfl rfl rfl ?_
                refine aw_gi (g_geq rfl rfl rfl rfl) rfl rfl rfl rfl rfl rfl rfl rfl ?_
                refine aw_splitp (d := 141) (p := (p.length : Int) ≤ k) rfl (by first | rfl | (rw [decide_eq_decide]; simp only [IntL.toI, id_eq]; omega) | (simp [IntL.toI]; done) | (simp [IntL.toI]; omega)) (fun g141 => ?_) (fun g141 => ?_)
                · skip
                  refine aw_g (g_pick rfl rfl rfl) rfl rfl rfl ?_
                  refine aw_nil ?_
                  refine aw_if_t rfl (rfl) ?_
                  refine aw_seq ?_
                  refine aw_region ?_
                  refine aw_g (g_mv (.inl rfl) rfl) rfl rfl rfl ?_
                  refine aw_g (g_neq rfl rfl rfl rfl) rfl rfl rfl ?_
                  refine aw_ist (d := 144) rfl (by simp [IntL.toI, hag]) ?_
                  refine aw_g (g_mv (.inr rfl) rfl) rfl rfl rfl ?_
                  refine aw_nil ?_
                  exact aw_ret1 rfl rfl (ret_eq rfl rfl)
                · skip
                  obtain ⟨d, hd⟩ : ∃ d, p[k.toNat]? = some d := ⟨_, List.getElem?_eq_getElem (by omega)⟩
                  refine aw_g (g_pick rfl rfl rfl) rfl rfl rfl ?_
                  refine aw_nil ?_
                  refine aw_if_f rfl (rfl) ?_
                  refine aw_skip ?_
                  refine aw_seq ?_
                  refine aw_seq ?_
                  refine aw_region ?_
                  refine aw_g (g_mv (.inr rfl) rfl) rfl rfl rfl ?_
                  refine aw_nil ?_
                  refine aw_block ?_
                  refine aw_loopI (ι := Nat) 2 rfl (fun (j : Nat) => (((((Fr.none).set 0 (.val (sl coinT) p)).set 2 (.val i64T k)).set 4 (.ptr 0 0)).set 9 (.val (sl coinT) (spendOf p t).1)).set 20 (.val i64T (j : Int))) (fun (j : Nat) => (Hp.none).set 0 (.box 26 txT t)) (fun (j : Nat) => j ≤ t.ins.length ∧ ∀ x ∈ t.ins.take j, x ≠ d.inn) (fun (j : Nat) => t.ins.length - j) (0) (⟨Nat.zero_le _, by simp⟩) (by (repeat refine Fr.le_set ?_ (by first | rfl | (simp; done))); exact Fr.le_none _) (by (repeat refine Hp.le_set ?_ rfl); exact Hp.le_none _) (by (repeat refine Fr.below_setB ?_ rfl); exact Fr.below_none _) (by (repeat refine Hp.below_set ?_ (by decide)); exact Hp.below_none _) ?_
                  intro j hinv
                  refine aw_seq ?_
                  refine aw_seq ?_
                  refine aw_region ?_
                  refine aw_g (g_mv (.inl rfl) rfl) rfl rfl rfl ?_
                  refine aw_g (g_fa_p rfl rfl fd_26_0 rfl) rfl rfl rfl ?_
                  refine aw_g (g_load_b rfl rfl rfl L_Tx_ins ty_23) rfl rfl rfl ?_
                  refine aw_g (g_len rfl rfl isl_23) rfl rfl rfl ?_
                  refine aw_g (g_lss rfl rfl rfl rfl) rfl rfl rfl ?_
                  refine aw_nil ?_
                  refine aw_ifc (p := j < t.ins.length) rfl (by first | rfl | (rw [decide_eq_decide]; simp only [IntL.toI, id_eq]; omega) | (simp [IntL.toI]; done) | (simp [IntL.toI]; omega)) (fun ht149 => ?_) (fun ht149 => ?_)
                  · skip
                    obtain ⟨x, hx⟩ : ∃ x, t.ins[j]? = some x := ⟨_, List.getElem?_eq_getElem ht149⟩
                    refine aw_skip ?_
                    refine aw_seq ?_
                    refine aw_block ?_
                    refine aw_seq ?_
                    refine aw_draw mixed (by decide +kernel) ?_
                    refine GK.g (g_fa_p rfl rfl fd_26_0 rfl) rfl rfl rfl ?_
                    refine GK.g (g_load_b rfl rfl rfl L_Tx_ins ty_23) rfl rfl rfl ?_
                    refine GK.g (g_mv (.inl rfl) rfl) rfl rfl rfl ?_
                    refine GK.g (g_ia_i (i := j) rfl rfl rfl (by omega) sl_23 (by assumption)) rfl rfl rfl ?_
                    refine GK.g (g_load_r rfl rfl ty_42) rfl rfl rfl ?_
                    refine GK.g (g_mv (.inl rfl) rfl) rfl rfl rfl ?_
                    refine GK.g (g_mv (.inl rfl) rfl) rfl rfl rfl ?_
                    refine GK.g (g_ia_i (i := k.toNat) rfl rfl rfl (by omega) sl_22 (by assumption)) rfl rfl rfl ?_
                    refine GK.g (g_fa_r rfl rfl fd_50_0 L_Coin_inn) rfl rfl rfl ?_
                    refine GK.g (g_load_r rfl rfl ty_42) rfl rfl rfl ?_
                    refine GK.g (g_eqlS rfl rfl rfl (eqt_42)) rfl rfl rfl ?_
                    refine GK.nil ?_
                    refine aw_ifc (p := x = d.inn) rfl (by first | rfl | (rw [decide_eq_decide]; simp only [IntL.toI, id_eq]; omega) | (simp [IntL.toI]; done) | (simp [IntL.toI]; omega)) (fun ht162 => ?_) (fun ht162 => ?_)
                    · skip
                      refine aw_seq ?_
                      refine aw_region ?_
                      refine aw_g (g_mv (.inr rfl) rfl) rfl rfl rfl ?_
                      refine aw_nil ?_
                      exact aw_ret1 rfl rfl (ret_eq rfl rfl)
                    · skip
                      refine aw_skip ?_
                      refine aw_inBlock ?_
                      refine aw_region ?_
                      refine aw_g (g_mv (.inl rfl) rfl) rfl rfl rfl ?_
                      refine aw_g (by first | exact g_add rfl rfl rfl (wrap_eq (by first | omega | (simp; omega))) | exact g_add rfl rfl rfl rfl) rfl rfl rfl ?_
                      refine aw_g (g_mv (.inr rfl) rfl) rfl rfl rfl ?_
                      refine aw_nil ?_
                      exact aw_next (j + 1) (⟨by omega, take_step hinv.2 hx ht162⟩) (by omega) rfl (by (repeat refine Fr.le_set ?_ (by first | rfl | (simp; done))); exact Fr.le_none _) (by (repeat refine Hp.le_set ?_ rfl); exact Hp.le_none _) (by (repeat refine Fr.below_setB ?_ rfl); exact Fr.below_none _) (by (repeat refine Hp.below_set ?_ (by decide)); exact Hp.below_none _)
                  · skip
                    obtain rfl : j = t.ins.length := (by omega)
                    have hoth : ∀ x ∈ t.ins, x ≠ d.inn := by have h := hinv.2; rw [List.take_length] at h; exact h
                    refine aw_exit rfl ?_
                    refine aw_seq ?_
                    refine aw_region ?_
                    refine aw_g (g_mv (.inl rfl) rfl) rfl rfl rfl ?_
                    refine aw_g (g_mv (.inl rfl) rfl) rfl rfl rfl ?_
                    refine aw_g (g_mv (.inl rfl) rfl) rfl rfl rfl ?_
                    refine aw_g (g_ia_i (i := k.toNat) rfl rfl rfl (by omega) sl_22 (by assumption)) rfl rfl rfl ?_
                    refine aw_g (g_fa_r rfl rfl fd_50_0 L_Coin_inn) rfl rfl rfl ?_
                    refine aw_g (g_load_r rfl rfl ty_42) rfl rfl rfl ?_
                    refine aw_g (g_call (find_ok (spendOf p t).1 d.inn) rfl fn_18 ⟨(arg_v rfl), (by first | exact arg_same rfl | exact arg_bsl rfl | exact arg_own rfl rfl | exact arg_nil rfl | exact arg_rptr rfl | exact arg_fn rfl rfl | exact arg_lit rfl), trivial⟩ rfl) rfl rfl rfl ?_
                    obtain ⟨i, hi, hqi⟩ := find_is hmq ((hmem d).2 (.inl ⟨List.mem_of_getElem? hd, hoth⟩)) rfl
                    have hil := (List.getElem?_eq_some_iff.1 hqi).1
                    refine aw_reval (d := 169) (y := (i : Int)) rfl hi ?_
                    refine aw_g (g_mv (.inr rfl) rfl) rfl rfl rfl ?_
                    refine aw_nil ?_
                    refine aw_seq ?_
                    refine aw_draw mixed (by decide +kernel) ?_
                    refine GK.g (g_mv (.inl rfl) rfl) rfl rfl rfl ?_
                    refine GK.g (g_geq rfl rfl rfl rfl) rfl rfl rfl ?_
                    refine GK_ist (d := 171) rfl (decide_eq_true (by simp only [IntL.toI, id_eq]; omega)) ?_
                    refine GK.g (g_mv (.inl rfl) rfl) rfl rfl rfl ?_
                    refine GK.gi (g_mv (.inl rfl) rfl) rfl rfl rfl rfl rfl rfl rfl rfl ?_
                    refine GK.gi (g_mv (.inl rfl) rfl) rfl rfl rfl rfl rfl rfl rfl rfl ?_
                    refine GK.gi (g_len rfl rfl isl_22) rfl rfl rfl rfl rfl rfl rfl rfl ?_
                    refine GK.gi (g_lss rfl rfl rfl rfl) rfl rfl rfl rfl rfl rfl rfl rfl ?_
                    refine GK_ist (d := 176) rfl (decide_eq_true (by simp only [IntL.toI, id_eq]; omega)) ?_
                    refine GK.g (g_pick rfl rfl rfl) rfl rfl rfl ?_
                    refine GK.g (g_mv (.inl rfl) rfl) rfl rfl rfl ?_
                    refine GK.gi (g_mv (.inl rfl) rfl) rfl rfl rfl rfl rfl rfl rfl rfl ?_
                    refine GK.gi (g_mv (.inl rfl) rfl) rfl rfl rfl rfl rfl rfl rfl rfl ?_
                    refine GK.gi (g_ia_i (i := i) rfl rfl rfl (by omega) sl_22 (by assumption)) rfl rfl rfl rfl rfl rfl rfl rfl ?_
                    refine GK.gi (g_load_r rfl rfl ty_50) rfl rfl rfl rfl rfl rfl rfl rfl ?_
                    refine GK.gi (g_mv (.inl rfl) rfl) rfl rfl rfl rfl rfl rfl rfl rfl ?_
                    refine GK.gi (g_mv (.inl rfl) rfl) rfl rfl rfl rfl rfl rfl rfl rfl ?_
                    refine GK.gi (g_ia_i (i := k.toNat) rfl rfl rfl (by omega) sl_22 (by assumption)) rfl rfl rfl rfl rfl rfl rfl rfl ?_
                    refine GK.gi (g_load_r rfl rfl ty_50) rfl rfl rfl rfl rfl rfl rfl rfl ?_
                    refine GK.gi (g_eqlS rfl rfl rfl (eqt_50)) rfl rfl rfl rfl rfl rfl rfl rfl ?_
                    refine GK_ist (d := 187) rfl (decide_eq_true rfl) ?_
                    refine GK.g (g_pick rfl rfl rfl) rfl rfl rfl ?_
                    refine GK.g (g_mv (.inr rfl) rfl) rfl rfl rfl ?_
                    refine GK.nil ?_
                    exact aw_ret1 rfl rfl (ret_eq rfl rfl)

end Go.Proofs.Ytmfgemnmelbflaa
