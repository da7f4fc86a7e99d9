/- The document's answers of layer 10. -/
import Derived.Test.YtmfgemnmelbflaaRefSum
set_option maxRecDepth 20000
namespace Go.Proofs.Ytmfgemnmelbflaa
set_option linter.unusedVariables false
set_option linter.unusedSimpArgs false
open Go.Ab Go.RowKit

/-- Coins with one more, in its place. -/
def withL (c : Coin) : Bool → List Coin → List Coin
  | d, [] => if d = true then [] else [c]
  | d, x :: l => if ordIn c.inn x.inn < 0 ∧ ¬ d = true then c :: x :: withL c true l else x :: withL c d l
theorem withL_true {c : Coin} : ∀ {l : List Coin}, withL c true l = l
  | [] => rfl
  | x :: l => by rw [withL, if_neg (by simp), withL_true]
theorem withL_in {c x : Coin} {d : Bool} {p : List Coin} {k : Nat} (hx : p[k]? = some x) (h : ordIn c.inn x.inn < 0) (hd : d = false) : withL c d (p.drop k) = c :: x :: withL c true (p.drop (k + 1)) := by
  obtain ⟨hk, rfl⟩ := List.getElem?_eq_some_iff.1 hx
  rw [List.drop_eq_getElem_cons hk, withL, if_pos ⟨h, by simp [hd]⟩]
theorem withL_on {c x : Coin} {d : Bool} {p : List Coin} {k : Nat} (hx : p[k]? = some x) (h : ¬ (ordIn c.inn x.inn < 0 ∧ d = false)) : withL c d (p.drop k) = x :: withL c d (p.drop (k + 1)) := by
  obtain ⟨hk, rfl⟩ := List.getElem?_eq_some_iff.1 hx
  rw [List.drop_eq_getElem_cons hk, withL, if_neg (by simpa using h)]
theorem withL_len {c : Coin} : ∀ {d : Bool} {l : List Coin}, (withL c d l).length ≤ l.length + 1
  | d, [] => by unfold withL; split <;> simp
  | d, x :: l => by
    unfold withL
    split
    · rw [withL_true]; simp
    · have := withL_len (c := c) (d := d) (l := l); simp; omega
theorem withL_perm {c : Coin} : ∀ {l : List Coin}, (withL c false l).Perm (l ++ [c])
  | [] => List.Perm.refl _
  | x :: l => by
    unfold withL
    split
    · rw [withL_true]
      exact (List.perm_append_singleton c (x :: l)).symm
    · rw [List.cons_append]
      exact List.Perm.cons _ withL_perm
theorem withL_sorted {c : Coin} : ∀ {l : List Coin}, Sorted l → (∀ x ∈ l, ordIn c.inn x.inn ≠ 0) → Sorted (withL c false l)
  | [], _, _ => List.pairwise_singleton _ _
  | x :: l, h, ha => by
    have hl := List.pairwise_cons.1 h
    unfold withL
    split
    · rename_i h0
      rw [withL_true]
      refine List.pairwise_cons.2 ⟨fun y hy => ?_, h⟩
      rcases List.mem_cons.1 hy with e | hy
      · rw [e]; exact h0.1
      · exact ordIn_trans h0.1 (hl.1 y hy)
    · rename_i h0
      have hx : ordIn x.inn c.inn < 0 := by
        have h1 := ha x List.mem_cons_self
        have h2 := ordIn_neg c.inn x.inn
        have h3 : ¬ ordIn c.inn x.inn < 0 := fun h => h0 ⟨h, by simp⟩
        omega
      refine List.pairwise_cons.2 ⟨fun y hy => ?_, withL_sorted hl.2 fun y hy => ha y (List.mem_cons_of_mem _ hy)⟩
      rcases List.mem_append.1 (withL_perm.mem_iff.1 hy) with hy | hy
      · exact hl.1 y hy
      · simp at hy; rw [hy]; exact hx
/-- The coins of some Outs, each in its place. -/
def withs (p : List Coin) (id : Ab.Id) (outs : List Out) (k : Nat) : List Coin := (newN id outs k).foldl (fun p c => withL c false p) p
theorem withs_succ {p : List Coin} {id : Ab.Id} {outs : List Out} {k : Nat} {o : Out} (h : outs[k]? = some o) : withL ⟨⟨id, (k : Int)⟩, o⟩ false (withs p id outs k) = withs p id outs (k + 1) := by
  unfold withs
  have := newN_succ (id := id) h []
  simp only [List.nil_append] at this
  rw [← this, List.foldl_append]
  rfl
theorem withs_len {p : List Coin} {id : Ab.Id} {outs : List Out} : ∀ {k : Nat}, k ≤ outs.length → (withs p id outs k).length ≤ p.length + k
  | 0, _ => by unfold withs newN; simp
  | k + 1, h => by
    have := withs_len (p := p) (id := id) (outs := outs) (k := k) (by omega)
    rw [← withs_succ (List.getElem?_eq_getElem (show k < outs.length by omega))]
    have := withL_len (c := ⟨⟨id, (k : Int)⟩, outs[k]⟩) (d := false) (l := withs p id outs k)
    omega
theorem withs_good {p : List Coin} {id : Ab.Id} {outs : List Out} (hs : Sorted p) (hn : (p.any fun c => decide (c.inn.tx = id)) = false) : ∀ {k : Nat}, k ≤ outs.length → (withs p id outs k).Perm (p ++ newN id outs k) ∧ Sorted (withs p id outs k)
  | 0, _ => by unfold withs newN; simp; exact hs
  | k + 1, h => by
    have ho := List.getElem?_eq_getElem (show k < outs.length by omega)
    obtain ⟨h1, h2⟩ := withs_good (outs := outs) hs hn (k := k) (by omega)
    have hap := apart_new (id := id) (outs := outs) (k := k + 1) (Sorted.apart hs) hn
    rw [← newN_succ ho p] at hap ⊢
    rw [← withs_succ ho]
    refine ⟨withL_perm.trans (List.Perm.append_right _ h1), withL_sorted h2 fun x hx => ?_⟩
    have h3 := (List.pairwise_append.1 hap).2.2 x (h1.mem_iff.1 hx) ⟨⟨id, (k : Int)⟩, outs[k]⟩ (by simp)
    have h4 := ordIn_neg x.inn (⟨⟨id, (k : Int)⟩, outs[k]⟩ : Coin).inn
    omega
theorem withs_made {p : List Coin} {t : Tx} (hs : Sorted p) (hm : (madeOf p t).2 = 0) : withs p (idOf t) t.outs t.outs.length = (madeOf p t).1 := by
  unfold madeOf at hm ⊢
  split
  · rename_i e; rw [if_pos e] at hm; exact absurd hm (by decide)
  · rename_i h
    have hn : (p.any fun c => decide (c.inn.tx = idOf t)) = false := by simpa using h
    obtain ⟨h1, h2⟩ := withs_good (outs := t.outs) hs hn (Nat.le_refl _)
    refine sort_unique (apart_new (Sorted.apart hs) hn) h1 ?_
    exact List.Pairwise.imp (fun {a b} h => by have := ordIn_neg a.inn b.inn; omega) h2
theorem madeOf_there {p : List Coin} {t : Tx} : (madeOf p t).2 = if (p.any fun c => decide (c.inn.tx = idOf t)) = true then 10 else 0 := by unfold madeOf; split <;> rfl

theorem rwith_ok (p : List Coin) (c : Coin) (hp : p.length ≤ 1000) : Tells P 60 [.val (bsl coinT) p, .val coinT c] (.fresh 50 coinT (withL c false p)) := by
  refine fn_of_aw Try.func60 rfl rfl rfl (fun ext w hext => ?_)
  refine aw_fact (d := 0) rfl fact_sl (fun hsl0 => ?_)
  refine aw_seq ?_
  refine aw_region ?_
  refine aw_box rfl rfl rfl rfl rfl ?_
  refine aw_g (g_ml (.inr rfl) rfl) rfl rfl rfl ?_
  refine aw_nil ?_
  refine aw_seq ?_
  refine aw_region ?_
  refine aw_g (g_ml (.inr rfl) rfl) rfl rfl rfl ?_
  refine aw_nil ?_
  refine aw_seq ?_
  refine aw_region ?_
  refine aw_g (g_mv (.inr rfl) rfl) rfl rfl rfl ?_
  refine aw_nil ?_
  refine aw_seq ?_
  refine aw_seq ?_
  refine aw_region ?_
  refine aw_g (g_mv (.inr rfl) rfl) rfl rfl rfl ?_
  refine aw_nil ?_
  refine aw_block ?_
  refine aw_nilrow (T := coinT) (d := 5) 50 rfl ?_
  refine aw_loopI (ι := Nat × List Coin × Bool) 2 rfl (fun (i : Nat × List Coin × Bool) => match i with | (k, out, d) => (((((Fr.none).set 0 (.val (bsl coinT) p)).set 3 (.ptr 0 0)).set 5 (.own 1)).set 6 (.val boolT d)).set 7 (.val i64T (k : Int))) (fun (i : Nat × List Coin × Bool) => match i with | (k, out, d) => ((Hp.none).set 0 (.box 50 coinT c)).set 1 (.row 50 coinT out)) (fun (i : Nat × List Coin × Bool) => match i with | (k, out, d) => k ≤ p.length ∧ out.length ≤ 2 * k ∧ out ++ withL c d (p.drop k) = withL c false p) (fun (i : Nat × List Coin × Bool) => match i with | (k, out, d) => p.length - k) ((0, [], false)) (⟨Nat.zero_le _, by simp, rfl⟩) (by (repeat refine Fr.le_set ?_ (by first | rfl | (simp; done))); exact Fr.le_none _) (by (repeat refine Hp.le_set ?_ rfl); exact Hp.le_none _) (by (repeat refine Fr.below_setB ?_ rfl); exact Fr.below_none _) (by (repeat refine Hp.below_set ?_ (by decide)); exact Hp.below_none _) ?_
  intro ⟨k, out, d⟩ hinv
  dsimp only at hinv
  refine aw_seq ?_
  refine aw_seq ?_
  refine aw_region ?_
  refine aw_g (g_mv (.inl rfl) rfl) rfl rfl rfl ?_
  refine aw_g (g_mv (.inl rfl) rfl) rfl rfl rfl ?_
  refine aw_g (g_len rfl rfl isl_22) rfl rfl rfl ?_
  refine aw_g (g_lss rfl rfl rfl rfl) rfl rfl rfl ?_
  refine aw_nil ?_
  refine aw_ifc (p := k < p.length) rfl (by first | rfl | (rw [decide_eq_decide]; simp only [IntL.toI, id_eq]; omega) | (simp [IntL.toI]; done) | (simp [IntL.toI]; omega)) (fun ht12 => ?_) (fun ht12 => ?_)
  · skip
    obtain ⟨x, hx⟩ : ∃ x, p[k]? = some x := ⟨_, List.getElem?_eq_getElem ht12⟩
    refine aw_skip ?_
    refine aw_seq ?_
    refine aw_block ?_
    refine aw_seq ?_
    refine aw_draw mixed (by decide +kernel) ?_
    refine GK.g (g_load_b rfl rfl rfl (Lens.self _) ty_50) rfl rfl rfl ?_
    refine GK.g (g_mv (.inl rfl) rfl) rfl rfl rfl ?_
    refine GK.g (g_mv (.inl rfl) rfl) rfl rfl rfl ?_
    refine GK.g (g_ia_i (i := k) rfl rfl rfl (by omega) sl_22 (by assumption)) rfl rfl rfl ?_
    refine GK.g (g_load_r rfl rfl ty_50) rfl rfl rfl ?_
    refine GK.g (g_call (rbefore_ok _ _) rfl fn_38 ⟨(arg_v rfl), (by first | exact arg_same rfl | exact arg_bsl rfl | exact arg_own rfl rfl | exact arg_nil rfl | exact arg_rptr rfl | exact arg_fn rfl rfl | exact arg_lit rfl), trivial⟩ rfl) rfl rfl rfl ?_
    refine GK_splitp (d := 20) (p := ordIn c.inn x.inn < 0) rfl (by first | rfl | (rw [decide_eq_decide]; simp only [IntL.toI, id_eq]; omega) | (simp [IntL.toI]; done) | (simp [IntL.toI]; omega)) (fun g20 => ?_) (fun g20 => ?_)
    · skip
      refine GK.g (g_mv (.inr rfl) rfl) rfl rfl rfl ?_
      refine GK.nil ?_
      refine aw_seq ?_
      refine aw_seq ?_
      refine aw_region ?_
      refine aw_g (g_mv (.inl rfl) rfl) rfl rfl rfl ?_
      refine aw_g (g_mv (.inl rfl) rfl) rfl rfl rfl ?_
      refine aw_gi (g_mv (.inl rfl) rfl) rfl rfl rfl rfl rfl rfl rfl rfl ?_
      refine aw_gi (g_not rfl rfl) rfl rfl rfl rfl rfl rfl rfl rfl ?_
      refine aw_splitp (d := 24) (p := d = false) rfl (by cases d <;> rfl) (fun g24 => ?_) (fun g24 => ?_)
      · skip
        refine aw_g (g_pick rfl rfl rfl) rfl rfl rfl ?_
        refine aw_nil ?_
        refine aw_if_t rfl (rfl) ?_
        refine aw_seq ?_
        refine aw_region ?_
        refine aw_g (g_mo (.inl rfl) rfl) rfl rfl rfl ?_
        refine aw_g (g_load_b rfl rfl rfl (Lens.self _) ty_50) rfl rfl rfl ?_
        refine aw_g (g_bslice (T := coinT) (xs := [_]) rfl sl_22 row_22 ⟨rfl, rfl, trivial⟩ rfl rfl) rfl rfl rfl ?_
        refine aw_append rfl rfl rfl rfl rfl rfl rfl row_22 (by simp only [List.length_append, List.length_cons, List.length_nil]; omega) ?_
        refine aw_g (g_mo (.inr rfl) rfl) rfl rfl rfl ?_
        refine aw_nil ?_
        refine aw_region ?_
        refine aw_g (g_mv (.inr rfl) rfl) rfl rfl rfl ?_
        refine aw_nil ?_
        refine aw_region ?_
        refine aw_g (g_mo (.inl rfl) rfl) rfl rfl rfl ?_
        refine aw_g (g_mv (.inl rfl) rfl) rfl rfl rfl ?_
        refine aw_g (g_mv (.inl rfl) rfl) rfl rfl rfl ?_
        refine aw_g (g_ia_i (i := k) rfl rfl rfl (by omega) sl_22 (by assumption)) rfl rfl rfl ?_
        refine aw_g (g_load_r rfl rfl ty_50) rfl rfl rfl ?_
        refine aw_g (g_bslice (T := coinT) (xs := [_]) rfl sl_22 row_22 ⟨rfl, rfl, trivial⟩ rfl rfl) rfl rfl rfl ?_
        refine aw_append rfl rfl rfl rfl rfl rfl rfl row_22 (by simp only [List.length_append, List.length_cons, List.length_nil]; omega) ?_
        refine aw_g (g_mo (.inr rfl) rfl) rfl rfl rfl ?_
        refine aw_nil ?_
        refine aw_inBlock ?_
        refine aw_region ?_
        refine aw_g (g_mv (.inl rfl) rfl) rfl rfl rfl ?_
        refine aw_g (by first | exact g_add rfl rfl rfl (wrap_eq (by first | omega | (simp; omega))) | exact g_add rfl rfl rfl rfl) rfl rfl rfl ?_
        refine aw_g (g_mv (.inr rfl) rfl) rfl rfl rfl ?_
        refine aw_nil ?_
        refine aw_ren 3 1 4 rfl rfl rfl rfl rfl rfl ?_
        exact aw_next ((k + 1, out ++ [c] ++ [x], true)) (by first | exact ⟨by omega, by simp; omega, by rw [← hinv.2.2, withL_in hx g20 g24]; simp⟩ | exact ⟨by omega, by simp; omega, by rw [← hinv.2.2, withL_on hx (fun h => g24 h.2)]; simp⟩ | exact ⟨by omega, by simp; omega, by rw [← hinv.2.2, withL_on hx (fun h => g20 h.1)]; simp⟩) (by show _ < p.length - k; simp only []; omega) rfl (by (repeat refine Fr.le_set ?_ (by first | rfl | (simp; done))); exact Fr.le_none _) (by (repeat refine Hp.le_set ?_ rfl); exact Hp.le_none _) (by (repeat refine Fr.below_setB ?_ rfl); exact Fr.below_none _) (by (repeat refine Hp.below_set ?_ (by decide)); exact Hp.below_none _)
      · skip
        refine aw_g (g_pick rfl rfl rfl) rfl rfl rfl ?_
        refine aw_nil ?_
        refine aw_if_f rfl (rfl) ?_
        refine aw_skip ?_
        refine aw_region ?_
        refine aw_g (g_mo (.inl rfl) rfl) rfl rfl rfl ?_
        refine aw_g (g_mv (.inl rfl) rfl) rfl rfl rfl ?_
        refine aw_g (g_mv (.inl rfl) rfl) rfl rfl rfl ?_
        refine aw_g (g_ia_i (i := k) rfl rfl rfl (by omega) sl_22 (by assumption)) rfl rfl rfl ?_
        refine aw_g (g_load_r rfl rfl ty_50) rfl rfl rfl ?_
        refine aw_g (g_bslice (T := coinT) (xs := [_]) rfl sl_22 row_22 ⟨rfl, rfl, trivial⟩ rfl rfl) rfl rfl rfl ?_
        refine aw_append rfl rfl rfl rfl rfl rfl rfl row_22 (by simp only [List.length_append, List.length_cons, List.length_nil]; omega) ?_
        refine aw_g (g_mo (.inr rfl) rfl) rfl rfl rfl ?_
        refine aw_nil ?_
        refine aw_inBlock ?_
        refine aw_region ?_
        refine aw_g (g_mv (.inl rfl) rfl) rfl rfl rfl ?_
        refine aw_g (by first | exact g_add rfl rfl rfl (wrap_eq (by first | omega | (simp; omega))) | exact g_add rfl rfl rfl rfl) rfl rfl rfl ?_
        refine aw_g (g_mv (.inr rfl) rfl) rfl rfl rfl ?_
        refine aw_nil ?_
        refine aw_ren 2 1 3 rfl rfl rfl rfl rfl rfl ?_
        exact aw_next ((k + 1, out ++ [x], d)) (by first | exact ⟨by omega, by simp; omega, by rw [← hinv.2.2, withL_in hx g20 g24]; simp⟩ | exact ⟨by omega, by simp; omega, by rw [← hinv.2.2, withL_on hx (fun h => g24 h.2)]; simp⟩ | exact ⟨by omega, by simp; omega, by rw [← hinv.2.2, withL_on hx (fun h => g20 h.1)]; simp⟩) (by show _ < p.length - k; simp only []; omega) rfl (by (repeat refine Fr.le_set ?_ (by first | rfl | (simp; done))); exact Fr.le_none _) (by (repeat refine Hp.le_set ?_ rfl); exact Hp.le_none _) (by (repeat refine Fr.below_setB ?_ rfl); exact Fr.below_none _) (by (repeat refine Hp.below_set ?_ (by decide)); exact Hp.below_none _)
    · skip
      refine GK.g (g_mv (.inr rfl) rfl) rfl rfl rfl ?_
      refine GK.nil ?_
      refine aw_seq ?_
      refine aw_seq ?_
      refine aw_region ?_
      refine aw_g (g_mv (.inl rfl) rfl) rfl rfl rfl ?_
      refine aw_g (g_mv (.inl rfl) rfl) rfl rfl rfl ?_
      refine aw_gn rfl rfl rfl rfl rfl rfl rfl rfl ?_
      refine aw_gn rfl rfl rfl rfl rfl rfl rfl rfl ?_
      refine aw_g (g_pick rfl rfl rfl) rfl rfl rfl ?_
      refine aw_nil ?_
      refine aw_if_f rfl (rfl) ?_
      refine aw_skip ?_
      refine aw_region ?_
      refine aw_g (g_mo (.inl rfl) rfl) rfl rfl rfl ?_
      refine aw_g (g_mv (.inl rfl) rfl) rfl rfl rfl ?_
      refine aw_g (g_mv (.inl rfl) rfl) rfl rfl rfl ?_
      refine aw_g (g_ia_i (i := k) rfl rfl rfl (by omega) sl_22 (by assumption)) rfl rfl rfl ?_
      refine aw_g (g_load_r rfl rfl ty_50) rfl rfl rfl ?_
      refine aw_g (g_bslice (T := coinT) (xs := [_]) rfl sl_22 row_22 ⟨rfl, rfl, trivial⟩ rfl rfl) rfl rfl rfl ?_
      refine aw_append rfl rfl rfl rfl rfl rfl rfl row_22 (by simp only [List.length_append, List.length_cons, List.length_nil]; omega) ?_
      refine aw_g (g_mo (.inr rfl) rfl) rfl rfl rfl ?_
      refine aw_nil ?_
      refine aw_inBlock ?_
      refine aw_region ?_
      refine aw_g (g_mv (.inl rfl) rfl) rfl rfl rfl ?_
      refine aw_g (by first | exact g_add rfl rfl rfl (wrap_eq (by first | omega | (simp; omega))) | exact g_add rfl rfl rfl rfl) rfl rfl rfl ?_
      refine aw_g (g_mv (.inr rfl) rfl) rfl rfl rfl ?_
      refine aw_nil ?_
      refine aw_ren 2 1 3 rfl rfl rfl rfl rfl rfl ?_
      exact aw_next ((k + 1, out ++ [x], d)) (by first | exact ⟨by omega, by simp; omega, by rw [← hinv.2.2, withL_in hx g20 g24]; simp⟩ | exact ⟨by omega, by simp; omega, by rw [← hinv.2.2, withL_on hx (fun h => g24 h.2)]; simp⟩ | exact ⟨by omega, by simp; omega, by rw [← hinv.2.2, withL_on hx (fun h => g20 h.1)]; simp⟩) (by show _ < p.length - k; simp only []; omega) rfl (by (repeat refine Fr.le_set ?_ (by first | rfl | (simp; done))); exact Fr.le_none _) (by (repeat refine Hp.le_set ?_ rfl); exact Hp.le_none _) (by (repeat refine Fr.below_setB ?_ rfl); exact Fr.below_none _) (by (repeat refine Hp.below_set ?_ (by decide)); exact Hp.below_none _)
  · skip
    refine aw_exit rfl ?_
    refine aw_seq ?_
    refine aw_seq ?_
    refine aw_region ?_
    refine aw_g (g_mv (.inl rfl) rfl) rfl rfl rfl ?_
    refine aw_g (g_not rfl rfl) rfl rfl rfl ?_
    refine aw_nil ?_
    refine aw_ifc (p := d = false) rfl (by cases d <;> rfl) (fun ht38 => ?_) (fun ht38 => ?_)
    · skip
      refine aw_region ?_
      refine aw_g (g_mo (.inl rfl) rfl) rfl rfl rfl ?_
      refine aw_g (g_load_b rfl rfl rfl (Lens.self _) ty_50) rfl rfl rfl ?_
      refine aw_g (g_bslice (T := coinT) (xs := [_]) rfl sl_22 row_22 ⟨rfl, rfl, trivial⟩ rfl rfl) rfl rfl rfl ?_
      refine aw_append rfl rfl rfl rfl rfl rfl rfl row_22 (by simp only [List.length_append, List.length_cons, List.length_nil]; omega) ?_
      refine aw_g (g_mo (.inr rfl) rfl) rfl rfl rfl ?_
      refine aw_nil ?_
      refine aw_seq ?_
      refine aw_region ?_
      refine aw_g (g_mo (.inl rfl) rfl) rfl rfl rfl ?_
      refine aw_g (g_mo (.inr rfl) rfl) rfl rfl rfl ?_
      refine aw_nil ?_
      exact aw_ret1 rfl rfl (ret_fresh_eq rfl rfl (by rw [← hinv.2.2, List.drop_of_length_le (by omega)]; simp [withL, ht38]))
    · skip
      refine aw_skip ?_
      refine aw_seq ?_
      refine aw_region ?_
      refine aw_g (g_mo (.inl rfl) rfl) rfl rfl rfl ?_
      refine aw_g (g_mo (.inr rfl) rfl) rfl rfl rfl ?_
      refine aw_nil ?_
      exact aw_ret1 rfl rfl (ret_fresh_eq rfl rfl (by rw [← hinv.2.2, List.drop_of_length_le (by omega)]; simp [withL, ht38]))

theorem rmade_ok (p : List Coin) (t : Tx) (hp : p.length ≤ 100) (ht : t.outs.length ≤ 100) : Tells P 36 [.val (sl coinT) p, .val txT t] (.val (sl coinT) (withs p (idOf t) t.outs t.outs.length)) := by
  refine fn_of_aw Try.func36 rfl rfl rfl (fun ext w hext => ?_)
  refine aw_fact (d := 0) rfl fact_sl (fun hsl0 => ?_)
  refine aw_seq ?_
  refine aw_region ?_
  refine aw_box rfl rfl rfl rfl rfl ?_
  refine aw_g (g_ml (.inr rfl) rfl) rfl rfl rfl ?_
  refine aw_nil ?_
  refine aw_seq ?_
  refine aw_region ?_
  refine aw_g (g_load_b rfl rfl rfl (Lens.self _) ty_26) rfl rfl rfl ?_
  refine aw_g (g_call (rid_ok _) rfl fn_35 ⟨(arg_v rfl), trivial⟩ rfl) rfl rfl rfl ?_
  refine aw_alloc ze_40 rfl rfl rfl rfl ?_
  refine aw_store_b rfl rfl rfl rfl rfl (Lens.self _) ty_40 rfl ?_
  refine aw_nil ?_
  refine aw_seq ?_
  refine aw_seq ?_
  refine aw_region ?_
  refine aw_g (g_mv (.inr rfl) rfl) rfl rfl rfl ?_
  refine aw_nil ?_
  refine aw_block ?_
  refine aw_reval (d := 0) (y := withs p (idOf t) t.outs 0) rfl (by unfold withs newN; simp) ?_
  refine aw_loopI (ι := Nat) 2 rfl (fun (k : Nat) => ((((Fr.none).set 0 (.val (sl coinT) (withs p (idOf t) t.outs k))).set 3 (.ptr 0 0)).set 5 (.ptr 1 0)).set 6 (.val i64T (k : Int))) (fun (k : Nat) => ((Hp.none).set 0 (.box 26 txT t)).set 1 (.box 40 idT (idOf t))) (fun (k : Nat) => k ≤ t.outs.length) (fun (k : Nat) => t.outs.length - k) (0) (Nat.zero_le _) (by (repeat refine Fr.le_set ?_ (by first | rfl | (simp; done))); exact Fr.le_none _) (by (repeat refine Hp.le_set ?_ rfl); exact Hp.le_none _) (by (repeat refine Fr.below_setB ?_ rfl); exact Fr.below_none _) (by (repeat refine Hp.below_set ?_ (by decide)); exact Hp.below_none _) ?_
  intro k hinv
  refine aw_seq ?_
  refine aw_seq ?_
  refine aw_region ?_
  refine aw_g (g_mv (.inl rfl) rfl) rfl rfl rfl ?_
  refine aw_g (g_fa_p rfl rfl fd_26_1 rfl) rfl rfl rfl ?_
  refine aw_g (g_load_b rfl rfl rfl L_Tx_outs ty_24) rfl rfl rfl ?_
  refine aw_g (g_len rfl rfl isl_24) rfl rfl rfl ?_
  refine aw_g (g_lss rfl rfl rfl rfl) rfl rfl rfl ?_
  refine aw_nil ?_
  refine aw_ifc (p := k < t.outs.length) rfl (by first | rfl | (rw [decide_eq_decide]; simp only [IntL.toI, id_eq]; omega) | (simp [IntL.toI]; done) | (simp [IntL.toI]; omega)) (fun ht13 => ?_) (fun ht13 => ?_)
  · skip
    obtain ⟨o, ho⟩ : ∃ o, t.outs[k]? = some o := ⟨_, List.getElem?_eq_getElem ht13⟩
    refine aw_skip ?_
    refine aw_seq ?_
    refine aw_block ?_
    refine aw_draw mixed (by decide +kernel) ?_
    refine GK.g (g_mv (.inl rfl) rfl) rfl rfl rfl ?_
    refine GK.g (g_load_b rfl rfl rfl (Lens.self _) ty_40) rfl rfl rfl ?_
    refine GK.g (g_mv (.inl rfl) rfl) rfl rfl rfl ?_
    refine GK.g (g_build rfl ze_42 bd_42 (.cons fd_42_0 L_In_tx ty_40 rfl (.cons fd_42_1 L_In_i ty_3 rfl .nil)) rfl) rfl rfl rfl ?_
    refine GK.g (g_fa_p rfl rfl fd_26_1 rfl) rfl rfl rfl ?_
    refine GK.g (g_load_b rfl rfl rfl L_Tx_outs ty_24) rfl rfl rfl ?_
    refine GK.g (g_mv (.inl rfl) rfl) rfl rfl rfl ?_
    refine GK.g (g_ia_i (i := k) rfl rfl rfl (by omega) sl_24 (by assumption)) rfl rfl rfl ?_
    refine GK.g (g_load_r rfl rfl ty_48) rfl rfl rfl ?_
    refine GK.g (g_build rfl ze_50 bd_50 (.cons fd_50_0 L_Coin_inn ty_42 rfl (.cons fd_50_1 L_Coin_out ty_48 rfl .nil)) rfl) rfl rfl rfl ?_
    refine GK.g (g_call (tells_pub (rwith_ok (withs p (idOf t) t.outs k) ⟨⟨idOf t, (k : Int)⟩, o⟩ (by have := withs_len (p := p) (id := idOf t) hinv; omega))) rfl fn_60 ⟨(arg_v rfl), (arg_v rfl), trivial⟩ rfl) rfl rfl rfl ?_
    refine GK.g (g_mv (.inr rfl) rfl) rfl rfl rfl ?_
    refine GK.nil ?_
    refine aw_inBlock ?_
    refine aw_region ?_
    refine aw_g (g_mv (.inl rfl) rfl) rfl rfl rfl ?_
    refine aw_g (by first | exact g_add rfl rfl rfl (wrap_eq (by first | omega | (simp; omega))) | exact g_add rfl rfl rfl rfl) rfl rfl rfl ?_
    refine aw_g (g_mv (.inr rfl) rfl) rfl rfl rfl ?_
    refine aw_nil ?_
    refine aw_reval (d := 0) rfl (withs_succ ho) ?_
    exact aw_next (k + 1) (by omega) (by omega) rfl (by (repeat refine Fr.le_set ?_ (by first | rfl | (simp; done))); exact Fr.le_none _) (by (repeat refine Hp.le_set ?_ rfl); exact Hp.le_none _) (by (repeat refine Fr.below_setB ?_ rfl); exact Fr.below_none _) (by (repeat refine Hp.below_set ?_ (by decide)); exact Hp.below_none _)
  · skip
    obtain rfl : k = t.outs.length := (by omega)
    refine aw_exit rfl ?_
    refine aw_seq ?_
    refine aw_region ?_
    refine aw_g (g_mv (.inl rfl) rfl) rfl rfl rfl ?_
    refine aw_g (g_mv (.inr rfl) rfl) rfl rfl rfl ?_
    refine aw_nil ?_
    exact aw_ret1 rfl rfl (ret_eq rfl rfl)

theorem halves_at {p : List Coin} {x : In} {k : Nat} {c : Coin} (hs : Sorted p) (hc : p[k]? = some c) (hx : c.inn = x) (lo hi : Nat) (h1 : lo ≤ k) (h2 : k ≤ hi) (h3 : hi ≤ p.length) : halves (fun c => ordIn c.inn x) p lo hi = k := by
  obtain ⟨hk, hk2⟩ := List.getElem?_eq_some_iff.1 hc
  rw [halves]
  split
  · rename_i hlt
    have hm : (lo + hi) / 2 < p.length := by omega
    rw [List.getElem?_eq_getElem hm]
    simp only []
    split
    · rename_i h0
      refine halves_at hs hc hx _ _ ?_ h2 h3
      rcases Nat.lt_trichotomy ((lo + hi) / 2) k with h | h | h
      · omega
      · simp only [h, hk2, hx] at h0
        have := ordIn_zero.2 (rfl : x = x); omega
      · have := List.pairwise_iff_getElem.1 hs k _ hk hm h
        rw [hk2, hx] at this
        have := ordIn_neg x (p[(lo + hi) / 2]).inn; omega
    · rename_i h0
      refine halves_at hs hc hx _ _ h1 ?_ (by omega)
      rcases Nat.lt_trichotomy ((lo + hi) / 2) k with h | h | h
      · have := List.pairwise_iff_getElem.1 hs _ k hm hk h
        rw [hk2, hx] at this
        exact absurd this h0
      · omega
      · omega
  · omega
termination_by hi - lo
theorem takeIns_at {p : List Coin} {x : In} {l : List In} {n : Int} {k : Nat} {c : Coin} (hs : Sorted p) (hc : p[k]? = some c) (hx : c.inn = x) : takeIns p n (x :: l) = takeIns (p.take k ++ p.drop (k + 1)) (IntKind.i64.wrap (n + c.out.v)) l := by
  have hk := (List.getElem?_eq_some_iff.1 hc).1
  have hp : placeOf p x = k := halves_at hs hc hx _ _ (Nat.zero_le _) (Nat.le_of_lt hk) (Nat.le_refl _)
  rw [takeIns.eq_2, hp, hc]
  simp only []
  rw [if_pos (ordIn_zero.2 hx)]
theorem takeIns_not {p : List Coin} {x : In} {l : List In} {n : Int} (h : ∀ c ∈ p, c.inn ≠ x) : takeIns p n (x :: l) = none := by
  rw [takeIns.eq_2]
  split
  · rfl
  · rename_i c hc
    rw [if_neg fun e => h c (List.mem_of_getElem? hc) (ordIn_zero.1 e)]
theorem spendOf_none {p : List Coin} {t : Tx} (hp : mayCoins p = true) (ht : mayTx t = true) (hne : t.ins ≠ []) (h : takeIns p 0 t.ins = none) : spendOf p t = (p, 0, 8) := by
  unfold spendOf
  rw [if_neg (Classical.not_not.2 ⟨hp, ht, hne⟩), h]
theorem spendOf_run {p rest : List Coin} {t : Tx} {n : Int} (hp : mayCoins p = true) (ht : mayTx t = true) (hne : t.ins ≠ []) (h : takeIns p 0 t.ins = some (rest, n)) : spendOf p t = if n < worthF (·.v) t.outs then (p, 0, 8) else if (rest.any fun c => decide (c.inn.tx = idOf t)) = true then (p, 0, 10) else if 48 < (madeOf rest t).1.length then (p, 0, 11) else ((madeOf rest t).1, n - worthF (·.v) t.outs, 0) := by
  obtain ⟨h1, h2, h3⟩ := mayCoins_iff.1 hp
  have hT := coins_tot h1 h3
  have h4 := takeIns_tot h h1 h3 (Int.le_refl _) (by omega)
  have hr := tot_pos (f := fun c : Coin => c.out.v) (l := rest) fun c hc => (coins_pos h1 c ((takeIns_good h).subset hc)).1
  have ho := outs_tot ht
  rw [← ho.1] at ho
  have e : IntKind.i64.wrap (n - worthF (·.v) t.outs) = n - worthF (·.v) t.outs := wrap_eq (by omega)
  unfold spendOf
  rw [if_neg (Classical.not_not.2 ⟨hp, ht, hne⟩), h]
  simp only []
  rw [e, madeOf_there]
  by_cases c1 : n < worthF (·.v) t.outs
  · rw [if_pos (by omega), if_pos c1]
  · rw [if_neg (by omega), if_neg c1]
    by_cases c2 : (rest.any fun c => decide (c.inn.tx = idOf t)) = true
    · simp only [if_pos c2]; rfl
    · simp only [if_neg c2, if_true]

theorem rspend_ok (p : List Coin) (t : Tx) : Tells P 13 [.val (sl coinT) p, .val txT t] (.tup3 (.val (sl coinT) (spendOf p t).1) (.val i64T (spendOf p t).2.1) (.val i64T (spendOf p t).2.2)) := by
  refine fn_of_aw Try.func13 rfl rfl rfl (fun ext w hext => ?_)
  refine aw_fact (d := 0) rfl fact_sl (fun hsl0 => ?_)
  refine aw_fact (d := 1) rfl fact_txl (fun htl => ?_)
  refine aw_seq ?_
  refine aw_region ?_
  refine aw_box rfl rfl rfl rfl rfl ?_
  refine aw_g (g_ml (.inr rfl) rfl) rfl rfl rfl ?_
  refine aw_g (g_mv (.inr rfl) rfl) rfl rfl rfl ?_
  refine aw_g (g_mv (.inr rfl) rfl) rfl rfl rfl ?_
  refine aw_nil ?_
  refine aw_seq ?_
  refine aw_region ?_
  refine aw_g (g_mv (.inl rfl) rfl) rfl rfl rfl ?_
  refine aw_g (g_call (rmay_ok _) rfl fn_17 ⟨(arg_v rfl), trivial⟩ rfl) rfl rfl rfl ?_
  refine aw_g (g_mv (.inr rfl) rfl) rfl rfl rfl ?_
  refine aw_nil ?_
  refine aw_seq ?_
  refine aw_region ?_
  refine aw_g (g_load_b rfl rfl rfl (Lens.self _) ty_26) rfl rfl rfl ?_
  refine aw_g (g_call (rmayTx_ok _) rfl fn_32 ⟨(arg_v rfl), trivial⟩ rfl) rfl rfl rfl ?_
  refine aw_g (g_mv (.inr rfl) rfl) rfl rfl rfl ?_
  refine aw_nil ?_
  refine aw_seq ?_
  refine aw_seq ?_
  refine aw_region ?_
  refine aw_g (g_mv (.inl rfl) rfl) rfl rfl rfl ?_
  refine aw_g (g_not rfl rfl) rfl rfl rfl ?_
  refine aw_splitp (d := 20) (p := ¬ mayCoins p = true) rfl (by simp) (fun g20 => ?_) (fun g20 => ?_)
  · skip
    refine aw_g (g_mv (.inl rfl) rfl) rfl rfl rfl ?_
    refine aw_gn rfl rfl rfl rfl rfl rfl rfl rfl ?_
    refine aw_gn rfl rfl rfl rfl rfl rfl rfl rfl ?_
    refine aw_g (g_pick rfl rfl rfl) rfl rfl rfl ?_
    refine aw_g (g_mv (.inl rfl) rfl) rfl rfl rfl ?_
    refine aw_gn rfl rfl rfl rfl rfl rfl rfl rfl ?_
    refine aw_gn rfl rfl rfl rfl rfl rfl rfl rfl ?_
    refine aw_gn rfl rfl rfl rfl rfl rfl rfl rfl ?_
    refine aw_gn rfl rfl rfl rfl rfl rfl rfl rfl ?_
    refine aw_g (g_pick rfl rfl rfl) rfl rfl rfl ?_
    refine aw_nil ?_
    refine aw_if_t rfl (rfl) ?_
    refine aw_seq ?_
    refine aw_region ?_
    refine aw_g (g_mv (.inl rfl) rfl) rfl rfl rfl ?_
    refine aw_g (g_mv (.inr rfl) rfl) rfl rfl rfl ?_
    refine aw_g (g_mv (.inr rfl) rfl) rfl rfl rfl ?_
    refine aw_g (g_mv (.inr rfl) rfl) rfl rfl rfl ?_
    refine aw_nil ?_
    have hS : spendOf p t = (p, 0, 1) := by unfold spendOf; rw [if_pos (fun h => g20 h.1)]
    exact aw_ret3 rfl rfl (ret_eq rfl (by rw [hS])) (ret_eq rfl (by rw [hS])) (ret_eq rfl (by rw [hS]))
  · skip
    refine aw_g (g_mv (.inl rfl) rfl) rfl rfl rfl ?_
    refine aw_gi (g_mv (.inl rfl) rfl) rfl rfl rfl rfl rfl rfl rfl rfl ?_
    refine aw_gi (g_not rfl rfl) rfl rfl rfl rfl rfl rfl rfl rfl ?_
    refine aw_splitp (d := 23) (p := ¬ mayTx t = true) rfl (by simp) (fun g23 => ?_) (fun g23 => ?_)
    · skip
      refine aw_g (g_pick rfl rfl rfl) rfl rfl rfl ?_
      refine aw_g (g_mv (.inl rfl) rfl) rfl rfl rfl ?_
      refine aw_gn rfl rfl rfl rfl rfl rfl rfl rfl ?_
      refine aw_gn rfl rfl rfl rfl rfl rfl rfl rfl ?_
      refine aw_gn rfl rfl rfl rfl rfl rfl rfl rfl ?_
      refine aw_gn rfl rfl rfl rfl rfl rfl rfl rfl ?_
      refine aw_g (g_pick rfl rfl rfl) rfl rfl rfl ?_
      refine aw_nil ?_
      refine aw_if_t rfl (rfl) ?_
      refine aw_seq ?_
      refine aw_region ?_
      refine aw_g (g_mv (.inl rfl) rfl) rfl rfl rfl ?_
      refine aw_g (g_mv (.inr rfl) rfl) rfl rfl rfl ?_
      refine aw_g (g_mv (.inr rfl) rfl) rfl rfl rfl ?_
      refine aw_g (g_mv (.inr rfl) rfl) rfl rfl rfl ?_
      refine aw_nil ?_
      have hS : spendOf p t = (p, 0, 1) := by unfold spendOf; rw [if_pos (fun h => g23 h.2.1)]
      exact aw_ret3 rfl rfl (ret_eq rfl (by rw [hS])) (ret_eq rfl (by rw [hS])) (ret_eq rfl (by rw [hS]))
    · skip
      refine aw_g (g_pick rfl rfl rfl) rfl rfl rfl ?_
      refine aw_g (g_mv (.inl rfl) rfl) rfl rfl rfl ?_
      refine aw_gi (g_fa_p rfl rfl fd_26_0 rfl) rfl rfl rfl rfl rfl rfl rfl rfl ?_
      refine aw_gi (g_load_b rfl rfl rfl L_Tx_ins ty_23) rfl rfl rfl rfl rfl rfl rfl rfl ?_
      refine aw_gi (g_len rfl rfl isl_23) rfl rfl rfl rfl rfl rfl rfl rfl ?_
      refine aw_gi (g_eql rfl rfl rfl rfl) rfl rfl rfl rfl rfl rfl rfl rfl ?_
      refine aw_splitp (d := 29) (p := t.ins.length = 0) rfl (by first | rfl | (rw [decide_eq_decide]; simp only [IntL.toI, id_eq]; omega) | (simp [IntL.toI]; done) | (simp [IntL.toI]; omega)) (fun g29 => ?_) (fun g29 => ?_)
      · skip
        refine aw_g (g_pick rfl rfl rfl) rfl rfl rfl ?_
        refine aw_nil ?_
        refine aw_if_t rfl (rfl) ?_
        refine aw_seq ?_
        refine aw_region ?_
        refine aw_g (g_mv (.inl rfl) rfl) rfl rfl rfl ?_
        refine aw_g (g_mv (.inr rfl) rfl) rfl rfl rfl ?_
        refine aw_g (g_mv (.inr rfl) rfl) rfl rfl rfl ?_
        refine aw_g (g_mv (.inr rfl) rfl) rfl rfl rfl ?_
        refine aw_nil ?_
        have hS : spendOf p t = (p, 0, 1) := by unfold spendOf; rw [if_pos (fun h => h.2.2 (List.eq_nil_of_length_eq_zero g29))]
        exact aw_ret3 rfl rfl (ret_eq rfl (by rw [hS])) (ret_eq rfl (by rw [hS])) (ret_eq rfl (by rw [hS]))
      · skip
        have hmp := Classical.not_not.1 g20
        have hmt := Classical.not_not.1 g23
        have hpl := mayCoins_len hmp
        have hne : t.ins ≠ [] := fun e => g29 (by rw [e]; rfl)
        have hlens := mayTx_lens hmt
        refine aw_g (g_pick rfl rfl rfl) rfl rfl rfl ?_
        refine aw_nil ?_
        refine aw_if_f rfl (rfl) ?_
        refine aw_skip ?_
        refine aw_seq ?_
        refine aw_region ?_
        refine aw_g (g_mv (.inl rfl) rfl) rfl rfl rfl ?_
        refine aw_append0 rfl rfl rfl rfl rfl rfl row_22 (by (try simp only [List.length_append, List.length_take, List.length_drop]); omega) ?_
        refine aw_g (g_mo (.inr rfl) rfl) rfl rfl rfl ?_
        refine aw_nil ?_
        refine aw_seq ?_
        refine aw_region ?_
        refine aw_g (g_mv (.inr rfl) rfl) rfl rfl rfl ?_
        refine aw_nil ?_
        refine aw_seq ?_
        refine aw_seq ?_
        refine aw_region ?_
        refine aw_g (g_mv (.inr rfl) rfl) rfl rfl rfl ?_
        refine aw_nil ?_
        refine aw_block ?_
        refine aw_pub (d := 9) rfl rfl ?_
        refine aw_loopI (ι := Nat × List Coin × Int) 1 rfl (fun (i : Nat × List Coin × Int) => match i with | (k, rest, n) => (((((Fr.none).set 0 (.val (sl coinT) p)).set 3 (.ptr 0 0)).set 9 (.val (sl coinT) rest)).set 10 (.val i64T n)).set 11 (.val i64T (k : Int))) (fun (i : Nat × List Coin × Int) => match i with | (k, rest, n) => (Hp.none).set 0 (.box 26 txT t)) (fun (i : Nat × List Coin × Int) => match i with | (k, rest, n) => k ≤ t.ins.length ∧ Sorted rest ∧ rest.length ≤ 48 ∧ takeIns p 0 t.ins = takeIns rest n (t.ins.drop k)) (fun (i : Nat × List Coin × Int) => match i with | (k, rest, n) => t.ins.length - k) ((0, p, 0)) (⟨Nat.zero_le _, (mayCoins_iff.1 hmp).2.1, hpl, rfl⟩) (by (repeat refine Fr.le_set ?_ (by first | rfl | (simp; done))); exact Fr.le_none _) (by (repeat refine Hp.le_set ?_ rfl); exact Hp.le_none _) (by (repeat refine Fr.below_setB ?_ rfl); exact Fr.below_none _) (by (repeat refine Hp.below_set ?_ (by decide)); exact Hp.below_none _) ?_
        intro ⟨k, rest, n⟩ hinv
        dsimp only at hinv
        refine aw_seq ?_
        refine aw_seq ?_
        refine aw_region ?_
        refine aw_g (g_mv (.inl rfl) rfl) rfl rfl rfl ?_
        refine aw_g (g_fa_p rfl rfl fd_26_0 rfl) rfl rfl rfl ?_
        refine aw_g (g_load_b rfl rfl rfl L_Tx_ins ty_23) rfl rfl rfl ?_
        refine aw_g (g_len rfl rfl isl_23) rfl rfl rfl ?_
        refine aw_g (g_lss rfl rfl rfl rfl) rfl rfl rfl ?_
        refine aw_nil ?_
        refine aw_ifc (p := k < t.ins.length) rfl (by first | rfl | (rw [decide_eq_decide]; simp only [IntL.toI, id_eq]; omega) | (simp [IntL.toI]; done) | (simp [IntL.toI]; omega)) (fun ht38 => ?_) (fun ht38 => ?_)
        · skip
          obtain ⟨x, hx⟩ : ∃ x, t.ins[k]? = some x := ⟨_, List.getElem?_eq_getElem ht38⟩
          have hdr : t.ins.drop k = x :: t.ins.drop (k + 1) := by rw [List.drop_eq_getElem_cons ht38]; congr 1; exact (List.getElem?_eq_some_iff.1 hx).2
          refine aw_skip ?_
          refine aw_seq ?_
          refine aw_block ?_
          refine aw_seq ?_
          refine aw_region ?_
          refine aw_g (g_mv (.inl rfl) rfl) rfl rfl rfl ?_
          refine aw_g (g_fa_p rfl rfl fd_26_0 rfl) rfl rfl rfl ?_
          refine aw_g (g_load_b rfl rfl rfl L_Tx_ins ty_23) rfl rfl rfl ?_
          refine aw_g (g_mv (.inl rfl) rfl) rfl rfl rfl ?_
          refine aw_g (g_ia_i (i := k) rfl rfl rfl (by omega) sl_23 (by assumption)) rfl rfl rfl ?_
          refine aw_g (g_load_r rfl rfl ty_42) rfl rfl rfl ?_
          refine aw_g (g_call (rfind_ok _ _) rfl fn_19 ⟨(arg_v rfl), (by first | exact arg_same rfl | exact arg_bsl rfl | exact arg_own rfl rfl | exact arg_nil rfl | exact arg_rptr rfl | exact arg_fn rfl rfl | exact arg_lit rfl), trivial⟩ rfl) rfl rfl rfl ?_
          refine aw_g (g_mv (.inr rfl) rfl) rfl rfl rfl ?_
          refine aw_nil ?_
          refine aw_seq ?_
          refine aw_seq ?_
          refine aw_region ?_
          refine aw_g (g_mv (.inl rfl) rfl) rfl rfl rfl ?_
          refine aw_g (g_lss rfl rfl rfl rfl) rfl rfl rfl ?_
          refine aw_nil ?_
          refine aw_ifc (p := findC rest x < 0) rfl (by first | rfl | (rw [decide_eq_decide]; simp only [IntL.toI, id_eq]; omega) | (simp [IntL.toI]; done) | (simp [IntL.toI]; omega)) (fun ht49 => ?_) (fun ht49 => ?_)
          · skip
            refine aw_seq ?_
            refine aw_region ?_
            refine aw_g (g_mv (.inl rfl) rfl) rfl rfl rfl ?_
            refine aw_g (g_mv (.inr rfl) rfl) rfl rfl rfl ?_
            refine aw_g (g_mv (.inr rfl) rfl) rfl rfl rfl ?_
            refine aw_g (g_mv (.inr rfl) rfl) rfl rfl rfl ?_
            refine aw_nil ?_
            have hS : spendOf p t = (p, 0, 8) := by exact spendOf_none hmp hmt hne (by rw [hinv.2.2.2, hdr]; exact takeIns_not (findC_none ht49))
            exact aw_ret3 rfl rfl (ret_eq rfl (by rw [hS])) (ret_eq rfl (by rw [hS])) (ret_eq rfl (by rw [hS]))
          · skip
            obtain ⟨c, hc, hcx, _⟩ := findC_some (Int.not_lt.1 ht49)
            obtain ⟨i, hi⟩ : ∃ i : Nat, findC rest x = i := ⟨_, (Int.toNat_of_nonneg (Int.not_lt.1 ht49)).symm⟩
            rw [hi, Int.toNat_natCast] at hc
            have hil := (List.getElem?_eq_some_iff.1 hc).1
            refine aw_reval (d := 12) (y := (i : Int)) rfl hi ?_
            refine aw_skip ?_
            refine aw_seq ?_
            refine aw_region ?_
            refine aw_g (g_mv (.inl rfl) rfl) rfl rfl rfl ?_
            refine aw_g (g_mv (.inl rfl) rfl) rfl rfl rfl ?_
            refine aw_g (g_mv (.inl rfl) rfl) rfl rfl rfl ?_
            refine aw_g (g_ia_i (i := i) rfl rfl rfl (by omega) sl_22 (by assumption)) rfl rfl rfl ?_
            refine aw_g (g_fa_r rfl rfl fd_50_1 L_Coin_out) rfl rfl rfl ?_
            refine aw_g (g_fa_r rfl rfl fd_48_0 L_Out_v) rfl rfl rfl ?_
            refine aw_g (g_load_r rfl rfl ty_3) rfl rfl rfl ?_
            refine aw_g (by first | exact g_add rfl rfl rfl (wrap_eq (by first | omega | (simp; omega))) | exact g_add rfl rfl rfl rfl) rfl rfl rfl ?_
            refine aw_g (g_mv (.inr rfl) rfl) rfl rfl rfl ?_
            refine aw_nil ?_
            refine aw_drawx [some 1, some 1, some 1, none, some 2, some 2, some 2, some 2, none, some 1] mixed (by decide +kernel) ?_
            refine XK.g (g_mv (.inl rfl) rfl) rfl rfl rfl ?_
            refine XK.g (g_mv (.inl rfl) rfl) rfl rfl rfl ?_
            refine XK.g (by first | exact g_sl_nil rfl rfl rfl (by first | rfl | omega) sl_22 | exact g_sl_h rfl rfl rfl sl_22 (by first | assumption | omega | (simp; omega))) rfl rfl rfl ?_
            refine XK.e (fun fr' hfr kk H => by exact aw_append0 rfl rfl rfl rfl rfl ((hfr 61 (by decide +kernel)).trans rfl) row_22 (by (try simp only [List.length_append, List.length_take, List.length_drop]); omega) (aw_nil H)) ?_
            refine XK.g2 (g_mv (.inl rfl) rfl) (g_mv (.inl rfl) rfl) rfl rfl rfl ?_
            refine XK.g2 (g_mv (.inl rfl) rfl) (g_mv (.inl rfl) rfl) rfl rfl rfl ?_
            refine XK.g2 (by first | exact g_add rfl rfl rfl (wrap_eq (by first | omega | (simp; omega))) | exact g_add rfl rfl rfl rfl) (by first | exact g_add rfl rfl rfl (wrap_eq (by first | omega | (simp; omega))) | exact g_add rfl rfl rfl rfl) rfl rfl rfl ?_
            refine XK.g2 (g_sl_l rfl rfl rfl sl_22 (by first | assumption | omega | (simp; omega))) (g_sl_l rfl rfl rfl sl_22 (by first | assumption | omega | (simp; omega))) rfl rfl rfl ?_
            refine XK.e (fun fr' hfr kk H => by exact aw_append rfl rfl rfl rfl ((hfr 62 (by decide +kernel)).trans rfl) rfl ((hfr 66 (by decide +kernel)).trans rfl) row_22 (by (try simp only [List.length_append, List.length_take, List.length_drop]); omega) (aw_nil H)) ?_
            refine XK.g (g_mo (.inr rfl) rfl) rfl rfl rfl ?_
            refine XK.nil' ?_
            refine aw_inBlock ?_
            refine aw_region ?_
            refine aw_g (g_mv (.inl rfl) rfl) rfl rfl rfl ?_
            refine aw_g (by first | exact g_add rfl rfl rfl (wrap_eq (by first | omega | (simp; omega))) | exact g_add rfl rfl rfl rfl) rfl rfl rfl ?_
            refine aw_g (g_mv (.inr rfl) rfl) rfl rfl rfl ?_
            refine aw_nil ?_
            refine aw_pub (d := 9) rfl rfl ?_
            exact aw_next ((k + 1, rest.take i ++ rest.drop (i + 1), IntKind.i64.wrap (n + c.out.v))) (⟨by omega, del_sorted _ hinv.2.1, by simp; omega, by rw [hinv.2.2.2, hdr, takeIns_at hinv.2.1 hc hcx]⟩) (by show _ < t.ins.length - k; simp only []; omega) rfl (by (repeat refine Fr.le_set ?_ (by first | rfl | (simp; done))); exact Fr.le_none _) (by (repeat refine Hp.le_set ?_ rfl); exact Hp.le_none _) (by (repeat refine Fr.below_setB ?_ rfl); exact Fr.below_none _) (by (repeat refine Hp.below_set ?_ (by decide)); exact Hp.below_none _)
        · skip
          obtain rfl : k = t.ins.length := (by omega)
          have htk : takeIns p 0 t.ins = some (rest, n) := by rw [hinv.2.2.2, List.drop_of_length_le (Nat.le_refl _)]; rfl
          refine aw_exit rfl ?_
          refine aw_seq ?_
          refine aw_seq ?_
          refine aw_region ?_
          refine aw_g (g_load_b rfl rfl rfl (Lens.self _) ty_26) rfl rfl rfl ?_
          refine aw_g (g_call (rworth_ok _) rfl fn_33 ⟨(arg_v rfl), trivial⟩ rfl) rfl rfl rfl ?_
          refine aw_g (g_mv (.inl rfl) rfl) rfl rfl rfl ?_
          refine aw_g (g_gtr rfl rfl rfl rfl) rfl rfl rfl ?_
          refine aw_nil ?_
          refine aw_ifc (p := n < worthF (·.v) t.outs) rfl (by first | rfl | (rw [decide_eq_decide]; simp only [IntL.toI, id_eq]; omega) | (simp [IntL.toI]; done) | (simp [IntL.toI]; omega)) (fun ht71 => ?_) (fun ht71 => ?_)
          · skip
            refine aw_seq ?_
            refine aw_region ?_
            refine aw_g (g_mv (.inl rfl) rfl) rfl rfl rfl ?_
            refine aw_g (g_mv (.inr rfl) rfl) rfl rfl rfl ?_
            refine aw_g (g_mv (.inr rfl) rfl) rfl rfl rfl ?_
            refine aw_g (g_mv (.inr rfl) rfl) rfl rfl rfl ?_
            refine aw_nil ?_
            have hS : spendOf p t = (p, 0, 8) := by rw [spendOf_run hmp hmt hne htk]; rw [if_pos ht71]
            exact aw_ret3 rfl rfl (ret_eq rfl (by rw [hS])) (ret_eq rfl (by rw [hS])) (ret_eq rfl (by rw [hS]))
          · skip
            refine aw_skip ?_
            refine aw_seq ?_
            refine aw_region ?_
            refine aw_g (g_mv (.inl rfl) rfl) rfl rfl rfl ?_
            refine aw_g (g_load_b rfl rfl rfl (Lens.self _) ty_26) rfl rfl rfl ?_
            refine aw_g (g_call (rid_ok _) rfl fn_35 ⟨(arg_v rfl), trivial⟩ rfl) rfl rfl rfl ?_
            refine aw_g (g_call (rthere_ok _ _) rfl fn_34 ⟨(arg_v rfl), (arg_v rfl), trivial⟩ rfl) rfl rfl rfl ?_
            refine aw_g (g_mv (.inr rfl) rfl) rfl rfl rfl ?_
            refine aw_nil ?_
            refine aw_seq ?_
            refine aw_seq ?_
            refine aw_region ?_
            refine aw_g (g_mv (.inl rfl) rfl) rfl rfl rfl ?_
            refine aw_nil ?_
            refine aw_ifc (p := (rest.any fun c => decide (c.inn.tx = idOf t)) = true) rfl (Bool.decide_eq_true.symm) (fun ht77 => ?_) (fun ht77 => ?_)
            · skip
              refine aw_seq ?_
              refine aw_region ?_
              refine aw_g (g_mv (.inl rfl) rfl) rfl rfl rfl ?_
              refine aw_g (g_mv (.inr rfl) rfl) rfl rfl rfl ?_
              refine aw_g (g_mv (.inr rfl) rfl) rfl rfl rfl ?_
              refine aw_g (g_mv (.inr rfl) rfl) rfl rfl rfl ?_
              refine aw_nil ?_
              have hS : spendOf p t = (p, 0, 10) := by rw [spendOf_run hmp hmt hne htk]; rw [if_neg ht71, if_pos ht77]
              exact aw_ret3 rfl rfl (ret_eq rfl (by rw [hS])) (ret_eq rfl (by rw [hS])) (ret_eq rfl (by rw [hS]))
            · skip
              have hz : (madeOf rest t).2 = 0 := by rw [madeOf_there, if_neg ht77]
              obtain ⟨hm1, hm2, hm3⟩ := mayCoins_iff.1 hmp
              have hT := coins_tot hm1 hm3
              have hTt := takeIns_tot htk hm1 hm3 (Int.le_refl _) (by omega)
              have hTo := outs_tot hmt
              rw [← hTo.1] at hTo
              have hTr := tot_pos (f := fun c : Coin => c.out.v) (l := rest) fun c hc => (coins_pos hm1 c ((takeIns_good htk).subset hc)).1
              refine aw_skip ?_
              refine aw_seq ?_
              refine aw_region ?_
              refine aw_g (g_mv (.inl rfl) rfl) rfl rfl rfl ?_
              refine aw_g (g_load_b rfl rfl rfl (Lens.self _) ty_26) rfl rfl rfl ?_
              refine aw_g (g_call (rmade_ok rest t (by omega) (by omega)) rfl fn_36 ⟨(arg_v rfl), (arg_v rfl), trivial⟩ rfl) rfl rfl rfl ?_
              refine aw_reval (d := 81) (y := (madeOf rest t).1) rfl (withs_made hinv.2.1 hz) ?_
              refine aw_g (g_mv (.inr rfl) rfl) rfl rfl rfl ?_
              refine aw_nil ?_
              refine aw_seq ?_
              refine aw_seq ?_
              refine aw_region ?_
              refine aw_g (g_mv (.inl rfl) rfl) rfl rfl rfl ?_
              refine aw_g (g_len rfl rfl isl_22) rfl rfl rfl ?_
              refine aw_g (g_gtr rfl rfl rfl rfl) rfl rfl rfl ?_
              refine aw_nil ?_
              refine aw_ifc (p := 48 < (madeOf rest t).1.length) rfl (by first | rfl | (rw [decide_eq_decide]; simp only [IntL.toI, id_eq]; omega) | (simp [IntL.toI]; done) | (simp [IntL.toI]; omega)) (fun ht84 => ?_) (fun ht84 => ?_)
              · skip
                refine aw_seq ?_
                refine aw_region ?_
                refine aw_g (g_mv (.inl rfl) rfl) rfl rfl rfl ?_
                refine aw_g (g_mv (.inr rfl) rfl) rfl rfl rfl ?_
                refine aw_g (g_mv (.inr rfl) rfl) rfl rfl rfl ?_
                refine aw_g (g_mv (.inr rfl) rfl) rfl rfl rfl ?_
                refine aw_nil ?_
                have hS : spendOf p t = (p, 0, 11) := by rw [spendOf_run hmp hmt hne htk]; rw [if_neg ht71, if_neg ht77, if_pos ht84]
                exact aw_ret3 rfl rfl (ret_eq rfl (by rw [hS])) (ret_eq rfl (by rw [hS])) (ret_eq rfl (by rw [hS]))
              · skip
                refine aw_skip ?_
                refine aw_seq ?_
                refine aw_region ?_
                refine aw_g (g_mv (.inl rfl) rfl) rfl rfl rfl ?_
                refine aw_g (g_mv (.inl rfl) rfl) rfl rfl rfl ?_
                refine aw_g (g_load_b rfl rfl rfl (Lens.self _) ty_26) rfl rfl rfl ?_
                refine aw_g (g_call (rworth_ok _) rfl fn_33 ⟨(arg_v rfl), trivial⟩ rfl) rfl rfl rfl ?_
                refine aw_g (by first | exact g_sub rfl rfl rfl (wrap_eq (by first | omega | (simp; omega))) | exact g_sub rfl rfl rfl rfl) rfl rfl rfl ?_
                refine aw_g (g_mv (.inr rfl) rfl) rfl rfl rfl ?_
                refine aw_g (g_mv (.inr rfl) rfl) rfl rfl rfl ?_
                refine aw_g (g_mv (.inr rfl) rfl) rfl rfl rfl ?_
                refine aw_nil ?_
                have hS : spendOf p t = ((madeOf rest t).1, n - worthF (·.v) t.outs, 0) := by rw [spendOf_run hmp hmt hne htk]; rw [if_neg ht71, if_neg ht77, if_neg ht84]
                exact aw_ret3 rfl rfl (ret_eq rfl (by rw [hS])) (ret_eq rfl (by rw [hS])) (ret_eq rfl (by rw [hS]))

theorem rapply_ok (p : List Coin) (l : List Tx) : Tells P 15 [.val (sl coinT) p, .val (sl txT) l] (.tup2 (.val (sl coinT) (applyOf p l).1) (.val i64T (applyOf p l).2)) := by
  refine fn_of_aw Try.func15 rfl rfl rfl (fun ext w hext => ?_)
  refine aw_fact (d := 0) rfl fact_sl (fun hsl0 => ?_)
  refine aw_fact (d := 1) rfl fact_sl (fun hsl1 => ?_)
  refine aw_seq ?_
  refine aw_region ?_
  refine aw_g (g_ml (.inr rfl) rfl) rfl rfl rfl ?_
  refine aw_g (g_mv (.inr rfl) rfl) rfl rfl rfl ?_
  refine aw_nil ?_
  refine aw_seq ?_
  refine aw_region ?_
  refine aw_g (g_mv (.inl rfl) rfl) rfl rfl rfl ?_
  refine aw_g (g_call (rmay_ok _) rfl fn_17 ⟨(arg_v rfl), trivial⟩ rfl) rfl rfl rfl ?_
  refine aw_g (g_mv (.inr rfl) rfl) rfl rfl rfl ?_
  refine aw_nil ?_
  refine aw_seq ?_
  refine aw_seq ?_
  refine aw_region ?_
  refine aw_g (g_mv (.inl rfl) rfl) rfl rfl rfl ?_
  refine aw_g (g_not rfl rfl) rfl rfl rfl ?_
  refine aw_nil ?_
  refine aw_ifc (p := ¬ mayCoins p = true) rfl (by simp) (fun ht18 => ?_) (fun ht18 => ?_)
  · skip
    refine aw_seq ?_
    refine aw_region ?_
    refine aw_g (g_mv (.inl rfl) rfl) rfl rfl rfl ?_
    refine aw_g (g_mv (.inr rfl) rfl) rfl rfl rfl ?_
    refine aw_g (g_mv (.inr rfl) rfl) rfl rfl rfl ?_
    refine aw_nil ?_
    have hS : applyOf p l = (p, 1) := by unfold applyOf; rw [if_pos ht18]
    exact aw_ret2 rfl rfl (ret_eq rfl (by rw [hS])) (ret_eq rfl (by rw [hS]))
  · skip
    have hmp := Classical.not_not.1 ht18
    have hpl := mayCoins_len hmp
    have hT := coins_tot (mayCoins_iff.1 hmp).1 (mayCoins_iff.1 hmp).2.2
    refine aw_skip ?_
    refine aw_seq ?_
    refine aw_seq ?_
    refine aw_region ?_
    refine aw_g (g_mv (.inl rfl) rfl) rfl rfl rfl ?_
    refine aw_g (g_len rfl rfl isl_27) rfl rfl rfl ?_
    refine aw_g (g_gtr rfl rfl rfl rfl) rfl rfl rfl ?_
    refine aw_nil ?_
    refine aw_ifc (p := 4 < l.length) rfl (by first | rfl | (rw [decide_eq_decide]; simp only [IntL.toI, id_eq]; omega) | (simp [IntL.toI]; done) | (simp [IntL.toI]; omega)) (fun ht22 => ?_) (fun ht22 => ?_)
    · skip
      refine aw_seq ?_
      refine aw_region ?_
      refine aw_g (g_mv (.inl rfl) rfl) rfl rfl rfl ?_
      refine aw_g (g_mv (.inr rfl) rfl) rfl rfl rfl ?_
      refine aw_g (g_mv (.inr rfl) rfl) rfl rfl rfl ?_
      refine aw_nil ?_
      have hS : applyOf p l = (p, 3) := by unfold applyOf; rw [if_neg (Classical.not_not.2 hmp), if_pos ht22]
      exact aw_ret2 rfl rfl (ret_eq rfl (by rw [hS])) (ret_eq rfl (by rw [hS]))
    · skip
      refine aw_skip ?_
      refine aw_seq ?_
      refine aw_region ?_
      refine aw_g (g_mv (.inl rfl) rfl) rfl rfl rfl ?_
      refine aw_g (g_mv (.inr rfl) rfl) rfl rfl rfl ?_
      refine aw_nil ?_
      refine aw_seq ?_
      refine aw_region ?_
      refine aw_g (g_mv (.inr rfl) rfl) rfl rfl rfl ?_
      refine aw_nil ?_
      refine aw_seq ?_
      refine aw_seq ?_
      refine aw_region ?_
      refine aw_g (g_mv (.inr rfl) rfl) rfl rfl rfl ?_
      refine aw_nil ?_
      refine aw_block ?_
      refine aw_loopI (ι := Nat × List Coin × Int) 0 rfl (fun (i : Nat × List Coin × Int) => match i with | (k, out, left) => (((((Fr.none).set 0 (.val (sl coinT) p)).set 1 (.val (sl txT) l)).set 7 (.val (sl coinT) out)).set 8 (.val i64T left)).set 9 (.val i64T (k : Int))) (fun (i : Nat × List Coin × Int) => match i with | (k, out, left) => Hp.none) (fun (i : Nat × List Coin × Int) => match i with | (k, out, left) => k ≤ l.length ∧ mayCoins out = true ∧ runTxs p 50 (remTxs l 0) = runTxs out (50 + left) (remTxs l k) ∧ 0 ≤ left ∧ tot (·.out.v) out + left = tot (·.out.v) p) (fun (i : Nat × List Coin × Int) => match i with | (k, out, left) => l.length - k) ((0, p, 0)) (⟨Nat.zero_le _, hmp, rfl, Int.le_refl _, by simp⟩) (by (repeat refine Fr.le_set ?_ (by first | rfl | (simp; done))); exact Fr.le_none _) (by (repeat refine Hp.le_set ?_ rfl); exact Hp.le_none _) (by (repeat refine Fr.below_setB ?_ rfl); exact Fr.below_none _) (by (repeat refine Hp.below_set ?_ (by decide)); exact Hp.below_none _) ?_
      intro ⟨k, out, left⟩ hinv
      dsimp only at hinv
      refine aw_seq ?_
      refine aw_seq ?_
      refine aw_region ?_
      refine aw_g (g_mv (.inl rfl) rfl) rfl rfl rfl ?_
      refine aw_g (g_mv (.inl rfl) rfl) rfl rfl rfl ?_
      refine aw_g (g_len rfl rfl isl_27) rfl rfl rfl ?_
      refine aw_g (g_lss rfl rfl rfl rfl) rfl rfl rfl ?_
      refine aw_nil ?_
      refine aw_ifc (p := k < l.length) rfl (by first | rfl | (rw [decide_eq_decide]; simp only [IntL.toI, id_eq]; omega) | (simp [IntL.toI]; done) | (simp [IntL.toI]; omega)) (fun ht28 => ?_) (fun ht28 => ?_)
      · skip
        obtain ⟨t, hx⟩ : ∃ t, l[k]? = some t := ⟨_, List.getElem?_eq_getElem ht28⟩
        obtain ⟨t0, ht0⟩ : ∃ t0, l[0]? = some t0 := ⟨_, List.getElem?_eq_getElem (by omega)⟩
        have hif := isFirst_at ht0
        refine aw_skip ?_
        refine aw_seq ?_
        refine aw_block ?_
        refine aw_seq ?_
        refine aw_seq ?_
        refine aw_region ?_
        refine aw_g (g_mv (.inl rfl) rfl) rfl rfl rfl ?_
        refine aw_g (g_eql rfl rfl rfl rfl) rfl rfl rfl ?_
        refine aw_splitp (d := 32) (p := k = 0) rfl (by first | rfl | (rw [decide_eq_decide]; simp only [IntL.toI, id_eq]; omega) | (simp [IntL.toI]; done) | (simp [IntL.toI]; omega)) (fun g32 => ?_) (fun g32 => ?_)
        · skip
          refine aw_g (g_mv (.inl rfl) rfl) rfl rfl rfl ?_
          refine aw_gi (g_mv (.inl rfl) rfl) rfl rfl rfl rfl rfl rfl rfl rfl ?_
          refine aw_gi (g_ia_i (i := 0) rfl rfl rfl (by omega) sl_27 (by assumption)) rfl rfl rfl rfl rfl rfl rfl rfl ?_
          refine aw_gi (g_fa_r rfl rfl fd_26_0 L_Tx_ins) rfl rfl rfl rfl rfl rfl rfl rfl ?_
          refine aw_gi (g_load_r rfl rfl ty_23) rfl rfl rfl rfl rfl rfl rfl rfl ?_
          refine aw_gi (by first | exact g_len rfl rfl isl_23 | exact g_len_o rfl rfl rfl isl_23 | exact g_len_nil rfl rfl isl_23) rfl rfl rfl rfl rfl rfl rfl rfl ?_
          refine aw_gi (g_eql rfl rfl rfl rfl) rfl rfl rfl rfl rfl rfl rfl rfl ?_
          refine aw_splitp (d := 39) (p := t0.ins.length = 0) rfl (by first | rfl | (rw [decide_eq_decide]; simp only [IntL.toI, id_eq]; omega) | (simp [IntL.toI]; done) | (simp [IntL.toI]; omega)) (fun g39 => ?_) (fun g39 => ?_)
          · skip
            refine aw_g (g_pick rfl rfl rfl) rfl rfl rfl ?_
            refine aw_nil ?_
            refine aw_if_t rfl (rfl) ?_
            refine aw_exit rfl ?_
            refine aw_region ?_
            refine aw_g (g_mv (.inl rfl) rfl) rfl rfl rfl ?_
            refine aw_g (by first | exact g_add rfl rfl rfl (wrap_eq (by first | omega | (simp; omega))) | exact g_add rfl rfl rfl rfl) rfl rfl rfl ?_
            refine aw_g (g_mv (.inr rfl) rfl) rfl rfl rfl ?_
            refine aw_nil ?_
            exact aw_next ((k + 1, out, left)) (by first | exact ⟨by omega, hinv.2.1, by rw [hinv.2.2.1, g32, remTxs_first (by rw [hif]; exact decide_eq_true g39)], hinv.2.2.2⟩ | exact ⟨by omega, hsm, hinv.2.2.1.trans hgo, by omega, by omega⟩) (by show _ < l.length - k; simp only []; omega) rfl (by (repeat refine Fr.le_set ?_ (by first | rfl | (simp; done))); exact Fr.le_none _) (by (repeat refine Hp.le_set ?_ rfl); exact Hp.le_none _) (by (repeat refine Fr.below_setB ?_ rfl); exact Fr.below_none _) (by (repeat refine Hp.below_set ?_ (by decide)); exact Hp.below_none _)
          · skip
            have hnf : ¬ (isFirst l = true ∧ k = 0) := fun h => g39 (by have := h.1; rw [hif] at this; exact of_decide_eq_true this)
            refine aw_g (g_pick rfl rfl rfl) rfl rfl rfl ?_
            refine aw_nil ?_
            refine aw_if_f rfl (rfl) ?_
            refine aw_skip ?_
            refine aw_seq ?_
            refine aw_region ?_
            refine aw_g (g_mv (.inl rfl) rfl) rfl rfl rfl ?_
            refine aw_g (g_mv (.inl rfl) rfl) rfl rfl rfl ?_
            refine aw_g (g_mv (.inl rfl) rfl) rfl rfl rfl ?_
            refine aw_g (g_ia_i (i := k) rfl rfl rfl (by omega) sl_27 (by assumption)) rfl rfl rfl ?_
            refine aw_g (g_load_r rfl rfl ty_26) rfl rfl rfl ?_
            refine aw_g (g_call (rspend_ok out t) rfl fn_13 ⟨(arg_v rfl), (by first | exact arg_same rfl | exact arg_bsl rfl | exact arg_own rfl rfl | exact arg_nil rfl | exact arg_rptr rfl | exact arg_fn rfl rfl | exact arg_lit rfl), trivial⟩ rfl) rfl rfl rfl ?_
            refine aw_g (by first | exact g_mv (.inl rfl) rfl | exact g_mp (.inl rfl) rfl | exact g_mo (.inl rfl) rfl | exact g_ml (.inl rfl) rfl | exact g_mc (.inl rfl) rfl | exact g_mr (.inl rfl) rfl | exact g_mf1 (.inl rfl) rfl | exact g_mf2 (.inl rfl) rfl | exact g_mw (.inl rfl) rfl | exact g_me (.inl rfl) rfl | exact g_ms (.inl rfl) rfl | exact g_mt2 (.inl rfl) rfl | exact g_mt3 (.inl rfl) rfl | exact g_mi (.inl rfl) rfl) rfl rfl rfl ?_
            refine aw_g (by first | exact g_x20 rfl rfl | exact g_x30 rfl rfl) rfl rfl rfl ?_
            refine aw_g (by first | exact g_x21 rfl rfl | exact g_x31 rfl rfl) rfl rfl rfl ?_
            refine aw_g (g_x32 rfl rfl) rfl rfl rfl ?_
            refine aw_g (g_mv (.inr rfl) rfl) rfl rfl rfl ?_
            refine aw_g (g_mv (.inr rfl) rfl) rfl rfl rfl ?_
            refine aw_g (g_mv (.inr rfl) rfl) rfl rfl rfl ?_
            refine aw_nil ?_
            refine aw_seq ?_
            refine aw_seq ?_
            refine aw_region ?_
            refine aw_g (g_mv (.inl rfl) rfl) rfl rfl rfl ?_
            refine aw_g (g_neq rfl rfl rfl rfl) rfl rfl rfl ?_
            refine aw_nil ?_
            refine aw_ifc (p := ¬ (spendOf out t).2.2 = 0) rfl (by simp [IntL.toI]) (fun ht52 => ?_) (fun ht52 => ?_)
            · skip
              refine aw_seq ?_
              refine aw_region ?_
              refine aw_g (g_mv (.inl rfl) rfl) rfl rfl rfl ?_
              refine aw_g (g_mv (.inl rfl) rfl) rfl rfl rfl ?_
              refine aw_g (g_mv (.inr rfl) rfl) rfl rfl rfl ?_
              refine aw_g (g_mv (.inr rfl) rfl) rfl rfl rfl ?_
              refine aw_nil ?_
              have hS : applyOf p l = (p, (spendOf out t).2.2) := by unfold applyOf; rw [if_neg (Classical.not_not.2 hmp), if_neg ht22]; rw [hinv.2.2.1, runTxs_stop hnf hx ht52]
              exact aw_ret2 rfl rfl (ret_eq rfl (by rw [hS])) (ret_eq rfl (by rw [hS]))
            · skip
              have hs := spendOf_tot (t := t) hinv.2.1
              have hsm := spendOf_may (t := t) hinv.2.1
              have hsc := coins_tot (mayCoins_iff.1 hsm).1 (mayCoins_iff.1 hsm).2.2
              have hgo := runTxs_step (room := 50 + left) hnf hx (Classical.not_not.1 ht52)
              have hw : IntKind.i64.wrap (50 + left + (spendOf out t).2.1) = 50 + (left + (spendOf out t).2.1) := by rw [wrap_eq (by omega)]; omega
              rw [hw] at hgo
              refine aw_skip ?_
              refine aw_seq ?_
              refine aw_region ?_
              refine aw_g (g_mv (.inl rfl) rfl) rfl rfl rfl ?_
              refine aw_g (g_mv (.inr rfl) rfl) rfl rfl rfl ?_
              refine aw_nil ?_
              refine aw_region ?_
              refine aw_g (g_mv (.inl rfl) rfl) rfl rfl rfl ?_
              refine aw_g (g_mv (.inl rfl) rfl) rfl rfl rfl ?_
              refine aw_g (by first | exact g_add rfl rfl rfl (wrap_eq (by first | omega | (simp; omega))) | exact g_add rfl rfl rfl rfl) rfl rfl rfl ?_
              refine aw_g (g_mv (.inr rfl) rfl) rfl rfl rfl ?_
              refine aw_nil ?_
              refine aw_inBlock ?_
              refine aw_region ?_
              refine aw_g (g_mv (.inl rfl) rfl) rfl rfl rfl ?_
              refine aw_g (by first | exact g_add rfl rfl rfl (wrap_eq (by first | omega | (simp; omega))) | exact g_add rfl rfl rfl rfl) rfl rfl rfl ?_
              refine aw_g (g_mv (.inr rfl) rfl) rfl rfl rfl ?_
              refine aw_nil ?_
              exact aw_next ((k + 1, (spendOf out t).1, left + (spendOf out t).2.1)) (by first | exact ⟨by omega, hinv.2.1, by rw [hinv.2.2.1, g32, remTxs_first (by rw [hif]; exact decide_eq_true g39)], hinv.2.2.2⟩ | exact ⟨by omega, hsm, hinv.2.2.1.trans hgo, by omega, by omega⟩) (by show _ < l.length - k; simp only []; omega) rfl (by (repeat refine Fr.le_set ?_ (by first | rfl | (simp; done))); exact Fr.le_none _) (by (repeat refine Hp.le_set ?_ rfl); exact Hp.le_none _) (by (repeat refine Fr.below_setB ?_ rfl); exact Fr.below_none _) (by (repeat refine Hp.below_set ?_ (by decide)); exact Hp.below_none _)
        · skip
          have hnf : ¬ (isFirst l = true ∧ k = 0) := fun h => g32 h.2
          refine aw_g (g_mv (.inl rfl) rfl) rfl rfl rfl ?_
          refine aw_gn rfl rfl rfl rfl rfl rfl rfl rfl ?_
          refine aw_gn rfl rfl rfl rfl rfl rfl rfl rfl ?_
          refine aw_gn rfl rfl rfl rfl rfl rfl rfl rfl ?_
          refine aw_gn rfl rfl rfl rfl rfl rfl rfl rfl ?_
          refine aw_gn rfl rfl rfl rfl rfl rfl rfl rfl ?_
          refine aw_gn rfl rfl rfl rfl rfl rfl rfl rfl ?_
          refine aw_g (g_pick rfl rfl rfl) rfl rfl rfl ?_
          refine aw_nil ?_
          refine aw_if_f rfl (rfl) ?_
          refine aw_skip ?_
          refine aw_seq ?_
          refine aw_region ?_
          refine aw_g (g_mv (.inl rfl) rfl) rfl rfl rfl ?_
          refine aw_g (g_mv (.inl rfl) rfl) rfl rfl rfl ?_
          refine aw_g (g_mv (.inl rfl) rfl) rfl rfl rfl ?_
          refine aw_g (g_ia_i (i := k) rfl rfl rfl (by omega) sl_27 (by assumption)) rfl rfl rfl ?_
          refine aw_g (g_load_r rfl rfl ty_26) rfl rfl rfl ?_
          refine aw_g (g_call (rspend_ok out t) rfl fn_13 ⟨(arg_v rfl), (by first | exact arg_same rfl | exact arg_bsl rfl | exact arg_own rfl rfl | exact arg_nil rfl | exact arg_rptr rfl | exact arg_fn rfl rfl | exact arg_lit rfl), trivial⟩ rfl) rfl rfl rfl ?_
          refine aw_g (by first | exact g_mv (.inl rfl) rfl | exact g_mp (.inl rfl) rfl | exact g_mo (.inl rfl) rfl | exact g_ml (.inl rfl) rfl | exact g_mc (.inl rfl) rfl | exact g_mr (.inl rfl) rfl | exact g_mf1 (.inl rfl) rfl | exact g_mf2 (.inl rfl) rfl | exact g_mw (.inl rfl) rfl | exact g_me (.inl rfl) rfl | exact g_ms (.inl rfl) rfl | exact g_mt2 (.inl rfl) rfl | exact g_mt3 (.inl rfl) rfl | exact g_mi (.inl rfl) rfl) rfl rfl rfl ?_
          refine aw_g (by first | exact g_x20 rfl rfl | exact g_x30 rfl rfl) rfl rfl rfl ?_
          refine aw_g (by first | exact g_x21 rfl rfl | exact g_x31 rfl rfl) rfl rfl rfl ?_
          refine aw_g (g_x32 rfl rfl) rfl rfl rfl ?_
          refine aw_g (g_mv (.inr rfl) rfl) rfl rfl rfl ?_
          refine aw_g (g_mv (.inr rfl) rfl) rfl rfl rfl ?_
          refine aw_g (g_mv (.inr rfl) rfl) rfl rfl rfl ?_
          refine aw_nil ?_
          refine aw_seq ?_
          refine aw_seq ?_
          refine aw_region ?_
          refine aw_g (g_mv (.inl rfl) rfl) rfl rfl rfl ?_
          refine aw_g (g_neq rfl rfl rfl rfl) rfl rfl rfl ?_
          refine aw_nil ?_
          refine aw_ifc (p := ¬ (spendOf out t).2.2 = 0) rfl (by simp [IntL.toI]) (fun ht52 => ?_) (fun ht52 => ?_)
          · skip
            refine aw_seq ?_
            refine aw_region ?_
            refine aw_g (g_mv (.inl rfl) rfl) rfl rfl rfl ?_
            refine aw_g (g_mv (.inl rfl) rfl) rfl rfl rfl ?_
            refine aw_g (g_mv (.inr rfl) rfl) rfl rfl rfl ?_
            refine aw_g (g_mv (.inr rfl) rfl) rfl rfl rfl ?_
            refine aw_nil ?_
            have hS : applyOf p l = (p, (spendOf out t).2.2) := by unfold applyOf; rw [if_neg (Classical.not_not.2 hmp), if_neg ht22]; rw [hinv.2.2.1, runTxs_stop hnf hx ht52]
            exact aw_ret2 rfl rfl (ret_eq rfl (by rw [hS])) (ret_eq rfl (by rw [hS]))
          · skip
            have hs := spendOf_tot (t := t) hinv.2.1
            have hsm := spendOf_may (t := t) hinv.2.1
            have hsc := coins_tot (mayCoins_iff.1 hsm).1 (mayCoins_iff.1 hsm).2.2
            have hgo := runTxs_step (room := 50 + left) hnf hx (Classical.not_not.1 ht52)
            have hw : IntKind.i64.wrap (50 + left + (spendOf out t).2.1) = 50 + (left + (spendOf out t).2.1) := by rw [wrap_eq (by omega)]; omega
            rw [hw] at hgo
            refine aw_skip ?_
            refine aw_seq ?_
            refine aw_region ?_
            refine aw_g (g_mv (.inl rfl) rfl) rfl rfl rfl ?_
            refine aw_g (g_mv (.inr rfl) rfl) rfl rfl rfl ?_
            refine aw_nil ?_
            refine aw_region ?_
            refine aw_g (g_mv (.inl rfl) rfl) rfl rfl rfl ?_
            refine aw_g (g_mv (.inl rfl) rfl) rfl rfl rfl ?_
            refine aw_g (by first | exact g_add rfl rfl rfl (wrap_eq (by first | omega | (simp; omega))) | exact g_add rfl rfl rfl rfl) rfl rfl rfl ?_
            refine aw_g (g_mv (.inr rfl) rfl) rfl rfl rfl ?_
            refine aw_nil ?_
            refine aw_inBlock ?_
            refine aw_region ?_
            refine aw_g (g_mv (.inl rfl) rfl) rfl rfl rfl ?_
            refine aw_g (by first | exact g_add rfl rfl rfl (wrap_eq (by first | omega | (simp; omega))) | exact g_add rfl rfl rfl rfl) rfl rfl rfl ?_
            refine aw_g (g_mv (.inr rfl) rfl) rfl rfl rfl ?_
            refine aw_nil ?_
            exact aw_next ((k + 1, (spendOf out t).1, left + (spendOf out t).2.1)) (by first | exact ⟨by omega, hinv.2.1, by rw [hinv.2.2.1, g32, remTxs_first (by rw [hif]; exact decide_eq_true g39)], hinv.2.2.2⟩ | exact ⟨by omega, hsm, hinv.2.2.1.trans hgo, by omega, by omega⟩) (by show _ < l.length - k; simp only []; omega) rfl (by (repeat refine Fr.le_set ?_ (by first | rfl | (simp; done))); exact Fr.le_none _) (by (repeat refine Hp.le_set ?_ rfl); exact Hp.le_none _) (by (repeat refine Fr.below_setB ?_ rfl); exact Fr.below_none _) (by (repeat refine Hp.below_set ?_ (by decide)); exact Hp.below_none _)
      · skip
        have hrun : runTxs p 50 (remTxs l 0) = .inr (out, 50 + left) := by rw [hinv.2.2.1, remTxs_end k (by omega)]; rfl
        have hoc := coins_tot (mayCoins_iff.1 hinv.2.1).1 (mayCoins_iff.1 hinv.2.1).2.2
        have hol := mayCoins_len hinv.2.1
        refine aw_exit rfl ?_
        refine aw_seq ?_
        refine aw_seq ?_
        refine aw_region ?_
        refine aw_g (g_mv (.inl rfl) rfl) rfl rfl rfl ?_
        refine aw_g (g_len rfl rfl isl_27) rfl rfl rfl ?_
        refine aw_g (g_eql rfl rfl rfl rfl) rfl rfl rfl ?_
        refine aw_splitp (d := 61) (p := l.length = 0) rfl (by first | rfl | (rw [decide_eq_decide]; simp only [IntL.toI, id_eq]; omega) | (simp [IntL.toI]; done) | (simp [IntL.toI]; omega)) (fun g61 => ?_) (fun g61 => ?_)
        · skip
          refine aw_g (g_mv (.inl rfl) rfl) rfl rfl rfl ?_
          refine aw_gn rfl rfl rfl rfl rfl rfl rfl rfl ?_
          refine aw_gn rfl rfl rfl rfl rfl rfl rfl rfl ?_
          refine aw_gn rfl rfl rfl rfl rfl rfl rfl rfl ?_
          refine aw_gn rfl rfl rfl rfl rfl rfl rfl rfl ?_
          refine aw_gn rfl rfl rfl rfl rfl rfl rfl rfl ?_
          refine aw_gn rfl rfl rfl rfl rfl rfl rfl rfl ?_
          refine aw_g (g_pick rfl rfl rfl) rfl rfl rfl ?_
          refine aw_nil ?_
          refine aw_if_t rfl (rfl) ?_
          refine aw_seq ?_
          refine aw_region ?_
          refine aw_g (g_mv (.inl rfl) rfl) rfl rfl rfl ?_
          refine aw_g (g_mv (.inr rfl) rfl) rfl rfl rfl ?_
          refine aw_g (g_mv (.inr rfl) rfl) rfl rfl rfl ?_
          refine aw_nil ?_
          have hS : applyOf p l = (out, 0) := by unfold applyOf; rw [if_neg (Classical.not_not.2 hmp), if_neg ht22]; rw [hrun]; simp only [isFirst_nil (show ¬ 0 < l.length by omega)]; rfl
          exact aw_ret2 rfl rfl (ret_eq rfl (by rw [hS])) (ret_eq rfl (by rw [hS]))
        · skip
          obtain ⟨t0, ht0⟩ : ∃ t0, l[0]? = some t0 := ⟨_, List.getElem?_eq_getElem (by omega)⟩
          have hif := isFirst_at ht0
          refine aw_g (g_mv (.inl rfl) rfl) rfl rfl rfl ?_
          refine aw_gi (g_mv (.inl rfl) rfl) rfl rfl rfl rfl rfl rfl rfl rfl ?_
          refine aw_gi (g_ia_i (i := 0) rfl rfl rfl (by omega) sl_27 (by assumption)) rfl rfl rfl rfl rfl rfl rfl rfl ?_
          refine aw_gi (g_fa_r rfl rfl fd_26_0 L_Tx_ins) rfl rfl rfl rfl rfl rfl rfl rfl ?_
          refine aw_gi (g_load_r rfl rfl ty_23) rfl rfl rfl rfl rfl rfl rfl rfl ?_
          refine aw_gi (by first | exact g_len rfl rfl isl_23 | exact g_len_o rfl rfl rfl isl_23 | exact g_len_nil rfl rfl isl_23) rfl rfl rfl rfl rfl rfl rfl rfl ?_
          refine aw_gi (g_gtr rfl rfl rfl rfl) rfl rfl rfl rfl rfl rfl rfl rfl ?_
          refine aw_splitp (d := 68) (p := 0 < t0.ins.length) rfl (by first | rfl | (rw [decide_eq_decide]; simp only [IntL.toI, id_eq]; omega) | (simp [IntL.toI]; done) | (simp [IntL.toI]; omega)) (fun g68 => ?_) (fun g68 => ?_)
          · skip
            refine aw_g (g_pick rfl rfl rfl) rfl rfl rfl ?_
            refine aw_nil ?_
            refine aw_if_t rfl (rfl) ?_
            refine aw_seq ?_
            refine aw_region ?_
            refine aw_g (g_mv (.inl rfl) rfl) rfl rfl rfl ?_
            refine aw_g (g_mv (.inr rfl) rfl) rfl rfl rfl ?_
            refine aw_g (g_mv (.inr rfl) rfl) rfl rfl rfl ?_
            refine aw_nil ?_
            have hS : applyOf p l = (out, 0) := by unfold applyOf; rw [if_neg (Classical.not_not.2 hmp), if_neg ht22]; rw [hrun]; simp only [show isFirst l = false by rw [hif]; exact decide_eq_false (by omega)]; rfl
            exact aw_ret2 rfl rfl (ret_eq rfl (by rw [hS])) (ret_eq rfl (by rw [hS]))
          · skip
            have hf : isFirst l = true := by rw [hif]; exact decide_eq_true (by omega)
            refine aw_g (g_pick rfl rfl rfl) rfl rfl rfl ?_
            refine aw_nil ?_
            refine aw_if_f rfl (rfl) ?_
            refine aw_skip ?_
            refine aw_seq ?_
            refine aw_region ?_
            refine aw_g (g_mv (.inl rfl) rfl) rfl rfl rfl ?_
            refine aw_g (g_ia_i (i := 0) rfl rfl rfl (by omega) sl_27 (by assumption)) rfl rfl rfl ?_
            refine aw_g (g_load_r rfl rfl ty_26) rfl rfl rfl ?_
            refine aw_g (g_call (rmayTx_ok _) rfl fn_32 ⟨(by first | exact arg_same rfl | exact arg_bsl rfl | exact arg_own rfl rfl | exact arg_nil rfl | exact arg_rptr rfl | exact arg_fn rfl rfl | exact arg_lit rfl), trivial⟩ rfl) rfl rfl rfl ?_
            refine aw_g (g_mv (.inr rfl) rfl) rfl rfl rfl ?_
            refine aw_nil ?_
            refine aw_seq ?_
            refine aw_seq ?_
            refine aw_region ?_
            refine aw_g (g_mv (.inl rfl) rfl) rfl rfl rfl ?_
            refine aw_g (g_not rfl rfl) rfl rfl rfl ?_
            refine aw_nil ?_
            refine aw_ifc (p := ¬ mayTx t0 = true) rfl (by simp) (fun ht76 => ?_) (fun ht76 => ?_)
            · skip
              refine aw_seq ?_
              refine aw_region ?_
              refine aw_g (g_mv (.inl rfl) rfl) rfl rfl rfl ?_
              refine aw_g (g_mv (.inr rfl) rfl) rfl rfl rfl ?_
              refine aw_g (g_mv (.inr rfl) rfl) rfl rfl rfl ?_
              refine aw_nil ?_
              have hS : applyOf p l = (p, 1) := by unfold applyOf; rw [if_neg (Classical.not_not.2 hmp), if_neg ht22]; rw [hrun]; simp only [if_pos hf, ht0]; rw [if_pos ht76]
              exact aw_ret2 rfl rfl (ret_eq rfl (by rw [hS])) (ret_eq rfl (by rw [hS]))
            · skip
              have hmt := Classical.not_not.1 ht76
              refine aw_skip ?_
              refine aw_seq ?_
              refine aw_region ?_
              refine aw_g (g_mv (.inl rfl) rfl) rfl rfl rfl ?_
              refine aw_g (g_mv (.inl rfl) rfl) rfl rfl rfl ?_
              refine aw_g (g_ia_i (i := 0) rfl rfl rfl (by omega) sl_27 (by assumption)) rfl rfl rfl ?_
              refine aw_g (g_load_r rfl rfl ty_26) rfl rfl rfl ?_
              refine aw_g (g_call (rid_ok _) rfl fn_35 ⟨(by first | exact arg_same rfl | exact arg_bsl rfl | exact arg_own rfl rfl | exact arg_nil rfl | exact arg_rptr rfl | exact arg_fn rfl rfl | exact arg_lit rfl), trivial⟩ rfl) rfl rfl rfl ?_
              refine aw_g (g_call (rthere_ok _ _) rfl fn_34 ⟨(arg_v rfl), (arg_v rfl), trivial⟩ rfl) rfl rfl rfl ?_
              refine aw_g (g_mv (.inr rfl) rfl) rfl rfl rfl ?_
              refine aw_nil ?_
              refine aw_seq ?_
              refine aw_seq ?_
              refine aw_region ?_
              refine aw_g (g_mv (.inl rfl) rfl) rfl rfl rfl ?_
              refine aw_nil ?_
              refine aw_ifc (p := (out.any fun c => decide (c.inn.tx = idOf t0)) = true) rfl (Bool.decide_eq_true.symm) (fun ht84 => ?_) (fun ht84 => ?_)
              · skip
                refine aw_seq ?_
                refine aw_region ?_
                refine aw_g (g_mv (.inl rfl) rfl) rfl rfl rfl ?_
                refine aw_g (g_mv (.inr rfl) rfl) rfl rfl rfl ?_
                refine aw_g (g_mv (.inr rfl) rfl) rfl rfl rfl ?_
                refine aw_nil ?_
                have hS : applyOf p l = (p, 10) := by unfold applyOf; rw [if_neg (Classical.not_not.2 hmp), if_neg ht22]; rw [hrun]; simp only [if_pos hf, ht0]; rw [if_neg (Classical.not_not.2 hmt), madeOf_there, if_pos ht84, if_pos (by decide)]
                exact aw_ret2 rfl rfl (ret_eq rfl (by rw [hS])) (ret_eq rfl (by rw [hS]))
              · skip
                have hz : (madeOf out t0).2 = 0 := by rw [madeOf_there, if_neg ht84]
                refine aw_skip ?_
                refine aw_seq ?_
                refine aw_seq ?_
                refine aw_region ?_
                refine aw_g (g_mv (.inl rfl) rfl) rfl rfl rfl ?_
                refine aw_g (g_ia_i (i := 0) rfl rfl rfl (by omega) sl_27 (by assumption)) rfl rfl rfl ?_
                refine aw_g (g_load_r rfl rfl ty_26) rfl rfl rfl ?_
                refine aw_g (g_call (rworth_ok _) rfl fn_33 ⟨(by first | exact arg_same rfl | exact arg_bsl rfl | exact arg_own rfl rfl | exact arg_nil rfl | exact arg_rptr rfl | exact arg_fn rfl rfl | exact arg_lit rfl), trivial⟩ rfl) rfl rfl rfl ?_
                refine aw_g (g_mv (.inl rfl) rfl) rfl rfl rfl ?_
                refine aw_g (by first | exact g_add rfl rfl rfl (wrap_eq (by first | omega | (simp; omega))) | exact g_add rfl rfl rfl rfl) rfl rfl rfl ?_
                refine aw_g (g_gtr rfl rfl rfl rfl) rfl rfl rfl ?_
                refine aw_nil ?_
                refine aw_ifc (p := 50 + left < worthF (·.v) t0.outs) rfl (by first | rfl | (rw [decide_eq_decide]; simp only [IntL.toI, id_eq]; omega) | (simp [IntL.toI]; done) | (simp [IntL.toI]; omega)) (fun ht92 => ?_) (fun ht92 => ?_)
                · skip
                  refine aw_seq ?_
                  refine aw_region ?_
                  refine aw_g (g_mv (.inl rfl) rfl) rfl rfl rfl ?_
                  refine aw_g (g_mv (.inr rfl) rfl) rfl rfl rfl ?_
                  refine aw_g (g_mv (.inr rfl) rfl) rfl rfl rfl ?_
                  refine aw_nil ?_
                  have hS : applyOf p l = (p, 8) := by unfold applyOf; rw [if_neg (Classical.not_not.2 hmp), if_neg ht22]; rw [hrun]; simp only [if_pos hf, ht0]; rw [if_neg (Classical.not_not.2 hmt), if_neg (by rw [hz]; simp), if_pos ht92]
                  exact aw_ret2 rfl rfl (ret_eq rfl (by rw [hS])) (ret_eq rfl (by rw [hS]))
                · skip
                  refine aw_skip ?_
                  refine aw_seq ?_
                  refine aw_region ?_
                  refine aw_g (g_mv (.inl rfl) rfl) rfl rfl rfl ?_
                  refine aw_g (g_mv (.inl rfl) rfl) rfl rfl rfl ?_
                  refine aw_g (g_ia_i (i := 0) rfl rfl rfl (by omega) sl_27 (by assumption)) rfl rfl rfl ?_
                  refine aw_g (g_load_r rfl rfl ty_26) rfl rfl rfl ?_
                  refine aw_g (g_call (rmade_ok out t0 (by omega) (by have := mayTx_lens hmt; omega)) rfl fn_36 ⟨(arg_v rfl), (by first | exact arg_same rfl | exact arg_bsl rfl | exact arg_own rfl rfl | exact arg_nil rfl | exact arg_rptr rfl | exact arg_fn rfl rfl | exact arg_lit rfl), trivial⟩ rfl) rfl rfl rfl ?_
                  refine aw_reval (d := 98) (y := (madeOf out t0).1) rfl (withs_made (mayCoins_iff.1 hinv.2.1).2.1 hz) ?_
                  refine aw_g (g_mv (.inr rfl) rfl) rfl rfl rfl ?_
                  refine aw_nil ?_
                  refine aw_seq ?_
                  refine aw_seq ?_
                  refine aw_region ?_
                  refine aw_g (g_mv (.inl rfl) rfl) rfl rfl rfl ?_
                  refine aw_g (g_len rfl rfl isl_22) rfl rfl rfl ?_
                  refine aw_g (g_gtr rfl rfl rfl rfl) rfl rfl rfl ?_
                  refine aw_nil ?_
                  refine aw_ifc (p := 48 < (madeOf out t0).1.length) rfl (by first | rfl | (rw [decide_eq_decide]; simp only [IntL.toI, id_eq]; omega) | (simp [IntL.toI]; done) | (simp [IntL.toI]; omega)) (fun ht101 => ?_) (fun ht101 => ?_)
                  · skip
                    refine aw_seq ?_
                    refine aw_region ?_
                    refine aw_g (g_mv (.inl rfl) rfl) rfl rfl rfl ?_
                    refine aw_g (g_mv (.inr rfl) rfl) rfl rfl rfl ?_
                    refine aw_g (g_mv (.inr rfl) rfl) rfl rfl rfl ?_
                    refine aw_nil ?_
                    have hS : applyOf p l = (p, 11) := by unfold applyOf; rw [if_neg (Classical.not_not.2 hmp), if_neg ht22]; rw [hrun]; simp only [if_pos hf, ht0]; rw [if_neg (Classical.not_not.2 hmt), if_neg (by rw [hz]; simp), if_neg ht92, if_pos ht101]
                    exact aw_ret2 rfl rfl (ret_eq rfl (by rw [hS])) (ret_eq rfl (by rw [hS]))
                  · skip
                    refine aw_skip ?_
                    refine aw_seq ?_
                    refine aw_region ?_
                    refine aw_g (g_mv (.inl rfl) rfl) rfl rfl rfl ?_
                    refine aw_g (g_mv (.inr rfl) rfl) rfl rfl rfl ?_
                    refine aw_g (g_mv (.inr rfl) rfl) rfl rfl rfl ?_
                    refine aw_nil ?_
                    have hS : applyOf p l = ((madeOf out t0).1, 0) := by unfold applyOf; rw [if_neg (Classical.not_not.2 hmp), if_neg ht22]; rw [hrun]; simp only [if_pos hf, ht0]; rw [if_neg (Classical.not_not.2 hmt), if_neg (by rw [hz]; simp), if_neg ht92, if_neg ht101]
                    exact aw_ret2 rfl rfl (ret_eq rfl (by rw [hS])) (ret_eq rfl (by rw [hS]))

end Go.Proofs.Ytmfgemnmelbflaa
