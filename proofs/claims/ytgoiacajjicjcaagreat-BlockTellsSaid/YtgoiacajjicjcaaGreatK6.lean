/- Parts of the proof: the layer that reads Go values as data, and what the functions of the program tell. -/
import Derived.Test.YtgoiacajjicjcaaGreatK5
set_option maxRecDepth 20000
namespace Go.Proofs.YtgoiacajjicjcaaGreat
set_option linter.unusedVariables false
set_option linter.unusedSimpArgs false
open Go.Ab Go.RowKit
def withL (c : Coin) : Bool → List Coin → List Coin
  | d, [] => if d = true then [] else [c]
  | d, x :: l => if ordIn c.inn x.inn < 0 ∧ ¬ d = true then c :: x :: withL c true l else x :: withL c d l
theorem withL_true {c : Coin} : ∀ {l : List Coin}, withL c true l = l
  | [] => rfl
  | x :: l => by rw [withL, if_neg (by simp), withL_true]
theorem withL_in {c x : Coin} {d : Bool} {p : List Coin} {k : Nat} (hx : p[k]? = some x) (h : ordIn c.inn x.inn < 0) (hd : d = false) : withL c d (p.drop k) = c :: x :: withL c true (p.drop (k + 1)) := by
  obtain ⟨hk, rfl⟩ := List.getElem?_eq_some_iff.1 hx
  rw [List.drop_eq_getElem_cons hk, withL, if_pos ⟨h, by simp [hd]⟩]
theorem withL_on {c x : Coin} {d : Bool} {p : List Coin} {k : Nat} (hx : p[k]? = some x) (h : ¬ (ordIn c.inn x.inn < 0 ∧ d = false)) : withL c d (p.drop k) = x :: withL c d (p.drop (k + 1)) := by
  obtain ⟨hk, rfl⟩ := List.getElem?_eq_some_iff.1 hx
  rw [List.drop_eq_getElem_cons hk, withL, if_neg (by simpa using h)]
theorem withL_len {c : Coin} : ∀ {d : Bool} {l : List Coin}, (withL c d l).length ≤ l.length + 1
  | d, [] => by unfold withL; split <;> simp
  | d, x :: l => by
    unfold withL
    split
    · rw [withL_true]; simp
    · have := withL_len (c := c) (d := d) (l := l); simp; omega
theorem withL_perm {c : Coin} : ∀ {l : List Coin}, (withL c false l).Perm (l ++ [c])
  | [] => List.Perm.refl _
  | x :: l => by
    unfold withL
    split
    · rw [withL_true]
      exact (List.perm_append_singleton c (x :: l)).symm
    · rw [List.cons_append]
      exact List.Perm.cons _ withL_perm
theorem withL_sorted {c : Coin} : ∀ {l : List Coin}, Sorted l → (∀ x ∈ l, ordIn c.inn x.inn ≠ 0) → Sorted (withL c false l)
  | [], _, _ => List.pairwise_singleton _ _
  | x :: l, h, ha => by
    have hl := List.pairwise_cons.1 h
    unfold withL
    split
    · rename_i h0
      rw [withL_true]
      refine List.pairwise_cons.2 ⟨fun y hy => ?_, h⟩
      rcases List.mem_cons.1 hy with e | hy
      · rw [e]; exact h0.1
      · exact ordIn_trans h0.1 (hl.1 y hy)
    · rename_i h0
      have hx : ordIn x.inn c.inn < 0 := by
        have h1 := ha x List.mem_cons_self
        have h2 := ordIn_neg c.inn x.inn
        have h3 : ¬ ordIn c.inn x.inn < 0 := fun h => h0 ⟨h, by simp⟩
        omega
      refine List.pairwise_cons.2 ⟨fun y hy => ?_, withL_sorted hl.2 fun y hy => ha y (List.mem_cons_of_mem _ hy)⟩
      rcases List.mem_append.1 (withL_perm.mem_iff.1 hy) with hy | hy
      · exact hl.1 y hy
      · simp at hy; rw [hy]; exact hx
def withs (p : List Coin) (id : Ab.Id) (outs : List Out) (k : Nat) : List Coin := (newN id outs k).foldl (fun p c => withL c false p) p
theorem withs_succ {p : List Coin} {id : Ab.Id} {outs : List Out} {k : Nat} {o : Out} (h : outs[k]? = some o) : withL ⟨⟨id, (k : Int)⟩, o⟩ false (withs p id outs k) = withs p id outs (k + 1) := by
  unfold withs
  have := newN_succ (id := id) h []
  simp only [List.nil_append] at this
  rw [← this, List.foldl_append]
  rfl
theorem withs_len {p : List Coin} {id : Ab.Id} {outs : List Out} : ∀ {k : Nat}, k ≤ outs.length → (withs p id outs k).length ≤ p.length + k
  | 0, _ => by unfold withs newN; simp
  | k + 1, h => by
    have := withs_len (p := p) (id := id) (outs := outs) (k := k) (by omega)
    rw [← withs_succ (List.getElem?_eq_getElem (show k < outs.length by omega))]
    have := withL_len (c := ⟨⟨id, (k : Int)⟩, outs[k]⟩) (d := false) (l := withs p id outs k)
    omega
theorem withs_good {p : List Coin} {id : Ab.Id} {outs : List Out} (hs : Sorted p) (hn : (p.any fun c => decide (c.inn.tx = id)) = false) : ∀ {k : Nat}, k ≤ outs.length → (withs p id outs k).Perm (p ++ newN id outs k) ∧ Sorted (withs p id outs k)
  | 0, _ => by unfold withs newN; simp; exact hs
  | k + 1, h => by
    have ho := List.getElem?_eq_getElem (show k < outs.length by omega)
    obtain ⟨h1, h2⟩ := withs_good (outs := outs) hs hn (k := k) (by omega)
    have hap := apart_new (id := id) (outs := outs) (k := k + 1) (Sorted.apart hs) hn
    rw [← newN_succ ho p] at hap ⊢
    rw [← withs_succ ho]
    refine ⟨withL_perm.trans (List.Perm.append_right _ h1), withL_sorted h2 fun x hx => ?_⟩
    have h3 := (List.pairwise_append.1 hap).2.2 x (h1.mem_iff.1 hx) ⟨⟨id, (k : Int)⟩, outs[k]⟩ (by simp)
    have h4 := ordIn_neg x.inn (⟨⟨id, (k : Int)⟩, outs[k]⟩ : Coin).inn
    omega
theorem withs_made {p : List Coin} {t : Tx} (hs : Sorted p) (hm : (madeOf p t).2 = 0) : withs p (idOf t) t.outs t.outs.length = (madeOf p t).1 := by
  unfold madeOf at hm ⊢
  split
  · rename_i e; rw [if_pos e] at hm; exact absurd hm (by decide)
  · rename_i h
    have hn : (p.any fun c => decide (c.inn.tx = idOf t)) = false := by simpa using h
    obtain ⟨h1, h2⟩ := withs_good (outs := t.outs) hs hn (Nat.le_refl _)
    refine sort_unique (apart_new (Sorted.apart hs) hn) h1 ?_
    exact List.Pairwise.imp (fun {a b} h => by have := ordIn_neg a.inn b.inn; omega) h2
theorem madeOf_there {p : List Coin} {t : Tx} : (madeOf p t).2 = if (p.any fun c => decide (c.inn.tx = idOf t)) = true then 10 else 0 := by unfold madeOf; split <;> rfl
theorem rwith_ok (p : List Coin) (c : Coin) (hp : p.length ≤ 1000) : Tells P 156 [.val (bsl coinT) p, .val coinT c] (.fresh 123 coinT (withL c false p)) := by
 refine fn_of_aw Tryz.func156 rfl rfl rfl (fun ext w hext => ?_)
 refine aw_fact (d := 0) rfl fact_sl (fun hsl0 => ?_)
 refine CQR ?_; refine aw_box rfl rfl rfl rfl rfl ?_; refine A0 aL ?_; refine CNQR ?_; refine A0 aL ?_; refine CNQR ?_; refine A0 aV ?_; refine CNQQR ?_; refine A0 aV ?_; refine CNB ?_; refine aw_nilrow (T := coinT) (d := 5) 123 rfl ?_
 refine Lp (ι := Nat × List Coin × Bool) 2 (fun (i : Nat × List Coin × Bool) => match i with | (k, out, d) => (((((Fr.none).set 0 (.val (bsl coinT) p)).set 3 (.ptr 0 0)).set 5 (.own 1)).set 6 (.val boolT d)).set 7 (.val i64T (k : Int))) (fun (i : Nat × List Coin × Bool) => match i with | (k, out, d) => ((Hp.none).set 0 (.box 123 coinT c)).set 1 (.row 123 coinT out)) (fun (i : Nat × List Coin × Bool) => match i with | (k, out, d) => k ≤ p.length ∧ out.length ≤ 2 * k ∧ out ++ withL c d (p.drop k) = withL c false p) (fun (i : Nat × List Coin × Bool) => match i with | (k, out, d) => p.length - k) ((0, [], false)) (⟨Nat.zero_le _, by simp, rfl⟩) ?_
 intro ⟨k, out, d⟩ hinv
 dsimp only at hinv
 refine CQQR ?_; refine A0 mV ?_; refine A0 mV ?_; refine A0 (g_len rfl rfl isl_35) ?_; refine A0 o_lss ?_; refine CN ?_
 refine Cf (p := k < p.length) (fun ht12 => ?_) (fun ht12 => ?_)
 ·
  obtain ⟨x, hx⟩ : ∃ x, p[k]? = some x := ⟨_, List.getElem?_eq_getElem ht12⟩
  refine CS ?_; refine CQ ?_; refine CB ?_; refine CQ ?_; refine CD mixed ?_; refine G0 (oLs rfl rfl rfl ty_123) ?_; refine G0 mV ?_; refine G0 mV ?_; refine G0 (g_ia_i (i := k) rfl rfl rfl (by omega) sl_35 (by assumption)) ?_
  refine G0 (g_load_r rfl rfl ty_123) ?_
  refine G0 (oCl (rbefore_ok _ _) rfl fn_153 ⟨(arg_v rfl), (by first | exact arg_same rfl | exact arg_bsl rfl | exact arg_own rfl rfl | exact arg_nil rfl | exact arg_rptr rfl | exact arg_fn rfl rfl | exact arg_lit rfl), trivial⟩) ?_
  refine GK_splitp (d := 20) (p := ordIn c.inn x.inn < 0) rfl (by first | rfl | (rw [decide_eq_decide]; simp only [IntL.toI, id_eq]; omega) | (simp [IntL.toI]; done) | (simp [IntL.toI]; omega)) (fun g20 => ?_) (fun g20 => ?_)
  ·
   refine G0 aV ?_; refine GK.nil ?_; refine CQQR ?_; refine A0 mV ?_; refine A0 mV ?_; refine A1 mV ?_; refine A1 oN ?_
   refine aw_splitp (d := 24) (p := d = false) rfl (by cases d <;> rfl) (fun g24 => ?_) (fun g24 => ?_)
   ·
    refine A0 oK ?_; refine CN ?_; refine Ct ?_; refine CQR ?_; refine A0 mO ?_; refine A0 (oLs rfl rfl rfl ty_123) ?_; refine A0 (g_bslice (T := coinT) (xs := [_]) rfl sl_35 row_35 ⟨rfl, rfl, trivial⟩ rfl rfl) ?_
    refine aw_append rfl rfl rfl rfl rfl rfl rfl row_35 (by simp only [List.length_append, List.length_cons, List.length_nil]; omega) ?_; refine A0 aO ?_; refine CNR ?_; refine A0 aV ?_; refine CNR ?_; refine A0 mO ?_; refine A0 mV ?_
    refine A0 mV ?_; refine A0 (g_ia_i (i := k) rfl rfl rfl (by omega) sl_35 (by assumption)) ?_; refine A0 (g_load_r rfl rfl ty_123) ?_; refine A0 (g_bslice (T := coinT) (xs := [_]) rfl sl_35 row_35 ⟨rfl, rfl, trivial⟩ rfl rfl) ?_
    refine aw_append rfl rfl rfl rfl rfl rfl rfl row_35 (by simp only [List.length_append, List.length_cons, List.length_nil]; omega) ?_; refine A0 aO ?_; refine CNIR ?_; refine A0 mV ?_; refine A0 o_add ?_; refine A0 aV ?_; refine CN ?_
    refine aw_ren 3 1 4 rfl rfl rfl rfl rfl rfl ?_
    exact Nx ((k + 1, out ++ [c] ++ [x], true)) (by first | exact ⟨by omega, by simp; omega, by rw [← hinv.2.2, withL_in hx g20 g24]; simp⟩ | exact ⟨by omega, by simp; omega, by rw [← hinv.2.2, withL_on hx (fun h => g24 h.2)]; simp⟩ | exact ⟨by omega, by simp; omega, by rw [← hinv.2.2, withL_on hx (fun h => g20 h.1)]; simp⟩) (by show _ < p.length - k; simp only []; omega)
   ·
    refine A0 oK ?_; refine CN ?_; refine Cg ?_; refine CS ?_; refine CR ?_; refine A0 mO ?_; refine A0 mV ?_; refine A0 mV ?_; refine A0 (g_ia_i (i := k) rfl rfl rfl (by omega) sl_35 (by assumption)) ?_; refine A0 (g_load_r rfl rfl ty_123) ?_
    refine A0 (g_bslice (T := coinT) (xs := [_]) rfl sl_35 row_35 ⟨rfl, rfl, trivial⟩ rfl rfl) ?_; refine aw_append rfl rfl rfl rfl rfl rfl rfl row_35 (by simp only [List.length_append, List.length_cons, List.length_nil]; omega) ?_
    refine A0 aO ?_; refine CNIR ?_; refine A0 mV ?_; refine A0 o_add ?_; refine A0 aV ?_; refine CN ?_; refine aw_ren 2 1 3 rfl rfl rfl rfl rfl rfl ?_
    exact Nx ((k + 1, out ++ [x], d)) (by first | exact ⟨by omega, by simp; omega, by rw [← hinv.2.2, withL_in hx g20 g24]; simp⟩ | exact ⟨by omega, by simp; omega, by rw [← hinv.2.2, withL_on hx (fun h => g24 h.2)]; simp⟩ | exact ⟨by omega, by simp; omega, by rw [← hinv.2.2, withL_on hx (fun h => g20 h.1)]; simp⟩) (by show _ < p.length - k; simp only []; omega)
  ·
   refine G0 aV ?_; refine GK.nil ?_; refine CQQR ?_; refine A0 mV ?_; refine A0 mV ?_; refine A2 ?_; refine A2 ?_; refine A0 oK ?_; refine CN ?_; refine Cg ?_; refine CS ?_; refine CR ?_; refine A0 mO ?_; refine A0 mV ?_; refine A0 mV ?_
   refine A0 (g_ia_i (i := k) rfl rfl rfl (by omega) sl_35 (by assumption)) ?_; refine A0 (g_load_r rfl rfl ty_123) ?_; refine A0 (g_bslice (T := coinT) (xs := [_]) rfl sl_35 row_35 ⟨rfl, rfl, trivial⟩ rfl rfl) ?_
   refine aw_append rfl rfl rfl rfl rfl rfl rfl row_35 (by simp only [List.length_append, List.length_cons, List.length_nil]; omega) ?_; refine A0 aO ?_; refine CNIR ?_; refine A0 mV ?_; refine A0 o_add ?_; refine A0 aV ?_; refine CN ?_
   refine aw_ren 2 1 3 rfl rfl rfl rfl rfl rfl ?_
   exact Nx ((k + 1, out ++ [x], d)) (by first | exact ⟨by omega, by simp; omega, by rw [← hinv.2.2, withL_in hx g20 g24]; simp⟩ | exact ⟨by omega, by simp; omega, by rw [← hinv.2.2, withL_on hx (fun h => g24 h.2)]; simp⟩ | exact ⟨by omega, by simp; omega, by rw [← hinv.2.2, withL_on hx (fun h => g20 h.1)]; simp⟩) (by show _ < p.length - k; simp only []; omega)
 ·
  refine CE ?_; refine CQQR ?_; refine A0 mV ?_; refine A0 oN ?_; refine CN ?_
  refine aw_ifc (p := d = false) rfl (by cases d <;> rfl) (fun ht38 => ?_) (fun ht38 => ?_)
  ·
   refine CR ?_; refine A0 mO ?_; refine A0 (oLs rfl rfl rfl ty_123) ?_; refine A0 (g_bslice (T := coinT) (xs := [_]) rfl sl_35 row_35 ⟨rfl, rfl, trivial⟩ rfl rfl) ?_
   refine aw_append rfl rfl rfl rfl rfl rfl rfl row_35 (by simp only [List.length_append, List.length_cons, List.length_nil]; omega) ?_; refine A0 aO ?_; refine CNQR ?_; refine A0 mO ?_; refine A0 aO ?_; refine CN ?_
   exact aw_ret1 rfl rfl (ret_fresh_eq rfl rfl (by rw [← hinv.2.2, List.drop_of_length_le (by omega)]; simp [withL, ht38]))
  ·
   refine CSQR ?_; refine A0 mO ?_; refine A0 aO ?_; refine CN ?_
   exact aw_ret1 rfl rfl (ret_fresh_eq rfl rfl (by rw [← hinv.2.2, List.drop_of_length_le (by omega)]; simp [withL, ht38]))
theorem rmade_ok (p : List Coin) (t : Tx) (hp : p.length ≤ 100) (ht : t.outs.length ≤ 100) : Tells P 110 [.val (sl coinT) p, .val txT t] (.val (sl coinT) (withs p (idOf t) t.outs t.outs.length)) := by
 refine fn_of_aw Tryz.func110 rfl rfl rfl (fun ext w hext => ?_)
 refine aw_fact (d := 0) rfl fact_sl (fun hsl0 => ?_)
 refine CQR ?_; refine aw_box rfl rfl rfl rfl rfl ?_; refine A0 aL ?_; refine CNQR ?_; refine A0 (oLs rfl rfl rfl ty_99) ?_; refine A0 (oCl (rid_ok _) rfl fn_108 ⟨(arg_v rfl), trivial⟩) ?_; refine aw_alloc ze_23 rfl rfl rfl rfl ?_
 refine aw_store_b rfl rfl rfl rfl rfl (Lens.self _) ty_23 rfl ?_; refine CNQQR ?_; refine A0 aV ?_; refine CNB ?_; refine aw_reval (d := 0) (y := withs p (idOf t) t.outs 0) rfl (by unfold withs newN; simp) ?_
 refine Lp (ι := Nat) 2 (fun (k : Nat) => ((((Fr.none).set 0 (.val (sl coinT) (withs p (idOf t) t.outs k))).set 3 (.ptr 0 0)).set 5 (.ptr 1 0)).set 6 (.val i64T (k : Int))) (fun (k : Nat) => ((Hp.none).set 0 (.box 99 txT t)).set 1 (.box 23 idT (idOf t))) (fun (k : Nat) => k ≤ t.outs.length) (fun (k : Nat) => t.outs.length - k) (0) (Nat.zero_le _) ?_
 intro k hinv
 refine CQQR ?_; refine A0 mV ?_; refine A0 (oFp fd_99_1) ?_; refine A0 (oLb L_Tx_outs ty_97) ?_; refine A0 (g_len rfl rfl isl_97) ?_; refine A0 o_lss ?_; refine CN ?_
 refine Cf (p := k < t.outs.length) (fun ht13 => ?_) (fun ht13 => ?_)
 ·
  obtain ⟨o, ho⟩ : ∃ o, t.outs[k]? = some o := ⟨_, List.getElem?_eq_getElem ht13⟩
  refine CS ?_; refine CQ ?_; refine CB ?_; refine CD mixed ?_; refine G0 mV ?_; refine G0 (oLs rfl rfl rfl ty_23) ?_; refine G0 mV ?_
  refine G0 (g_build rfl ze_119 bd_119 (.cons fd_119_0 L_In_tx ty_23 rfl (.cons fd_119_1 L_In_i ty_3 rfl .nil)) rfl) ?_; refine G0 (oFp fd_99_1) ?_; refine G0 (oLb L_Tx_outs ty_97) ?_; refine G0 mV ?_
  refine G0 (g_ia_i (i := k) rfl rfl rfl (by omega) sl_97 (by assumption)) ?_; refine G0 (g_load_r rfl rfl ty_121) ?_
  refine G0 (g_build rfl ze_123 bd_123 (.cons fd_123_0 L_Coin_inn ty_119 rfl (.cons fd_123_1 L_Coin_out ty_121 rfl .nil)) rfl) ?_
  refine G0 (oCl (tells_pub (rwith_ok (withs p (idOf t) t.outs k) ⟨⟨idOf t, (k : Int)⟩, o⟩ (by have := withs_len (p := p) (id := idOf t) hinv; omega))) rfl fn_156 ⟨(arg_v rfl), (arg_v rfl), trivial⟩) ?_; refine G0 aV ?_; refine GK.nil ?_
  refine CI ?_; refine CR ?_; refine A0 mV ?_; refine A0 o_add ?_; refine A0 aV ?_; refine CN ?_; refine aw_reval (d := 0) rfl (withs_succ ho) ?_
  exact Nx (k + 1) (by omega) (by omega)
 ·
  obtain rfl : k = t.outs.length := (by omega)
  refine CE ?_; refine CQR ?_; refine A0 mV ?_; refine A0 aV ?_; refine CN ?_
  exact aw_ret1 rfl rfl (ret_eq rfl rfl)
theorem halves_at {p : List Coin} {x : In} {k : Nat} {c : Coin} (hs : Sorted p) (hc : p[k]? = some c) (hx : c.inn = x) (lo hi : Nat) (h1 : lo ≤ k) (h2 : k ≤ hi) (h3 : hi ≤ p.length) : halves (fun c => ordIn c.inn x) p lo hi = k := by
  obtain ⟨hk, hk2⟩ := List.getElem?_eq_some_iff.1 hc
  rw [halves]
  split
  · rename_i hlt
    have hm : (lo + hi) / 2 < p.length := by omega
    rw [List.getElem?_eq_getElem hm]
    simp only []
    split
    · rename_i h0
      refine halves_at hs hc hx _ _ ?_ h2 h3
      rcases Nat.lt_trichotomy ((lo + hi) / 2) k with h | h | h
      · omega
      · simp only [h, hk2, hx] at h0
        have := ordIn_zero.2 (rfl : x = x); omega
      · have := List.pairwise_iff_getElem.1 hs k _ hk hm h
        rw [hk2, hx] at this
        have := ordIn_neg x (p[(lo + hi) / 2]).inn; omega
    · rename_i h0
      refine halves_at hs hc hx _ _ h1 ?_ (by omega)
      rcases Nat.lt_trichotomy ((lo + hi) / 2) k with h | h | h
      · have := List.pairwise_iff_getElem.1 hs _ k hm hk h
        rw [hk2, hx] at this
        exact absurd this h0
      · omega
      · omega
  · omega
termination_by hi - lo
theorem takeIns_at {p : List Coin} {x : In} {l : List In} {n : Int} {k : Nat} {c : Coin} (hs : Sorted p) (hc : p[k]? = some c) (hx : c.inn = x) : takeIns p n (x :: l) = takeIns (p.take k ++ p.drop (k + 1)) (IntKind.i64.wrap (n + c.out.v)) l := by
  have hk := (List.getElem?_eq_some_iff.1 hc).1
  have hp : placeOf p x = k := halves_at hs hc hx _ _ (Nat.zero_le _) (Nat.le_of_lt hk) (Nat.le_refl _)
  rw [takeIns.eq_2, hp, hc]
  simp only []
  rw [if_pos (ordIn_zero.2 hx)]
theorem takeIns_not {p : List Coin} {x : In} {l : List In} {n : Int} (h : ∀ c ∈ p, c.inn ≠ x) : takeIns p n (x :: l) = none := by
  rw [takeIns.eq_2]
  split
  · rfl
  · rename_i c hc
    rw [if_neg fun e => h c (List.mem_of_getElem? hc) (ordIn_zero.1 e)]
theorem spendOf_none {p : List Coin} {t : Tx} (hp : mayCoins p = true) (ht : mayTx t = true) (hne : t.ins ≠ []) (h : takeIns p 0 t.ins = none) : spendOf p t = (p, 0, 8) := by
  unfold spendOf
  rw [if_neg (Classical.not_not.2 ⟨hp, ht, hne⟩), h]
theorem spendOf_run {p rest : List Coin} {t : Tx} {n : Int} (hp : mayCoins p = true) (ht : mayTx t = true) (hne : t.ins ≠ []) (h : takeIns p 0 t.ins = some (rest, n)) : spendOf p t = if n < worthF (·.v) t.outs then (p, 0, 8) else if (rest.any fun c => decide (c.inn.tx = idOf t)) = true then (p, 0, 10) else if 48 < (madeOf rest t).1.length then (p, 0, 11) else ((madeOf rest t).1, n - worthF (·.v) t.outs, 0) := by
  obtain ⟨h1, h2, h3⟩ := mayCoins_iff.1 hp
  have hT := coins_tot h1 h3
  have h4 := takeIns_tot h h1 h3 (Int.le_refl _) (by omega)
  have hr := tot_pos (f := fun c : Coin => c.out.v) (l := rest) fun c hc => (coins_pos h1 c ((takeIns_good h).subset hc)).1
  have ho := outs_tot ht
  rw [← ho.1] at ho
  have e : IntKind.i64.wrap (n - worthF (·.v) t.outs) = n - worthF (·.v) t.outs := wrap_eq (by omega)
  unfold spendOf
  rw [if_neg (Classical.not_not.2 ⟨hp, ht, hne⟩), h]
  simp only []
  rw [e, madeOf_there]
  by_cases c1 : n < worthF (·.v) t.outs
  · rw [if_pos (by omega), if_pos c1]
  · rw [if_neg (by omega), if_neg c1]
    by_cases c2 : (rest.any fun c => decide (c.inn.tx = idOf t)) = true
    · simp only [if_pos c2]; rfl
    · simp only [if_neg c2, if_true]
theorem rspend_ok (p : List Coin) (t : Tx) : Tells P 105 [.val (sl coinT) p, .val txT t] (.tup3 (.val (sl coinT) (spendOf p t).1) (.val i64T (spendOf p t).2.1) (.val i64T (spendOf p t).2.2)) := by
 refine fn_of_aw Tryz.func105 rfl rfl rfl (fun ext w hext => ?_)
 refine aw_fact (d := 0) rfl fact_sl (fun hsl0 => ?_)
 refine aw_fact (d := 1) rfl fact_txl (fun htl => ?_)
 refine CQR ?_; refine aw_box rfl rfl rfl rfl rfl ?_; refine A0 aL ?_; refine A0 aV ?_; refine A0 aV ?_; refine CNQR ?_; refine A0 mV ?_; refine A0 (oCl (rmay_ok _) rfl fn_104 ⟨(arg_v rfl), trivial⟩) ?_; refine A0 aV ?_; refine CNQR ?_
 refine A0 (oLs rfl rfl rfl ty_99) ?_; refine A0 (oCl (rmayTx_ok _) rfl fn_106 ⟨(arg_v rfl), trivial⟩) ?_; refine A0 aV ?_; refine CNQQR ?_; refine A0 mV ?_; refine A0 oN ?_
 refine aw_splitp (d := 20) (p := ¬ mayCoins p = true) rfl (by simp) (fun g20 => ?_) (fun g20 => ?_)
 ·
  refine A0 mV ?_; refine A2 ?_; refine A2 ?_; refine A0 oK ?_; refine A0 mV ?_; refine A2 ?_; refine A2 ?_; refine A2 ?_; refine A2 ?_; refine A0 oK ?_; refine CN ?_; refine Ct ?_; refine CQR ?_; refine A0 mV ?_; refine A0 aV ?_
  refine A0 aV ?_; refine A0 aV ?_; refine CN ?_
  have hS : spendOf p t = (p, 0, 1) := by unfold spendOf; rw [if_pos (fun h => g20 h.1)]
  exact aw_ret3 rfl rfl (ret_eq rfl (by rw [hS])) (ret_eq rfl (by rw [hS])) (ret_eq rfl (by rw [hS]))
 ·
  refine A0 mV ?_; refine A1 mV ?_; refine A1 oN ?_
  refine aw_splitp (d := 23) (p := ¬ mayTx t = true) rfl (by simp) (fun g23 => ?_) (fun g23 => ?_)
  ·
   refine A0 oK ?_; refine A0 mV ?_; refine A2 ?_; refine A2 ?_; refine A2 ?_; refine A2 ?_; refine A0 oK ?_; refine CN ?_; refine Ct ?_; refine CQR ?_; refine A0 mV ?_; refine A0 aV ?_; refine A0 aV ?_; refine A0 aV ?_; refine CN ?_
   have hS : spendOf p t = (p, 0, 1) := by unfold spendOf; rw [if_pos (fun h => g23 h.2.1)]
   exact aw_ret3 rfl rfl (ret_eq rfl (by rw [hS])) (ret_eq rfl (by rw [hS])) (ret_eq rfl (by rw [hS]))
  ·
   refine A0 oK ?_; refine A0 mV ?_; refine A1 (oFp fd_99_0) ?_; refine A1 (oLb L_Tx_ins ty_96) ?_; refine A1 (g_len rfl rfl isl_96) ?_; refine A1 o_eql ?_
   refine Sp (d := 29) (p := t.ins.length = 0) (fun g29 => ?_) (fun g29 => ?_)
   ·
    refine A0 oK ?_; refine CN ?_; refine Ct ?_; refine CQR ?_; refine A0 mV ?_; refine A0 aV ?_; refine A0 aV ?_; refine A0 aV ?_; refine CN ?_
    have hS : spendOf p t = (p, 0, 1) := by unfold spendOf; rw [if_pos (fun h => h.2.2 (List.eq_nil_of_length_eq_zero g29))]
    exact aw_ret3 rfl rfl (ret_eq rfl (by rw [hS])) (ret_eq rfl (by rw [hS])) (ret_eq rfl (by rw [hS]))
   ·
    have hmp := Classical.not_not.1 g20
    have hmt := Classical.not_not.1 g23
    have hpl := mayCoins_len hmp
    have hne : t.ins ≠ [] := fun e => g29 (by rw [e]; rfl)
    have hlens := mayTx_lens hmt
    refine A0 oK ?_; refine CN ?_; refine Cg ?_; refine CSQR ?_; refine A0 mV ?_; refine aw_append0 rfl rfl rfl rfl rfl rfl row_35 (by (try simp only [List.length_append, List.length_take, List.length_drop]); omega) ?_; refine A0 aO ?_
    refine CNQR ?_; refine A0 aV ?_; refine CNQQR ?_; refine A0 aV ?_; refine CNB ?_; refine aw_pub (d := 9) rfl rfl ?_
    refine Lp (ι := Nat × List Coin × Int) 1 (fun (i : Nat × List Coin × Int) => match i with | (k, rest, n) => (((((Fr.none).set 0 (.val (sl coinT) p)).set 3 (.ptr 0 0)).set 9 (.val (sl coinT) rest)).set 10 (.val i64T n)).set 11 (.val i64T (k : Int))) (fun (i : Nat × List Coin × Int) => match i with | (k, rest, n) => (Hp.none).set 0 (.box 99 txT t)) (fun (i : Nat × List Coin × Int) => match i with | (k, rest, n) => k ≤ t.ins.length ∧ Sorted rest ∧ rest.length ≤ 48 ∧ takeIns p 0 t.ins = takeIns rest n (t.ins.drop k)) (fun (i : Nat × List Coin × Int) => match i with | (k, rest, n) => t.ins.length - k) ((0, p, 0)) (⟨Nat.zero_le _, (mayCoins_iff.1 hmp).2.1, hpl, rfl⟩) ?_
    intro ⟨k, rest, n⟩ hinv
    dsimp only at hinv
    refine CQQR ?_; refine A0 mV ?_; refine A0 (oFp fd_99_0) ?_; refine A0 (oLb L_Tx_ins ty_96) ?_; refine A0 (g_len rfl rfl isl_96) ?_; refine A0 o_lss ?_; refine CN ?_
    refine Cf (p := k < t.ins.length) (fun ht38 => ?_) (fun ht38 => ?_)
    ·
     obtain ⟨x, hx⟩ : ∃ x, t.ins[k]? = some x := ⟨_, List.getElem?_eq_getElem ht38⟩
     have hdr : t.ins.drop k = x :: t.ins.drop (k + 1) := by rw [List.drop_eq_getElem_cons ht38]; congr 1; exact (List.getElem?_eq_some_iff.1 hx).2
     refine CSQBQR ?_; refine A0 mV ?_; refine A0 (oFp fd_99_0) ?_; refine A0 (oLb L_Tx_ins ty_96) ?_; refine A0 mV ?_; refine A0 (g_ia_i (i := k) rfl rfl rfl (by omega) sl_96 (by assumption)) ?_; refine A0 (g_load_r rfl rfl ty_119) ?_
     refine A0 (oCl (rfind_ok _ _) rfl fn_154 ⟨(arg_v rfl), (by first | exact arg_same rfl | exact arg_bsl rfl | exact arg_own rfl rfl | exact arg_nil rfl | exact arg_rptr rfl | exact arg_fn rfl rfl | exact arg_lit rfl), trivial⟩) ?_
     refine A0 aV ?_; refine CNQQR ?_; refine A0 mV ?_; refine A0 o_lss ?_; refine CN ?_
     refine Cf (p := findC rest x < 0) (fun ht49 => ?_) (fun ht49 => ?_)
     ·
      refine CQR ?_; refine A0 mV ?_; refine A0 aV ?_; refine A0 aV ?_; refine A0 aV ?_; refine CN ?_
      have hS : spendOf p t = (p, 0, 8) := by exact spendOf_none hmp hmt hne (by rw [hinv.2.2.2, hdr]; exact takeIns_not (findC_none ht49))
      exact aw_ret3 rfl rfl (ret_eq rfl (by rw [hS])) (ret_eq rfl (by rw [hS])) (ret_eq rfl (by rw [hS]))
     ·
      obtain ⟨c, hc, hcx, _⟩ := findC_some (Int.not_lt.1 ht49)
      obtain ⟨i, hi⟩ : ∃ i : Nat, findC rest x = i := ⟨_, (Int.toNat_of_nonneg (Int.not_lt.1 ht49)).symm⟩
      rw [hi, Int.toNat_natCast] at hc
      have hil := (List.getElem?_eq_some_iff.1 hc).1
      refine aw_reval (d := 12) (y := (i : Int)) rfl hi ?_; refine CSQR ?_; refine A0 mV ?_; refine A0 mV ?_; refine A0 mV ?_; refine A0 (g_ia_i (i := i) rfl rfl rfl (by omega) sl_35 (by assumption)) ?_; refine A0 (oFr fd_123_1 L_Coin_out) ?_
      refine A0 (oFr fd_121_0 L_Out_v) ?_; refine A0 (g_load_r rfl rfl ty_3) ?_; refine A0 o_add ?_; refine A0 aV ?_; refine CN ?_
      refine aw_drawx [some 1, some 1, some 1, none, some 2, some 2, some 2, some 2, none, some 1] mixed (by decide +kernel) ?_; refine X0 mV ?_; refine X0 mV ?_
      refine X0 (by first | exact g_sl_nil rfl rfl rfl (by first | rfl | omega) sl_35 | exact g_sl_h rfl rfl rfl sl_35 (by first | assumption | omega | (simp; omega))) ?_
      refine XK.e (fun fr' hfr kk H => by exact aw_append0 rfl rfl rfl rfl rfl ((hfr 61 (by decide +kernel)).trans rfl) row_35 (by (try simp only [List.length_append, List.length_take, List.length_drop]); omega) (aw_nil H)) ?_
      refine XK.g2 (g_mv (.inl rfl) rfl) (g_mv (.inl rfl) rfl) rfl rfl rfl ?_; refine XK.g2 (g_mv (.inl rfl) rfl) (g_mv (.inl rfl) rfl) rfl rfl rfl ?_
      refine XK.g2 (by first | exact g_add rfl rfl rfl (wrap_eq (by first | omega | (simp; omega))) | exact g_add rfl rfl rfl rfl) (by first | exact g_add rfl rfl rfl (wrap_eq (by first | omega | (simp; omega))) | exact g_add rfl rfl rfl rfl) rfl rfl rfl ?_
      refine XK.g2 (g_sl_l rfl rfl rfl sl_35 (by first | assumption | omega | (simp; omega))) (g_sl_l rfl rfl rfl sl_35 (by first | assumption | omega | (simp; omega))) rfl rfl rfl ?_
      refine XK.e (fun fr' hfr kk H => by exact aw_append rfl rfl rfl rfl ((hfr 62 (by decide +kernel)).trans rfl) rfl ((hfr 66 (by decide +kernel)).trans rfl) row_35 (by (try simp only [List.length_append, List.length_take, List.length_drop]); omega) (aw_nil H)) ?_
      refine X0 aO ?_; refine XK.nil' ?_; refine CI ?_; refine CR ?_; refine A0 mV ?_; refine A0 o_add ?_; refine A0 aV ?_; refine CN ?_; refine aw_pub (d := 9) rfl rfl ?_
      exact Nx ((k + 1, rest.take i ++ rest.drop (i + 1), IntKind.i64.wrap (n + c.out.v))) (⟨by omega, del_sorted _ hinv.2.1, by simp; omega, by rw [hinv.2.2.2, hdr, takeIns_at hinv.2.1 hc hcx]⟩) (by show _ < t.ins.length - k; simp only []; omega)
    ·
     obtain rfl : k = t.ins.length := (by omega)
     have htk : takeIns p 0 t.ins = some (rest, n) := by rw [hinv.2.2.2, List.drop_of_length_le (Nat.le_refl _)]; rfl
     refine CE ?_; refine CQQR ?_; refine A0 (oLs rfl rfl rfl ty_99) ?_; refine A0 (oCl (rworth_ok _) rfl fn_109 ⟨(arg_v rfl), trivial⟩) ?_; refine A0 mV ?_; refine A0 o_gtr ?_; refine CN ?_
     refine Cf (p := n < worthF (·.v) t.outs) (fun ht71 => ?_) (fun ht71 => ?_)
     ·
      refine CQR ?_; refine A0 mV ?_; refine A0 aV ?_; refine A0 aV ?_; refine A0 aV ?_; refine CN ?_
      have hS : spendOf p t = (p, 0, 8) := by rw [spendOf_run hmp hmt hne htk]; rw [if_pos ht71]
      exact aw_ret3 rfl rfl (ret_eq rfl (by rw [hS])) (ret_eq rfl (by rw [hS])) (ret_eq rfl (by rw [hS]))
     ·
      refine CSQR ?_; refine A0 mV ?_; refine A0 (oLs rfl rfl rfl ty_99) ?_; refine A0 (oCl (rid_ok _) rfl fn_108 ⟨(arg_v rfl), trivial⟩) ?_; refine A0 (oCl (rthere_ok _ _) rfl fn_107 ⟨(arg_v rfl), (arg_v rfl), trivial⟩) ?_; refine A0 aV ?_
      refine CNQQR ?_; refine A0 mV ?_; refine CN ?_
      refine aw_ifc (p := (rest.any fun c => decide (c.inn.tx = idOf t)) = true) rfl (Bool.decide_eq_true.symm) (fun ht77 => ?_) (fun ht77 => ?_)
      ·
       refine CQR ?_; refine A0 mV ?_; refine A0 aV ?_; refine A0 aV ?_; refine A0 aV ?_; refine CN ?_
       have hS : spendOf p t = (p, 0, 10) := by rw [spendOf_run hmp hmt hne htk]; rw [if_neg ht71, if_pos ht77]
       exact aw_ret3 rfl rfl (ret_eq rfl (by rw [hS])) (ret_eq rfl (by rw [hS])) (ret_eq rfl (by rw [hS]))
      ·
       have hz : (madeOf rest t).2 = 0 := by rw [madeOf_there, if_neg ht77]
       obtain ⟨hm1, hm2, hm3⟩ := mayCoins_iff.1 hmp
       have hT := coins_tot hm1 hm3
       have hTt := takeIns_tot htk hm1 hm3 (Int.le_refl _) (by omega)
       have hTo := outs_tot hmt
       rw [← hTo.1] at hTo
       have hTr := tot_pos (f := fun c : Coin => c.out.v) (l := rest) fun c hc => (coins_pos hm1 c ((takeIns_good htk).subset hc)).1
       refine CSQR ?_; refine A0 mV ?_; refine A0 (oLs rfl rfl rfl ty_99) ?_; refine A0 (oCl (rmade_ok rest t (by omega) (by omega)) rfl fn_110 ⟨(arg_v rfl), (arg_v rfl), trivial⟩) ?_
       refine aw_reval (d := 81) (y := (madeOf rest t).1) rfl (withs_made hinv.2.1 hz) ?_; refine A0 aV ?_; refine CNQQR ?_; refine A0 mV ?_; refine A0 (g_len rfl rfl isl_35) ?_; refine A0 o_gtr ?_; refine CN ?_
       refine Cf (p := 48 < (madeOf rest t).1.length) (fun ht84 => ?_) (fun ht84 => ?_)
       ·
        refine CQR ?_; refine A0 mV ?_; refine A0 aV ?_; refine A0 aV ?_; refine A0 aV ?_; refine CN ?_
        have hS : spendOf p t = (p, 0, 11) := by rw [spendOf_run hmp hmt hne htk]; rw [if_neg ht71, if_neg ht77, if_pos ht84]
        exact aw_ret3 rfl rfl (ret_eq rfl (by rw [hS])) (ret_eq rfl (by rw [hS])) (ret_eq rfl (by rw [hS]))
       ·
        refine CSQR ?_; refine A0 mV ?_; refine A0 mV ?_; refine A0 (oLs rfl rfl rfl ty_99) ?_; refine A0 (oCl (rworth_ok _) rfl fn_109 ⟨(arg_v rfl), trivial⟩) ?_; refine A0 o_sub ?_; refine A0 aV ?_; refine A0 aV ?_; refine A0 aV ?_; refine CN ?_
        have hS : spendOf p t = ((madeOf rest t).1, n - worthF (·.v) t.outs, 0) := by rw [spendOf_run hmp hmt hne htk]; rw [if_neg ht71, if_neg ht77, if_neg ht84]
        exact aw_ret3 rfl rfl (ret_eq rfl (by rw [hS])) (ret_eq rfl (by rw [hS])) (ret_eq rfl (by rw [hS]))
theorem rapply_ok (p : List Coin) (l : List Tx) : Tells P 50 [.val (sl coinT) p, .val (sl txT) l] (.tup2 (.val (sl coinT) (applyOf p l).1) (.val i64T (applyOf p l).2)) := by
 refine fn_of_aw Tryz.func50 rfl rfl rfl (fun ext w hext => ?_)
 refine aw_fact (d := 0) rfl fact_sl (fun hsl0 => ?_)
 refine aw_fact (d := 1) rfl fact_sl (fun hsl1 => ?_)
 refine CQR ?_; refine A0 aL ?_; refine A0 aV ?_; refine CNQR ?_; refine A0 mV ?_; refine A0 (oCl (rmay_ok _) rfl fn_104 ⟨(arg_v rfl), trivial⟩) ?_; refine A0 aV ?_; refine CNQQR ?_; refine A0 mV ?_; refine A0 oN ?_; refine CN ?_
 refine aw_ifc (p := ¬ mayCoins p = true) rfl (by simp) (fun ht18 => ?_) (fun ht18 => ?_)
 ·
  refine CQR ?_; refine A0 mV ?_; refine A0 aV ?_; refine A0 aV ?_; refine CN ?_
  have hS : applyOf p l = (p, 1) := by unfold applyOf; rw [if_pos ht18]
  exact aw_ret2 rfl rfl (ret_eq rfl (by rw [hS])) (ret_eq rfl (by rw [hS]))
 ·
  have hmp := Classical.not_not.1 ht18
  have hpl := mayCoins_len hmp
  have hT := coins_tot (mayCoins_iff.1 hmp).1 (mayCoins_iff.1 hmp).2.2
  refine CSQQR ?_; refine A0 mV ?_; refine A0 (g_len rfl rfl isl_31) ?_; refine A0 o_gtr ?_; refine CN ?_
  refine Cf (p := 4 < l.length) (fun ht22 => ?_) (fun ht22 => ?_)
  ·
   refine CQR ?_; refine A0 mV ?_; refine A0 aV ?_; refine A0 aV ?_; refine CN ?_
   have hS : applyOf p l = (p, 3) := by unfold applyOf; rw [if_neg (Classical.not_not.2 hmp), if_pos ht22]
   exact aw_ret2 rfl rfl (ret_eq rfl (by rw [hS])) (ret_eq rfl (by rw [hS]))
  ·
   refine CSQR ?_; refine A0 mV ?_; refine A0 aV ?_; refine CNQR ?_; refine A0 aV ?_; refine CNQQR ?_; refine A0 aV ?_; refine CNB ?_
   refine Lp (ι := Nat × List Coin × Int) 0 (fun (i : Nat × List Coin × Int) => match i with | (k, out, left) => (((((Fr.none).set 0 (.val (sl coinT) p)).set 1 (.val (sl txT) l)).set 7 (.val (sl coinT) out)).set 8 (.val i64T left)).set 9 (.val i64T (k : Int))) (fun (i : Nat × List Coin × Int) => match i with | (k, out, left) => Hp.none) (fun (i : Nat × List Coin × Int) => match i with | (k, out, left) => k ≤ l.length ∧ mayCoins out = true ∧ runTxs p 50 (remTxs l 0) = runTxs out (50 + left) (remTxs l k) ∧ 0 ≤ left ∧ tot (·.out.v) out + left = tot (·.out.v) p) (fun (i : Nat × List Coin × Int) => match i with | (k, out, left) => l.length - k) ((0, p, 0)) (⟨Nat.zero_le _, hmp, rfl, Int.le_refl _, by simp⟩) ?_
   intro ⟨k, out, left⟩ hinv
   dsimp only at hinv
   refine CQQR ?_; refine A0 mV ?_; refine A0 mV ?_; refine A0 (g_len rfl rfl isl_31) ?_; refine A0 o_lss ?_; refine CN ?_
   refine Cf (p := k < l.length) (fun ht28 => ?_) (fun ht28 => ?_)
   ·
    obtain ⟨t, hx⟩ : ∃ t, l[k]? = some t := ⟨_, List.getElem?_eq_getElem ht28⟩
    obtain ⟨t0, ht0⟩ : ∃ t0, l[0]? = some t0 := ⟨_, List.getElem?_eq_getElem (by omega)⟩
    have hif := isFirst_at ht0
    refine CS ?_; refine CQ ?_; refine CB ?_; refine CQQR ?_; refine A0 mV ?_; refine A0 o_eql ?_
    refine Sp (d := 32) (p := k = 0) (fun g32 => ?_) (fun g32 => ?_)
    ·
     refine A0 mV ?_; refine A1 mV ?_; refine A1 (g_ia_i (i := 0) rfl rfl rfl (by omega) sl_31 (by assumption)) ?_; refine A1 (oFr fd_99_0 L_Tx_ins) ?_; refine A1 (g_load_r rfl rfl ty_96) ?_
     refine A1 (by first | exact g_len rfl rfl isl_96 | exact g_len_o rfl rfl rfl isl_96 | exact g_len_nil rfl rfl isl_96) ?_; refine A1 o_eql ?_
     refine Sp (d := 39) (p := t0.ins.length = 0) (fun g39 => ?_) (fun g39 => ?_)
     ·
      refine A0 oK ?_; refine CN ?_; refine Ct ?_; refine CE ?_; refine CR ?_; refine A0 mV ?_; refine A0 o_add ?_; refine A0 aV ?_; refine CN ?_
      exact Nx ((k + 1, out, left)) (by first | exact ⟨by omega, hinv.2.1, by rw [hinv.2.2.1, g32, remTxs_first (by rw [hif]; exact decide_eq_true g39)], hinv.2.2.2⟩ | exact ⟨by omega, hsm, hinv.2.2.1.trans hgo, by omega, by omega⟩) (by show _ < l.length - k; simp only []; omega)
     ·
      have hnf : ¬ (isFirst l = true ∧ k = 0) := fun h => g39 (by have := h.1; rw [hif] at this; exact of_decide_eq_true this)
      refine A0 oK ?_; refine CN ?_; refine Cg ?_; refine CSQR ?_; refine A0 mV ?_; refine A0 mV ?_; refine A0 mV ?_; refine A0 (g_ia_i (i := k) rfl rfl rfl (by omega) sl_31 (by assumption)) ?_; refine A0 (g_load_r rfl rfl ty_99) ?_
      refine A0 (oCl (rspend_ok out t) rfl fn_105 ⟨(arg_v rfl), (by first | exact arg_same rfl | exact arg_bsl rfl | exact arg_own rfl rfl | exact arg_nil rfl | exact arg_rptr rfl | exact arg_fn rfl rfl | exact arg_lit rfl), trivial⟩) ?_
      refine A0 mX ?_; refine A0 (by first | exact g_x20 rfl rfl | exact g_x30 rfl rfl) ?_; refine A0 (by first | exact g_x21 rfl rfl | exact g_x31 rfl rfl) ?_; refine A0 e32 ?_; refine A0 aV ?_; refine A0 aV ?_; refine A0 aV ?_; refine CNQQR ?_
      refine A0 mV ?_; refine A0 o_neq ?_; refine CN ?_
      refine aw_ifc (p := ¬ (spendOf out t).2.2 = 0) rfl (by simp [IntL.toI]) (fun ht52 => ?_) (fun ht52 => ?_)
      ·
       refine CQR ?_; refine A0 mV ?_; refine A0 mV ?_; refine A0 aV ?_; refine A0 aV ?_; refine CN ?_
       have hS : applyOf p l = (p, (spendOf out t).2.2) := by unfold applyOf; rw [if_neg (Classical.not_not.2 hmp), if_neg ht22]; rw [hinv.2.2.1, runTxs_stop hnf hx ht52]
       exact aw_ret2 rfl rfl (ret_eq rfl (by rw [hS])) (ret_eq rfl (by rw [hS]))
      ·
       have hs := spendOf_tot (t := t) hinv.2.1
       have hsm := spendOf_may (t := t) hinv.2.1
       have hsc := coins_tot (mayCoins_iff.1 hsm).1 (mayCoins_iff.1 hsm).2.2
       have hgo := runTxs_step (room := 50 + left) hnf hx (Classical.not_not.1 ht52)
       have hw : IntKind.i64.wrap (50 + left + (spendOf out t).2.1) = 50 + (left + (spendOf out t).2.1) := by rw [wrap_eq (by omega)]; omega
       rw [hw] at hgo
       refine CSQR ?_; refine A0 mV ?_; refine A0 aV ?_; refine CNR ?_; refine A0 mV ?_; refine A0 mV ?_; refine A0 o_add ?_; refine A0 aV ?_; refine CNIR ?_; refine A0 mV ?_; refine A0 o_add ?_; refine A0 aV ?_; refine CN ?_
       exact Nx ((k + 1, (spendOf out t).1, left + (spendOf out t).2.1)) (by first | exact ⟨by omega, hinv.2.1, by rw [hinv.2.2.1, g32, remTxs_first (by rw [hif]; exact decide_eq_true g39)], hinv.2.2.2⟩ | exact ⟨by omega, hsm, hinv.2.2.1.trans hgo, by omega, by omega⟩) (by show _ < l.length - k; simp only []; omega)
    ·
     have hnf : ¬ (isFirst l = true ∧ k = 0) := fun h => g32 h.2
     refine A0 mV ?_; refine A2 ?_; refine A2 ?_; refine A2 ?_; refine A2 ?_; refine A2 ?_; refine A2 ?_; refine A0 oK ?_; refine CN ?_; refine Cg ?_; refine CSQR ?_; refine A0 mV ?_; refine A0 mV ?_; refine A0 mV ?_
     refine A0 (g_ia_i (i := k) rfl rfl rfl (by omega) sl_31 (by assumption)) ?_; refine A0 (g_load_r rfl rfl ty_99) ?_
     refine A0 (oCl (rspend_ok out t) rfl fn_105 ⟨(arg_v rfl), (by first | exact arg_same rfl | exact arg_bsl rfl | exact arg_own rfl rfl | exact arg_nil rfl | exact arg_rptr rfl | exact arg_fn rfl rfl | exact arg_lit rfl), trivial⟩) ?_
     refine A0 mX ?_; refine A0 (by first | exact g_x20 rfl rfl | exact g_x30 rfl rfl) ?_; refine A0 (by first | exact g_x21 rfl rfl | exact g_x31 rfl rfl) ?_; refine A0 e32 ?_; refine A0 aV ?_; refine A0 aV ?_; refine A0 aV ?_; refine CNQQR ?_
     refine A0 mV ?_; refine A0 o_neq ?_; refine CN ?_
     refine aw_ifc (p := ¬ (spendOf out t).2.2 = 0) rfl (by simp [IntL.toI]) (fun ht52 => ?_) (fun ht52 => ?_)
     ·
      refine CQR ?_; refine A0 mV ?_; refine A0 mV ?_; refine A0 aV ?_; refine A0 aV ?_; refine CN ?_
      have hS : applyOf p l = (p, (spendOf out t).2.2) := by unfold applyOf; rw [if_neg (Classical.not_not.2 hmp), if_neg ht22]; rw [hinv.2.2.1, runTxs_stop hnf hx ht52]
      exact aw_ret2 rfl rfl (ret_eq rfl (by rw [hS])) (ret_eq rfl (by rw [hS]))
     ·
      have hs := spendOf_tot (t := t) hinv.2.1
      have hsm := spendOf_may (t := t) hinv.2.1
      have hsc := coins_tot (mayCoins_iff.1 hsm).1 (mayCoins_iff.1 hsm).2.2
      have hgo := runTxs_step (room := 50 + left) hnf hx (Classical.not_not.1 ht52)
      have hw : IntKind.i64.wrap (50 + left + (spendOf out t).2.1) = 50 + (left + (spendOf out t).2.1) := by rw [wrap_eq (by omega)]; omega
      rw [hw] at hgo
      refine CSQR ?_; refine A0 mV ?_; refine A0 aV ?_; refine CNR ?_; refine A0 mV ?_; refine A0 mV ?_; refine A0 o_add ?_; refine A0 aV ?_; refine CNIR ?_; refine A0 mV ?_; refine A0 o_add ?_; refine A0 aV ?_; refine CN ?_
      exact Nx ((k + 1, (spendOf out t).1, left + (spendOf out t).2.1)) (by first | exact ⟨by omega, hinv.2.1, by rw [hinv.2.2.1, g32, remTxs_first (by rw [hif]; exact decide_eq_true g39)], hinv.2.2.2⟩ | exact ⟨by omega, hsm, hinv.2.2.1.trans hgo, by omega, by omega⟩) (by show _ < l.length - k; simp only []; omega)
   ·
    have hrun : runTxs p 50 (remTxs l 0) = .inr (out, 50 + left) := by rw [hinv.2.2.1, remTxs_end k (by omega)]; rfl
    have hoc := coins_tot (mayCoins_iff.1 hinv.2.1).1 (mayCoins_iff.1 hinv.2.1).2.2
    have hol := mayCoins_len hinv.2.1
    refine CE ?_; refine CQQR ?_; refine A0 mV ?_; refine A0 (g_len rfl rfl isl_31) ?_; refine A0 o_eql ?_
    refine Sp (d := 61) (p := l.length = 0) (fun g61 => ?_) (fun g61 => ?_)
    ·
     refine A0 mV ?_; refine A2 ?_; refine A2 ?_; refine A2 ?_; refine A2 ?_; refine A2 ?_; refine A2 ?_; refine A0 oK ?_; refine CN ?_; refine Ct ?_; refine CQR ?_; refine A0 mV ?_; refine A0 aV ?_; refine A0 aV ?_; refine CN ?_
     have hS : applyOf p l = (out, 0) := by unfold applyOf; rw [if_neg (Classical.not_not.2 hmp), if_neg ht22]; rw [hrun]; simp only [isFirst_nil (show ¬ 0 < l.length by omega)]; rfl
     exact aw_ret2 rfl rfl (ret_eq rfl (by rw [hS])) (ret_eq rfl (by rw [hS]))
    ·
     obtain ⟨t0, ht0⟩ : ∃ t0, l[0]? = some t0 := ⟨_, List.getElem?_eq_getElem (by omega)⟩
     have hif := isFirst_at ht0
     refine A0 mV ?_; refine A1 mV ?_; refine A1 (g_ia_i (i := 0) rfl rfl rfl (by omega) sl_31 (by assumption)) ?_; refine A1 (oFr fd_99_0 L_Tx_ins) ?_; refine A1 (g_load_r rfl rfl ty_96) ?_
     refine A1 (by first | exact g_len rfl rfl isl_96 | exact g_len_o rfl rfl rfl isl_96 | exact g_len_nil rfl rfl isl_96) ?_; refine A1 o_gtr ?_
     refine Sp (d := 68) (p := 0 < t0.ins.length) (fun g68 => ?_) (fun g68 => ?_)
     ·
      refine A0 oK ?_; refine CN ?_; refine Ct ?_; refine CQR ?_; refine A0 mV ?_; refine A0 aV ?_; refine A0 aV ?_; refine CN ?_
      have hS : applyOf p l = (out, 0) := by unfold applyOf; rw [if_neg (Classical.not_not.2 hmp), if_neg ht22]; rw [hrun]; simp only [show isFirst l = false by rw [hif]; exact decide_eq_false (by omega)]; rfl
      exact aw_ret2 rfl rfl (ret_eq rfl (by rw [hS])) (ret_eq rfl (by rw [hS]))
     ·
      have hf : isFirst l = true := by rw [hif]; exact decide_eq_true (by omega)
      refine A0 oK ?_; refine CN ?_; refine Cg ?_; refine CSQR ?_; refine A0 mV ?_; refine A0 (g_ia_i (i := 0) rfl rfl rfl (by omega) sl_31 (by assumption)) ?_; refine A0 (g_load_r rfl rfl ty_99) ?_
      refine A0 (oCl (rmayTx_ok _) rfl fn_106 ⟨(by first | exact arg_same rfl | exact arg_bsl rfl | exact arg_own rfl rfl | exact arg_nil rfl | exact arg_rptr rfl | exact arg_fn rfl rfl | exact arg_lit rfl), trivial⟩) ?_; refine A0 aV ?_
      refine CNQQR ?_; refine A0 mV ?_; refine A0 oN ?_; refine CN ?_
      refine aw_ifc (p := ¬ mayTx t0 = true) rfl (by simp) (fun ht76 => ?_) (fun ht76 => ?_)
      ·
       refine CQR ?_; refine A0 mV ?_; refine A0 aV ?_; refine A0 aV ?_; refine CN ?_
       have hS : applyOf p l = (p, 1) := by unfold applyOf; rw [if_neg (Classical.not_not.2 hmp), if_neg ht22]; rw [hrun]; simp only [if_pos hf, ht0]; rw [if_pos ht76]
       exact aw_ret2 rfl rfl (ret_eq rfl (by rw [hS])) (ret_eq rfl (by rw [hS]))
      ·
       have hmt := Classical.not_not.1 ht76
       refine CSQR ?_; refine A0 mV ?_; refine A0 mV ?_; refine A0 (g_ia_i (i := 0) rfl rfl rfl (by omega) sl_31 (by assumption)) ?_; refine A0 (g_load_r rfl rfl ty_99) ?_
       refine A0 (oCl (rid_ok _) rfl fn_108 ⟨(by first | exact arg_same rfl | exact arg_bsl rfl | exact arg_own rfl rfl | exact arg_nil rfl | exact arg_rptr rfl | exact arg_fn rfl rfl | exact arg_lit rfl), trivial⟩) ?_
       refine A0 (oCl (rthere_ok _ _) rfl fn_107 ⟨(arg_v rfl), (arg_v rfl), trivial⟩) ?_; refine A0 aV ?_; refine CNQQR ?_; refine A0 mV ?_; refine CN ?_
       refine aw_ifc (p := (out.any fun c => decide (c.inn.tx = idOf t0)) = true) rfl (Bool.decide_eq_true.symm) (fun ht84 => ?_) (fun ht84 => ?_)
       ·
        refine CQR ?_; refine A0 mV ?_; refine A0 aV ?_; refine A0 aV ?_; refine CN ?_
        have hS : applyOf p l = (p, 10) := by unfold applyOf; rw [if_neg (Classical.not_not.2 hmp), if_neg ht22]; rw [hrun]; simp only [if_pos hf, ht0]; rw [if_neg (Classical.not_not.2 hmt), madeOf_there, if_pos ht84, if_pos (by decide)]
        exact aw_ret2 rfl rfl (ret_eq rfl (by rw [hS])) (ret_eq rfl (by rw [hS]))
       ·
        have hz : (madeOf out t0).2 = 0 := by rw [madeOf_there, if_neg ht84]
        refine CSQQR ?_; refine A0 mV ?_; refine A0 (g_ia_i (i := 0) rfl rfl rfl (by omega) sl_31 (by assumption)) ?_; refine A0 (g_load_r rfl rfl ty_99) ?_
        refine A0 (oCl (rworth_ok _) rfl fn_109 ⟨(by first | exact arg_same rfl | exact arg_bsl rfl | exact arg_own rfl rfl | exact arg_nil rfl | exact arg_rptr rfl | exact arg_fn rfl rfl | exact arg_lit rfl), trivial⟩) ?_; refine A0 mV ?_
        refine A0 o_add ?_; refine A0 o_gtr ?_; refine CN ?_
        refine Cf (p := 50 + left < worthF (·.v) t0.outs) (fun ht92 => ?_) (fun ht92 => ?_)
        ·
         refine CQR ?_; refine A0 mV ?_; refine A0 aV ?_; refine A0 aV ?_; refine CN ?_
         have hS : applyOf p l = (p, 8) := by unfold applyOf; rw [if_neg (Classical.not_not.2 hmp), if_neg ht22]; rw [hrun]; simp only [if_pos hf, ht0]; rw [if_neg (Classical.not_not.2 hmt), if_neg (by rw [hz]; simp), if_pos ht92]
         exact aw_ret2 rfl rfl (ret_eq rfl (by rw [hS])) (ret_eq rfl (by rw [hS]))
        ·
         refine CSQR ?_; refine A0 mV ?_; refine A0 mV ?_; refine A0 (g_ia_i (i := 0) rfl rfl rfl (by omega) sl_31 (by assumption)) ?_; refine A0 (g_load_r rfl rfl ty_99) ?_
         refine A0 (oCl (rmade_ok out t0 (by omega) (by have := mayTx_lens hmt; omega)) rfl fn_110 ⟨(arg_v rfl), (by first | exact arg_same rfl | exact arg_bsl rfl | exact arg_own rfl rfl | exact arg_nil rfl | exact arg_rptr rfl | exact arg_fn rfl rfl | exact arg_lit rfl), trivial⟩) ?_
         refine aw_reval (d := 98) (y := (madeOf out t0).1) rfl (withs_made (mayCoins_iff.1 hinv.2.1).2.1 hz) ?_; refine A0 aV ?_; refine CNQQR ?_; refine A0 mV ?_; refine A0 (g_len rfl rfl isl_35) ?_; refine A0 o_gtr ?_; refine CN ?_
         refine Cf (p := 48 < (madeOf out t0).1.length) (fun ht101 => ?_) (fun ht101 => ?_)
         ·
          refine CQR ?_; refine A0 mV ?_; refine A0 aV ?_; refine A0 aV ?_; refine CN ?_
          have hS : applyOf p l = (p, 11) := by unfold applyOf; rw [if_neg (Classical.not_not.2 hmp), if_neg ht22]; rw [hrun]; simp only [if_pos hf, ht0]; rw [if_neg (Classical.not_not.2 hmt), if_neg (by rw [hz]; simp), if_neg ht92, if_pos ht101]
          exact aw_ret2 rfl rfl (ret_eq rfl (by rw [hS])) (ret_eq rfl (by rw [hS]))
         ·
          refine CSQR ?_; refine A0 mV ?_; refine A0 aV ?_; refine A0 aV ?_; refine CN ?_
          have hS : applyOf p l = ((madeOf out t0).1, 0) := by unfold applyOf; rw [if_neg (Classical.not_not.2 hmp), if_neg ht22]; rw [hrun]; simp only [if_pos hf, ht0]; rw [if_neg (Classical.not_not.2 hmt), if_neg (by rw [hz]; simp), if_neg ht92, if_neg ht101]
          exact aw_ret2 rfl rfl (ret_eq rfl (by rw [hS])) (ret_eq rfl (by rw [hS]))
end Go.Proofs.YtgoiacajjicjcaaGreat
set_option maxRecDepth 20000
namespace Go.Proofs.YtgoiacajjicjcaaGreat
set_option linter.unusedVariables false
set_option linter.unusedSimpArgs false
open Go.Ab Go.RowKit
theorem half_of {n p : Nat} (h : 2 ≤ n) (hp : ∃ j, p = 2 ^ j) (h1 : p = 1 ∨ p < n) (h2 : ¬ 2 * p < n) : p = halfN n := by
  obtain ⟨j, rfl⟩ := hp
  unfold halfN bitLen
  rw [if_neg (by omega), Nat.add_sub_cancel]
  congr 1
  symm
  refine (Nat.log2_eq_iff (by omega)).2 ⟨by omega, ?_⟩
  rw [Nat.pow_succ]; omega
theorem rhalfN_ok (n : Nat) (h : 2 ≤ n) (hn : n < 4398046511104) : Tells P 140 [.val i64T (n : Int)] (.val i64T (halfN n : Nat)) := by
 refine fn_of_aw Tryz.func140 rfl rfl rfl (fun ext w hext => ?_)
 refine aw_fact (d := 0) rfl fact_int (fun hin0 => ?_)
 refine CQR ?_; refine A0 aV ?_; refine CNQR ?_; refine A0 aV ?_; refine CNQ ?_; refine CB ?_
 refine Lp (ι := Nat) 0 (fun (p : Nat) => ((Fr.none).set 0 (.val i64T (n : Int))).set 3 (.val i64T (p : Int))) (fun (p : Nat) => Hp.none) (fun (p : Nat) => (∃ j, p = 2 ^ j) ∧ 1 ≤ p ∧ (p = 1 ∨ p < n)) (fun (p : Nat) => n - p) (1) (⟨⟨0, rfl⟩, Nat.le_refl _, .inl rfl⟩) ?_
 intro p hinv
 refine CQQR ?_; refine A0 mV ?_; refine A0 (g_mul rfl rfl rfl (show _ = (((2 * p : Nat) : Int) : Int) from (wrap_eq (by omega)).trans (by omega))) ?_; refine A0 mV ?_; refine A0 o_lss ?_; refine CN ?_
 refine Cf (p := 2 * p < n) (fun ht7 => ?_) (fun ht7 => ?_)
 ·
  refine CS ?_; refine CB ?_; refine CR ?_; refine A0 mV ?_; refine A0 (g_mul rfl rfl rfl (show _ = (((2 * p : Nat) : Int) : Int) from (wrap_eq (by omega)).trans (by omega))) ?_; refine A0 aV ?_; refine CN ?_; refine CI ?_
  exact Nx (2 * p) (⟨let ⟨j, hj⟩ := hinv.1; ⟨j + 1, by rw [hj, Nat.pow_succ, Nat.mul_comm]⟩, by omega, .inr ht7⟩) (by omega)
 ·
  refine CE ?_; refine CQR ?_; refine A0 mV ?_; refine A0 aV ?_; refine CN ?_
  exact aw_ret1 rfl rfl (ret_eq rfl (by rw [half_of h hinv.1 hinv.2.2 ht7]))
theorem rtreeText_ok (a b : Ab.Id) (ha : a.length = 32) (hb : b.length = 32) : Tells P 180 [.val idT a, .val idT b] (.fresh 5 u8T (nodeText a b)) := by
 refine fn_of_aw Tryz.func180 rfl rfl rfl (fun ext w hext => ?_)
 refine CQR ?_; refine aw_box rfl rfl rfl rfl rfl ?_; refine aw_box rfl rfl rfl rfl rfl ?_; refine A0 aL ?_; refine CNQ ?_; refine aw_freeze (d := 2) rfl rfl (Lens.self _) ?_; refine aw_freeze (d := 3) rfl rfl (Lens.self _) ?_; refine CR ?_
 refine aw_bslice (T := u8T) (xs := [_]) rfl rfl rfl rfl sl_102 row_102 ⟨rfl, rfl, trivial⟩ rfl rfl ?_; refine A0 (g_slice_r rfl rfl ar_23 rfl rfl) ?_; refine aw_append rfl rfl rfl rfl rfl rfl rfl row_102 (by simp [ha, hb]) ?_; refine A0 aO ?_
 refine CNQR ?_; refine A0 mO ?_; refine A0 (g_slice_r rfl rfl ar_23 rfl rfl) ?_; refine aw_append rfl rfl rfl rfl rfl rfl rfl row_102 (by simp [ha, hb]) ?_; refine A0 aO ?_; refine CN ?_
 exact aw_ret1 rfl rfl (ret_fresh_eq rfl rfl (by simp [nodeText]))
theorem rnode_ok (a b : Ab.Id) : Tells P 141 [.val idT a, .val idT b] (.val idT (nodeOf a b)) := by
 refine fn_of_aw Tryz.func141 rfl rfl rfl (fun ext w hext => ?_)
 refine aw_fact (d := 0) rfl fact_idL (fun ha => ?_)
 refine aw_fact (d := 1) rfl fact_idL (fun hb => ?_)
 refine CQR ?_; refine aw_box rfl rfl rfl rfl rfl ?_; refine aw_box rfl rfl rfl rfl rfl ?_; refine aw_alloc ze_23 rfl rfl rfl rfl ?_; refine CNQR ?_; refine A0 (oLs rfl rfl rfl ty_23) ?_; refine A0 (oLs rfl rfl rfl ty_23) ?_
 refine A0 (oCl (tells_pub (rtreeText_ok a b ha hb)) rfl fn_180 ⟨(arg_v rfl), (arg_v rfl), trivial⟩) ?_; refine A0 (oCl (rsumB_ok (nodeText a b) (by unfold nodeText; simp; omega)) rfl fn_139 ⟨(arg_v rfl), trivial⟩) ?_
 refine aw_store_b rfl rfl rfl rfl rfl (Lens.self _) ty_23 rfl ?_; refine CN ?_
 exact aw_retc1 rfl rfl rfl rfl ty_23 (rfl)
theorem rroot_ok (l : List Ab.Id) (hl : l.length < 4398046511104) : Tells P 91 [.val (bsl idT) l] (.val idT (rootOf l)) := by
 refine fn_of_aw Tryz.func91 rfl rfl rfl (fun ext w hext => ?_)
 refine aw_fact (d := 0) rfl fact_sl (fun hsl0 => ?_)
 refine CQR ?_; refine aw_alloc ze_23 rfl rfl rfl rfl ?_; refine CNQQR ?_; refine A0 mV ?_; refine A0 (g_len rfl rfl isl_30) ?_; refine A0 o_eql ?_; refine CN ?_
 refine Cf (p := l.length = 0) (fun ht6 => ?_) (fun ht6 => ?_)
 ·
  refine CQR ?_; refine A0 (g_bslice (T := u8T) (xs := [_]) rfl sl_102 row_102 ⟨rfl, rfl, trivial⟩ rfl rfl) ?_; refine A0 (oCl (rsumB_ok [2] (by decide)) rfl fn_139 ⟨(arg_v rfl), trivial⟩) ?_
  refine aw_store_b rfl rfl rfl rfl rfl (Lens.self _) ty_23 rfl ?_; refine CN ?_
  exact aw_retc1 rfl rfl rfl rfl ty_23 (by rw [rootOf, if_pos ht6])
 ·
  refine CSQQR ?_; refine A0 mV ?_; refine A0 (g_len rfl rfl isl_30) ?_; refine A0 o_eql ?_; refine CN ?_
  refine Cf (p := l.length = 1) (fun ht11 => ?_) (fun ht11 => ?_)
  ·
   obtain ⟨x, hx⟩ : ∃ x, l[0]? = some x := ⟨_, List.getElem?_eq_getElem (by omega)⟩
   refine CQR ?_; refine A0 mV ?_; refine A0 (g_ia_i (i := 0) rfl rfl rfl (by omega) sl_30 (by assumption)) ?_; refine A0 (g_load_r rfl rfl ty_23) ?_; refine aw_store_b rfl rfl rfl rfl rfl (Lens.self _) ty_23 rfl ?_; refine CN ?_
   exact aw_retc1 rfl rfl rfl rfl ty_23 (by rw [rootOf, if_neg ht6, dif_pos (by omega)]; cases l with | nil => simp at ht6 | cons a m => simp at hx ⊢; exact hx.symm)
  ·
   have hp := half_pos l.length
   have hh := half_lt (n := l.length) (by omega)
   refine CSQR ?_; refine A0 mV ?_; refine A0 (g_len rfl rfl isl_30) ?_; refine A0 (oCl (rhalfN_ok l.length (by omega) (by omega)) rfl fn_140 ⟨(arg_v rfl), trivial⟩) ?_; refine A0 aV ?_; refine CNQ ?_
   refine aw_drawx [some 1, some 1, some 1, some 1, some 1, some 1, some 1, some 1, some 1, none] mixed (by decide +kernel) ?_; refine X0 mV ?_; refine X0 mV ?_
   refine X0 (by first | exact g_sl_nil rfl rfl rfl (by first | rfl | omega) sl_30 | exact g_sl_h rfl rfl rfl sl_30 (by first | assumption | omega | (simp; omega))) ?_
   refine X0 (oCl (rroot_ok (l.take (halfN l.length)) (by simp; omega)) rfl fn_91 ⟨(arg_v rfl), trivial⟩) ?_; refine X0 mV ?_; refine X0 mV ?_; refine X0 (g_sl_l rfl rfl rfl sl_30 (by first | assumption | omega | (simp; omega))) ?_
   refine X0 (oCl (rroot_ok (l.drop (halfN l.length)) (by simp; omega)) rfl fn_91 ⟨(arg_v rfl), trivial⟩) ?_; refine X0 (oCl (rnode_ok _ _) rfl fn_141 ⟨(arg_v rfl), (arg_v rfl), trivial⟩) ?_
   refine XK.e (x := .idk) (fun fr' hfr kk H => by exact aw_store_b rfl rfl rfl ((hfr 2 (by decide +kernel)).trans rfl) rfl (Lens.self _) ty_23 ((hfr 26 (by decide +kernel)).trans rfl) (aw_nil H)) ?_; refine XK.nil' ?_
   exact aw_retc1 rfl rfl rfl rfl ty_23 (by conv => rhs; rw [rootOf, if_neg ht6, dif_neg (by omega)])
termination_by l.length
decreasing_by
  all_goals (simp; omega)
theorem rtxIds_ok (l : List Tx) (hl : l.length ≤ 4000000000000) : Tells P 93 [.val (bsl txT) l] (.fresh 23 idT (l.map idOf)) := by
 refine fn_of_aw Tryz.func93 rfl rfl rfl (fun ext w hext => ?_)
 refine aw_fact (d := 0) rfl fact_sl (fun hsl0 => ?_)
 refine CQR ?_; refine A0 aL ?_; refine CNQR ?_; refine A0 aL ?_; refine CNQQR ?_; refine A0 aV ?_; refine CNB ?_; refine aw_nilrow (T := idT) (d := 3) 23 rfl ?_
 refine Lp (ι := Nat) 1 (fun (k : Nat) => (((Fr.none).set 0 (.val (bsl txT) l)).set 3 (.own 0)).set 4 (.val i64T (k : Int))) (fun (k : Nat) => (Hp.none).set 0 (.row 23 idT ((l.take k).map idOf))) (fun (k : Nat) => k ≤ l.length) (fun (k : Nat) => l.length - k) (0) (Nat.zero_le _) ?_
 intro k hinv
 refine CQQR ?_; refine A0 mV ?_; refine A0 mV ?_; refine A0 (g_len rfl rfl isl_31) ?_; refine A0 o_lss ?_; refine CN ?_
 refine Cf (p := k < l.length) (fun ht8 => ?_) (fun ht8 => ?_)
 ·
  obtain ⟨x, hx⟩ : ∃ x, l[k]? = some x := ⟨_, List.getElem?_eq_getElem ht8⟩
  refine CS ?_; refine CQ ?_; refine CB ?_; refine CR ?_; refine A0 mO ?_; refine A0 mV ?_; refine A0 mV ?_; refine A0 (g_ia_i (i := k) rfl rfl rfl (by omega) sl_31 (by assumption)) ?_; refine A0 (g_load_r rfl rfl ty_99) ?_
  refine A0 (oCl (rid_ok _) rfl fn_108 ⟨(by first | exact arg_same rfl | exact arg_bsl rfl | exact arg_own rfl rfl | exact arg_nil rfl | exact arg_rptr rfl | exact arg_fn rfl rfl | exact arg_lit rfl), trivial⟩) ?_
  refine A0 (g_bslice (T := idT) (xs := [_]) rfl sl_30 row_30 ⟨rfl, rfl, trivial⟩ rfl rfl) ?_; refine aw_append rfl rfl rfl rfl rfl rfl rfl row_30 (by simp; omega) ?_; refine A0 aO ?_; refine CNIR ?_; refine A0 mV ?_; refine A0 o_add ?_
  refine A0 aV ?_; refine CN ?_; refine aw_ren 1 0 2 rfl rfl rfl rfl rfl rfl ?_; refine aw_rerow (n := 0) (y := (l.take (k + 1)).map idOf) rfl (by rw [List.take_add_one, hx]; simp) ?_
  exact Nx (k + 1) (by omega) (by omega)
 ·
  refine CE ?_; refine CQR ?_; refine A0 mO ?_; refine A0 aO ?_; refine CN ?_
  exact aw_ret1 rfl rfl (ret_fresh_eq rfl rfl (by rw [List.take_of_length_le (by omega)]))
theorem rtxRoot_ok (l : List Tx) (hl : l.length ≤ 4000000000000) : Tells P 40 [.val (bsl txT) l] (.val idT (txRoot l)) := by
 refine fn_of_aw Tryz.func40 rfl rfl rfl (fun ext w hext => ?_)
 refine aw_fact (d := 0) rfl fact_sl (fun hsl0 => ?_)
 refine CQR ?_; refine aw_alloc ze_23 rfl rfl rfl rfl ?_; refine CNQR ?_; refine A0 mV ?_; refine A0 (oCl (tells_pub (rtxIds_ok l hl)) rfl fn_93 ⟨(arg_v rfl), trivial⟩) ?_
 refine A0 (oCl (rroot_ok (l.map idOf) (by simp; omega)) rfl fn_91 ⟨(arg_v rfl), trivial⟩) ?_; refine aw_store_b rfl rfl rfl rfl rfl (Lens.self _) ty_23 rfl ?_; refine CN ?_
 exact aw_retc1 rfl rfl rfl rfl ty_23 (rfl)
theorem fact_idsL {l : List Ab.Id} {ρ : Nat → Value} {B : Nat → Prop} {U N : Nat → Prop} {w : World} {v : Value} (h : (AV.val (bsl idT) l).rel ρ B U N w v) : ∀ x ∈ l, x.length = 32 := fun x hx => by
  obtain ⟨cs, ⟨ad, cap, _, _, _, h3⟩, _⟩ := h
  obtain ⟨_, ds, _, _, hr, _⟩ := h3 (List.ne_nil_of_mem hx)
  obtain ⟨c, hc⟩ := relAll_mem hr x hx
  exact hc.1
theorem rleaf_ok (b : List UInt8) (hb : b.length ≤ 1000000) : Tells P 142 [.val (bsl u8T) b] (.val idT (leafOf b)) := by
 refine fn_of_aw Tryz.func142 rfl rfl rfl (fun ext w hext => ?_)
 refine aw_fact (d := 0) rfl fact_sl (fun hsl0 => ?_)
 refine CQR ?_; refine aw_alloc ze_23 rfl rfl rfl rfl ?_; refine CNQR ?_; refine A0 (g_bslice (T := u8T) (xs := [_]) rfl sl_102 row_102 ⟨rfl, rfl, trivial⟩ rfl rfl) ?_; refine aw_lend (S := bsl u8T) (d := 3) rfl ?_; refine A0 mV ?_
 refine A0 (g_bslice (T := (bsl u8T)) (xs := [_, _]) rfl sl_150 row_150 ⟨rfl, rfl, rfl, rfl, trivial⟩ rfl rfl) ?_; refine A0 (oCl (rof_ok [[0], b] (by simp; omega)) rfl fn_120 ⟨(arg_v rfl), trivial⟩) ?_
 refine aw_store_b rfl rfl rfl rfl rfl (Lens.self _) ty_23 rfl ?_; refine CN ?_
 exact aw_retc1 rfl rfl rfl rfl ty_23 (by unfold leafOf; simp)
theorem rleaves_ok (l : List Ab.Id) (hl : l.length ≤ 4000000000000) : Tells P 92 [.val (bsl idT) l] (.fresh 23 idT (l.map linkLeaf)) := by
 refine fn_of_aw Tryz.func92 rfl rfl rfl (fun ext w hext => ?_)
 refine aw_fact (d := 0) rfl fact_sl (fun hsl0 => ?_)
 refine aw_fact (d := 0) rfl fact_idsL (fun hids => ?_)
 refine CQR ?_; refine A0 aL ?_; refine CNQR ?_; refine A0 aL ?_; refine CNQQR ?_; refine A0 aV ?_; refine CNB ?_; refine aw_nilrow (T := idT) (d := 3) 23 rfl ?_
 refine Lp (ι := Nat) 1 (fun (k : Nat) => (((Fr.none).set 0 (.val (bsl idT) l)).set 3 (.own 0)).set 4 (.val i64T (k : Int))) (fun (k : Nat) => (Hp.none).set 0 (.row 23 idT ((l.take k).map linkLeaf))) (fun (k : Nat) => k ≤ l.length) (fun (k : Nat) => l.length - k) (0) (Nat.zero_le _) ?_
 intro k hinv
 refine CQQR ?_; refine A0 mV ?_; refine A0 mV ?_; refine A0 (g_len rfl rfl isl_30) ?_; refine A0 o_lss ?_; refine CN ?_
 refine Cf (p := k < l.length) (fun ht8 => ?_) (fun ht8 => ?_)
 ·
  obtain ⟨x, hx⟩ : ∃ x, l[k]? = some x := ⟨_, List.getElem?_eq_getElem ht8⟩
  have hx32 := hids x (List.mem_of_getElem? hx)
  refine CS ?_; refine CQ ?_; refine CB ?_; refine CR ?_; refine A0 mO ?_; refine A0 mV ?_; refine A0 mV ?_; refine A0 (g_ia_i (i := k) rfl rfl rfl (by omega) sl_30 (by assumption)) ?_; refine A0 (g_slice_r rfl rfl ar_23 rfl rfl) ?_
  refine A0 (oCl (rleaf_ok x (by omega)) rfl fn_142 ⟨(arg_v rfl), trivial⟩) ?_; refine A0 (g_bslice (T := idT) (xs := [_]) rfl sl_30 row_30 ⟨rfl, rfl, trivial⟩ rfl rfl) ?_; refine aw_append rfl rfl rfl rfl rfl rfl rfl row_30 (by simp; omega) ?_
  refine A0 aO ?_; refine CNIR ?_; refine A0 mV ?_; refine A0 o_add ?_; refine A0 aV ?_; refine CN ?_; refine aw_ren 1 0 2 rfl rfl rfl rfl rfl rfl ?_
  refine aw_rerow (n := 0) (y := (l.take (k + 1)).map linkLeaf) rfl (by rw [List.take_add_one, hx]; simp [linkLeaf]) ?_
  exact Nx (k + 1) (by omega) (by omega)
 ·
  refine CE ?_; refine CQR ?_; refine A0 mO ?_; refine A0 aO ?_; refine CN ?_
  exact aw_ret1 rfl rfl (ret_fresh_eq rfl rfl (by rw [List.take_of_length_le (by omega)]))
theorem rlinkRoot_ok (l : List Ab.Id) (hl : l.length ≤ 4000000000000) : Tells P 39 [.val (bsl idT) l] (.val idT (linkRoot l)) := by
 refine fn_of_aw Tryz.func39 rfl rfl rfl (fun ext w hext => ?_)
 refine aw_fact (d := 0) rfl fact_sl (fun hsl0 => ?_)
 refine CQR ?_; refine aw_alloc ze_23 rfl rfl rfl rfl ?_; refine CNQR ?_; refine A0 mV ?_; refine A0 (oCl (tells_pub (rleaves_ok l hl)) rfl fn_92 ⟨(arg_v rfl), trivial⟩) ?_
 refine A0 (oCl (rroot_ok (l.map linkLeaf) (by simp; omega)) rfl fn_91 ⟨(arg_v rfl), trivial⟩) ?_; refine aw_store_b rfl rfl rfl rfl rfl (Lens.self _) ty_23 rfl ?_; refine CN ?_
 exact aw_retc1 rfl rfl rfl rfl ty_23 (rfl)
end Go.Proofs.YtgoiacajjicjcaaGreat
set_option maxRecDepth 20000
namespace Go.Proofs.YtgoiacajjicjcaaGreat
set_option linter.unusedVariables false
set_option linter.unusedSimpArgs false
open Go.Ab Go.RowKit
def dvU (x : UInt64) (m : Nat) : UInt64 := UInt64.ofNat (x.toNat / 256 ^ m)
theorem dvU_n (x : UInt64) (m : Nat) : (dvU x m).toNat = x.toNat / 256 ^ m := by
  have hx : x.toNat < 18446744073709551616 := x.toNat_lt
  unfold dvU
  rw [UInt64.toNat_ofNat_of_lt' (by show _ < 18446744073709551616; have := Nat.div_le_self x.toNat (256 ^ m); omega)]
theorem dvU_succ (x : UInt64) (m : Nat) : dvU x m / 256 = dvU x (m + 1) := by
  apply UInt64.toNat_inj.1
  rw [UInt64.toNat_div, dvU_n, dvU_n, Nat.pow_succ, ← Nat.div_div_eq_div_mul]; rfl
theorem dvU_zero (x : UInt64) : dvU x 0 = x := by
  apply UInt64.toNat_inj.1
  rw [dvU_n, Nat.pow_zero, Nat.div_one]
def rbyN (a : Wide) (j : Nat) : Ab.Id := (List.range j).foldl (fun l i => l.set (31 - i) (byteF a (31 - i))) zId
theorem rbyN_succ {a : Wide} {j : Nat} : (rbyN a j).set (31 - j) (byteF a (31 - j)) = rbyN a (j + 1) := (fold_succ (f := fun (l : List UInt8) i => l.set (31 - i) (byteF a (31 - i)))).symm
theorem rby_gen (f : Nat → UInt8) : (List.range 32).foldl (fun (l : Ab.Id) i => l.set (31 - i) (f (31 - i))) zId = (List.range 32).map f := by kernel_rfl
theorem rby_all {a : Wide} : rbyN a 32 = bytesW a := rby_gen (byteF a)
theorem rby_at {a : Wide} {k : Nat} (hk : k < 32) : u8OfI (IntL.toI u64T (dvU (a.getD (k / 8) default) (k % 8) % 256)) = byteF a (31 - k) := by
  unfold byteF
  rw [show 3 - (31 - k) / 8 = k / 8 by omega, show (56 - 8 * (((31 - k : Nat) : Int) % 8)).toNat = 8 * (k % 8) by omega]
  have e : shr64 (a.getD (k / 8) default) (8 * (k % 8)) = dvU (a.getD (k / 8) default) (k % 8) := by
    unfold shr64 dvU
    rw [Nat.min_eq_left (by omega), Nat.pow_mul]
  rw [e]
  unfold u8OfI
  congr 2
  show (((dvU (a.getD (k / 8) default) (k % 8) % 256).toNat : Nat) : Int) % 256 = (((dvU (a.getD (k / 8) default) (k % 8)).toNat : Nat) : Int) % 256
  rw [UInt64.toNat_mod, show (256 : UInt64).toNat = 256 from rfl]
  omega
theorem rbytesW_ok (a : Wide) : Tells P 158 [.val wideT a] (.val idT (bytesW a)) := by
 refine fn_of_aw Tryz.func158 rfl rfl rfl (fun ext w hext => ?_)
 refine aw_fact (d := 0) rfl fact_wide (fun ha => ?_)
 refine CQR ?_; refine aw_box rfl rfl rfl rfl rfl ?_; refine aw_alloc ze_23 rfl rfl rfl rfl ?_; refine CNQR ?_; refine aw_alloc ze_23 rfl rfl rfl rfl ?_; refine CNQQR ?_; refine A0 aV ?_; refine CNB ?_
 refine Lp (ι := Nat) 3 (fun (k : Nat) => ((((Fr.none).set 1 (.ptr 0 0)).set 2 (.ptr 1 0)).set 3 (.ptr 2 0)).set 4 (.val i64T (k : Int))) (fun (k : Nat) => (((Hp.none).set 0 (.box 26 wideT a)).set 1 (.box 23 idT zId)).set 2 (.box 23 idT (rbyN a k))) (fun (k : Nat) => k ≤ 32) (fun (k : Nat) => 32 - k) (0) (Nat.zero_le _) ?_
 intro k hinv
 refine CQQR ?_; refine A0 mV ?_; refine A0 o_lss ?_; refine CN ?_
 refine Cf (p := k < 32) (fun ht8 => ?_) (fun ht8 => ?_)
 ·
  refine CSQBQR ?_; refine A0 mV ?_; refine A0 (g_quo rfl rfl rfl (by first | omega | assumption) (by first | decide | omega) rfl) ?_; refine A0 (g_ia_b0 (i := k / 8) rfl rfl rfl (by first | omega | rfl) ar_26 (by omega)) ?_
  refine A0 (g_load_b rfl rfl rfl (Lens.elem (i := k / 8) (by omega) u64T) ty_24) ?_; refine A0 aV ?_; refine CNQQR ?_; refine A0 aV ?_; refine CNB ?_; refine aw_reval (d := 5) (y := dvU (a.getD (k / 8) default) 0) rfl (dvU_zero _).symm ?_
  refine Lp (ι := Nat) 3 (fun (m : Nat) => ((((((Fr.none).set 1 (.ptr 0 0)).set 2 (.ptr 1 0)).set 3 (.ptr 2 0)).set 4 (.val i64T (k : Int))).set 5 (.val u64T (dvU (a.getD (k / 8) default) m))).set 6 (.val i64T (m : Int))) (fun (m : Nat) => (((Hp.none).set 0 (.box 26 wideT a)).set 1 (.box 23 idT zId)).set 2 (.box 23 idT (rbyN a k))) (fun (m : Nat) => m ≤ k % 8) (fun (m : Nat) => k % 8 - m) (0) (Nat.zero_le _) ?_
  intro m hin
  refine CQQR ?_; refine A0 mV ?_; refine A0 mV ?_; refine A0 (g_rem rfl rfl rfl (by first | omega | assumption) (by first | decide | omega) rfl) ?_; refine A0 o_lss ?_; refine CN ?_
  refine aw_ifc (p := m < k % 8) rfl (by rw [decide_eq_decide]; simp only [IntL.toI, id_eq]; omega) (fun ht18 => ?_) (fun ht18 => ?_)
  ·
   refine CS ?_; refine CQ ?_; refine CB ?_; refine CR ?_; refine A0 mV ?_; refine A0 (g_quo64 rfl rfl rfl (by decide)) ?_; refine A0 aV ?_; refine CNIR ?_; refine A0 mV ?_; refine A0 o_add ?_; refine A0 aV ?_; refine CN ?_
   refine aw_reval (d := 5) (y := dvU (a.getD (k / 8) default) (m + 1)) rfl (dvU_succ _ _) ?_
   exact Nx (m + 1) (by omega) (by omega)
  ·
   obtain rfl : m = k % 8 := (by omega)
   refine CE ?_; refine CR ?_; refine A0 mV ?_; refine A0 o_sub ?_; refine A0 mV ?_; refine A0 (g_rem64 rfl rfl rfl (by decide)) ?_; refine A0 (g_cv8 rfl (ui_5) (us_24) rfl) ?_
   refine A0 (g_ia_b0 (i := 31 - k) rfl rfl rfl (by first | omega | rfl) ar_23 (by omega)) ?_; refine aw_store_b rfl rfl rfl rfl rfl (Lens.elem (i := 31 - k) (by omega) u8T) ty_5 rfl ?_; refine CNIR ?_; refine A0 mV ?_; refine A0 o_add ?_
   refine A0 aV ?_; refine CN ?_; refine aw_reheap (n := 2) (y := rbyN a (k + 1)) rfl (by rw [← rbyN_succ, ← rby_at ht8]; rfl) ?_
   exact Nx (k + 1) (by omega) (by omega)
 ·
  obtain rfl : k = 32 := (by omega)
  refine CE ?_; refine CQR ?_; refine A0 (oLs rfl rfl rfl ty_23) ?_; refine aw_store_b rfl rfl rfl rfl rfl (Lens.self _) ty_23 rfl ?_; refine CN ?_
  exact aw_retc1 rfl rfl rfl rfl ty_23 (rby_all)
end Go.Proofs.YtgoiacajjicjcaaGreat
set_option maxRecDepth 20000
namespace Go.Proofs.YtgoiacajjicjcaaGreat
set_option linter.unusedVariables false
set_option linter.unusedSimpArgs false
open Go.Ab Go.RowKit
theorem rmleaf_ok (id : Ab.Id) (w : Wide) : Tells P 96 [.val idT id, .val wideT w] (.val totalT (leafT id w)) := by
 refine fn_of_aw Tryz.func96 rfl rfl rfl (fun ext w hext => ?_)
 refine CQR ?_; refine aw_box rfl rfl rfl rfl rfl ?_; refine aw_box rfl rfl rfl rfl rfl ?_; refine aw_alloc ze_54 rfl rfl rfl rfl ?_; refine CNQR ?_; refine A0 (oLs rfl rfl rfl ty_23) ?_; refine A0 (oLs rfl rfl rfl ty_26) ?_
 refine A0 (g_build rfl ze_54 bd_54 (.cons fd_54_0 L_Total_h ty_23 rfl (.cons fd_54_1 L_Total_w ty_26 rfl (.cons fd_54_2 L_Total_n ty_3 rfl .nil))) rfl) ?_; refine aw_store_b rfl rfl rfl rfl rfl (Lens.self _) ty_54 rfl ?_; refine CN ?_
 exact aw_retc1 rfl rfl rfl rfl ty_54 (rfl)
theorem rtotalText_ok (t : Total) (hh : t.h.length = 32) : Tells P 143 [.val totalT t] (.fresh 5 u8T (totalText t)) := by
 refine fn_of_aw Tryz.func143 rfl rfl rfl (fun ext w hext => ?_)
 refine CQR ?_; refine aw_box rfl rfl rfl rfl rfl ?_; refine A0 aL ?_; refine CNQR ?_; refine A0 (oFp fd_54_1) ?_; refine A0 (oLb L_Total_w ty_26) ?_; refine A0 (oCl (rbytesW_ok _) rfl fn_158 ⟨(arg_v rfl), trivial⟩) ?_
 refine aw_alloc ze_23 rfl rfl rfl rfl ?_; refine aw_store_b rfl rfl rfl rfl rfl (Lens.self _) ty_23 rfl ?_; refine CNQ ?_; refine aw_freeze (d := 1) rfl rfl (Lens.self _) ?_; refine aw_freeze (d := 3) rfl rfl (Lens.self _) ?_
 have hbl := bytesW_len t.w
 have hn := numBytes_len (u64OfI (IntL.toI i64T t.n)) 4
 refine CR ?_; refine A0 (oFr fd_54_0 L_Total_h) ?_; refine A0 (g_slice_r rfl rfl ar_23 rfl rfl) ?_; refine aw_append0 rfl rfl rfl rfl rfl rfl row_102 (by simp [hh, hbl, hn]) ?_; refine A0 aO ?_; refine CNQR ?_; refine A0 mO ?_
 refine A0 (g_slice_r rfl rfl ar_23 rfl rfl) ?_; refine aw_append rfl rfl rfl rfl rfl rfl rfl row_102 (by simp [hh, hbl, hn]) ?_; refine A0 aO ?_; refine CNQR ?_; refine A0 mO ?_; refine A0 (oFr fd_54_2 L_Total_n) ?_
 refine A0 (g_load_r rfl rfl ty_3) ?_; refine A0 (g_cv64 rfl (ui_24) (us_3) rfl) ?_; refine A0 (oCl (tells_pub (rbin_ok _ 4 (by decide))) rfl fn_159 ⟨(arg_v rfl), (arg_v rfl), trivial⟩) ?_
 refine aw_append rfl rfl rfl rfl rfl rfl rfl row_102 (by simp [hh, hbl, hn]) ?_; refine A0 aO ?_; refine CN ?_
 exact aw_ret1 rfl rfl (ret_fresh_eq rfl rfl (by unfold totalText; simp))
theorem rjoin_ok (a b : Total) : Tells P 95 [.val totalT a, .val totalT b] (.val totalT (joinT a b)) := by
 refine fn_of_aw Tryz.func95 rfl rfl rfl (fun ext w hext => ?_)
 refine aw_fact (d := 0) rfl fact_total (fun ha => ?_)
 refine aw_fact (d := 1) rfl fact_total (fun hb => ?_)
 refine CQR ?_; refine aw_box rfl rfl rfl rfl rfl ?_; refine aw_box rfl rfl rfl rfl rfl ?_; refine aw_alloc ze_54 rfl rfl rfl rfl ?_; refine CNQR ?_; refine A0 (oFp fd_54_1) ?_; refine A0 (oLb L_Total_w ty_26) ?_; refine A0 (oFp fd_54_1) ?_
 refine A0 (oLb L_Total_w ty_26) ?_; refine A0 (oCl (raddW_ok _ _) rfl fn_138 ⟨(arg_v rfl), (arg_v rfl), trivial⟩) ?_; refine A0 mX ?_; refine A0 (by first | exact g_x20 rfl rfl | exact g_x30 rfl rfl) ?_
 refine A0 (by first | exact g_x21 rfl rfl | exact g_x31 rfl rfl) ?_; refine aw_alloc ze_26 rfl rfl rfl rfl ?_; refine aw_store_b rfl rfl rfl rfl rfl (Lens.self _) ty_26 rfl ?_; refine A0 aV ?_; refine CNQ ?_
 refine aw_drawx [some 1, some 1, some 1, some 1, some 1, some 1, some 1, some 1, some 1, some 1, some 1, some 1, some 1, some 1, none] mixed (by decide +kernel) ?_
 refine X0 (g_lend (T := sl u8T) (S := bsl u8T) (g_bslice (T := u8T) (xs := [_]) rfl sl_102 row_102 ⟨rfl, rfl, trivial⟩ rfl rfl)) ?_; refine X0 (oLs rfl rfl rfl ty_54) ?_
 refine X0 (g_lend (T := sl u8T) (S := bsl u8T) (g_call (tells_pub (rtotalText_ok a ha.1)) rfl fn_143 ⟨(arg_v rfl), trivial⟩ rfl)) ?_; refine X0 (oLs rfl rfl rfl ty_54) ?_
 refine X0 (g_lend (T := sl u8T) (S := bsl u8T) (g_call (tells_pub (rtotalText_ok b hb.1)) rfl fn_143 ⟨(arg_v rfl), trivial⟩ rfl)) ?_
 refine X0 (g_bslice (T := (bsl u8T)) (xs := [_, _, _]) rfl sl_150 row_150 ⟨rfl, rfl, rfl, rfl, rfl, rfl, trivial⟩ rfl rfl) ?_
 refine X0 (oCl (rof_ok [[3], totalText a, totalText b] (by simp [totalText_len ha.1, totalText_len hb.1])) rfl fn_120 ⟨(arg_v rfl), trivial⟩) ?_; refine X0 (oLs rfl rfl rfl ty_26) ?_; refine X0 (oFp fd_54_2) ?_
 refine X0 (oLb L_Total_n ty_3) ?_; refine X0 (oFp fd_54_2) ?_; refine X0 (oLb L_Total_n ty_3) ?_; refine X0 o_add ?_
 refine X0 (g_build rfl ze_54 bd_54 (.cons fd_54_0 L_Total_h ty_23 rfl (.cons fd_54_1 L_Total_w ty_26 rfl (.cons fd_54_2 L_Total_n ty_3 rfl .nil))) rfl) ?_
 refine XK.e (x := .idk) (fun fr' hfr kk H => by exact aw_store_b rfl rfl rfl ((hfr 4 (by decide +kernel)).trans rfl) rfl (Lens.self _) ty_54 ((hfr 28 (by decide +kernel)).trans rfl) (aw_nil H)) ?_; refine XK.nil' ?_
 exact aw_retc1 rfl rfl rfl rfl ty_54 (by unfold joinT; simp)
theorem rallNil_ok : Tells P 94 [.val (bsl totalT) []] (.val totalT (mmrRoot [])) := by
 refine fn_of_aw Tryz.func94 rfl rfl rfl (fun ext w hext => ?_)
 refine aw_fact (d := 0) rfl fact_sl (fun hsl0 => ?_)
 refine CQR ?_; refine aw_alloc ze_54 rfl rfl rfl rfl ?_; refine CNQQR ?_; refine A0 mV ?_; refine A0 (g_len rfl rfl isl_34) ?_; refine A0 o_eql ?_; refine CN ?_; refine Ct ?_; refine CQR ?_
 refine A0 (g_bslice (T := u8T) (xs := [_]) rfl sl_102 row_102 ⟨rfl, rfl, trivial⟩ rfl rfl) ?_; refine A0 (oCl (rsumB_ok [4] (by decide)) rfl fn_139 ⟨(arg_v rfl), trivial⟩) ?_
 refine A0 (g_build rfl ze_54 bd_54 (.cons fd_54_0 L_Total_h ty_23 rfl .nil) rfl) ?_; refine aw_store_b rfl rfl rfl rfl rfl (Lens.self _) ty_54 rfl ?_; refine CN ?_
 exact aw_retc1 rfl rfl rfl rfl ty_54 (mmrRoot_nil.symm)
theorem rmmrRoot_ok (p : List Total) (hp : p.length ≤ 1000000) : Tells P 41 [.val (bsl totalT) p] (.val totalT (mmrRoot p)) := by
 refine fn_of_aw Tryz.func41 rfl rfl rfl (fun ext w hext => ?_)
 refine aw_fact (d := 0) rfl fact_sl (fun hsl0 => ?_)
 refine CQR ?_; refine aw_alloc ze_54 rfl rfl rfl rfl ?_; refine CNQQR ?_; refine A0 mV ?_; refine A0 (g_len rfl rfl isl_34) ?_; refine A0 o_eql ?_; refine CN ?_
 refine Cf (p := p.length = 0) (fun ht7 => ?_) (fun ht7 => ?_)
 ·
  obtain rfl : p = [] := List.length_eq_zero_iff.1 ht7
  refine CQR ?_; refine A0 (oCl (rallNil_ok) rfl fn_94 ⟨(by first | exact arg_same rfl | exact arg_bsl rfl | exact arg_own rfl rfl | exact arg_nil rfl | exact arg_rptr rfl | exact arg_fn rfl rfl | exact arg_lit rfl), trivial⟩) ?_
  refine aw_store_b rfl rfl rfl rfl rfl (Lens.self _) ty_54 rfl ?_; refine CN ?_
  exact aw_retc1 rfl rfl rfl rfl ty_54 (rfl)
 ·
  obtain ⟨n, hn⟩ : ∃ n, p.length = n + 1 := ⟨p.length - 1, by omega⟩
  obtain ⟨x0, hx0⟩ : ∃ x, p[n]? = some x := ⟨_, List.getElem?_eq_getElem (by omega)⟩
  have hroot := mmrRoot_eq hn hx0
  refine CSQR ?_; refine A0 mV ?_; refine A0 mV ?_; refine A0 (g_len rfl rfl isl_34) ?_; refine A0 o_sub ?_; refine A0 (g_ia_i (i := n) rfl rfl rfl (by omega) sl_34 (by assumption)) ?_; refine A0 (g_load_r rfl rfl ty_54) ?_
  refine aw_alloc ze_54 rfl rfl rfl rfl ?_; refine aw_store_b rfl rfl rfl rfl rfl (Lens.self _) ty_54 rfl ?_; refine CNQQR ?_; refine A0 mV ?_; refine A0 (g_len rfl rfl isl_34) ?_; refine A0 o_sub ?_; refine A0 aV ?_; refine CNB ?_
  refine aw_reval (d := 4) (y := (n : Int) - 1) rfl (by rw [hn]; simp; omega) ?_
  refine Lp (ι := Nat × Total) 2 (fun (i : Nat × Total) => match i with | (k, y) => ((((Fr.none).set 0 (.val (bsl totalT) p)).set 2 (.ptr 0 0)).set 3 (.ptr 1 0)).set 4 (.val i64T ((k : Int) - 1))) (fun (i : Nat × Total) => match i with | (k, y) => ((Hp.none).set 0 (.box 54 totalT zTotal)).set 1 (.box 54 totalT y)) (fun (i : Nat × Total) => match i with | (k, y) => k ≤ n ∧ mmrRoot p = rootFrom (p.take k).reverse y) (fun (i : Nat × Total) => match i with | (k, y) => k) ((n, x0)) (⟨Nat.le_refl _, hroot⟩) ?_
  intro ⟨k, y⟩ hinv
  dsimp only at hinv
  refine CQQR ?_; refine A0 mV ?_; refine A0 o_geq ?_; refine CN ?_
  refine Cf (p := 0 < k) (fun ht19 => ?_) (fun ht19 => ?_)
  ·
   obtain ⟨x, hx⟩ : ∃ x, p[k - 1]? = some x := ⟨_, List.getElem?_eq_getElem (by omega)⟩
   refine CS ?_; refine CQ ?_; refine CB ?_; refine aw_drawx [some 1, some 1, some 1, some 1, some 1, some 1, none] mixed (by decide +kernel) ?_; refine X0 mV ?_; refine X0 mV ?_
   refine X0 (g_ia_i (i := k - 1) rfl rfl rfl (by omega) sl_34 (by assumption)) ?_; refine X0 (g_load_r rfl rfl ty_54) ?_; refine X0 (oLs rfl rfl rfl ty_54) ?_
   refine X0 (oCl (rjoin_ok _ _) rfl fn_95 ⟨(by first | exact arg_same rfl | exact arg_bsl rfl | exact arg_own rfl rfl | exact arg_nil rfl | exact arg_rptr rfl | exact arg_fn rfl rfl | exact arg_lit rfl), (arg_v rfl), trivial⟩) ?_
   refine XK.e (x := .idk) (fun fr' hfr kk H => by exact aw_store_b rfl rfl rfl ((hfr 3 (by decide +kernel)).trans rfl) rfl (Lens.self _) ty_54 ((hfr 27 (by decide +kernel)).trans rfl) (aw_nil H)) ?_; refine XK.nil' ?_; refine CI ?_
   refine CR ?_; refine A0 mV ?_; refine A0 o_sub ?_; refine A0 aV ?_; refine CN ?_; refine aw_reval (d := 4) (y := ((k - 1 : Nat) : Int) - 1) rfl (by omega) ?_
   exact Nx ((k - 1, joinT x y)) (⟨by omega, by rw [hinv.2, show k = k - 1 + 1 by omega, rootFrom_step hx]; rfl⟩) (by show k - 1 < k; omega)
  ·
   obtain rfl : k = 0 := (by omega)
   refine CE ?_; refine CQR ?_; refine A0 (oLs rfl rfl rfl ty_54) ?_; refine aw_store_b rfl rfl rfl rfl rfl (Lens.self _) ty_54 rfl ?_; refine CN ?_
   exact aw_retc1 rfl rfl rfl rfl ty_54 (by rw [hinv.2]; rfl)
end Go.Proofs.YtgoiacajjicjcaaGreat
set_option maxRecDepth 20000
namespace Go.Proofs.YtgoiacajjicjcaaGreat
set_option linter.unusedVariables false
set_option linter.unusedSimpArgs false
open Go.Ab Go.RowKit
theorem rputHead_ok (h : Head) : Tells P 119 [.val headT h] (.tup2 (.fresh 5 u8T (headBytes h)) (.val boolT (hOk h))) := by
 refine fn_of_aw Tryz.func119 rfl rfl rfl (fun ext w hext => ?_)
 refine aw_fact (d := 0) rfl fact_head (fun hf => ?_)
 obtain ⟨hf1, hf2, hf3, hf4, hf5⟩ := hf
 have hbl := bytesW_len h.work
 have hn1 := numBytes_len (u64OfI (IntL.toI i64T h.height)) 4
 have hn2 := numBytes_len (u64OfI (IntL.toI u32T h.bits)) 4
 have hn3 := numBytes_len h.nonce 8
 refine CQR ?_; refine aw_box rfl rfl rfl rfl rfl ?_; refine A0 aL ?_; refine A0 aV ?_; refine CNQQR ?_; refine A0 (oFp fd_29_0) ?_; refine A0 (oLb L_Head_height ty_3) ?_; refine A0 o_lss ?_; refine A0 mV ?_
 refine Sp (d := 9) (p := h.height < 0) (fun g9 => ?_) (fun g9 => ?_)
 ·
  refine A2 ?_; refine A2 ?_; refine A2 ?_; refine A0 oK ?_; refine CN ?_; refine Ct ?_; refine CQR ?_; refine A0 aL ?_; refine A0 aV ?_; refine CN ?_
  exact aw_ret2 rfl rfl (by have hE : hOk h = false := decide_eq_false (by omega); unfold headBytes; rw [hE, if_neg (by decide)]; exact ret_fresh_nil rfl) (ret_eq rfl (decide_eq_false (by omega)).symm)
 ·
  refine A1 (oFp fd_29_0) ?_; refine A1 (oLb L_Head_height ty_3) ?_; refine A1 o_gtr ?_; refine A0 oK ?_; refine CN ?_
  refine Cf (p := 1048576 < h.height) (fun ht13 => ?_) (fun ht13 => ?_)
  ·
   have hE : hOk h = false := decide_eq_false (by omega)
   refine CQR ?_; refine A0 aL ?_; refine A0 aV ?_; refine CN ?_
   exact aw_ret2 rfl rfl (by have hE : hOk h = false := decide_eq_false (by omega); unfold headBytes; rw [hE, if_neg (by decide)]; exact ret_fresh_nil rfl) (ret_eq rfl (decide_eq_false (by omega)).symm)
  ·
   refine CSQR ?_; refine A0 (oFp fd_29_5) ?_; refine A0 (oLb L_Head_work ty_26) ?_; refine A0 (oCl (rbytesW_ok _) rfl fn_158 ⟨(arg_v rfl), trivial⟩) ?_; refine aw_alloc ze_23 rfl rfl rfl rfl ?_
   refine aw_store_b rfl rfl rfl rfl rfl (Lens.self _) ty_23 rfl ?_; refine CNQ ?_; refine aw_freeze (d := 1) rfl rfl (Lens.self _) ?_; refine aw_freeze (d := 4) rfl rfl (Lens.self _) ?_; refine CR ?_; refine A0 (oFr fd_29_0 L_Head_height) ?_
   refine A0 (g_load_r rfl rfl ty_3) ?_; refine A0 (g_cv64 rfl (ui_24) (us_3) rfl) ?_; refine aw_callf (rbin_ok (u64OfI (IntL.toI i64T h.height)) 4 (by decide)) rfl fn_159 ⟨(arg_v rfl), (arg_v rfl), trivial⟩ rfl rfl rfl ?_; refine A0 aO ?_
   refine CNQR ?_; refine A0 mO ?_; refine A0 (oFr fd_29_1 L_Head_prev) ?_; refine A0 (g_slice_r rfl rfl ar_23 rfl rfl) ?_; refine aw_append rfl rfl rfl rfl rfl rfl rfl row_102 (by simp [hf1, hf2, hf3, hf4, hbl, hn1, hn2, hn3]) ?_
   refine A0 aO ?_; refine CNQR ?_; refine A0 mO ?_; refine A0 (oFr fd_29_2 L_Head_links) ?_; refine A0 (g_slice_r rfl rfl ar_23 rfl rfl) ?_
   refine aw_append rfl rfl rfl rfl rfl rfl rfl row_102 (by simp [hf1, hf2, hf3, hf4, hbl, hn1, hn2, hn3]) ?_; refine A0 aO ?_; refine CNQR ?_; refine A0 mO ?_; refine A0 (oFr fd_29_3 L_Head_txs) ?_
   refine A0 (g_slice_r rfl rfl ar_23 rfl rfl) ?_; refine aw_append rfl rfl rfl rfl rfl rfl rfl row_102 (by simp [hf1, hf2, hf3, hf4, hbl, hn1, hn2, hn3]) ?_; refine A0 aO ?_; refine CNQR ?_; refine A0 mO ?_
   refine A0 (oFr fd_29_4 L_Head_past) ?_; refine A0 (g_slice_r rfl rfl ar_23 rfl rfl) ?_; refine aw_append rfl rfl rfl rfl rfl rfl rfl row_102 (by simp [hf1, hf2, hf3, hf4, hbl, hn1, hn2, hn3]) ?_; refine A0 aO ?_; refine CNQR ?_
   refine A0 mO ?_; refine A0 (g_slice_r rfl rfl ar_23 rfl rfl) ?_; refine aw_append rfl rfl rfl rfl rfl rfl rfl row_102 (by simp [hf1, hf2, hf3, hf4, hbl, hn1, hn2, hn3]) ?_; refine A0 aO ?_; refine CNQR ?_; refine A0 mO ?_
   refine A0 (oFr fd_29_6 L_Head_bits) ?_; refine A0 (g_load_r rfl rfl ty_27) ?_; refine A0 (g_cv64 rfl (ui_24) (us_27) rfl) ?_
   refine aw_callf (rbin_ok (u64OfI (IntL.toI u32T h.bits)) 4 (by decide)) rfl fn_159 ⟨(arg_v rfl), (arg_v rfl), trivial⟩ rfl rfl rfl ?_; refine aw_pub (d := 44) rfl rfl ?_
   refine aw_append rfl rfl rfl rfl rfl rfl rfl row_102 (by simp [hf1, hf2, hf3, hf4, hbl, hn1, hn2, hn3]) ?_; refine A0 aO ?_; refine CNQR ?_; refine A0 mO ?_; refine A0 (oFr fd_29_7 L_Head_nonce) ?_; refine A0 (g_load_r rfl rfl ty_24) ?_
   refine aw_callf (rbin_ok h.nonce 8 (by decide)) rfl fn_159 ⟨(by first | exact arg_same rfl | exact arg_bsl rfl | exact arg_own rfl rfl | exact arg_nil rfl | exact arg_rptr rfl | exact arg_fn rfl rfl | exact arg_lit rfl), (arg_v rfl), trivial⟩ rfl rfl rfl ?_
   refine aw_pub (d := 49) rfl rfl ?_; refine aw_append rfl rfl rfl rfl rfl rfl rfl row_102 (by simp [hf1, hf2, hf3, hf4, hbl, hn1, hn2, hn3]) ?_; refine A0 aO ?_; refine A0 aV ?_; refine CN ?_
   exact aw_ret2 rfl rfl (ret_fresh_eq rfl rfl (by have hE : hOk h = true := decide_eq_true (by omega); unfold headBytes; rw [if_pos hE]; unfold putHead; simp)) (ret_eq rfl (decide_eq_true (by omega)).symm)
theorem rheadId_ok (h : Head) : Tells P 67 [.val headT h] (.val idT (headId h)) := by
 refine fn_of_aw Tryz.func67 rfl rfl rfl (fun ext w hext => ?_)
 refine aw_fact (d := 0) rfl fact_head (fun hh => ?_)
 obtain ⟨hh1, hh2, hh3, hh4, hh5⟩ := hh
 refine CQR ?_; refine aw_box rfl rfl rfl rfl rfl ?_; refine aw_alloc ze_23 rfl rfl rfl rfl ?_; refine CNQR ?_; refine A0 (oLs rfl rfl rfl ty_29) ?_; refine A0 (oCl (tells_pub2 (rputHead_ok h)) rfl fn_119 ⟨(arg_v rfl), trivial⟩) ?_
 refine A0 mX ?_; refine A0 (by first | exact g_x20 rfl rfl | exact g_x30 rfl rfl) ?_; refine A0 (by first | exact g_x21 rfl rfl | exact g_x31 rfl rfl) ?_; refine A0 aV ?_; refine A0 aV ?_; refine CNQQR ?_; refine A0 mV ?_; refine A0 oN ?_
 refine CN ?_
 refine aw_ifc (p := ¬ hOk h = true) rfl (by cases hOk h <;> rfl) (fun ht11 => ?_) (fun ht11 => ?_)
 ·
  refine CQR ?_; refine A0 (g_buildZ rfl ar_23 ze_23 rfl) ?_; refine aw_store_b rfl rfl rfl rfl rfl (Lens.self _) ty_23 rfl ?_; refine CN ?_
  exact aw_retc1 rfl rfl rfl rfl ty_23 (by unfold headId; rw [if_neg ht11] <;> rfl)
 ·
  refine CSQR ?_; refine A0 (g_bslice (T := u8T) (xs := [_]) rfl sl_102 row_102 ⟨rfl, rfl, trivial⟩ rfl rfl) ?_; refine aw_lend (S := bsl u8T) (d := 13) rfl ?_; refine A0 mV ?_; refine aw_lend (S := bsl u8T) (d := 14) rfl ?_
  refine A0 (g_bslice (T := (bsl u8T)) (xs := [_, _]) rfl sl_150 row_150 ⟨rfl, rfl, rfl, rfl, trivial⟩ rfl rfl) ?_
  refine A0 (oCl (rof_ok [[5], headBytes h] (by unfold headBytes; split <;> simp [putHead, hh1, hh2, hh3, hh4, bytesW_len, numBytes_len])) rfl fn_120 ⟨(arg_v rfl), trivial⟩) ?_; refine aw_store_b rfl rfl rfl rfl rfl (Lens.self _) ty_23 rfl ?_
  refine CN ?_
  exact aw_retc1 rfl rfl rfl rfl ty_23 (by unfold headId headBytes; rw [if_pos (Classical.not_not.1 ht11), if_pos (Classical.not_not.1 ht11)]; simp)
end Go.Proofs.YtgoiacajjicjcaaGreat
set_option maxRecDepth 20000
namespace Go.Proofs.YtgoiacajjicjcaaGreat
set_option linter.unusedVariables false
set_option linter.unusedSimpArgs false
open Go.Ab Go.RowKit
theorem tgtE_quo (bits : UInt32) : IntL.toI u32T (bits / 16777216) = tgtE bits := by
  show (((bits / 16777216).toNat : Nat) : Int) = (((shr32 bits 24).toNat : Nat) : Int)
  have hx : bits.toNat < 4294967296 := bits.toNat_lt
  unfold shr32
  rw [UInt32.toNat_div, UInt32.toNat_ofNat_of_lt' (by show _ < 4294967296; have := Nat.div_le_self bits.toNat (2 ^ min 24 32); omega)]
  rfl
theorem tgtM_rem (bits : UInt32) : u64OfI (IntL.toI u32T (bits % 16777216)) = tgtM bits := by
  unfold tgtM
  congr 2
  apply UInt32.toNat_inj.1
  rw [UInt32.toNat_mod, UInt32.toNat_and]
  show bits.toNat % 16777216 = bits.toNat &&& (2 ^ 24 - 1)
  rw [Nat.and_two_pow_sub_one_eq_mod]
theorem rtarget_ok (bits : UInt32) : Tells P 38 [.val u32T bits] (.tup2 (.val wideT (tgtW bits)) (.val boolT (tgtOk bits))) := by
 have he0 : 0 ≤ tgtE bits := Int.natCast_nonneg _
 have heL : tgtE bits < 4294967296 := by have : (shr32 bits 24).toNat < 4294967296 := (shr32 bits 24).toNat_lt; show ((shr32 bits 24).toNat : Int) < 4294967296; omega
 refine fn_of_aw Tryz.func38 rfl rfl rfl (fun ext w hext => ?_)
 refine CQR ?_; refine aw_alloc ze_26 rfl rfl rfl rfl ?_; refine A0 aV ?_; refine CNQR ?_; refine A0 mV ?_; refine A0 (g_quo32 rfl rfl rfl (by decide)) ?_
 refine A0 (g_cvi rfl (ui_3) (us_27) rfl (wrap_eq (by have e : IntL.toI u32T (bits / UInt32.ofNat (Int.toNat 16777216)) = tgtE bits := tgtE_quo bits; rw [e]; omega))) ?_; refine aw_reval (d := 8) (y := tgtE bits) rfl (tgtE_quo bits) ?_
 refine A0 aV ?_; refine CNQR ?_; refine A0 mV ?_; refine A0 (g_rem32 rfl rfl rfl (by decide)) ?_; refine A0 (g_cv64 rfl (ui_24) (us_27) rfl) ?_; refine aw_reval (d := 11) (y := tgtM bits) rfl (tgtM_rem bits) ?_; refine A0 aV ?_
 refine CNQQR ?_; refine A0 mV ?_; refine A0 o_lss ?_; refine A0 mV ?_
 refine Sp (d := 14) (p := tgtE bits < 3) (fun g14 => ?_) (fun g14 => ?_)
 ·
  refine A2 ?_; refine A2 ?_; refine A0 oK ?_; refine A0 mV ?_; refine A2 ?_; refine A2 ?_; refine A0 oK ?_; refine A0 mV ?_; refine A2 ?_; refine A2 ?_; refine A0 oK ?_; refine CN ?_; refine Ct ?_; refine CQR ?_
  refine A0 (g_buildZ rfl ar_26 ze_26 rfl) ?_; refine aw_store_b rfl rfl rfl rfl rfl (Lens.self _) ty_26 rfl ?_; refine A0 aV ?_; refine CN ?_
  exact aw_retr2 rfl rfl (rv_cell rfl rfl ty_26 (by unfold tgtW; rw [if_neg (by unfold tgtOk; rw [decide_eq_true_eq]; omega)])) (rv_tmp (ret_eq rfl (by unfold tgtOk; symm; apply decide_eq_false; omega)))
 ·
  refine A1 mV ?_; refine A1 o_gtr ?_; refine A0 oK ?_; refine A0 mV ?_
  refine Sp (d := 18) (p := 32 < tgtE bits) (fun g18 => ?_) (fun g18 => ?_)
  ·
   refine A2 ?_; refine A2 ?_; refine A0 oK ?_; refine A0 mV ?_; refine A2 ?_; refine A2 ?_; refine A0 oK ?_; refine CN ?_; refine Ct ?_; refine CQR ?_; refine A0 (g_buildZ rfl ar_26 ze_26 rfl) ?_
   refine aw_store_b rfl rfl rfl rfl rfl (Lens.self _) ty_26 rfl ?_; refine A0 aV ?_; refine CN ?_
   exact aw_retr2 rfl rfl (rv_cell rfl rfl ty_26 (by unfold tgtW; rw [if_neg (by unfold tgtOk; rw [decide_eq_true_eq]; omega)])) (rv_tmp (ret_eq rfl (by unfold tgtOk; symm; apply decide_eq_false; omega)))
  ·
   refine A1 mV ?_; refine A1 o_lss ?_; refine A0 oK ?_; refine A0 mV ?_
   refine aw_splitp (d := 22) (p := (tgtM bits).toNat < 32768) rfl (by rw [decide_eq_decide]; show ((tgtM bits).toNat : Int) < (32768 : Int) ↔ _; omega) (fun g22 => ?_) (fun g22 => ?_)
   ·
    refine A2 ?_; refine A2 ?_; refine A0 oK ?_; refine CN ?_; refine Ct ?_; refine CQR ?_; refine A0 (g_buildZ rfl ar_26 ze_26 rfl) ?_; refine aw_store_b rfl rfl rfl rfl rfl (Lens.self _) ty_26 rfl ?_; refine A0 aV ?_; refine CN ?_
    exact aw_retr2 rfl rfl (rv_cell rfl rfl ty_26 (by unfold tgtW; rw [if_neg (by unfold tgtOk; rw [decide_eq_true_eq]; omega)])) (rv_tmp (ret_eq rfl (by unfold tgtOk; symm; apply decide_eq_false; omega)))
   ·
    refine A1 mV ?_; refine A1 o_gtr ?_; refine A0 oK ?_; refine CN ?_
    refine aw_ifc (p := 8388608 ≤ (tgtM bits).toNat) rfl (by rw [decide_eq_decide]; show (8388607 : Int) < ((tgtM bits).toNat : Int) ↔ _; omega) (fun ht25 => ?_) (fun ht25 => ?_)
    ·
     refine CQR ?_; refine A0 (g_buildZ rfl ar_26 ze_26 rfl) ?_; refine aw_store_b rfl rfl rfl rfl rfl (Lens.self _) ty_26 rfl ?_; refine A0 aV ?_; refine CN ?_
     exact aw_retr2 rfl rfl (rv_cell rfl rfl ty_26 (by unfold tgtW; rw [if_neg (by unfold tgtOk; rw [decide_eq_true_eq]; omega)])) (rv_tmp (ret_eq rfl (by unfold tgtOk; symm; apply decide_eq_false; omega)))
    ·
     refine CSQR ?_; refine A0 mV ?_; refine A0 (oCl (rofW_ok (tgtM bits)) rfl fn_90 ⟨(arg_v rfl), trivial⟩) ?_; refine A0 mV ?_; refine A0 (g_sub rfl rfl rfl (show _ = (tgtE bits - 3 : Int) from (wrap_eq (by omega)).trans (by omega))) ?_
     refine A0 (g_mul rfl rfl rfl (show _ = (8 * (tgtE bits - 3) : Int) from (wrap_eq (by omega)).trans (by omega))) ?_; refine A0 (oCl (rupW_ok (ofW (tgtM bits)) (8 * (tgtE bits - 3))) rfl fn_89 ⟨(arg_v rfl), (arg_v rfl), trivial⟩) ?_
     refine aw_store_b rfl rfl rfl rfl rfl (Lens.self _) ty_26 rfl ?_; refine A0 aV ?_; refine CN ?_
     exact aw_retr2 rfl rfl (rv_cell rfl rfl ty_26 (by unfold tgtW; rw [if_pos (by unfold tgtOk; rw [decide_eq_true_eq]; omega)])) (rv_tmp (ret_eq rfl (by unfold tgtOk; symm; apply decide_eq_true; omega)))
end Go.Proofs.YtgoiacajjicjcaaGreat
set_option maxRecDepth 20000
namespace Go.Proofs.YtgoiacajjicjcaaGreat
set_option linter.unusedVariables false
set_option linter.unusedSimpArgs false
open Go.Ab Go.RowKit
def lnkN (l : List Ab.Id) (id : Ab.Id) (k : Nat) : List Ab.Id := l.take 1 ++ List.replicate (k - 1) id ++ l.drop k
theorem lnk_get {l : List Ab.Id} {id : Ab.Id} {k : Nat} (hl : 1 ≤ l.length) (hk : 1 ≤ k) (j : Nat) : (lnkN l id k)[j]? = if j = 0 then l[0]? else if j < k then some id else l[j]? := by
  have ht : (l.take 1).length = 1 := by rw [List.length_take]; omega
  unfold lnkN
  rw [List.append_assoc]
  by_cases c : j = 0
  · rw [if_pos c, c, List.getElem?_append_left (by omega), List.getElem?_take, if_pos (by decide)]
  · rw [if_neg c, List.getElem?_append_right (by omega), ht]
    by_cases d : j < k
    · rw [if_pos d, List.getElem?_append_left (by rw [List.length_replicate]; omega), List.getElem?_replicate, if_pos (by omega)]
    · rw [if_neg d, List.getElem?_append_right (by rw [List.length_replicate]; omega), List.length_replicate, List.getElem?_drop]
      congr 1; omega
theorem lnk_len {l : List Ab.Id} {id : Ab.Id} {k : Nat} (hl : 1 ≤ l.length) (hk : 1 ≤ k) : (lnkN l id k).length = max k l.length := by
  unfold lnkN; simp only [List.length_append, List.length_take, List.length_replicate, List.length_drop]; omega
theorem lnk_app {l : List Ab.Id} {id : Ab.Id} {k : Nat} (hl : 1 ≤ l.length) (hk : 1 ≤ k) (h : k = (lnkN l id k).length) : (lnkN l id k ++ [id]).set k id = lnkN l id (k + 1) := by
  have hlen := lnk_len (id := id) hl hk
  apply List.ext_getElem?
  intro j
  rw [lnk_get hl (by omega), List.getElem?_set]
  by_cases c : k = j
  · rw [if_pos c, if_pos (by rw [List.length_append, List.length_singleton]; omega), if_neg (by omega), if_pos (by omega)]
  · rw [if_neg c]
    by_cases d : j < k
    · rw [List.getElem?_append_left (by omega), lnk_get hl hk]
      by_cases e : j = 0
      · rw [if_pos e, if_pos e]
      · rw [if_neg e, if_neg e, if_pos d, if_pos (by omega)]
    · rw [List.getElem?_eq_none (by rw [List.length_append, List.length_singleton]; omega), if_neg (by omega), if_neg (by omega), List.getElem?_eq_none (by omega)]
theorem lnk_set {l : List Ab.Id} {id : Ab.Id} {k : Nat} (hl : 1 ≤ l.length) (hk : 1 ≤ k) (h : ¬ k = (lnkN l id k).length) : (lnkN l id k).set k id = lnkN l id (k + 1) := by
  have hlen := lnk_len (id := id) hl hk
  apply List.ext_getElem?
  intro j
  rw [lnk_get hl (by omega), List.getElem?_set]
  by_cases c : k = j
  · rw [if_pos c, if_pos (by omega), if_neg (by omega), if_pos (by omega)]
  · rw [if_neg c, lnk_get hl hk]
    by_cases e : j = 0
    · rw [if_pos e, if_pos e]
    · rw [if_neg e, if_neg e]
      by_cases d : j < k
      · rw [if_pos d, if_pos (by omega)]
      · rw [if_neg d, if_neg (by omega)]
theorem lnk_one {l : List Ab.Id} {id : Ab.Id} : lnkN l id 1 = l := by unfold lnkN; rw [Nat.sub_self, List.replicate_zero, List.append_nil, List.take_append_drop]
theorem lnk_end {l : List Ab.Id} {id : Ab.Id} {level : Int} {k : Nat} (h1 : ¬ 32 < l.length) (h2 : ¬ l.length = 0) (hk : 1 ≤ k) (hk2 : k = 1 ∨ (k : Int) ≤ level + 1) (hk3 : k ≤ 32) (h : ¬ ((k : Int) ≤ level ∧ k ≤ 31)) : lnkN l id k = linkNext l id level := by
  unfold linkNext
  rw [if_neg h1, if_neg h2]
  by_cases c : level < 1
  · rw [if_pos c, show k = 1 by omega, lnk_one]
  · rw [if_neg c]
    obtain ⟨m, hm⟩ : ∃ m, m = (min level 31).toNat := ⟨_, rfl⟩
    rw [← hm, show k = m + 1 by omega]
    unfold lnkN; rw [Nat.add_sub_cancel]
theorem rlinkNext_ok (l : List Ab.Id) (id : Ab.Id) (level : Int) : Tells P 111 [.val (bsl idT) l, .val idT id, .val i64T level] (.fresh 23 idT (linkNext l id level)) := by
 refine fn_of_aw Tryz.func111 rfl rfl rfl (fun ext w hext => ?_)
 refine aw_fact (d := 0) rfl fact_sl (fun hsl0 => ?_)
 refine aw_fact (d := 2) rfl fact_int (fun hin2 => ?_)
 refine CQR ?_; refine aw_box rfl rfl rfl rfl rfl ?_; refine A0 aL ?_; refine CNQQR ?_; refine A0 mV ?_; refine A0 (g_len rfl rfl isl_30) ?_; refine A0 o_gtr ?_; refine CN ?_
 refine Cf (p := 32 < l.length) (fun ht11 => ?_) (fun ht11 => ?_)
 ·
  refine CQR ?_; refine A0 aL ?_; refine CN ?_
  exact aw_ret1 rfl rfl (by unfold linkNext; rw [if_pos ht11]; exact ret_fresh_nil rfl)
 ·
  refine CSQQR ?_; refine A0 mV ?_; refine A0 (g_len rfl rfl isl_30) ?_; refine A0 o_eql ?_; refine CN ?_
  refine Cf (p := l.length = 0) (fun ht14 => ?_) (fun ht14 => ?_)
  ·
   refine CQR ?_; refine A0 (oLs rfl rfl rfl ty_23) ?_; refine aw_bslice (T := idT) (xs := [_]) rfl rfl rfl rfl sl_30 row_30 ⟨rfl, rfl, trivial⟩ rfl rfl ?_; refine A0 aO ?_; refine CN ?_
   exact aw_ret1 rfl rfl (ret_fresh_eq rfl rfl (by unfold linkNext; rw [if_neg ht11, if_pos ht14]))
  ·
   refine CSQR ?_; refine A0 mV ?_; refine aw_append0 rfl rfl rfl rfl rfl rfl row_30 (by first | omega | (rw [lnk_len (by omega) hinv.1]; simp; omega)) ?_; refine A0 aO ?_; refine CNQQR ?_; refine A0 aV ?_; refine CNB ?_
   refine aw_rerow (n := 1) (y := lnkN l id 1) rfl lnk_one.symm ?_
   refine Lp (ι := Nat) 2 (fun (k : Nat) => ((((Fr.none).set 2 (.val i64T level)).set 4 (.ptr 0 0)).set 7 (.own 1)).set 8 (.val i64T (k : Int))) (fun (k : Nat) => ((Hp.none).set 0 (.box 23 idT id)).set 1 (.row 23 idT (lnkN l id k))) (fun (k : Nat) => 1 ≤ k ∧ (k = 1 ∨ (k : Int) ≤ level + 1) ∧ k ≤ 32) (fun (k : Nat) => 32 - k) (1) (⟨Nat.le_refl _, .inl rfl, by decide⟩) ?_
   intro k hinv
   refine CQQR ?_; refine A0 mV ?_; refine A0 mV ?_; refine A0 o_leq ?_; refine A0 mV ?_
   refine Sp (d := 22) (p := (k : Int) ≤ level) (fun g22 => ?_) (fun g22 => ?_)
   ·
    refine A1 mV ?_; refine A1 o_leq ?_; refine A0 oK ?_; refine CN ?_
    refine Cf (p := k ≤ 31) (fun ht25 => ?_) (fun ht25 => ?_)
    ·
     have hll := lnk_len (l := l) (id := id) (k := k) (by omega) hinv.1
     refine CS ?_; refine CQ ?_; refine CB ?_; refine CQQR ?_; refine A0 mV ?_; refine A0 mO ?_; refine A0 (g_len_o rfl rfl rfl isl_30) ?_; refine A0 o_eql ?_; refine CN ?_
     refine Cf (p := k = (lnkN l id k).length) (fun ht31 => ?_) (fun ht31 => ?_)
     ·
      obtain ⟨o, ho⟩ : ∃ o, (lnkN l id k ++ [id])[k]? = some o := ⟨_, List.getElem?_eq_getElem (by rw [List.length_append, List.length_singleton]; omega)⟩
      refine CR ?_; refine A0 mO ?_; refine A0 (oLs rfl rfl rfl ty_23) ?_; refine A0 (g_bslice (T := idT) (xs := [_]) rfl sl_30 row_30 ⟨rfl, rfl, trivial⟩ rfl rfl) ?_
      refine aw_append rfl rfl rfl rfl rfl rfl rfl row_30 (by first | omega | (rw [lnk_len (by omega) hinv.1]; simp; omega)) ?_; refine A0 aO ?_; refine CNR ?_; refine A0 mO ?_; refine A0 mV ?_; refine A0 (oLs rfl rfl rfl ty_23) ?_
      refine A0 (g_ia_o (i := k) rfl rfl rfl rfl (by first | omega | rfl) sl_30 (by first | assumption | omega | (simp; omega))) ?_; refine aw_store_e rfl rfl rfl rfl rfl rfl (by assumption) (Lens.self _) ty_23 rfl ?_; refine CNIR ?_
      refine A0 mV ?_; refine A0 o_add ?_; refine A0 aV ?_; refine CN ?_; refine aw_ren 2 1 3 rfl rfl rfl rfl rfl rfl ?_; refine aw_rerow (n := 1) (y := lnkN l id (k + 1)) rfl (lnk_app (by omega) hinv.1 ht31) ?_
      exact Nx (k + 1) (⟨by omega, .inr (by omega), by omega⟩) (by omega)
     ·
      obtain ⟨o, ho⟩ : ∃ o, (lnkN l id k)[k]? = some o := ⟨_, List.getElem?_eq_getElem (by omega)⟩
      refine CS ?_; refine CR ?_; refine A0 mO ?_; refine A0 mV ?_; refine A0 (oLs rfl rfl rfl ty_23) ?_; refine A0 (g_ia_o (i := k) rfl rfl rfl rfl (by first | omega | rfl) sl_30 (by first | assumption | omega | (simp; omega))) ?_
      refine aw_store_e rfl rfl rfl rfl rfl rfl (by assumption) (Lens.self _) ty_23 rfl ?_; refine CNIR ?_; refine A0 mV ?_; refine A0 o_add ?_; refine A0 aV ?_; refine CN ?_
      refine aw_rerow (n := 1) (y := lnkN l id (k + 1)) rfl (lnk_set (by omega) hinv.1 ht31) ?_
      exact Nx (k + 1) (⟨by omega, .inr (by omega), by omega⟩) (by omega)
    ·
     refine CE ?_; refine CQR ?_; refine A0 mO ?_; refine A0 aO ?_; refine CN ?_
     exact aw_ret1 rfl rfl (ret_fresh_eq rfl rfl (lnk_end ht11 ht14 hinv.1 hinv.2.1 hinv.2.2 (by omega)))
   ·
    refine A2 ?_; refine A2 ?_; refine A0 oK ?_; refine CN ?_; refine Cg ?_; refine CE ?_; refine CQR ?_; refine A0 mO ?_; refine A0 aO ?_; refine CN ?_
    exact aw_ret1 rfl rfl (ret_fresh_eq rfl rfl (lnk_end ht11 ht14 hinv.1 hinv.2.1 hinv.2.2 (by omega)))
end Go.Proofs.YtgoiacajjicjcaaGreat
set_option maxRecDepth 20000
namespace Go.Proofs.YtgoiacajjicjcaaGreat
set_option linter.unusedVariables false
set_option linter.unusedSimpArgs false
open Go.Ab Go.RowKit
theorem mul_or {x : UInt64} {y : UInt8} : 256 * x + u64OfI (IntL.toI u8T y) = shl64 x 8 ||| u64OfI (IntL.toI u8T y) := by
  have hx : x.toNat < 18446744073709551616 := x.toNat_lt
  have hy : y.toNat < 256 := y.toNat_lt
  have e : (u64OfI (IntL.toI u8T y)).toNat = y.toNat := by
    unfold u64OfI
    show (UInt64.ofNat (((y.toNat : Nat) : Int) % 18446744073709551616).toNat).toNat = y.toNat
    rw [UInt64.toNat_ofNat_of_lt' (by show _ < 18446744073709551616; omega)]; omega
  apply UInt64.toNat_inj.1
  rw [UInt64.toNat_or, shl_n (by decide), e, UInt64.toNat_add, UInt64.toNat_mul, e, show (256 : UInt64).toNat = 256 from rfl]
  have e2 : x.toNat * 2 ^ 8 % 18446744073709551616 = x.toNat % 72057594037927936 * 2 ^ 8 := by omega
  rw [e2, or_sum (by omega)]
  omega
theorem rof32W_ok (b : Ab.Id) : Tells P 198 [.val idT b] (.val wideT (of32W b)) := by
 refine fn_of_aw Tryz.func198 rfl rfl rfl (fun ext w hext => ?_)
 refine aw_fact (d := 0) rfl fact_idL (fun hb => ?_)
 refine CQR ?_; refine aw_box rfl rfl rfl rfl rfl ?_; refine aw_alloc ze_26 rfl rfl rfl rfl ?_; refine CNQR ?_; refine aw_alloc ze_26 rfl rfl rfl rfl ?_; refine CNQQR ?_; refine A0 aV ?_; refine CNB ?_
 refine Lp (ι := Nat) 3 (fun (k : Nat) => ((((Fr.none).set 1 (.ptr 0 0)).set 2 (.ptr 1 0)).set 3 (.ptr 2 0)).set 4 (.val i64T (k : Int))) (fun (k : Nat) => (((Hp.none).set 0 (.box 23 idT b)).set 1 (.box 26 wideT zWide)).set 2 (.box 26 wideT (of32N b k))) (fun (k : Nat) => k ≤ 32) (fun (k : Nat) => 32 - k) (0) (Nat.zero_le _) ?_
 intro k hinv
 refine CQQR ?_; refine A0 mV ?_; refine A0 o_lss ?_; refine CN ?_
 refine Cf (p := k < 32) (fun ht7 => ?_) (fun ht7 => ?_)
 ·
  refine CSQBQR ?_; refine A0 mV ?_; refine A0 (g_quo rfl rfl rfl (by first | omega | assumption) (by first | decide | omega) rfl) ?_; refine A0 o_sub ?_; refine A0 aV ?_; refine CN ?_
  refine aw_drawx [some 1, some 1, some 1, some 1, some 1, some 1, some 1, some 1, some 1, some 1, some 1, none] mixed (by decide +kernel) ?_; refine X0 mV ?_; refine X0 mV ?_
  refine X0 (g_ia_b0 (i := 3 - k / 8) rfl rfl rfl (by first | omega | rfl) ar_26 (by omega)) ?_; refine X0 (g_load_b rfl rfl rfl (Lens.elem (i := 3 - k / 8) (by omega) u64T) ty_24) ?_; refine X0 (g_mul64 rfl rfl rfl) ?_; refine X0 mV ?_
  refine X0 (g_ia_b0 (i := k) rfl rfl rfl (by first | omega | rfl) ar_23 (by omega)) ?_; refine X0 (g_load_b rfl rfl rfl (Lens.elem (i := k) (by omega) u8T) ty_5) ?_; refine X0 (g_cv64 rfl (ui_24) (us_5) rfl) ?_
  refine X0 (g_add64 rfl rfl rfl) ?_; refine X0 (g_ia_b0 (i := 3 - k / 8) rfl rfl rfl (by first | omega | rfl) ar_26 (by omega)) ?_
  refine XK.e (x := .idk) (fun fr' hfr kk H => by exact aw_store_b rfl rfl rfl ((hfr 23 (by decide +kernel)).trans rfl) rfl (Lens.elem (i := 3 - k / 8) (by omega) u64T) ty_24 ((hfr 22 (by decide +kernel)).trans rfl) (aw_nil H)) ?_
  refine XK.nil' ?_; refine CI ?_; refine CR ?_; refine A0 mV ?_; refine A0 o_add ?_; refine A0 aV ?_; refine CN ?_; refine aw_reheap (n := 2) (y := of32N b (k + 1)) rfl (by unfold of32N; rw [fold_succ]; unfold of32S; rw [← mul_or]; rfl) ?_
  exact Nx (k + 1) (by omega) (by omega)
 ·
  obtain rfl : k = 32 := (by omega)
  refine CE ?_; refine CQR ?_; refine A0 (oLs rfl rfl rfl ty_26) ?_; refine aw_store_b rfl rfl rfl rfl rfl (Lens.self _) ty_26 rfl ?_; refine CN ?_
  exact aw_retc1 rfl rfl rfl rfl ty_26 (rfl)
end Go.Proofs.YtgoiacajjicjcaaGreat
set_option maxRecDepth 20000
namespace Go.Proofs.YtgoiacajjicjcaaGreat
set_option linter.unusedVariables false
set_option linter.unusedSimpArgs false
open Go.Ab Go.RowKit
theorem search_spec {f : Int → Bool} (hm : ∀ i j : Nat, i ≤ j → f (i : Int) = true → f (j : Int) = true) : ∀ (n lo hi : Nat), hi - lo = n → lo ≤ hi → (∀ j : Nat, j < searchN f lo hi → lo ≤ j → f (j : Int) = false) ∧ (searchN f lo hi < hi → f ((searchN f lo hi : Nat) : Int) = true) ∧ lo ≤ searchN f lo hi ∧ searchN f lo hi ≤ hi := by
  intro n
  induction n using Nat.strongRecOn with
  | ind n ih =>
    intro lo hi hn hle
    by_cases h : lo < hi
    · by_cases c : f (((lo + hi) / 2 : Nat) : Int) = true
      · rw [search_yes h c]
        obtain ⟨h1, h2, h3, h4⟩ := ih ((lo + hi) / 2 - lo) (by omega) lo ((lo + hi) / 2) rfl (by omega)
        refine ⟨h1, fun _ => ?_, h3, by omega⟩
        by_cases d : searchN f lo ((lo + hi) / 2) < (lo + hi) / 2
        · exact h2 d
        · rw [show searchN f lo ((lo + hi) / 2) = (lo + hi) / 2 by omega]; exact c
      · rw [search_no h c]
        obtain ⟨h1, h2, h3, h4⟩ := ih (hi - ((lo + hi) / 2 + 1)) (by omega) ((lo + hi) / 2 + 1) hi rfl (by omega)
        refine ⟨fun j hj hlo => ?_, h2, by omega, h4⟩
        by_cases d : (lo + hi) / 2 + 1 ≤ j
        · exact h1 j hj d
        · cases e : f (j : Int) with
          | false => rfl
          | true => exact absurd (hm j _ (by omega) e) c
    · have e : searchN f lo hi = lo := by rw [searchN, dif_neg h]
      rw [e]
      exact ⟨fun j hj hlo => by omega, fun hh => absurd hh h, Nat.le_refl _, hle⟩
def lastLv (x t : Wide) : Nat → Int
  | 0 => -1
  | k + 1 => if cmpW x (downW t k) ≤ 0 then k else lastLv x t k
theorem levelF_mono {x t : Wide} (hx : x.length = 4) (ht : t.length = 4) (i j : Nat) (hij : i ≤ j) (h : levelF x t (i : Int) = true) : levelF x t (j : Int) = true := by
  unfold levelF at *
  rw [decide_eq_true_eq] at *
  by_cases hj : j < 256
  · rw [cmpW_n hx (downW_len ht), nW_down ht (by omega)] at h
    rw [cmpW_n hx (downW_len ht), nW_down ht hj]
    have hd : nW t / 2 ^ j ≤ nW t / 2 ^ i := Nat.div_le_div_left (Nat.pow_le_pow_right (by decide) hij) (Nat.two_pow_pos i)
    have h1 : nW t / 2 ^ i < nW x := by
      by_cases c : nW x < nW t / 2 ^ i
      · rw [if_pos c] at h; exact absurd h (by decide)
      · rw [if_neg c] at h
        by_cases d : nW t / 2 ^ i < nW x
        · exact d
        · rw [if_neg d] at h; exact absurd h (by decide)
    rw [if_neg (by omega), if_pos (by omega)]; decide
  · have hz : downW t (j : Int) = zWide := by unfold downW; rw [if_neg (by omega), if_pos (by omega)]
    rw [hz, cmpW_n hx rfl]
    rw [cmpW_n hx (downW_len ht)] at h
    have hz0 : nW zWide = 0 := rfl
    rw [hz0]
    have h1 : nW (downW t (i : Int)) < nW x := by
      by_cases c : nW x < nW (downW t (i : Int))
      · rw [if_pos c] at h; exact absurd h (by decide)
      · rw [if_neg c] at h
        by_cases d : nW (downW t (i : Int)) < nW x
        · exact d
        · rw [if_neg d] at h; exact absurd h (by decide)
    rw [if_neg (by omega), if_pos (by omega)]; decide
theorem lastLv_s {x t : Wide} {s : Nat} (h1 : ∀ j : Nat, j < s → levelF x t (j : Int) = false) (h2 : ∀ j : Nat, s ≤ j → j < 32 → levelF x t (j : Int) = true) : ∀ k, k ≤ 32 → lastLv x t k = (min k s : Nat) - 1
  | 0, _ => by rw [lastLv]; omega
  | k + 1, hk => by
    rw [lastLv, lastLv_s h1 h2 k (by omega)]
    by_cases c : k < s
    · have := h1 k c
      unfold levelF at this
      rw [decide_eq_false_iff_not] at this
      rw [if_pos (by omega)]; omega
    · have := h2 k (by omega) (by omega)
      unfold levelF at this
      rw [decide_eq_true_eq] at this
      rw [if_neg (by omega)]; omega
theorem lastLv_all {id : Ab.Id} {t : Wide} (hx : (of32W id).length = 4) (ht : t.length = 4) : lastLv (of32W id) t 32 = levelW id t := by
  obtain ⟨h1, h2, _, h4⟩ := search_spec (f := levelF (of32W id) t) (fun i j => levelF_mono hx ht i j) 32 0 32 rfl (by omega)
  rw [lastLv_s (s := searchN (levelF (of32W id) t) 0 32) (fun j hj => h1 j hj (by omega)) (fun j hj hj2 => levelF_mono hx ht _ j hj (h2 (by omega))) 32 (Nat.le_refl _)]
  unfold levelW; omega
theorem of32_len {b : Ab.Id} : (of32W b).length = 4 := by
  have h : ∀ k, (of32N b k).length = 4 := fun k => by
    induction k with
    | zero => rfl
    | succ k ih => unfold of32N; rw [fold_succ]; unfold of32S; rw [List.length_set]; exact ih
  exact h 32
theorem rlevelW_ok (id : Ab.Id) (t : Wide) : Tells P 157 [.val idT id, .val wideT t] (.val i64T (levelW id t)) := by
 refine fn_of_aw Tryz.func157 rfl rfl rfl (fun ext w hext => ?_)
 refine aw_fact (d := 1) rfl fact_wide (fun ht => ?_)
 refine CQR ?_; refine aw_box rfl rfl rfl rfl rfl ?_; refine aw_box rfl rfl rfl rfl rfl ?_; refine A0 aV ?_; refine CNQR ?_; refine A0 aV ?_; refine CNQQR ?_; refine A0 aV ?_; refine CNB ?_
 refine Lp (ι := Nat) 2 (fun (k : Nat) => ((((Fr.none).set 2 (.ptr 0 0)).set 3 (.ptr 1 0)).set 5 (.val i64T (lastLv (of32W id) t k))).set 6 (.val i64T (k : Int))) (fun (k : Nat) => ((Hp.none).set 0 (.box 23 idT id)).set 1 (.box 26 wideT t)) (fun (k : Nat) => k ≤ 32) (fun (k : Nat) => 32 - k) (0) (Nat.zero_le _) ?_
 intro k hinv
 refine CQQR ?_; refine A0 mV ?_; refine A0 o_leq ?_; refine CN ?_
 refine Cf (p := k ≤ 31) (fun ht8 => ?_) (fun ht8 => ?_)
 ·
  refine CS ?_; refine CQ ?_; refine CB ?_; refine CQ ?_; refine CD mixed ?_; refine G0 (oLs rfl rfl rfl ty_23) ?_; refine G0 (oCl (rof32W_ok id) rfl fn_198 ⟨(arg_v rfl), trivial⟩) ?_; refine G0 (oLs rfl rfl rfl ty_26) ?_; refine G0 mV ?_
  refine G0 (oCl (rdownW_ok t k) rfl fn_199 ⟨(arg_v rfl), (arg_v rfl), trivial⟩) ?_; refine G0 (oCl (rcmpW_ok (of32W id) (downW t k)) rfl fn_197 ⟨(arg_v rfl), (arg_v rfl), trivial⟩) ?_; refine G0 o_leq ?_; refine GK.nil ?_
  refine Cf (p := cmpW (of32W id) (downW t k) ≤ 0) (fun ht17 => ?_) (fun ht17 => ?_)
  ·
   refine CR ?_; refine A0 mV ?_; refine A0 aV ?_; refine CNIR ?_; refine A0 mV ?_; refine A0 o_add ?_; refine A0 aV ?_; refine CN ?_; refine aw_reval (d := 5) (y := lastLv (of32W id) t (k + 1)) rfl (by rw [lastLv, if_pos ht17]) ?_
   exact Nx (k + 1) (by omega) (by omega)
  ·
   refine CSIR ?_; refine A0 mV ?_; refine A0 o_add ?_; refine A0 aV ?_; refine CN ?_; refine aw_reval (d := 5) (y := lastLv (of32W id) t (k + 1)) rfl (by rw [lastLv, if_neg ht17]) ?_
   exact Nx (k + 1) (by omega) (by omega)
 ·
  obtain rfl : k = 32 := (by omega)
  refine CE ?_; refine CQR ?_; refine A0 mV ?_; refine A0 aV ?_; refine CN ?_
  exact aw_ret1 rfl rfl (ret_eq rfl (lastLv_all of32_len ht))
end Go.Proofs.YtgoiacajjicjcaaGreat
set_option maxRecDepth 20000
namespace Go.Proofs.YtgoiacajjicjcaaGreat
set_option linter.unusedVariables false
set_option linter.unusedSimpArgs false
open Go.Ab Go.RowKit
theorem rheadLevel_ok (h : Head) : Tells P 112 [.val headT h] (.val i64T (headLevel h)) := by
 refine fn_of_aw Tryz.func112 rfl rfl rfl (fun ext w hext => ?_)
 refine CQR ?_; refine aw_box rfl rfl rfl rfl rfl ?_; refine A0 aV ?_; refine CNQR ?_; refine A0 (oLs rfl rfl rfl ty_29) ?_; refine A0 (oCl (tells_pub2 (rputHead_ok h)) rfl fn_119 ⟨(arg_v rfl), trivial⟩) ?_; refine A0 mX ?_
 refine A0 (by first | exact g_x20 rfl rfl | exact g_x30 rfl rfl) ?_; refine A0 (by first | exact g_x21 rfl rfl | exact g_x31 rfl rfl) ?_; refine A0 aV ?_; refine A0 aV ?_; refine CNQR ?_; refine A0 (oFp fd_29_6) ?_
 refine A0 (oLb L_Head_bits ty_27) ?_; refine A0 (oCl (rtarget_ok h.bits) rfl fn_38 ⟨(arg_v rfl), trivial⟩) ?_; refine A0 mX ?_; refine A0 (by first | exact g_x20 rfl rfl | exact g_x30 rfl rfl) ?_
 refine A0 (by first | exact g_x21 rfl rfl | exact g_x31 rfl rfl) ?_; refine aw_alloc ze_26 rfl rfl rfl rfl ?_; refine aw_store_b rfl rfl rfl rfl rfl (Lens.self _) ty_26 rfl ?_; refine A0 aV ?_; refine CNQQR ?_; refine A0 mV ?_
 refine A0 oN ?_; refine A0 mV ?_
 refine aw_splitp (d := 20) (p := ¬ hOk h = true) rfl (by cases hOk h <;> rfl) (fun g20 => ?_) (fun g20 => ?_)
 ·
  refine A2 ?_; refine A2 ?_; refine A0 oK ?_; refine CN ?_; refine Ct ?_; refine CQR ?_; refine A0 aV ?_; refine CN ?_
  exact aw_ret1 rfl rfl (ret_eq rfl (by unfold headLevel; rw [if_neg (fun hc => g20 hc.2)]))
 ·
  refine A1 mV ?_; refine A1 oN ?_; refine A0 oK ?_; refine CN ?_
  refine aw_ifc (p := ¬ tgtOk h.bits = true) rfl (by cases tgtOk h.bits <;> rfl) (fun ht23 => ?_) (fun ht23 => ?_)
  ·
   refine CQR ?_; refine A0 aV ?_; refine CN ?_
   exact aw_ret1 rfl rfl (ret_eq rfl (by unfold headLevel; rw [if_neg (fun hc => ht23 hc.1)]))
  ·
   refine CSQQR ?_; refine A0 (oFp fd_29_0) ?_; refine A0 (oLb L_Head_height ty_3) ?_; refine A0 o_eql ?_; refine CN ?_
   refine Cf (p := h.height = 0) (fun ht26 => ?_) (fun ht26 => ?_)
   ·
    refine CQR ?_; refine A0 aV ?_; refine CN ?_
    exact aw_ret1 rfl rfl (ret_eq rfl (by unfold headLevel; rw [if_pos ⟨Classical.not_not.1 ht23, Classical.not_not.1 g20⟩, if_pos ht26]))
   ·
    refine CS ?_; refine CQ ?_; refine CD mixed ?_; refine G0 (oLs rfl rfl rfl ty_29) ?_; refine G0 (oCl (rheadId_ok h) rfl fn_67 ⟨(arg_v rfl), trivial⟩) ?_; refine G0 (oLs rfl rfl rfl ty_26) ?_
    refine G0 (oCl (rlevelW_ok (headId h) (tgtW h.bits)) rfl fn_157 ⟨(arg_v rfl), (arg_v rfl), trivial⟩) ?_; refine G0 aV ?_; refine GK.nil ?_
    exact aw_ret1 rfl rfl (ret_eq rfl (by unfold headLevel; rw [if_pos ⟨Classical.not_not.1 ht23, Classical.not_not.1 g20⟩, if_neg ht26]))
theorem may_eq {h : Head} : decide (0 ≤ headLevel h) = headMay h := by
  have h2 : -1 ≤ headLevel h := by
    unfold headLevel
    split
    · split
      · decide
      · unfold levelW; omega
    · omega
  unfold headMay
  by_cases c : headLevel h = -1
  · rw [c]; rfl
  · rw [decide_eq_true (by omega : 0 ≤ headLevel h), decide_eq_false c]; rfl
theorem rheadMay_ok (h : Head) : Tells P 60 [.val headT h] (.val boolT (headMay h)) := by
 refine fn_of_aw Tryz.func60 rfl rfl rfl (fun ext w hext => ?_)
 refine CQR ?_; refine aw_box rfl rfl rfl rfl rfl ?_; refine A0 aV ?_; refine CNQR ?_; refine A0 (oLs rfl rfl rfl ty_29) ?_; refine A0 (oCl (rheadLevel_ok h) rfl fn_112 ⟨(arg_v rfl), trivial⟩) ?_; refine A0 o_geq ?_; refine A0 aV ?_
 refine CN ?_
 exact aw_ret1 rfl rfl (ret_eq rfl may_eq)
end Go.Proofs.YtgoiacajjicjcaaGreat
set_option maxRecDepth 20000
namespace Go.Proofs.YtgoiacajjicjcaaGreat
set_option linter.unusedVariables false
set_option linter.unusedSimpArgs false
open Go.Ab Go.RowKit
theorem rmine_ok (h : Head) (tries : Int) : Tells P 51 [.val headT h, .val i64T tries] (.tup2 (.val headT ((mineOf h tries).getD h)) (.val boolT (mineOf h tries).isSome)) := by
 refine fn_of_aw Tryz.func51 rfl rfl rfl (fun ext w hext => ?_)
 refine aw_fact (d := 1) rfl fact_int (fun hin1 => ?_)
 refine CQR ?_; refine aw_box rfl rfl rfl rfl rfl ?_; refine aw_alloc ze_29 rfl rfl rfl rfl ?_; refine A0 aV ?_; refine CNQR ?_; refine A0 (oLs rfl rfl rfl ty_29) ?_; refine aw_alloc ze_29 rfl rfl rfl rfl ?_
 refine aw_store_b rfl rfl rfl rfl rfl (Lens.self _) ty_29 rfl ?_; refine CNQQR ?_; refine A0 aV ?_; refine CNB ?_
 refine Lp (ι := Nat × Head) 3 (fun (i : Nat × Head) => match i with | (k, y) => (((((Fr.none).set 1 (.val i64T tries)).set 2 (.ptr 0 0)).set 4 (.ptr 1 0)).set 6 (.ptr 2 0)).set 7 (.val i64T (k : Int))) (fun (i : Nat × Head) => match i with | (k, y) => (((Hp.none).set 0 (.box 29 headT h)).set 1 (.box 29 headT zHead)).set 2 (.box 29 headT y)) (fun (i : Nat × Head) => match i with | (k, y) => k ≤ 200 ∧ mineOf h tries = mineFrom ((min tries 200).toNat - k) y) (fun (i : Nat × Head) => match i with | (k, y) => 200 - k) ((0, h)) (⟨Nat.zero_le _, rfl⟩) ?_
 intro ⟨k, y⟩ hinv
 dsimp only at hinv
 refine CQQR ?_; refine A0 mV ?_; refine A0 mV ?_; refine A0 o_lss ?_; refine A0 mV ?_
 refine Sp (d := 13) (p := (k : Int) < tries) (fun g13 => ?_) (fun g13 => ?_)
 ·
  refine A1 mV ?_; refine A1 o_lss ?_; refine A0 oK ?_; refine CN ?_
  refine Cf (p := k < 200) (fun ht16 => ?_) (fun ht16 => ?_)
  ·
   refine CSQBQR ?_; refine A0 (oLs rfl rfl rfl ty_29) ?_; refine A0 (oCl (rheadMay_ok y) rfl fn_60 ⟨(arg_v rfl), trivial⟩) ?_; refine A0 aV ?_; refine CNQQR ?_; refine A0 mV ?_; refine CN ?_
   refine aw_ifc (p := headMay y = true) rfl (Bool.decide_eq_true.symm) (fun ht21 => ?_) (fun ht21 => ?_)
   ·
    refine CQR ?_; refine A0 (oLs rfl rfl rfl ty_29) ?_; refine aw_store_b rfl rfl rfl rfl rfl (Lens.self _) ty_29 rfl ?_; refine A0 aV ?_; refine CN ?_
    exact aw_retr2 rfl rfl (rv_cell rfl rfl ty_29 (by rw [hinv.2, mineFrom_yes (by omega) ht21]; rfl)) (rv_tmp (ret_eq rfl (by rw [hinv.2, mineFrom_yes (by omega) ht21]; rfl)))
   ·
    refine CS ?_; refine CR ?_; refine A0 (oFp fd_29_7) ?_; refine A0 (oLb L_Head_nonce ty_24) ?_; refine A0 (g_add64 rfl rfl rfl) ?_; refine A0 (oFp fd_29_7) ?_; refine aw_store_b rfl rfl rfl rfl rfl L_Head_nonce ty_24 rfl ?_; refine CNIR ?_
    refine A0 mV ?_; refine A0 o_add ?_; refine A0 aV ?_; refine CN ?_
    exact Nx ((k + 1, { y with nonce := y.nonce + 1 })) (⟨by omega, by rw [hinv.2, mineFrom_step (by omega) ht21, Nat.sub_sub]⟩) (by show 200 - (k + 1) < 200 - k; omega)
  ·
   refine CE ?_; refine CQR ?_; refine A0 (oLs rfl rfl rfl ty_29) ?_; refine aw_store_b rfl rfl rfl rfl rfl (Lens.self _) ty_29 rfl ?_; refine A0 aV ?_; refine CN ?_
   exact aw_retr2 rfl rfl (rv_cell rfl rfl ty_29 (by rw [hinv.2, show (min tries 200).toNat - k = 0 by omega]; rfl)) (rv_tmp (ret_eq rfl (by rw [hinv.2, show (min tries 200).toNat - k = 0 by omega]; rfl)))
 ·
  refine A2 ?_; refine A2 ?_; refine A0 oK ?_; refine CN ?_; refine Cg ?_; refine CE ?_; refine CQR ?_; refine A0 (oLs rfl rfl rfl ty_29) ?_; refine aw_store_b rfl rfl rfl rfl rfl (Lens.self _) ty_29 rfl ?_; refine A0 aV ?_; refine CN ?_
  exact aw_retr2 rfl rfl (rv_cell rfl rfl ty_29 (by rw [hinv.2, show (min tries 200).toNat - k = 0 by omega]; rfl)) (rv_tmp (ret_eq rfl (by rw [hinv.2, show (min tries 200).toNat - k = 0 by omega]; rfl)))
end Go.Proofs.YtgoiacajjicjcaaGreat
set_option maxRecDepth 20000
namespace Go.Proofs.YtgoiacajjicjcaaGreat
set_option linter.unusedVariables false
set_option linter.unusedSimpArgs false
open Go.Ab Go.RowKit
theorem hpB {x y : HE} {ty : TypeId} {α : Type} {T : GoT α} {v : α} (h1 : x = .box ty T v) (h2 : y = .box ty T v) : x = y := h1.trans h2.symm
theorem rsubW_ok (a b : Wide) : Tells P 209 [.val wideT a, .val wideT b] (.tup2 (.val wideT (subW a b)) (.val boolT (subOk a b))) := by
 refine fn_of_aw Tryz.func209 rfl rfl rfl (fun ext w hext => ?_)
 refine aw_fact (d := 0) rfl fact_wide (fun ha => ?_)
 refine aw_fact (d := 1) rfl fact_wide (fun hb => ?_)
 refine CQR ?_; refine aw_box rfl rfl rfl rfl rfl ?_; refine aw_box rfl rfl rfl rfl rfl ?_; refine aw_alloc ze_26 rfl rfl rfl rfl ?_; refine A0 aV ?_; refine CNQR ?_; refine aw_alloc ze_26 rfl rfl rfl rfl ?_; refine CNQQR ?_; refine A0 aV ?_
 refine CNB ?_
 refine Lp (ι := Nat) 4 (fun (k : Nat) => (((((Fr.none).set 2 (.ptr 0 0)).set 3 (.ptr 1 0)).set 4 (.ptr 2 0)).set 6 (.ptr 3 0)).set 7 (.val i64T (k : Int))) (fun (k : Nat) => ((((Hp.none).set 0 (.box 26 wideT a)).set 1 (.box 26 wideT b)).set 2 (.box 26 wideT zWide)).set 3 (.box 26 wideT (setN (compF b) zWide k))) (fun (k : Nat) => k ≤ 4) (fun (k : Nat) => 4 - k) (0) (Nat.zero_le _) ?_
 intro k hinv
 refine CQQR ?_; refine A0 mV ?_; refine A0 o_lss ?_; refine CN ?_
 refine Cf (p := k < 4) (fun ht13 => ?_) (fun ht13 => ?_)
 ·
  refine CS ?_; refine CQ ?_; refine CB ?_; refine CR ?_; refine A0 mV ?_; refine A0 mV ?_; refine A0 (g_ia_b0 (i := k) rfl rfl rfl (by first | omega | rfl) ar_26 (by omega)) ?_
  refine A0 (g_load_b rfl rfl rfl (Lens.elem (i := k) (by omega) u64T) ty_24) ?_; refine A0 (g_sub64 rfl rfl rfl) ?_; refine A0 (g_ia_b0 (i := k) rfl rfl rfl (by first | omega | rfl) ar_26 (by omega)) ?_
  refine aw_store_b rfl rfl rfl rfl rfl (Lens.elem (i := k) (by omega) u64T) ty_24 rfl ?_; refine CNIR ?_; refine A0 mV ?_; refine A0 o_add ?_; refine A0 aV ?_; refine CN ?_
  refine aw_reheap (n := 3) (y := setN (compF b) zWide (k + 1)) rfl (by rw [← setN_succ]; unfold compF maxU; rfl) ?_
  exact Nx (k + 1) (by omega) (by omega)
 ·
  obtain rfl : k = 4 := (by omega)
  obtain ⟨c, hc⟩ : ∃ c, c = compW b := ⟨_, rfl⟩
  obtain ⟨o, ho⟩ : ∃ o, o = ofW (UInt64.ofNat (Int.toNat 1)) := ⟨_, rfl⟩
  have hof := rofW_ok (UInt64.ofNat (Int.toNat 1))
  rw [← ho] at hof
  obtain ⟨x1, hx1⟩ : ∃ x, x = addW a c := ⟨_, rfl⟩
  have h1 := raddW_ok a c
  rw [← hx1] at h1
  obtain ⟨x2, hx2⟩ : ∃ x, x = addW x1 o := ⟨_, rfl⟩
  have h2 := raddW_ok x1 o
  rw [← hx2] at h2
  refine CE ?_; refine CQ ?_; refine aw_reheap (n := 3) (y := c) rfl ((setN_all rfl).trans hc.symm) ?_; refine CR ?_; refine A0 (oLs rfl rfl rfl ty_26) ?_; refine A0 (oLs rfl rfl rfl ty_26) ?_
  refine A0 (oCl (h1) rfl fn_138 ⟨(arg_v rfl), (arg_v rfl), trivial⟩) ?_; refine A0 mX ?_; refine A0 (by first | exact g_x20 rfl rfl | exact g_x30 rfl rfl) ?_; refine A0 (by first | exact g_x21 rfl rfl | exact g_x31 rfl rfl) ?_
  refine aw_alloc ze_26 rfl rfl rfl rfl ?_; refine aw_store_b rfl rfl rfl rfl rfl (Lens.self _) ty_26 rfl ?_; refine A0 aV ?_; refine CNQ ?_
  refine aw_drawx [some 1000001, some 1000001, some 1000001, some 1000001, some 1000001, some 1000001, none, none, some 1] mixed (by decide +kernel) ?_
  refine XK.gf (t := 8) rfl rfl (fun _ he => g_load_b rfl rfl he (Lens.self _) ty_26) ⟨rfl, trivial⟩ rfl rfl rfl ?_; refine XK.ga (fun _ => g_call (hof) rfl fn_90 ⟨(arg_v rfl), trivial⟩ rfl) rfl rfl rfl ?_
  refine XK.ga (fun _ => g_call (h2) rfl fn_138 ⟨(arg_v rfl), (arg_v rfl), trivial⟩ rfl) rfl rfl rfl ?_
  refine XK.ga (fun _ => by first | exact g_mv (.inl rfl) rfl | exact g_mp (.inl rfl) rfl | exact g_mo (.inl rfl) rfl | exact g_ml (.inl rfl) rfl | exact g_mc (.inl rfl) rfl | exact g_mr (.inl rfl) rfl | exact g_mf1 (.inl rfl) rfl | exact g_mf2 (.inl rfl) rfl | exact g_mw (.inl rfl) rfl | exact g_me (.inl rfl) rfl | exact g_ms (.inl rfl) rfl | exact g_mt2 (.inl rfl) rfl | exact g_mt3 (.inl rfl) rfl | exact g_mi (.inl rfl) rfl) rfl rfl rfl ?_
  refine XK.ga (fun _ => by first | exact g_x20 rfl rfl | exact g_x30 rfl rfl) rfl rfl rfl ?_; refine XK.ga (fun _ => by first | exact g_x21 rfl rfl | exact g_x31 rfl rfl) rfl rfl rfl ?_
  refine XK.e (fun fr' hfr kk H => by exact aw_alloc ze_26 rfl rfl rfl rfl (aw_nil H)) ?_
  refine XK.e (x := .idk) (fun fr' hfr kk H => by exact aw_store_b rfl rfl rfl ((hfr 10 (by decide +kernel)).trans rfl) rfl (Lens.self _) ty_26 ((hfr 32 (by decide +kernel)).trans rfl) (aw_nil H)) ?_; refine X0 aV ?_
  refine XK.nilp ⟨⟨hpB rfl rfl, hpB rfl rfl, trivial⟩, trivial⟩ ?_; refine CQ ?_; refine aw_drawx [some 1, some 1, some 1, some 1, some 1000001, none, some 1] mixed (by decide +kernel) ?_; refine X0 (oLs rfl rfl rfl ty_26) ?_
  refine X0 (oLs rfl rfl rfl ty_26) ?_; refine X0 (oLs rfl rfl rfl ty_26) ?_; refine X0 (oCl (rcmpW_ok _ _) rfl fn_197 ⟨(arg_v rfl), (arg_v rfl), trivial⟩) ?_; refine XK.ga (fun _ => g_geq rfl rfl rfl rfl) rfl rfl rfl ?_
  refine XK.e (x := .idk) (fun fr' hfr kk H => by exact aw_store_b rfl rfl rfl ((hfr 4 (by decide +kernel)).trans rfl) rfl (Lens.self _) ty_26 ((hfr 34 (by decide +kernel)).trans rfl) (aw_nil H)) ?_; refine X0 aV ?_; refine XK.nil' ?_
  exact aw_retr2 rfl rfl (rv_cell rfl rfl ty_26 (by rw [hx2, hx1, hc, ho]; exact rsub_eq ha hb)) (rv_tmp (ret_eq rfl (by rw [← rsub_ok ha hb, decide_eq_decide]; rfl)))
end Go.Proofs.YtgoiacajjicjcaaGreat
set_option maxRecDepth 20000
namespace Go.Proofs.YtgoiacajjicjcaaGreat
set_option linter.unusedVariables false
set_option linter.unusedSimpArgs false
open Go.Ab Go.RowKit
theorem rmmrAppend_ok (p : List Total) (leaf : Total) (hp : p.length ≤ 1000000) : Tells P 42 [.val (bsl totalT) p, .val totalT leaf] (.val (sl totalT) (mmrAppend p leaf)) := by
 refine fn_of_aw Tryz.func42 rfl rfl rfl (fun ext w hext => ?_)
 refine aw_fact (d := 0) rfl fact_sl (fun hsl0 => ?_)
 refine CQR ?_; refine aw_box rfl rfl rfl rfl rfl ?_; refine A0 aL ?_; refine CNQR ?_; refine A0 mV ?_; refine aw_append0 rfl rfl rfl rfl rfl rfl row_34 (by first | omega | (simp; omega)) ?_; refine A0 aO ?_; refine CNQR ?_; refine A0 mO ?_
 refine A0 (oLs rfl rfl rfl ty_54) ?_; refine A0 (g_bslice (T := totalT) (xs := [_]) rfl sl_34 row_34 ⟨rfl, rfl, trivial⟩ rfl rfl) ?_; refine aw_append rfl rfl rfl rfl rfl rfl rfl row_34 (by first | omega | (simp; omega)) ?_; refine A0 aO ?_
 refine CNQ ?_; refine CB ?_; refine aw_pub (d := 5) rfl rfl ?_; refine aw_reval (d := 5) (y := p.reverse.reverse ++ [leaf]) rfl (by simp) ?_
 refine Lp (ι := List Total × Total) 1 (fun (i : List Total × Total) => match i with | (r, x) => ((Fr.none).set 3 (.ptr 0 0)).set 5 (.val (sl totalT) (r.reverse ++ [x]))) (fun (i : List Total × Total) => match i with | (r, x) => (Hp.none).set 0 (.box 54 totalT leaf)) (fun (i : List Total × Total) => match i with | (r, x) => r.length ≤ 1000000 ∧ pushR r x = pushR p.reverse leaf) (fun (i : List Total × Total) => match i with | (r, x) => r.length) ((p.reverse, leaf)) (⟨by simp; omega, rfl⟩) ?_
 intro ⟨r, x⟩ hinv
 dsimp only at hinv
 have hlen : (r.reverse ++ [x]).length = r.length + 1 := by simp
 refine CQ ?_; refine CQ ?_; refine CD mixed ?_; refine G0 mV ?_; refine G0 (g_len rfl rfl isl_34) ?_; refine G0 o_geq ?_; refine G0 mV ?_
 refine GK_splitp (d := 17) (p := ¬ r = []) rfl (by rw [decide_eq_decide]; show (2 : Int) ≤ (((r.reverse ++ [x]).length : Nat) : Int) ↔ _; rw [← List.length_eq_zero_iff]; omega) (fun g17 => ?_) (fun g17 => ?_)
 ·
  obtain ⟨y, s, hr⟩ : ∃ y s, r = y :: s := by cases r with | nil => exact absurd rfl g17 | cons y s => exact ⟨y, s, rfl⟩
  have hrl : r.length = s.length + 1 := by rw [hr]; rfl
  have hx1 : (r.reverse ++ [x])[s.length]? = some y := by rw [hr]; simp
  have hx2 : (r.reverse ++ [x])[s.length + 1]? = some x := by rw [List.getElem?_append_right (by simp [hrl])]; simp [hrl]
  refine G1 mV ?_; refine G1 mV ?_; refine G1 (g_len rfl rfl isl_34) ?_; refine G1 o_sub ?_; refine G1 (g_ia_i (i := s.length + 1) rfl rfl rfl (by omega) sl_34 (by assumption)) ?_; refine G1 (oFr fd_54_2 L_Total_n) ?_
  refine G1 (g_load_r rfl rfl ty_3) ?_; refine G1 mV ?_; refine G1 mV ?_; refine G1 (g_len rfl rfl isl_34) ?_; refine G1 o_sub ?_; refine G1 (g_ia_i (i := s.length) rfl rfl rfl (by omega) sl_34 (by assumption)) ?_
  refine G1 (oFr fd_54_2 L_Total_n) ?_; refine G1 (g_load_r rfl rfl ty_3) ?_; refine G1 o_eql ?_; refine G0 oK ?_; refine GK.nil ?_
  refine aw_ifc (p := x.n = y.n) rfl (by simp [IntL.toI]) (fun ht33 => ?_) (fun ht33 => ?_)
  ·
   refine CS ?_; refine CB ?_; refine CQR ?_; refine A0 mV ?_; refine A0 (g_len rfl rfl isl_34) ?_; refine A0 aV ?_; refine CNQ ?_
   refine aw_drawx [some 1000001, some 1000001, some 1000001, some 1000001, some 1000001, some 1000001, some 1000001, some 1000001, some 1000001, some 1000001, some 1000001, none, none] mixed (by decide +kernel) ?_
   refine XK.ga (fun _ => g_mv (.inl rfl) rfl) rfl rfl rfl ?_; refine XK.ga (fun _ => g_mv (.inl rfl) rfl) rfl rfl rfl ?_
   refine XK.ga (fun _ => by first | exact g_sub rfl rfl rfl (wrap_eq (by first | omega | (simp; omega))) | exact g_sub rfl rfl rfl rfl) rfl rfl rfl ?_
   refine XK.ga (fun _ => g_ia_i (i := s.length) rfl rfl rfl (by omega) sl_34 (by assumption)) rfl rfl rfl ?_; refine XK.ga (fun _ => g_load_r rfl rfl ty_54) rfl rfl rfl ?_; refine XK.ga (fun _ => g_mv (.inl rfl) rfl) rfl rfl rfl ?_
   refine XK.ga (fun _ => g_mv (.inl rfl) rfl) rfl rfl rfl ?_; refine XK.ga (fun _ => by first | exact g_sub rfl rfl rfl (wrap_eq (by first | omega | (simp; omega))) | exact g_sub rfl rfl rfl rfl) rfl rfl rfl ?_
   refine XK.ga (fun _ => g_ia_i (i := s.length + 1) rfl rfl rfl (by omega) sl_34 (by assumption)) rfl rfl rfl ?_; refine XK.ga (fun _ => g_load_r rfl rfl ty_54) rfl rfl rfl ?_
   refine XK.ga (fun _ => g_call (rjoin_ok y x) rfl fn_95 ⟨(by first | exact arg_same rfl | exact arg_bsl rfl | exact arg_own rfl rfl | exact arg_nil rfl | exact arg_rptr rfl | exact arg_fn rfl rfl | exact arg_lit rfl), (by first | exact arg_same rfl | exact arg_bsl rfl | exact arg_own rfl rfl | exact arg_nil rfl | exact arg_rptr rfl | exact arg_fn rfl rfl | exact arg_lit rfl), trivial⟩ rfl) rfl rfl rfl ?_
   refine XK.e (fun fr' hfr kk H => by exact aw_alloc ze_54 rfl rfl rfl rfl (aw_nil H)) ?_
   refine XK.e (x := .idk) (fun fr' hfr kk H => by exact aw_store_b rfl rfl rfl ((hfr 7 (by decide +kernel)).trans rfl) rfl (Lens.self _) ty_54 ((hfr 46 (by decide +kernel)).trans rfl) (aw_nil H)) ?_; refine XK.nil' ?_
   refine aw_drawx [some 1, some 1, some 1, some 1, none, some 2, some 2, none, some 1] mixed (by decide +kernel) ?_; refine X0 mV ?_; refine X0 mV ?_; refine X0 o_sub ?_
   refine X0 (by first | exact g_sl_nil rfl rfl rfl (by first | rfl | omega) sl_34 | exact g_sl_h rfl rfl rfl sl_34 (by first | assumption | omega | (simp; omega))) ?_
   refine XK.e (fun fr' hfr kk H => by exact aw_append0 rfl rfl rfl rfl rfl ((hfr 50 (by decide +kernel)).trans rfl) row_34 (by first | omega | (simp; omega)) (aw_nil H)) ?_
   refine XK.gb (t := 7) rfl rfl (fun _ he => g_load_b rfl rfl he (Lens.self _) ty_54) rfl ⟨rfl, rfl, trivial⟩ rfl rfl rfl ?_
   refine XK.g2 (g_bslice (T := totalT) (xs := [_]) rfl sl_34 row_34 ⟨rfl, rfl, trivial⟩ rfl rfl) (g_bslice (T := totalT) (xs := [_]) rfl sl_34 row_34 ⟨rfl, rfl, trivial⟩ rfl rfl) rfl rfl rfl ?_
   refine XK.e (fun fr' hfr kk H => by exact aw_append rfl rfl rfl rfl ((hfr 51 (by decide +kernel)).trans rfl) rfl ((hfr 53 (by decide +kernel)).trans rfl) row_34 (by first | omega | (simp; omega)) (aw_nil H)) ?_; refine X0 aO ?_
   refine XK.nil' ?_; refine CI ?_; refine aw_pub (d := 5) rfl rfl ?_; refine aw_reval (d := 5) (y := s.reverse ++ [joinT y x]) rfl (by simp [hr, List.take_append] <;> exact List.take_of_length_le (by simp)) ?_
   exact Nx ((s, joinT y x)) (⟨by omega, by rw [← hinv.2, hr, pushR, if_pos ht33.symm]⟩) (by show s.length < r.length; omega)
  ·
   refine CE ?_; refine CQR ?_; refine A0 mV ?_; refine A0 aV ?_; refine CN ?_
   exact aw_ret1 rfl rfl (ret_eq rfl (by unfold mmrAppend; rw [← hinv.2, hr, pushR, if_neg (fun h => ht33 h.symm)]; simp))
 ·
  refine G2 ?_; refine G2 ?_; refine G2 ?_; refine G2 ?_; refine G2 ?_; refine G2 ?_; refine G2 ?_; refine G2 ?_; refine G2 ?_; refine G2 ?_; refine G2 ?_; refine G2 ?_; refine G2 ?_; refine G2 ?_; refine G2 ?_; refine G0 oK ?_
  refine GK.nil ?_; refine Cg ?_; refine CE ?_; refine CQR ?_; refine A0 mV ?_; refine A0 aV ?_; refine CN ?_
  exact aw_ret1 rfl rfl (ret_eq rfl (by unfold mmrAppend; rw [← hinv.2, Classical.not_not.1 g17]; rfl))
end Go.Proofs.YtgoiacajjicjcaaGreat
set_option maxRecDepth 20000
namespace Go.Proofs.YtgoiacajjicjcaaGreat
set_option linter.unusedVariables false
set_option linter.unusedSimpArgs false
open Go.Ab Go.RowKit
def incW (w : Wide) : Wide := w.set 0 (w.getD 0 default + 1)
theorem incW_len {w : Wide} (h : w.length = 4) : (incW w).length = 4 := by unfold incW; rw [List.length_set]; exact h
theorem incW_n {w : Wide} (h : w.length = 4) (he : nW w % 2 = 0) : nW (incW w) = nW w + 1 := by
  obtain ⟨a0, a1, a2, a3, rfl⟩ := wide4 h
  have h0 : a0.toNat < 18446744073709551616 := a0.toNat_lt
  unfold nW at he
  simp only [List.getD_cons_zero, List.getD_cons_succ] at he
  show nW [a0 + 1, a1, a2, a3] = _
  unfold nW
  simp only [List.getD_cons_zero, List.getD_cons_succ]
  have e : (a0 + 1).toNat = a0.toNat + 1 := by
    rw [UInt64.toNat_add]; show (a0.toNat + 1) % 18446744073709551616 = _
    omega
  rw [e]; omega
theorem hiBit_n {w : Wide} (h : w.length = 4) : 9223372036854775808 ≤ (w.getD 3 default).toNat ↔ 57896044618658097711785492504343953926634992332820282019728792003956564819968 ≤ nW w := by
  obtain ⟨a0, a1, a2, a3, rfl⟩ := wide4 h
  have h0 : a0.toNat < 18446744073709551616 := a0.toNat_lt
  have h1 : a1.toNat < 18446744073709551616 := a1.toNat_lt
  have h2 : a2.toNat < 18446744073709551616 := a2.toNat_lt
  have h3 : a3.toNat < 18446744073709551616 := a3.toNat_lt
  unfold nW
  simp only [List.getD_cons_zero, List.getD_cons_succ]
  omega
def dvX (s : Wide × Wide × Wide) : Wide := if 9223372036854775808 ≤ (s.1.getD 3 default).toNat then incW (addW s.2.2 s.2.2) else addW s.2.2 s.2.2
def dvC (b : Wide) (s : Wide × Wide × Wide) : Prop := addOk s.2.2 s.2.2 = false ∨ 0 ≤ cmpW (dvX s) b
instance (b : Wide) (s : Wide × Wide × Wide) : Decidable (dvC b s) := inferInstanceAs (Decidable (_ ∨ _))
def dvStep (b : Wide) (s : Wide × Wide × Wide) : Wide × Wide × Wide := if dvC b s then (addW s.1 s.1, incW (addW s.2.1 s.2.1), subW (dvX s) b) else (addW s.1 s.1, addW s.2.1 s.2.1, dvX s)
def dvI (a b : Wide) : Nat → Wide × Wide × Wide
  | 0 => (a, zWide, zWide)
  | i + 1 => dvStep b (dvI a b i)
structure DvInv (A B P : Nat) (M : Nat) (s : Wide × Wide × Wide) : Prop where
  l1 : s.1.length = 4
  l2 : s.2.1.length = 4
  l3 : s.2.2.length = 4
  n1 : nW s.1 = M
  n2 : nW s.2.1 = P / B
  n3 : nW s.2.2 = P % B
theorem dv_step {A B P M bit : Nat} {b : Wide} {s : Wide × Wide × Wide} (hb : b.length = 4) (hB : nW b = B) (hp : 0 < B) (hM : M < W256) (hbit : bit = if 57896044618658097711785492504343953926634992332820282019728792003956564819968 ≤ M then 1 else 0) (hP : 2 * P + bit < W256) (h : DvInv A B P M s) : DvInv A B (2 * P + bit) (2 * M % W256) (dvStep b s) := by
  obtain ⟨l1, l2, l3, n1, n2, n3⟩ := h
  have hBlt : B < W256 := by rw [← hB]; exact nW_lt hb
  have hr : P % B < B := Nat.mod_lt _ hp
  have hq : B * (P / B) + P % B = P := Nat.div_add_mod P B
  have hqle : P / B ≤ P := Nat.div_le_self P B
  obtain ⟨x1, x2⟩ := nW_add2 l3 l3
  rw [n3] at x1 x2
  have hX : (dvX s).length = 4 ∧ nW (dvX s) = (2 * (P % B) + bit) % W256 := by
    have ev : nW (addW s.2.2 s.2.2) % 2 = 0 := by rw [x1]; unfold W256; omega
    unfold dvX
    by_cases c : 9223372036854775808 ≤ (s.1.getD 3 default).toNat
    · rw [if_pos c]
      have c' := (hiBit_n l1).1 c
      rw [n1] at c'
      rw [if_pos c'] at hbit
      refine ⟨incW_len (addW_len l3 l3), ?_⟩
      rw [incW_n (addW_len l3 l3) ev, x1, hbit]
      unfold W256; omega
    · rw [if_neg c]
      have c' : ¬ _ := fun h => c ((hiBit_n l1).2 h)
      rw [n1] at c'
      rw [if_neg c'] at hbit
      refine ⟨addW_len l3 l3, ?_⟩
      rw [x1, hbit]
      congr 1; omega
  obtain ⟨xl, xn⟩ := hX
  have o1 := nW_add l2 l2
  rw [n2] at o1
  have o1' : nW (addW s.2.1 s.2.1) = 2 * (P / B) := by
    rw [o1, show P / B + P / B = 2 * (P / B) by omega, Nat.mod_eq_of_lt (by omega)]
  have a1 : nW (addW s.1 s.1) = 2 * M % W256 := by rw [nW_add l1 l1, n1]; congr 1; omega
  have hbit1 : bit ≤ 1 := by rw [hbit]; split <;> omega
  have hdiv : ∀ q r, B * q + r = 2 * P + bit → r < B → (2 * P + bit) / B = q ∧ (2 * P + bit) % B = r := fun q r e hlt => by
    rw [← e]
    refine ⟨?_, ?_⟩
    · rw [Nat.add_comm, Nat.add_mul_div_left _ _ hp, Nat.div_eq_of_lt hlt, Nat.zero_add]
    · rw [Nat.add_comm, Nat.add_mul_mod_self_left, Nat.mod_eq_of_lt hlt]
  have hcase : dvC b s ↔ B ≤ 2 * (P % B) + bit := by
    unfold dvC
    rw [cmpW_n xl hb, hB, xn]
    have hx2 : addOk s.2.2 s.2.2 = false ↔ W256 ≤ P % B + P % B := by
      cases e : addOk s.2.2 s.2.2 with
      | true => have := x2.1 e; simp; omega
      | false =>
        refine ⟨fun _ => ?_, fun _ => rfl⟩
        rcases Nat.lt_or_ge (P % B + P % B) W256 with h | h
        · have := x2.2 h; rw [e] at this; cases this
        · exact h
    rw [hx2]
    have hlt2 : 2 * (P % B) + bit < 2 * B := by omega
    constructor
    · rintro (h | h)
      · omega
      · by_cases c1 : 2 * (P % B) + bit < W256
        · rw [Nat.mod_eq_of_lt c1] at h
          split at h
          · omega
          · omega
        · omega
    · intro h
      by_cases c1 : 2 * (P % B) + bit < W256
      · right
        rw [Nat.mod_eq_of_lt c1]
        split
        · omega
        · split <;> omega
      · left
        unfold W256 at *; omega
  unfold dvStep
  have hmul : B * (2 * (P / B)) = 2 * (B * (P / B)) := by rw [Nat.mul_left_comm]
  by_cases c : dvC b s
  · rw [if_pos c]
    have c' := hcase.1 c
    have hm1 : B * (2 * (P / B) + 1) = 2 * (B * (P / B)) + B := by rw [Nat.mul_add, hmul, Nat.mul_one]
    obtain ⟨e1, e2⟩ := hdiv (2 * (P / B) + 1) (2 * (P % B) + bit - B) (by omega) (by omega)
    refine ⟨addW_len l1 l1, incW_len (addW_len l2 l2), subW_len xl hb, a1, ?_, ?_⟩
    · show nW (incW (addW s.2.1 s.2.1)) = _
      rw [incW_n (addW_len l2 l2) (by rw [o1']; omega), o1', e1]
    · show nW (subW (dvX s) b) = _
      rw [(nW_sub xl hb).1, xn, hB, e2]
      by_cases c1 : 2 * (P % B) + bit < W256
      · rw [Nat.mod_eq_of_lt c1]
        rw [show 2 * (P % B) + bit + W256 - B = (2 * (P % B) + bit - B) + W256 by omega, Nat.add_mod_right, Nat.mod_eq_of_lt (by omega)]
      · have h2 : 2 * (P % B) + bit < 2 * W256 := by omega
        rw [show (2 * (P % B) + bit) % W256 = 2 * (P % B) + bit - W256 by rw [Nat.mod_eq_sub_mod (by omega), Nat.mod_eq_of_lt (by omega)]]
        rw [show 2 * (P % B) + bit - W256 + W256 - B = 2 * (P % B) + bit - B by omega, Nat.mod_eq_of_lt (by omega)]
  · rw [if_neg c]
    have c' : ¬ B ≤ 2 * (P % B) + bit := fun h => c (hcase.2 h)
    obtain ⟨e1, e2⟩ := hdiv (2 * (P / B)) (2 * (P % B) + bit) (by omega) (by omega)
    refine ⟨addW_len l1 l1, addW_len l2 l2, xl, a1, ?_, ?_⟩
    · show nW (addW s.2.1 s.2.1) = _
      rw [o1', e1]
    · show nW (dvX s) = _
      rw [xn, e2, Nat.mod_eq_of_lt (by omega)]
theorem dv_bit {A k i : Nat} (_hA : A < 2 ^ 256) (hk : k + 1 + i = 256) : A / 2 ^ k = 2 * (A / 2 ^ (k + 1)) + (if 2 ^ 255 ≤ A * 2 ^ i % 2 ^ 256 then 1 else 0) := by
  have e1 : A / 2 ^ (k + 1) = A / 2 ^ k / 2 := by rw [Nat.pow_succ, Nat.div_div_eq_div_mul]
  have e2 : A * 2 ^ i % 2 ^ 256 = A % 2 ^ (k + 1) * 2 ^ i := by
    rw [← hk, Nat.pow_add, Nat.mul_mod_mul_right]
  have e3 : A % 2 ^ (k + 1) = A / 2 ^ k % 2 * 2 ^ k + A % 2 ^ k := by
    rw [Nat.pow_succ, Nat.mod_mul, Nat.add_comm, Nat.mul_comm (2 ^ k)]
  have e4 : (2 : Nat) ^ 255 = 2 ^ k * 2 ^ i := by rw [← Nat.pow_add]; congr 1; omega
  have hlt : A % 2 ^ k < 2 ^ k := Nat.mod_lt _ (Nat.two_pow_pos k)
  rw [e1, e2, e4]
  have hiff : 2 ^ k * 2 ^ i ≤ A % 2 ^ (k + 1) * 2 ^ i ↔ A / 2 ^ k % 2 = 1 := by
    rw [Nat.mul_le_mul_right_iff (Nat.two_pow_pos i), e3]
    rcases Nat.mod_two_eq_zero_or_one (A / 2 ^ k) with h | h
    · rw [h]; constructor
      · intro h'; omega
      · intro h'; omega
    · rw [h]; constructor
      · intro _; rfl
      · intro _; omega
  by_cases c : A / 2 ^ k % 2 = 1
  · rw [if_pos (hiff.2 c)]; omega
  · rw [if_neg (fun h => c (hiff.1 h))]; omega
theorem dv_inv {a b : Wide} (ha : a.length = 4) (hb : b.length = 4) (h : b ≠ zWide) : ∀ i, i ≤ 256 → DvInv (nW a) (nW b) (nW a / 2 ^ (256 - i)) (nW a * 2 ^ i % 2 ^ 256) (dvI a b i) := by
  have hA : nW a < 2 ^ 256 := nW_lt ha
  have hp := nW_pos hb h
  intro i
  induction i with
  | zero =>
    intro _
    have e : nW a / 2 ^ (256 - 0) = 0 := Nat.div_eq_of_lt hA
    rw [e, Nat.pow_zero, Nat.mul_one, Nat.mod_eq_of_lt hA]
    exact ⟨ha, rfl, rfl, rfl, by show nW zWide = _; rw [nW_zero, Nat.zero_div], by show nW zWide = _; rw [nW_zero, Nat.zero_mod]⟩
  | succ i ih =>
    intro hi
    have h1 := ih (by omega)
    have e := dv_bit (k := 255 - i) (i := i) hA (by omega)
    rw [show 255 - i + 1 = 256 - i by omega] at e
    have hlt : nW a / 2 ^ (255 - i) < W256 := Nat.lt_of_le_of_lt (Nat.div_le_self _ _) hA
    have hM : nW a * 2 ^ i % 2 ^ 256 < W256 := Nat.mod_lt _ (by decide)
    have e2 : nW a * 2 ^ (i + 1) % 2 ^ 256 = 2 * (nW a * 2 ^ i % 2 ^ 256) % W256 := by
      rw [Nat.pow_succ, ← Nat.mul_assoc, Nat.mul_comm _ 2]
      show _ = 2 * (nW a * 2 ^ i % 2 ^ 256) % 2 ^ 256
      rw [Nat.mul_mod_mod]
    rw [show 256 - (i + 1) = 255 - i by omega, e2, e]
    rw [e] at hlt
    exact dv_step hb rfl hp hM rfl hlt h1
theorem dv_all {a b : Wide} (ha : a.length = 4) (hb : b.length = 4) (h : b ≠ zWide) : (dvI a b 256).2.1 = divW a b ∧ (dvI a b 256).2.2 = remW a b := by
  obtain ⟨_, l2, l3, _, n2, n3⟩ := dv_inv ha hb h 256 (Nat.le_refl _)
  obtain ⟨d1, d2, d3, d4⟩ := nW_div ha hb h
  rw [Nat.sub_self, Nat.pow_zero, Nat.div_one] at n2 n3
  exact ⟨nW_inj l2 d1 (n2.trans d3.symm), nW_inj l3 d2 (n3.trans d4.symm)⟩
theorem dvX_len {x y z : Wide} (h : z.length = 4) : (dvX (x, y, z)).length = 4 := by
  unfold dvX
  split
  · exact incW_len (addW_len h h)
  · exact addW_len h h
theorem dv_nextA {a b x y z X : Wide} {k : Nat} (h : k ≤ 256 ∧ dvI a b k = (x, y, z) ∧ x.length = 4 ∧ y.length = 4 ∧ z.length = 4) (hb : b.length = 4) (hXl : X.length = 4) (hk : k + 1 ≤ 256) (hX : X = dvX (x, y, z)) (hc : addOk z z = false ∨ 0 ≤ cmpW X b) :
    k + 1 ≤ 256 ∧ dvI a b (k + 1) = (addW x x, incW (addW y y), subW X b) ∧ (addW x x).length = 4 ∧ (incW (addW y y)).length = 4 ∧ (subW X b).length = 4 := by
  refine ⟨hk, ?_, addW_len h.2.2.1 h.2.2.1, incW_len (addW_len h.2.2.2.1 h.2.2.2.1), subW_len hXl hb⟩
  rw [dvI, h.2.1]
  unfold dvStep
  rw [if_pos (by unfold dvC; rw [← hX]; exact hc), ← hX]
theorem dv_nextB {a b x y z X : Wide} {k : Nat} (h : k ≤ 256 ∧ dvI a b k = (x, y, z) ∧ x.length = 4 ∧ y.length = 4 ∧ z.length = 4) (hXl : X.length = 4) (hk : k + 1 ≤ 256) (hX : X = dvX (x, y, z)) (h1 : ¬ addOk z z = false) (h2 : ¬ 0 ≤ cmpW X b) :
    k + 1 ≤ 256 ∧ dvI a b (k + 1) = (addW x x, addW y y, X) ∧ (addW x x).length = 4 ∧ (addW y y).length = 4 ∧ X.length = 4 := by
  refine ⟨hk, ?_, addW_len h.2.2.1 h.2.2.1, addW_len h.2.2.2.1 h.2.2.2.1, hXl⟩
  rw [dvI, h.2.1]
  unfold dvStep
  rw [if_neg (by unfold dvC; rw [← hX]; exact fun h => h.elim h1 h2), ← hX]
def allW : Wide := [maxU, maxU, maxU, maxU]
theorem allW_n : nW allW = W256 - 1 := by
  show nW [maxU, maxU, maxU, maxU] = _
  unfold nW; simp only [List.getD_cons_zero, List.getD_cons_succ, maxU_n]; rfl
theorem notW_n {t : Wide} (ht : t.length = 4) : nW [~~~ t.getD 0 default, ~~~ t.getD 1 default, ~~~ t.getD 2 default, ~~~ t.getD 3 default] = W256 - 1 - nW t := by
  obtain ⟨a0, a1, a2, a3, rfl⟩ := wide4 ht
  have e : ∀ x : UInt64, (~~~ x).toNat = 18446744073709551615 - x.toNat := fun x => by rw [UInt64.toNat_not]; rfl
  have h0 : a0.toNat < 18446744073709551616 := a0.toNat_lt
  have h1 : a1.toNat < 18446744073709551616 := a1.toNat_lt
  have h2 : a2.toNat < 18446744073709551616 := a2.toNat_lt
  have h3 : a3.toNat < 18446744073709551616 := a3.toNat_lt
  unfold nW W256
  simp only [List.getD_cons_zero, List.getD_cons_succ, e]
  omega
theorem succ_div_mod {a n : Nat} (hn : 0 < n) : (a + 1) / n = a / n + if a % n + 1 = n then 1 else 0 := by
  have h := Nat.div_add_mod a n
  have hlt := Nat.mod_lt a hn
  by_cases c : a % n + 1 = n
  · rw [if_pos c]
    have e : a + 1 = n * (a / n + 1) := by rw [Nat.mul_add, Nat.mul_one]; omega
    rw [e, Nat.mul_div_cancel_left _ hn]
  · rw [if_neg c]
    have e : a + 1 = (a % n + 1) + n * (a / n) := by omega
    rw [e, Nat.add_mul_div_left _ _ hn, Nat.div_eq_of_lt (by omega), Nat.zero_add]; rfl
theorem rwork_eq {t : Wide} (ht : t.length = 4) (h : addOk t (ofW 1) = true) :
    (addW (remW allW (addW t (ofW 1))) (ofW 1) = addW t (ofW 1) → addW (divW allW (addW t (ofW 1))) (ofW 1) = workW t) ∧ (addW (remW allW (addW t (ofW 1))) (ofW 1) ≠ addW t (ofW 1) → divW allW (addW t (ofW 1)) = workW t) := by
  have h1 : nW (ofW 1) = 1 := rfl
  have l1 : (ofW 1).length = 4 := rfl
  obtain ⟨n1, n2⟩ := nW_add2 ht l1
  have hlt := n2.1 h
  rw [h1] at n1 hlt
  rw [Nat.mod_eq_of_lt hlt] at n1
  have nl := addW_len ht l1
  obtain ⟨nx, hnx⟩ : ∃ nx, nx = addW t (ofW 1) := ⟨_, rfl⟩
  have hw : workW t = addW (divW [~~~ t.getD 0 default, ~~~ t.getD 1 default, ~~~ t.getD 2 default, ~~~ t.getD 3 default] nx) (ofW 1) := by unfold workW; rw [if_pos h, hnx]
  rw [← hnx] at n1 nl ⊢
  have hz : nx ≠ zWide := fun e => by rw [e, nW_zero] at n1; omega
  have hp : 0 < nW nx := by omega
  obtain ⟨d1, d2, d3, d4⟩ := nW_div (a := allW) rfl nl hz
  obtain ⟨e1, e2, e3, _⟩ := nW_div (a := [~~~ t.getD 0 default, ~~~ t.getD 1 default, ~~~ t.getD 2 default, ~~~ t.getD 3 default]) rfl nl hz
  rw [notW_n ht] at e3
  have hk : W256 - 1 - nW t = W256 - nW nx := by omega
  rw [hk] at e3
  have hdiv : (W256 - nW nx) / nW nx + 1 = W256 / nW nx := by
    rw [← Nat.div_eq_sub_div hp (by omega)]
  have hsd := succ_div_mod (a := W256 - 1) hp
  rw [show W256 - 1 + 1 = W256 from rfl] at hsd
  rw [allW_n] at d3 d4
  have hrl : (W256 - 1) % nW nx < nW nx := Nat.mod_lt _ hp
  have hcond : addW (remW allW nx) (ofW 1) = nx ↔ (W256 - 1) % nW nx + 1 = nW nx := by
    have hr := nW_add d2 l1
    rw [d4, h1, Nat.mod_eq_of_lt (by omega)] at hr
    constructor
    · intro e; rw [← hr, e]
    · intro e; exact nW_inj (addW_len d2 l1) nl (hr.trans e)
  have hwl : (workW t).length = 4 := by rw [hw]; exact addW_len e1 l1
  have hwn : nW (workW t) = W256 / nW nx % W256 := by rw [hw, nW_add e1 l1, e3, h1, hdiv]
  constructor
  · intro c
    rw [if_pos (hcond.1 c)] at hsd
    refine nW_inj (addW_len d1 l1) hwl ?_
    rw [nW_add d1 l1, d3, h1, hwn, hsd]
  · intro c
    rw [if_neg (fun e => c (hcond.2 e)), Nat.add_zero] at hsd
    refine nW_inj d1 hwl ?_
    rw [d3, hwn, hsd, Nat.mod_eq_of_lt]
    exact Nat.lt_of_le_of_lt (Nat.div_le_self _ _) (by decide)
theorem rdivW_ok (a b : Wide) : Tells P 181 [.val wideT a, .val wideT b] (.tup3 (.val wideT (divW a b)) (.val wideT (remW a b)) (.val boolT (divOk b))) := by
 refine fn_of_aw Tryz.func181 rfl rfl rfl (fun ext w hext => ?_)
 refine aw_fact (d := 0) rfl fact_wide (fun ha => ?_)
 refine aw_fact (d := 1) rfl fact_wide (fun hb => ?_)
 refine CQR ?_; refine aw_box rfl rfl rfl rfl rfl ?_; refine aw_box rfl rfl rfl rfl rfl ?_; refine aw_alloc ze_26 rfl rfl rfl rfl ?_; refine aw_alloc ze_26 rfl rfl rfl rfl ?_; refine A0 aV ?_; refine CNQQR ?_
 refine A0 (oLs rfl rfl rfl ty_26) ?_; refine A0 (g_buildZ rfl ar_26 ze_26 rfl) ?_; refine A0 (g_eqlS rfl rfl rfl (eqt_26)) ?_; refine CN ?_
 refine aw_ifc (p := b = zWide) rfl (by simp) (fun ht14 => ?_) (fun ht14 => ?_)
 ·
  refine CQR ?_; refine A0 (g_buildZ rfl ar_26 ze_26 rfl) ?_; refine A0 (g_buildZ rfl ar_26 ze_26 rfl) ?_; refine aw_store_b rfl rfl rfl rfl rfl (Lens.self _) ty_26 rfl ?_; refine aw_store_b rfl rfl rfl rfl rfl (Lens.self _) ty_26 rfl ?_
  refine A0 aV ?_; refine CN ?_
  exact aw_retr3 rfl rfl (rv_cell rfl rfl ty_26 (by unfold divW divP; rw [if_pos ht14])) (rv_cell rfl rfl ty_26 (by unfold remW divP; rw [if_pos ht14])) (rv_tmp (ret_eq rfl (by unfold divOk; symm; exact decide_eq_false (fun h => h ht14))))
 ·
  refine CSQR ?_; refine aw_alloc ze_26 rfl rfl rfl rfl ?_; refine CNQR ?_; refine aw_alloc ze_26 rfl rfl rfl rfl ?_; refine CNQQR ?_; refine A0 aV ?_; refine CNB ?_
  refine Lp (ι := Nat × Wide × Wide × Wide) 6 (fun (i : Nat × Wide × Wide × Wide) => match i with | (k, x, y, z) => ((((((((Fr.none).set 2 (.ptr 0 0)).set 3 (.ptr 1 0)).set 4 (.ptr 2 0)).set 5 (.ptr 3 0)).set 6 (.val boolT false)).set 7 (.ptr 4 0)).set 8 (.ptr 5 0)).set 9 (.val i64T (k : Int))) (fun (i : Nat × Wide × Wide × Wide) => match i with | (k, x, y, z) => ((((((Hp.none).set 0 (.box 26 wideT x)).set 1 (.box 26 wideT b)).set 2 (.box 26 wideT zWide)).set 3 (.box 26 wideT zWide)).set 4 (.box 26 wideT y)).set 5 (.box 26 wideT z)) (fun (i : Nat × Wide × Wide × Wide) => match i with | (k, x, y, z) => k ≤ 256 ∧ dvI a b k = (x, y, z) ∧ x.length = 4 ∧ y.length = 4 ∧ z.length = 4) (fun (i : Nat × Wide × Wide × Wide) => match i with | (k, x, y, z) => 256 - k) ((0, a, zWide, zWide)) (⟨Nat.zero_le _, rfl, ha, rfl, rfl⟩) ?_
  intro ⟨k, x, y, z⟩ hinv
  dsimp only at hinv
  refine CQQR ?_; refine A0 mV ?_; refine A0 o_lss ?_; refine CN ?_
  refine Cf (p := k < 256) (fun ht18 => ?_) (fun ht18 => ?_)
  ·
   obtain ⟨X, hX⟩ : ∃ X, X = dvX (x, y, z) := ⟨_, rfl⟩
   have hXl : X.length = 4 := by rw [hX]; exact dvX_len hinv.2.2.2.2
   refine CSQBQR ?_; refine A0 (oLs rfl rfl rfl ty_26) ?_; refine A0 (oLs rfl rfl rfl ty_26) ?_; refine A0 (oCl (raddW_ok z z) rfl fn_138 ⟨(arg_v rfl), (arg_v rfl), trivial⟩) ?_; refine A0 mX ?_
   refine A0 (by first | exact g_x20 rfl rfl | exact g_x30 rfl rfl) ?_; refine A0 (by first | exact g_x21 rfl rfl | exact g_x31 rfl rfl) ?_; refine aw_alloc ze_26 rfl rfl rfl rfl ?_
   refine aw_store_b rfl rfl rfl rfl rfl (Lens.self _) ty_26 rfl ?_; refine A0 aV ?_; refine CNQQR ?_; refine A0 (g_ia_b0 (i := 3) rfl rfl rfl (by first | omega | rfl) ar_26 (by omega)) ?_
   refine A0 (g_load_b rfl rfl rfl (Lens.elem (i := 3) (by omega) u64T) ty_24) ?_; refine A0 o_geq ?_; refine CN ?_
   refine aw_ifc (p := 9223372036854775808 ≤ (x.getD 3 default).toNat) rfl (by rw [decide_eq_decide]; show (9223372036854775808 : Int) ≤ ((x.getD 3 default).toNat : Int) ↔ _; omega) (fun ht29 => ?_) (fun ht29 => ?_)
   ·
    refine CR ?_; refine A0 (g_ia_b0 (i := 0) rfl rfl rfl (by first | omega | rfl) ar_26 (by omega)) ?_; refine A0 (g_load_b rfl rfl rfl (Lens.elem (i := 0) (by omega) u64T) ty_24) ?_; refine A0 (g_add64 rfl rfl rfl) ?_
    refine A0 (g_ia_b0 (i := 0) rfl rfl rfl (by first | omega | rfl) ar_26 (by omega)) ?_; refine aw_store_b rfl rfl rfl rfl rfl (Lens.elem (i := 0) (by omega) u64T) ty_24 rfl ?_; refine CNQ ?_
    refine aw_reheap (n := 6) (y := X) rfl (by rw [hX]; unfold dvX; first | (rw [if_pos ht29]; rfl) | (rw [if_neg ht29])) ?_; refine CR ?_; refine A0 (oLs rfl rfl rfl ty_26) ?_; refine A0 (oLs rfl rfl rfl ty_26) ?_
    refine A0 (oCl (raddW_ok x x) rfl fn_138 ⟨(arg_v rfl), (arg_v rfl), trivial⟩) ?_; refine A0 mX ?_; refine A0 (by first | exact g_x20 rfl rfl | exact g_x30 rfl rfl) ?_; refine A0 (by first | exact g_x21 rfl rfl | exact g_x31 rfl rfl) ?_
    refine aw_store_b rfl rfl rfl rfl rfl (Lens.self _) ty_26 rfl ?_; refine CNQR ?_; refine A0 (oLs rfl rfl rfl ty_26) ?_; refine A0 (oLs rfl rfl rfl ty_26) ?_; refine A0 (oCl (raddW_ok y y) rfl fn_138 ⟨(arg_v rfl), (arg_v rfl), trivial⟩) ?_
    refine A0 mX ?_; refine A0 (by first | exact g_x20 rfl rfl | exact g_x30 rfl rfl) ?_; refine A0 (by first | exact g_x21 rfl rfl | exact g_x31 rfl rfl) ?_; refine aw_store_b rfl rfl rfl rfl rfl (Lens.self _) ty_26 rfl ?_; refine CNQR ?_
    refine A0 (oLs rfl rfl rfl ty_26) ?_; refine aw_store_b rfl rfl rfl rfl rfl (Lens.self _) ty_26 rfl ?_; refine CNQR ?_; refine A0 mV ?_; refine A0 oN ?_; refine A0 mV ?_
    refine aw_splitp (d := 49) (p := addOk z z = false) rfl (by cases addOk z z <;> rfl) (fun g49 => ?_) (fun g49 => ?_)
    ·
     refine A2 ?_; refine A2 ?_; refine A2 ?_; refine A2 ?_; refine A0 oK ?_; refine CN ?_; refine Ct ?_; refine CQR ?_; refine A0 (oLs rfl rfl rfl ty_26) ?_; refine A0 (oLs rfl rfl rfl ty_26) ?_
     refine A0 (oCl (rsubW_ok X b) rfl fn_209 ⟨(arg_v rfl), (arg_v rfl), trivial⟩) ?_; refine A0 mX ?_; refine A0 (by first | exact g_x20 rfl rfl | exact g_x30 rfl rfl) ?_; refine A0 (by first | exact g_x21 rfl rfl | exact g_x31 rfl rfl) ?_
     refine aw_store_b rfl rfl rfl rfl rfl (Lens.self _) ty_26 rfl ?_; refine CNR ?_; refine A0 (g_ia_b0 (i := 0) rfl rfl rfl (by first | omega | rfl) ar_26 (by omega)) ?_
     refine A0 (g_load_b rfl rfl rfl (Lens.elem (i := 0) (by omega) u64T) ty_24) ?_; refine A0 (g_add64 rfl rfl rfl) ?_; refine A0 (g_ia_b0 (i := 0) rfl rfl rfl (by first | omega | rfl) ar_26 (by omega)) ?_
     refine aw_store_b rfl rfl rfl rfl rfl (Lens.elem (i := 0) (by omega) u64T) ty_24 rfl ?_; refine CNIR ?_; refine A0 mV ?_; refine A0 o_add ?_; refine A0 aV ?_; refine CN ?_; refine aw_reheap (n := 4) (y := incW (addW y y)) rfl rfl ?_
     exact Nx ((k + 1, addW x x, incW (addW y y), subW X b)) (by first | exact dv_nextA hinv hb hXl (by omega) hX (.inl g49) | exact dv_nextA hinv hb hXl (by omega) hX (.inr ht54) | exact dv_nextB hinv hXl (by omega) hX g49 ht54) (by show 256 - (k + 1) < 256 - k; omega)
    ·
     refine A1 (oLs rfl rfl rfl ty_26) ?_; refine A1 (oLs rfl rfl rfl ty_26) ?_; refine A1 (oCl (rcmpW_ok _ _) rfl fn_197 ⟨(arg_v rfl), (arg_v rfl), trivial⟩) ?_; refine A1 o_geq ?_; refine A0 oK ?_; refine CN ?_
     refine Cf (p := 0 ≤ cmpW X b) (fun ht54 => ?_) (fun ht54 => ?_)
     ·
      refine CQR ?_; refine A0 (oLs rfl rfl rfl ty_26) ?_; refine A0 (oLs rfl rfl rfl ty_26) ?_; refine A0 (oCl (rsubW_ok X b) rfl fn_209 ⟨(arg_v rfl), (arg_v rfl), trivial⟩) ?_; refine A0 mX ?_
      refine A0 (by first | exact g_x20 rfl rfl | exact g_x30 rfl rfl) ?_; refine A0 (by first | exact g_x21 rfl rfl | exact g_x31 rfl rfl) ?_; refine aw_store_b rfl rfl rfl rfl rfl (Lens.self _) ty_26 rfl ?_; refine CNR ?_
      refine A0 (g_ia_b0 (i := 0) rfl rfl rfl (by first | omega | rfl) ar_26 (by omega)) ?_; refine A0 (g_load_b rfl rfl rfl (Lens.elem (i := 0) (by omega) u64T) ty_24) ?_; refine A0 (g_add64 rfl rfl rfl) ?_
      refine A0 (g_ia_b0 (i := 0) rfl rfl rfl (by first | omega | rfl) ar_26 (by omega)) ?_; refine aw_store_b rfl rfl rfl rfl rfl (Lens.elem (i := 0) (by omega) u64T) ty_24 rfl ?_; refine CNIR ?_; refine A0 mV ?_; refine A0 o_add ?_
      refine A0 aV ?_; refine CN ?_; refine aw_reheap (n := 4) (y := incW (addW y y)) rfl rfl ?_
      exact Nx ((k + 1, addW x x, incW (addW y y), subW X b)) (by first | exact dv_nextA hinv hb hXl (by omega) hX (.inl g49) | exact dv_nextA hinv hb hXl (by omega) hX (.inr ht54) | exact dv_nextB hinv hXl (by omega) hX g49 ht54) (by show 256 - (k + 1) < 256 - k; omega)
     ·
      refine CSIR ?_; refine A0 mV ?_; refine A0 o_add ?_; refine A0 aV ?_; refine CN ?_
      exact Nx ((k + 1, addW x x, addW y y, X)) (by first | exact dv_nextA hinv hb hXl (by omega) hX (.inl g49) | exact dv_nextA hinv hb hXl (by omega) hX (.inr ht54) | exact dv_nextB hinv hXl (by omega) hX g49 ht54) (by show 256 - (k + 1) < 256 - k; omega)
   ·
    refine CS ?_; refine CQ ?_; refine aw_reheap (n := 6) (y := X) rfl (by rw [hX]; unfold dvX; first | (rw [if_pos ht29]; rfl) | (rw [if_neg ht29])) ?_; refine CR ?_; refine A0 (oLs rfl rfl rfl ty_26) ?_; refine A0 (oLs rfl rfl rfl ty_26) ?_
    refine A0 (oCl (raddW_ok x x) rfl fn_138 ⟨(arg_v rfl), (arg_v rfl), trivial⟩) ?_; refine A0 mX ?_; refine A0 (by first | exact g_x20 rfl rfl | exact g_x30 rfl rfl) ?_; refine A0 (by first | exact g_x21 rfl rfl | exact g_x31 rfl rfl) ?_
    refine aw_store_b rfl rfl rfl rfl rfl (Lens.self _) ty_26 rfl ?_; refine CNQR ?_; refine A0 (oLs rfl rfl rfl ty_26) ?_; refine A0 (oLs rfl rfl rfl ty_26) ?_; refine A0 (oCl (raddW_ok y y) rfl fn_138 ⟨(arg_v rfl), (arg_v rfl), trivial⟩) ?_
    refine A0 mX ?_; refine A0 (by first | exact g_x20 rfl rfl | exact g_x30 rfl rfl) ?_; refine A0 (by first | exact g_x21 rfl rfl | exact g_x31 rfl rfl) ?_; refine aw_store_b rfl rfl rfl rfl rfl (Lens.self _) ty_26 rfl ?_; refine CNQR ?_
    refine A0 (oLs rfl rfl rfl ty_26) ?_; refine aw_store_b rfl rfl rfl rfl rfl (Lens.self _) ty_26 rfl ?_; refine CNQR ?_; refine A0 mV ?_; refine A0 oN ?_; refine A0 mV ?_
    refine aw_splitp (d := 49) (p := addOk z z = false) rfl (by cases addOk z z <;> rfl) (fun g49 => ?_) (fun g49 => ?_)
    ·
     refine A2 ?_; refine A2 ?_; refine A2 ?_; refine A2 ?_; refine A0 oK ?_; refine CN ?_; refine Ct ?_; refine CQR ?_; refine A0 (oLs rfl rfl rfl ty_26) ?_; refine A0 (oLs rfl rfl rfl ty_26) ?_
     refine A0 (oCl (rsubW_ok X b) rfl fn_209 ⟨(arg_v rfl), (arg_v rfl), trivial⟩) ?_; refine A0 mX ?_; refine A0 (by first | exact g_x20 rfl rfl | exact g_x30 rfl rfl) ?_; refine A0 (by first | exact g_x21 rfl rfl | exact g_x31 rfl rfl) ?_
     refine aw_store_b rfl rfl rfl rfl rfl (Lens.self _) ty_26 rfl ?_; refine CNR ?_; refine A0 (g_ia_b0 (i := 0) rfl rfl rfl (by first | omega | rfl) ar_26 (by omega)) ?_
     refine A0 (g_load_b rfl rfl rfl (Lens.elem (i := 0) (by omega) u64T) ty_24) ?_; refine A0 (g_add64 rfl rfl rfl) ?_; refine A0 (g_ia_b0 (i := 0) rfl rfl rfl (by first | omega | rfl) ar_26 (by omega)) ?_
     refine aw_store_b rfl rfl rfl rfl rfl (Lens.elem (i := 0) (by omega) u64T) ty_24 rfl ?_; refine CNIR ?_; refine A0 mV ?_; refine A0 o_add ?_; refine A0 aV ?_; refine CN ?_; refine aw_reheap (n := 4) (y := incW (addW y y)) rfl rfl ?_
     exact Nx ((k + 1, addW x x, incW (addW y y), subW X b)) (by first | exact dv_nextA hinv hb hXl (by omega) hX (.inl g49) | exact dv_nextA hinv hb hXl (by omega) hX (.inr ht54) | exact dv_nextB hinv hXl (by omega) hX g49 ht54) (by show 256 - (k + 1) < 256 - k; omega)
    ·
     refine A1 (oLs rfl rfl rfl ty_26) ?_; refine A1 (oLs rfl rfl rfl ty_26) ?_; refine A1 (oCl (rcmpW_ok _ _) rfl fn_197 ⟨(arg_v rfl), (arg_v rfl), trivial⟩) ?_; refine A1 o_geq ?_; refine A0 oK ?_; refine CN ?_
     refine Cf (p := 0 ≤ cmpW X b) (fun ht54 => ?_) (fun ht54 => ?_)
     ·
      refine CQR ?_; refine A0 (oLs rfl rfl rfl ty_26) ?_; refine A0 (oLs rfl rfl rfl ty_26) ?_; refine A0 (oCl (rsubW_ok X b) rfl fn_209 ⟨(arg_v rfl), (arg_v rfl), trivial⟩) ?_; refine A0 mX ?_
      refine A0 (by first | exact g_x20 rfl rfl | exact g_x30 rfl rfl) ?_; refine A0 (by first | exact g_x21 rfl rfl | exact g_x31 rfl rfl) ?_; refine aw_store_b rfl rfl rfl rfl rfl (Lens.self _) ty_26 rfl ?_; refine CNR ?_
      refine A0 (g_ia_b0 (i := 0) rfl rfl rfl (by first | omega | rfl) ar_26 (by omega)) ?_; refine A0 (g_load_b rfl rfl rfl (Lens.elem (i := 0) (by omega) u64T) ty_24) ?_; refine A0 (g_add64 rfl rfl rfl) ?_
      refine A0 (g_ia_b0 (i := 0) rfl rfl rfl (by first | omega | rfl) ar_26 (by omega)) ?_; refine aw_store_b rfl rfl rfl rfl rfl (Lens.elem (i := 0) (by omega) u64T) ty_24 rfl ?_; refine CNIR ?_; refine A0 mV ?_; refine A0 o_add ?_
      refine A0 aV ?_; refine CN ?_; refine aw_reheap (n := 4) (y := incW (addW y y)) rfl rfl ?_
      exact Nx ((k + 1, addW x x, incW (addW y y), subW X b)) (by first | exact dv_nextA hinv hb hXl (by omega) hX (.inl g49) | exact dv_nextA hinv hb hXl (by omega) hX (.inr ht54) | exact dv_nextB hinv hXl (by omega) hX g49 ht54) (by show 256 - (k + 1) < 256 - k; omega)
     ·
      refine CSIR ?_; refine A0 mV ?_; refine A0 o_add ?_; refine A0 aV ?_; refine CN ?_
      exact Nx ((k + 1, addW x x, addW y y, X)) (by first | exact dv_nextA hinv hb hXl (by omega) hX (.inl g49) | exact dv_nextA hinv hb hXl (by omega) hX (.inr ht54) | exact dv_nextB hinv hXl (by omega) hX g49 ht54) (by show 256 - (k + 1) < 256 - k; omega)
  ·
   refine CE ?_; refine CQ ?_; refine aw_drawx [some 1, some 1000001, none, none, some 1] mixed (by decide +kernel) ?_; refine X0 (oLs rfl rfl rfl ty_26) ?_
   refine XK.gf (t := 8) rfl rfl (fun _ he => g_load_b rfl rfl he (Lens.self _) ty_26) ⟨rfl, trivial⟩ rfl rfl rfl ?_
   refine XK.e (x := .idk) (fun fr' hfr kk H => by exact aw_store_b rfl rfl rfl ((hfr 4 (by decide +kernel)).trans rfl) rfl (Lens.self _) ty_26 ((hfr 65 (by decide +kernel)).trans rfl) (aw_nil H)) ?_
   refine XK.e (x := .idk) (fun fr' hfr kk H => by exact aw_store_b rfl rfl rfl ((hfr 5 (by decide +kernel)).trans rfl) rfl (Lens.self _) ty_26 ((hfr 66 (by decide +kernel)).trans rfl) (aw_nil H)) ?_; refine X0 aV ?_
   refine XK.nilp ⟨⟨hpB rfl rfl, hpB rfl rfl, trivial⟩, trivial⟩ ?_
   exact aw_retr3 rfl rfl (rv_cell rfl rfl ty_26 (by rw [← (dv_all ha hb ht14).1, show 256 = k by omega, hinv.2.1])) (rv_cell rfl rfl ty_26 (by rw [← (dv_all ha hb ht14).2, show 256 = k by omega, hinv.2.1])) (rv_tmp (ret_eq rfl (by unfold divOk; symm; exact decide_eq_true ht14)))
theorem rworkW_ok (t : Wide) : Tells P 144 [.val wideT t] (.val wideT (workW t)) := by
 refine fn_of_aw Tryz.func144 rfl rfl rfl (fun ext w hext => ?_)
 refine aw_fact (d := 0) rfl fact_wide (fun ha => ?_)
 refine CQR ?_; refine aw_box rfl rfl rfl rfl rfl ?_; refine aw_alloc ze_26 rfl rfl rfl rfl ?_; refine CNQR ?_; refine A0 (g_buildA (T := u64T) (xs := [_, _, _, _]) rfl ar_26 ze_26 ⟨rfl, rfl, rfl, rfl, rfl, rfl, rfl, rfl, trivial⟩ rfl) ?_
 refine aw_alloc ze_26 rfl rfl rfl rfl ?_; refine aw_store_b rfl rfl rfl rfl rfl (Lens.self _) ty_26 rfl ?_; refine CNQ ?_
 refine aw_drawx [some 1000001, some 1000001, some 1000001, some 1000001, some 1000001, some 1000001, none, none, some 1] mixed (by decide +kernel) ?_
 refine XK.gf (t := 1) rfl rfl (fun _ he => g_load_b rfl rfl he (Lens.self _) ty_26) ⟨rfl, trivial⟩ rfl rfl rfl ?_; refine XK.ga (fun _ => g_call (rofW_ok 1) rfl fn_90 ⟨(arg_v rfl), trivial⟩ rfl) rfl rfl rfl ?_
 refine XK.ga (fun _ => g_call (raddW_ok t (ofW 1)) rfl fn_138 ⟨(arg_v rfl), (arg_v rfl), trivial⟩ rfl) rfl rfl rfl ?_
 refine XK.ga (fun _ => by first | exact g_mv (.inl rfl) rfl | exact g_mp (.inl rfl) rfl | exact g_mo (.inl rfl) rfl | exact g_ml (.inl rfl) rfl | exact g_mc (.inl rfl) rfl | exact g_mr (.inl rfl) rfl | exact g_mf1 (.inl rfl) rfl | exact g_mf2 (.inl rfl) rfl | exact g_mw (.inl rfl) rfl | exact g_me (.inl rfl) rfl | exact g_ms (.inl rfl) rfl | exact g_mt2 (.inl rfl) rfl | exact g_mt3 (.inl rfl) rfl | exact g_mi (.inl rfl) rfl) rfl rfl rfl ?_
 refine XK.ga (fun _ => by first | exact g_x20 rfl rfl | exact g_x30 rfl rfl) rfl rfl rfl ?_; refine XK.ga (fun _ => by first | exact g_x21 rfl rfl | exact g_x31 rfl rfl) rfl rfl rfl ?_
 refine XK.e (fun fr' hfr kk H => by exact aw_alloc ze_26 rfl rfl rfl rfl (aw_nil H)) ?_
 refine XK.e (x := .idk) (fun fr' hfr kk H => by exact aw_store_b rfl rfl rfl ((hfr 4 (by decide +kernel)).trans rfl) rfl (Lens.self _) ty_26 ((hfr 16 (by decide +kernel)).trans rfl) (aw_nil H)) ?_; refine X0 aV ?_
 refine XK.nilp ⟨⟨hpB rfl rfl, hpB rfl rfl, trivial⟩, trivial⟩ ?_; refine CQQR ?_; refine A0 mV ?_; refine A0 oN ?_; refine CN ?_
 refine aw_ifc (p := ¬ addOk t (ofW 1) = true) rfl (by cases addOk t (ofW 1) <;> rfl) (fun ht19 => ?_) (fun ht19 => ?_)
 ·
  refine CQR ?_; refine A0 (oCl (rofW_ok 1) rfl fn_90 ⟨(arg_v rfl), trivial⟩) ?_; refine aw_store_b rfl rfl rfl rfl rfl (Lens.self _) ty_26 rfl ?_; refine CN ?_
  exact aw_retc1 rfl rfl rfl rfl ty_26 (by unfold workW; rw [if_neg ht19])
 ·
  refine CSQR ?_; refine A0 (oLs rfl rfl rfl ty_26) ?_; refine A0 (oLs rfl rfl rfl ty_26) ?_; refine A0 (oCl (rdivW_ok allW (addW t (ofW 1))) rfl fn_181 ⟨(arg_v rfl), (arg_v rfl), trivial⟩) ?_; refine A0 mX ?_
  refine A0 (by first | exact g_x20 rfl rfl | exact g_x30 rfl rfl) ?_; refine A0 (by first | exact g_x21 rfl rfl | exact g_x31 rfl rfl) ?_; refine A0 e32 ?_; refine aw_alloc ze_26 rfl rfl rfl rfl ?_; refine aw_alloc ze_26 rfl rfl rfl rfl ?_
  refine aw_store_b rfl rfl rfl rfl rfl (Lens.self _) ty_26 rfl ?_; refine aw_store_b rfl rfl rfl rfl rfl (Lens.self _) ty_26 rfl ?_; refine A0 aV ?_; refine CNQ ?_
  refine aw_drawx [some 1000001, some 1000001, some 1000001, some 1000001, some 1000001, some 1000001, none, none, some 1] mixed (by decide +kernel) ?_
  refine XK.gf (t := 7) rfl rfl (fun _ he => g_load_b rfl rfl he (Lens.self _) ty_26) ⟨rfl, trivial⟩ rfl rfl rfl ?_; refine XK.ga (fun _ => g_call (rofW_ok 1) rfl fn_90 ⟨(arg_v rfl), trivial⟩ rfl) rfl rfl rfl ?_
  refine XK.ga (fun _ => g_call (raddW_ok (remW allW (addW t (ofW 1))) (ofW 1)) rfl fn_138 ⟨(arg_v rfl), (arg_v rfl), trivial⟩ rfl) rfl rfl rfl ?_
  refine XK.ga (fun _ => by first | exact g_mv (.inl rfl) rfl | exact g_mp (.inl rfl) rfl | exact g_mo (.inl rfl) rfl | exact g_ml (.inl rfl) rfl | exact g_mc (.inl rfl) rfl | exact g_mr (.inl rfl) rfl | exact g_mf1 (.inl rfl) rfl | exact g_mf2 (.inl rfl) rfl | exact g_mw (.inl rfl) rfl | exact g_me (.inl rfl) rfl | exact g_ms (.inl rfl) rfl | exact g_mt2 (.inl rfl) rfl | exact g_mt3 (.inl rfl) rfl | exact g_mi (.inl rfl) rfl) rfl rfl rfl ?_
  refine XK.ga (fun _ => by first | exact g_x20 rfl rfl | exact g_x30 rfl rfl) rfl rfl rfl ?_; refine XK.ga (fun _ => by first | exact g_x21 rfl rfl | exact g_x31 rfl rfl) rfl rfl rfl ?_
  refine XK.e (fun fr' hfr kk H => by exact aw_alloc ze_26 rfl rfl rfl rfl (aw_nil H)) ?_
  refine XK.e (x := .idk) (fun fr' hfr kk H => by exact aw_store_b rfl rfl rfl ((hfr 9 (by decide +kernel)).trans rfl) rfl (Lens.self _) ty_26 ((hfr 32 (by decide +kernel)).trans rfl) (aw_nil H)) ?_; refine X0 aV ?_
  refine XK.nilp ⟨⟨hpB rfl rfl, hpB rfl rfl, trivial⟩, trivial⟩ ?_; refine CQQR ?_; refine A0 (oLs rfl rfl rfl ty_26) ?_; refine A0 (oLs rfl rfl rfl ty_26) ?_; refine A0 (g_eqlS rfl rfl rfl (eqt_26)) ?_; refine CN ?_
  refine aw_ifc (p := addW (remW allW (addW t (ofW 1))) (ofW 1) = addW t (ofW 1)) rfl (by simp) (fun ht36 => ?_) (fun ht36 => ?_)
  ·
   refine aw_drawx [some 1, some 1, some 1, some 1, some 1, some 1000001, none] mixed (by decide +kernel) ?_; refine X0 (oLs rfl rfl rfl ty_26) ?_; refine X0 (oCl (rofW_ok 1) rfl fn_90 ⟨(arg_v rfl), trivial⟩) ?_
   refine X0 (oCl (raddW_ok (divW allW (addW t (ofW 1))) (ofW 1)) rfl fn_138 ⟨(arg_v rfl), (arg_v rfl), trivial⟩) ?_; refine X0 mX ?_; refine X0 (by first | exact g_x20 rfl rfl | exact g_x30 rfl rfl) ?_
   refine XK.ga (fun _ => by first | exact g_x21 rfl rfl | exact g_x31 rfl rfl) rfl rfl rfl ?_
   refine XK.e (x := .idk) (fun fr' hfr kk H => by exact aw_store_b rfl rfl rfl ((hfr 6 (by decide +kernel)).trans rfl) rfl (Lens.self _) ty_26 ((hfr 41 (by decide +kernel)).trans rfl) (aw_nil H)) ?_; refine XK.nil' ?_; refine CQR ?_
   refine A0 (oLs rfl rfl rfl ty_26) ?_; refine aw_store_b rfl rfl rfl rfl rfl (Lens.self _) ty_26 rfl ?_; refine CN ?_
   exact aw_retc1 rfl rfl rfl rfl ty_26 ((rwork_eq ha (Classical.not_not.1 ht19)).1 ht36)
  ·
   refine CSQR ?_; refine A0 (oLs rfl rfl rfl ty_26) ?_; refine aw_store_b rfl rfl rfl rfl rfl (Lens.self _) ty_26 rfl ?_; refine CN ?_
   exact aw_retc1 rfl rfl rfl rfl ty_26 ((rwork_eq ha (Classical.not_not.1 ht19)).2 ht36)
theorem rheadWork_ok (h : Head) : Tells P 97 [.val headT h] (.val wideT (headWork h)) := by
 refine fn_of_aw Tryz.func97 rfl rfl rfl (fun ext w hext => ?_)
 refine CQR ?_; refine aw_box rfl rfl rfl rfl rfl ?_; refine aw_alloc ze_26 rfl rfl rfl rfl ?_; refine CNQR ?_; refine A0 (oFp fd_29_6) ?_; refine A0 (oLb L_Head_bits ty_27) ?_
 refine A0 (oCl (rtarget_ok h.bits) rfl fn_38 ⟨(arg_v rfl), trivial⟩) ?_; refine A0 mX ?_; refine A0 (by first | exact g_x20 rfl rfl | exact g_x30 rfl rfl) ?_; refine A0 (by first | exact g_x21 rfl rfl | exact g_x31 rfl rfl) ?_
 refine aw_alloc ze_26 rfl rfl rfl rfl ?_; refine aw_store_b rfl rfl rfl rfl rfl (Lens.self _) ty_26 rfl ?_; refine A0 aV ?_; refine CNQQR ?_; refine A0 mV ?_; refine A0 oN ?_; refine CN ?_
 refine aw_ifc (p := ¬ tgtOk h.bits = true) rfl (by cases tgtOk h.bits <;> rfl) (fun ht12 => ?_) (fun ht12 => ?_)
 ·
  refine CQR ?_; refine A0 (g_buildZ rfl ar_26 ze_26 rfl) ?_; refine aw_store_b rfl rfl rfl rfl rfl (Lens.self _) ty_26 rfl ?_; refine CN ?_
  exact aw_retc1 rfl rfl rfl rfl ty_26 (by unfold headWork; rw [if_neg ht12] <;> rfl)
 ·
  refine CSQR ?_; refine A0 (oLs rfl rfl rfl ty_26) ?_; refine A0 (oCl (rworkW_ok (tgtW h.bits)) rfl fn_144 ⟨(arg_v rfl), trivial⟩) ?_; refine aw_store_b rfl rfl rfl rfl rfl (Lens.self _) ty_26 rfl ?_; refine CN ?_
  exact aw_retc1 rfl rfl rfl rfl ty_26 (by unfold headWork; rw [if_pos (Classical.not_not.1 ht12)])
end Go.Proofs.YtgoiacajjicjcaaGreat
set_option maxRecDepth 20000
namespace Go.Proofs.YtgoiacajjicjcaaGreat
set_option linter.unusedVariables false
set_option linter.unusedSimpArgs false
open Go.Ab Go.RowKit
theorem rpush_prev {h w : Head} : behindH h = behindH w ↔ h.height = w.height ∧ h.prev = w.prev ∧ h.bits = w.bits := by
  unfold behindH
  constructor
  · intro e
    injection e with e1 e2 e3 e4 e5 e6 e7 e8
    exact ⟨e1, e2, e7⟩
  · rintro ⟨e1, e2, e3⟩
    rw [e1, e2, e3]
theorem rpush_root {t : Tip} {b : Block} (h1 : b.h.height = (nextH t b.t b.h.nonce).height ∧ b.h.prev = (nextH t b.t b.h.nonce).prev ∧ b.h.bits = (nextH t b.t b.h.nonce).bits) (h2 : b.h.links = (nextH t b.t b.h.nonce).links) :
    b.h = nextH t b.t b.h.nonce ↔ b.h.txs = (nextH t b.t b.h.nonce).txs ∧ b.h.past = (nextH t b.t b.h.nonce).past ∧ b.h.work = (nextH t b.t b.h.nonce).work := by
  obtain ⟨w, hw⟩ : ∃ w, w = nextH t b.t b.h.nonce := ⟨_, rfl⟩
  have hn : b.h.nonce = w.nonce := by rw [hw]; rfl
  rw [← hw] at h1 h2 ⊢
  obtain ⟨e1, e2, e3⟩ := h1
  constructor
  · intro e; rw [e]; exact ⟨rfl, rfl, rfl⟩
  · rintro ⟨f1, f2, f3⟩
    generalize b.h = x at *
    cases x; cases w
    simp only at *
    subst e1 e2 e3 h2 f1 f2 f3 hn
    rfl
theorem pushE_w {t : Tip} {b : Block} {w : Head} (hw : w = nextH t b.t b.h.nonce) : pushE t b =
    if 48 ≤ b.h.height then 3 else if ¬ (b.h.height = w.height ∧ b.h.prev = w.prev ∧ b.h.bits = w.bits) then 5 else
    if ¬ b.h.links = w.links ∨ ¬ b.l = linksT t then 6 else if ¬ (b.h.txs = w.txs ∧ b.h.past = w.past ∧ b.h.work = w.work) then 7 else
    if ¬ headMay b.h = true then 4 else (applyOf t.c b.t).2 := by
  subst hw
  unfold pushE
  simp only [rpush_prev]
  by_cases h1 : 48 ≤ b.h.height
  · rw [if_pos h1, if_pos h1]
  rw [if_neg h1, if_neg h1]
  by_cases h2 : b.h.height = (nextH t b.t b.h.nonce).height ∧ b.h.prev = (nextH t b.t b.h.nonce).prev ∧ b.h.bits = (nextH t b.t b.h.nonce).bits
  · have h2' : ¬ ¬ (b.h.height = (nextH t b.t b.h.nonce).height ∧ b.h.prev = (nextH t b.t b.h.nonce).prev ∧ b.h.bits = (nextH t b.t b.h.nonce).bits) := fun h => h h2
    rw [if_neg h2', if_neg h2']
    by_cases h3 : ¬ b.h.links = (nextH t b.t b.h.nonce).links ∨ ¬ b.l = linksT t
    · rw [if_pos h3, if_pos h3]
    rw [if_neg h3, if_neg h3]
    have h3' : b.h.links = (nextH t b.t b.h.nonce).links := Classical.not_not.1 fun h => h3 (.inl h)
    simp only [rpush_root h2 h3']
  · rw [if_pos h2, if_pos h2]
theorem rpush_err {t : Tip} {b : Block} {e : Int} (h : pushE t b = e) (he : e ≠ 0) : t = pushT t b := by unfold pushT; rw [h, if_neg he]
theorem rpush_ok0 {t : Tip} {b : Block} (h : pushE t b = 0) : (⟨b, mmrAppend t.p (leafH b.h), (applyOf t.c b.t).1⟩ : Tip) = pushT t b := by unfold pushT; rw [if_pos h]
theorem rleafH_ok (h : Head) : Tells P 43 [.val headT h] (.val totalT (leafH h)) := by
 refine fn_of_aw Tryz.func43 rfl rfl rfl (fun ext w hext => ?_)
 refine CQR ?_; refine aw_box rfl rfl rfl rfl rfl ?_; refine aw_alloc ze_54 rfl rfl rfl rfl ?_; refine CNQ ?_; refine aw_drawx [some 1, some 1, some 1, some 1, some 1, none] mixed (by decide +kernel) ?_; refine X0 (oLs rfl rfl rfl ty_29) ?_
 refine X0 (oCl (rheadId_ok h) rfl fn_67 ⟨(arg_v rfl), trivial⟩) ?_; refine X0 (oLs rfl rfl rfl ty_29) ?_; refine X0 (oCl (rheadWork_ok h) rfl fn_97 ⟨(arg_v rfl), trivial⟩) ?_
 refine X0 (oCl (rmleaf_ok (headId h) (headWork h)) rfl fn_96 ⟨(arg_v rfl), (arg_v rfl), trivial⟩) ?_
 refine XK.e (x := .idk) (fun fr' hfr kk H => by exact aw_store_b rfl rfl rfl ((hfr 2 (by decide +kernel)).trans rfl) rfl (Lens.self _) ty_54 ((hfr 7 (by decide +kernel)).trans rfl) (aw_nil H)) ?_; refine XK.nil' ?_
 exact aw_retc1 rfl rfl rfl rfl ty_54 (rfl)
theorem rfirstTip_ok (bits : UInt32) : Tells P 14 [.val u32T bits] (.tup2 (.val tipT (firstTip bits)) (.val boolT (tgtOk bits))) := by
 refine fn_of_aw Tryz.func14 rfl rfl rfl (fun ext w hext => ?_)
 refine CQR ?_; refine aw_alloc ze_37 rfl rfl rfl rfl ?_; refine A0 aV ?_; refine CNQR ?_; refine A0 mV ?_; refine A0 (oCl (rtarget_ok bits) rfl fn_38 ⟨(arg_v rfl), trivial⟩) ?_; refine A0 mX ?_
 refine A0 (by first | exact g_x20 rfl rfl | exact g_x30 rfl rfl) ?_; refine A0 (by first | exact g_x21 rfl rfl | exact g_x31 rfl rfl) ?_; refine aw_alloc ze_26 rfl rfl rfl rfl ?_
 refine aw_store_b rfl rfl rfl rfl rfl (Lens.self _) ty_26 rfl ?_; refine A0 aV ?_; refine CNQQR ?_; refine A0 mV ?_; refine A0 oN ?_; refine CN ?_
 refine aw_ifc (p := ¬ tgtOk bits = true) rfl (by cases tgtOk bits <;> rfl) (fun ht13 => ?_) (fun ht13 => ?_)
 ·
  refine CQR ?_; refine A0 (g_build rfl ze_37 bd_37 .nil rfl) ?_; refine aw_store_b rfl rfl rfl rfl rfl (Lens.self _) ty_37 rfl ?_; refine A0 aV ?_; refine CN ?_
  exact aw_retr2 rfl rfl (rv_cell rfl rfl ty_37 (by unfold firstTip; rw [if_neg ht13])) (rv_tmp (ret_eq rfl (by simpa using ht13)))
 ·
  refine CSQR ?_
  refine A0 (oCl (rlinkRoot_ok [] (by decide)) rfl fn_39 ⟨(by first | exact arg_same rfl | exact arg_bsl rfl | exact arg_own rfl rfl | exact arg_nil rfl | exact arg_rptr rfl | exact arg_fn rfl rfl | exact arg_lit rfl), trivial⟩) ?_
  refine A0 (oCl (rtxRoot_ok [] (by decide)) rfl fn_40 ⟨(by first | exact arg_same rfl | exact arg_bsl rfl | exact arg_own rfl rfl | exact arg_nil rfl | exact arg_rptr rfl | exact arg_fn rfl rfl | exact arg_lit rfl), trivial⟩) ?_
  refine A0 (oCl (rmmrRoot_ok [] (by decide)) rfl fn_41 ⟨(by first | exact arg_same rfl | exact arg_bsl rfl | exact arg_own rfl rfl | exact arg_nil rfl | exact arg_rptr rfl | exact arg_fn rfl rfl | exact arg_lit rfl), trivial⟩) ?_
  refine A0 (g_field rfl rfl fd_54_0 L_Total_h ty_23) ?_; refine A0 mV ?_
  refine A0 (g_build rfl ze_29 bd_29 (.cons fd_29_2 L_Head_links ty_23 rfl (.cons fd_29_3 L_Head_txs ty_23 rfl (.cons fd_29_4 L_Head_past ty_23 rfl (.cons fd_29_6 L_Head_bits ty_27 rfl .nil)))) rfl) ?_; refine aw_alloc ze_29 rfl rfl rfl rfl ?_
  refine aw_store_b rfl rfl rfl rfl rfl (Lens.self _) ty_29 rfl ?_; refine CNQ ?_; refine aw_drawx [some 1, some 1, some 1, some 1, some 1, some 1, none, some 1] mixed (by decide +kernel) ?_; refine X0 (oLs rfl rfl rfl ty_29) ?_
  refine X0 (g_build rfl ze_33 bd_33 (.cons fd_33_0 L_Block_h ty_29 rfl .nil) rfl) ?_; refine X0 (oLs rfl rfl rfl ty_29) ?_; refine X0 (oCl (rleafH_ok (firstH bits)) rfl fn_43 ⟨(arg_v rfl), trivial⟩) ?_
  refine X0 (oCl (rmmrAppend_ok [] (leafH (firstH bits)) (by decide)) rfl fn_42 ⟨(by first | exact arg_same rfl | exact arg_bsl rfl | exact arg_own rfl rfl | exact arg_nil rfl | exact arg_rptr rfl | exact arg_fn rfl rfl | exact arg_lit rfl), (arg_v rfl), trivial⟩) ?_
  refine X0 (g_build rfl ze_37 bd_37 (.cons fd_37_0 L_Tip_b ty_33 rfl (.cons fd_37_1 L_Tip_p ty_34 rfl .nil)) rfl) ?_
  refine XK.e (x := .idk) (fun fr' hfr kk H => by exact aw_store_b rfl rfl rfl ((hfr 2 (by decide +kernel)).trans rfl) rfl (Lens.self _) ty_37 ((hfr 26 (by decide +kernel)).trans rfl) (aw_nil H)) ?_; refine X0 aV ?_; refine XK.nil' ?_
  exact aw_retr2 rfl rfl (rv_cell rfl rfl ty_37 (by unfold firstTip; rw [if_pos (Classical.not_not.1 ht13)]; rfl)) (rv_tmp (ret_eq rfl ((Classical.not_not.1 ht13).symm)))
theorem rlinksT_ok (t : Tip) : Tells P 52 [.val tipT t] (.fresh 23 idT (linksT t)) := by
 refine fn_of_aw Tryz.func52 rfl rfl rfl (fun ext w hext => ?_)
 refine CQR ?_; refine aw_box rfl rfl rfl rfl rfl ?_; refine A0 aL ?_; refine CNQ ?_; refine aw_drawx [some 1, some 1, some 1, some 1, some 1, some 1, some 1, some 1, some 1, some 1, some 1, none, some 1] mixed (by decide +kernel) ?_
 refine X0 (oFp fd_37_0) ?_; refine X0 (oFp fd_33_1) ?_; refine X0 (oLb (L_Tip_b.comp L_Block_l) ty_30) ?_; refine X0 (oFp fd_37_0) ?_; refine X0 (oFp fd_33_0) ?_; refine X0 (oLb (L_Tip_b.comp L_Block_h) ty_29) ?_
 refine X0 (oCl (rheadId_ok t.b.h) rfl fn_67 ⟨(arg_v rfl), trivial⟩) ?_; refine X0 (oFp fd_37_0) ?_; refine X0 (oFp fd_33_0) ?_; refine X0 (oLb (L_Tip_b.comp L_Block_h) ty_29) ?_
 refine X0 (oCl (rheadLevel_ok t.b.h) rfl fn_112 ⟨(arg_v rfl), trivial⟩) ?_
 refine XK.e (fun fr' hfr kk H => by exact aw_callf (rlinkNext_ok t.b.l (headId t.b.h) (headLevel t.b.h)) rfl fn_111 ⟨(arg_v ((hfr 5 (by decide +kernel)).trans rfl)), (arg_v ((hfr 9 (by decide +kernel)).trans rfl)), (arg_v ((hfr 13 (by decide +kernel)).trans rfl)), trivial⟩ rfl rfl rfl (aw_nil H)) ?_
 refine X0 aO ?_; refine XK.nil' ?_
 exact aw_ret1 rfl rfl (ret_fresh_eq rfl rfl rfl)
theorem rnextH_ok (t : Tip) (l : List Tx) (nonce : UInt64) (hl : l.length ≤ 4000000000000) (hp : t.p.length ≤ 1000000) : Tells P 23 [.val tipT t, .val (bsl txT) l, .val u64T nonce] (.val headT (nextH t l nonce)) := by
 have hlk : (linksT t).length ≤ 64 := linkNext_len
 refine fn_of_aw Tryz.func23 rfl rfl rfl (fun ext w hext => ?_)
 refine aw_fact (d := 1) rfl fact_sl (fun hsl1 => ?_)
 refine CQR ?_; refine aw_box rfl rfl rfl rfl rfl ?_; refine aw_alloc ze_29 rfl rfl rfl rfl ?_; refine CNQR ?_; refine A0 (oFp fd_37_1) ?_; refine A0 (oLb L_Tip_p ty_34) ?_
 refine A0 (oCl (rmmrRoot_ok t.p hp) rfl fn_41 ⟨(arg_v rfl), trivial⟩) ?_; refine aw_alloc ze_54 rfl rfl rfl rfl ?_; refine aw_store_b rfl rfl rfl rfl rfl (Lens.self _) ty_54 rfl ?_; refine CNQ ?_
 refine aw_drawx [some 1, some 1, some 1, some 1, some 1, some 1, some 1, some 1, some 1, some 1, some 1, some 1, some 1, some 1, some 1, some 1, some 1, some 1, some 1, some 1, some 1, some 1, some 1, some 1, none] mixed (by decide +kernel) ?_
 refine X0 (oFp fd_37_0) ?_; refine X0 (oFp fd_33_0) ?_; refine X0 (oFp fd_29_0) ?_; refine X0 (oLb ((L_Tip_b.comp L_Block_h).comp L_Head_height) ty_3) ?_; refine X0 o_add ?_; refine X0 (oFp fd_37_0) ?_; refine X0 (oFp fd_33_0) ?_
 refine X0 (oLb (L_Tip_b.comp L_Block_h) ty_29) ?_; refine X0 (oCl (rheadId_ok t.b.h) rfl fn_67 ⟨(arg_v rfl), trivial⟩) ?_; refine X0 (oLs rfl rfl rfl ty_37) ?_; refine X0 (oCl (tells_pub (rlinksT_ok t)) rfl fn_52 ⟨(arg_v rfl), trivial⟩) ?_
 refine X0 (oCl (rlinkRoot_ok (linksT t) (by omega)) rfl fn_39 ⟨(arg_v rfl), trivial⟩) ?_; refine X0 mV ?_; refine X0 (oCl (rtxRoot_ok l hl) rfl fn_40 ⟨(arg_v rfl), trivial⟩) ?_; refine X0 (oFp fd_54_0) ?_; refine X0 (oLb L_Total_h ty_23) ?_
 refine X0 (oFp fd_54_1) ?_; refine X0 (oLb L_Total_w ty_26) ?_; refine X0 (oFp fd_37_0) ?_; refine X0 (oFp fd_33_0) ?_; refine X0 (oFp fd_29_6) ?_; refine X0 (oLb ((L_Tip_b.comp L_Block_h).comp L_Head_bits) ty_27) ?_; refine X0 mV ?_
 refine X0 (g_build rfl ze_29 bd_29 (.cons fd_29_0 L_Head_height ty_3 rfl (.cons fd_29_1 L_Head_prev ty_23 rfl (.cons fd_29_2 L_Head_links ty_23 rfl (.cons fd_29_3 L_Head_txs ty_23 rfl (.cons fd_29_4 L_Head_past ty_23 rfl (.cons fd_29_5 L_Head_work ty_26 rfl (.cons fd_29_6 L_Head_bits ty_27 rfl (.cons fd_29_7 L_Head_nonce ty_24 rfl .nil)))))))) rfl) ?_
 refine XK.e (x := .idk) (fun fr' hfr kk H => by exact aw_store_b rfl rfl rfl ((hfr 6 (by decide +kernel)).trans rfl) rfl (Lens.self _) ty_29 ((hfr 34 (by decide +kernel)).trans rfl) (aw_nil H)) ?_; refine XK.nil' ?_
 exact aw_retc1 rfl rfl rfl rfl ty_29 (rfl)
theorem rpush_ok (t : Tip) (b : Block) (hbt : b.t.length ≤ 4000000000000) (htp : t.p.length ≤ 1000000) : Tells P 18 [.val tipT t, .val blockT b] (.tup2 (.val tipT (pushT t b)) (.val i64T (pushE t b))) := by
 obtain ⟨q, hw⟩ : ∃ q, q = nextH t b.t b.h.nonce := ⟨_, rfl⟩
 have hN := rnextH_ok t b.t b.h.nonce hbt htp
 rw [← hw] at hN
 refine fn_of_aw Tryz.func18 rfl rfl rfl (fun ext w hext => ?_)
 refine CQR ?_; refine aw_box rfl rfl rfl rfl rfl ?_; refine aw_box rfl rfl rfl rfl rfl ?_; refine aw_alloc ze_37 rfl rfl rfl rfl ?_; refine A0 aV ?_; refine CNQR ?_; refine A0 (oLs rfl rfl rfl ty_37) ?_; refine A0 (oFp fd_33_2) ?_
 refine A0 (oLb L_Block_t ty_31) ?_; refine A0 (oFp fd_33_0) ?_; refine A0 (oFp fd_29_7) ?_; refine A0 (oLb (L_Block_h.comp L_Head_nonce) ty_24) ?_; refine A0 (oCl (hN) rfl fn_23 ⟨(arg_v rfl), (arg_v rfl), (arg_v rfl), trivial⟩) ?_
 refine aw_alloc ze_29 rfl rfl rfl rfl ?_; refine aw_store_b rfl rfl rfl rfl rfl (Lens.self _) ty_29 rfl ?_; refine CNQQR ?_; refine A0 (oFp fd_33_0) ?_; refine A0 (oFp fd_29_0) ?_; refine A0 (oLb (L_Block_h.comp L_Head_height) ty_3) ?_
 refine A0 o_geq ?_; refine CN ?_
 refine aw_ifc (p := 48 ≤ b.h.height) rfl (by simp [IntL.toI]) (fun ht21 => ?_) (fun ht21 => ?_)
 ·
  refine CQR ?_; refine A0 (oLs rfl rfl rfl ty_37) ?_; refine aw_store_b rfl rfl rfl rfl rfl (Lens.self _) ty_37 rfl ?_; refine A0 aV ?_; refine CN ?_
  exact aw_retr2 rfl rfl (rv_cell rfl rfl ty_37 (rpush_err (e := 3) (by rw [pushE_w hw, if_pos ht21]) (by decide))) (rv_tmp (ret_eq rfl (Eq.symm (a := pushE t b) (by rw [pushE_w hw, if_pos ht21]))))
 ·
  refine CSQQR ?_; refine A0 (oFp fd_33_0) ?_; refine A0 (oFp fd_29_0) ?_; refine A0 (oLb (L_Block_h.comp L_Head_height) ty_3) ?_; refine A0 (oFp fd_29_0) ?_; refine A0 (oLb L_Head_height ty_3) ?_; refine A0 o_neq ?_; refine A0 mV ?_
  refine aw_splitp (d := 29) (p := ¬ b.h.height = q.height) rfl (by simp [IntL.toI]) (fun g29 => ?_) (fun g29 => ?_)
  ·
   refine A2 ?_; refine A2 ?_; refine A2 ?_; refine A2 ?_; refine A2 ?_; refine A2 ?_; refine A0 oK ?_; refine A0 mV ?_; refine A2 ?_; refine A2 ?_; refine A2 ?_; refine A2 ?_; refine A2 ?_; refine A2 ?_; refine A0 oK ?_; refine CN ?_
   refine Ct ?_; refine CQR ?_; refine A0 (oLs rfl rfl rfl ty_37) ?_; refine aw_store_b rfl rfl rfl rfl rfl (Lens.self _) ty_37 rfl ?_; refine A0 aV ?_; refine CN ?_
   exact aw_retr2 rfl rfl (rv_cell rfl rfl ty_37 (rpush_err (e := 5) (by rw [pushE_w hw, if_neg ht21, if_pos (fun h => g29 h.1)]) (by decide))) (rv_tmp (ret_eq rfl (Eq.symm (a := pushE t b) (by rw [pushE_w hw, if_neg ht21, if_pos (fun h => g29 h.1)]))))
  ·
   refine A1 (oFp fd_33_0) ?_; refine A1 (oFp fd_29_1) ?_; refine A1 (oLb (L_Block_h.comp L_Head_prev) ty_23) ?_; refine A1 (oFp fd_29_1) ?_; refine A1 (oLb L_Head_prev ty_23) ?_; refine A1 (g_neqS rfl rfl rfl (eqt_23)) ?_; refine A0 oK ?_
   refine A0 mV ?_
   refine aw_splitp (d := 37) (p := ¬ b.h.prev = q.prev) rfl (by simp) (fun g37 => ?_) (fun g37 => ?_)
   ·
    refine A2 ?_; refine A2 ?_; refine A2 ?_; refine A2 ?_; refine A2 ?_; refine A2 ?_; refine A0 oK ?_; refine CN ?_; refine Ct ?_; refine CQR ?_; refine A0 (oLs rfl rfl rfl ty_37) ?_
    refine aw_store_b rfl rfl rfl rfl rfl (Lens.self _) ty_37 rfl ?_; refine A0 aV ?_; refine CN ?_
    exact aw_retr2 rfl rfl (rv_cell rfl rfl ty_37 (rpush_err (e := 5) (by rw [pushE_w hw, if_neg ht21, if_pos (fun h => g37 h.2.1)]) (by decide))) (rv_tmp (ret_eq rfl (Eq.symm (a := pushE t b) (by rw [pushE_w hw, if_neg ht21, if_pos (fun h => g37 h.2.1)]))))
   ·
    refine A1 (oFp fd_33_0) ?_; refine A1 (oFp fd_29_6) ?_; refine A1 (oLb (L_Block_h.comp L_Head_bits) ty_27) ?_; refine A1 (oFp fd_29_6) ?_; refine A1 (oLb L_Head_bits ty_27) ?_; refine A1 o_neq ?_; refine A0 oK ?_; refine CN ?_
    refine aw_ifc (p := ¬ b.h.bits = q.bits) rfl (by have e : IntL.toI u32T b.h.bits = IntL.toI u32T q.bits ↔ b.h.bits = q.bits := ⟨fun h => UInt32.toNat_inj.1 (Int.ofNat_inj.1 h), fun h => by rw [h]⟩; simp [e]) (fun ht44 => ?_) (fun ht44 => ?_)
    ·
     refine CQR ?_; refine A0 (oLs rfl rfl rfl ty_37) ?_; refine aw_store_b rfl rfl rfl rfl rfl (Lens.self _) ty_37 rfl ?_; refine A0 aV ?_; refine CN ?_
     exact aw_retr2 rfl rfl (rv_cell rfl rfl ty_37 (rpush_err (e := 5) (by rw [pushE_w hw, if_neg ht21, if_pos (fun h => ht44 h.2.2)]) (by decide))) (rv_tmp (ret_eq rfl (Eq.symm (a := pushE t b) (by rw [pushE_w hw, if_neg ht21, if_pos (fun h => ht44 h.2.2)]))))
    ·
     refine CS ?_; refine CQ ?_; refine CD mixed ?_; refine G0 (oFp fd_33_1) ?_; refine G0 (oLb L_Block_l ty_30) ?_; refine G0 (oLs rfl rfl rfl ty_37) ?_; refine G0 (oCl (tells_pub (rlinksT_ok t)) rfl fn_52 ⟨(arg_v rfl), trivial⟩) ?_
     refine G0 (oCl (refIds_ok b.l (linksT t)) rfl fn_59 ⟨(arg_v rfl), (arg_v rfl), trivial⟩) ?_; refine G0 aV ?_; refine GK.nil ?_; refine CQQR ?_; refine A0 mV ?_; refine A0 oN ?_; refine A0 mV ?_
     refine aw_splitp (d := 53) (p := ¬ b.l = linksT t) rfl (by simp) (fun g53 => ?_) (fun g53 => ?_)
     ·
      refine A2 ?_; refine A2 ?_; refine A2 ?_; refine A2 ?_; refine A2 ?_; refine A2 ?_; refine A0 oK ?_; refine CN ?_; refine Ct ?_; refine CQR ?_; refine A0 (oLs rfl rfl rfl ty_37) ?_
      refine aw_store_b rfl rfl rfl rfl rfl (Lens.self _) ty_37 rfl ?_; refine A0 aV ?_; refine CN ?_
      exact aw_retr2 rfl rfl (rv_cell rfl rfl ty_37 (rpush_err (e := 6) (by rw [pushE_w hw, if_neg ht21, if_neg (fun h => h ⟨Classical.not_not.1 g29, Classical.not_not.1 g37, Classical.not_not.1 ht44⟩), if_pos (.inr g53)]) (by decide))) (rv_tmp (ret_eq rfl (Eq.symm (a := pushE t b) (by rw [pushE_w hw, if_neg ht21, if_neg (fun h => h ⟨Classical.not_not.1 g29, Classical.not_not.1 g37, Classical.not_not.1 ht44⟩), if_pos (.inr g53)]))))
     ·
      refine A1 (oFp fd_33_0) ?_; refine A1 (oFp fd_29_2) ?_; refine A1 (oLb (L_Block_h.comp L_Head_links) ty_23) ?_; refine A1 (oFp fd_29_2) ?_; refine A1 (oLb L_Head_links ty_23) ?_; refine A1 (g_neqS rfl rfl rfl (eqt_23)) ?_; refine A0 oK ?_
      refine CN ?_
      refine aw_ifc (p := ¬ b.h.links = q.links) rfl (by simp) (fun ht60 => ?_) (fun ht60 => ?_)
      ·
       refine CQR ?_; refine A0 (oLs rfl rfl rfl ty_37) ?_; refine aw_store_b rfl rfl rfl rfl rfl (Lens.self _) ty_37 rfl ?_; refine A0 aV ?_; refine CN ?_
       exact aw_retr2 rfl rfl (rv_cell rfl rfl ty_37 (rpush_err (e := 6) (by rw [pushE_w hw, if_neg ht21, if_neg (fun h => h ⟨Classical.not_not.1 g29, Classical.not_not.1 g37, Classical.not_not.1 ht44⟩), if_pos (.inl ht60)]) (by decide))) (rv_tmp (ret_eq rfl (Eq.symm (a := pushE t b) (by rw [pushE_w hw, if_neg ht21, if_neg (fun h => h ⟨Classical.not_not.1 g29, Classical.not_not.1 g37, Classical.not_not.1 ht44⟩), if_pos (.inl ht60)]))))
      ·
       refine CSQQR ?_; refine A0 (oFp fd_33_0) ?_; refine A0 (oFp fd_29_3) ?_; refine A0 (oLb (L_Block_h.comp L_Head_txs) ty_23) ?_; refine A0 (oFp fd_29_3) ?_; refine A0 (oLb L_Head_txs ty_23) ?_; refine A0 (g_neqS rfl rfl rfl (eqt_23)) ?_
       refine A0 mV ?_
       refine aw_splitp (d := 68) (p := ¬ b.h.txs = q.txs) rfl (by simp) (fun g68 => ?_) (fun g68 => ?_)
       ·
        refine A2 ?_; refine A2 ?_; refine A2 ?_; refine A2 ?_; refine A2 ?_; refine A2 ?_; refine A0 oK ?_; refine A0 mV ?_; refine A2 ?_; refine A2 ?_; refine A2 ?_; refine A2 ?_; refine A2 ?_; refine A2 ?_; refine A0 oK ?_; refine CN ?_
        refine Ct ?_; refine CQR ?_; refine A0 (oLs rfl rfl rfl ty_37) ?_; refine aw_store_b rfl rfl rfl rfl rfl (Lens.self _) ty_37 rfl ?_; refine A0 aV ?_; refine CN ?_
        exact aw_retr2 rfl rfl (rv_cell rfl rfl ty_37 (rpush_err (e := 7) (by rw [pushE_w hw, if_neg ht21, if_neg (fun h => h ⟨Classical.not_not.1 g29, Classical.not_not.1 g37, Classical.not_not.1 ht44⟩), if_neg (fun h => h.elim ht60 g53), if_pos (fun h => g68 h.1)]) (by decide))) (rv_tmp (ret_eq rfl (Eq.symm (a := pushE t b) (by rw [pushE_w hw, if_neg ht21, if_neg (fun h => h ⟨Classical.not_not.1 g29, Classical.not_not.1 g37, Classical.not_not.1 ht44⟩), if_neg (fun h => h.elim ht60 g53), if_pos (fun h => g68 h.1)]))))
       ·
        refine A1 (oFp fd_33_0) ?_; refine A1 (oFp fd_29_4) ?_; refine A1 (oLb (L_Block_h.comp L_Head_past) ty_23) ?_; refine A1 (oFp fd_29_4) ?_; refine A1 (oLb L_Head_past ty_23) ?_; refine A1 (g_neqS rfl rfl rfl (eqt_23)) ?_; refine A0 oK ?_
        refine A0 mV ?_
        refine aw_splitp (d := 76) (p := ¬ b.h.past = q.past) rfl (by simp) (fun g76 => ?_) (fun g76 => ?_)
        ·
         refine A2 ?_; refine A2 ?_; refine A2 ?_; refine A2 ?_; refine A2 ?_; refine A2 ?_; refine A0 oK ?_; refine CN ?_; refine Ct ?_; refine CQR ?_; refine A0 (oLs rfl rfl rfl ty_37) ?_
         refine aw_store_b rfl rfl rfl rfl rfl (Lens.self _) ty_37 rfl ?_; refine A0 aV ?_; refine CN ?_
         exact aw_retr2 rfl rfl (rv_cell rfl rfl ty_37 (rpush_err (e := 7) (by rw [pushE_w hw, if_neg ht21, if_neg (fun h => h ⟨Classical.not_not.1 g29, Classical.not_not.1 g37, Classical.not_not.1 ht44⟩), if_neg (fun h => h.elim ht60 g53), if_pos (fun h => g76 h.2.1)]) (by decide))) (rv_tmp (ret_eq rfl (Eq.symm (a := pushE t b) (by rw [pushE_w hw, if_neg ht21, if_neg (fun h => h ⟨Classical.not_not.1 g29, Classical.not_not.1 g37, Classical.not_not.1 ht44⟩), if_neg (fun h => h.elim ht60 g53), if_pos (fun h => g76 h.2.1)]))))
        ·
         refine A1 (oFp fd_33_0) ?_; refine A1 (oFp fd_29_5) ?_; refine A1 (oLb (L_Block_h.comp L_Head_work) ty_26) ?_; refine A1 (oFp fd_29_5) ?_; refine A1 (oLb L_Head_work ty_26) ?_; refine A1 (g_neqS rfl rfl rfl (eqt_26)) ?_; refine A0 oK ?_
         refine CN ?_
         refine aw_ifc (p := ¬ b.h.work = q.work) rfl (by simp) (fun ht83 => ?_) (fun ht83 => ?_)
         ·
          refine CQR ?_; refine A0 (oLs rfl rfl rfl ty_37) ?_; refine aw_store_b rfl rfl rfl rfl rfl (Lens.self _) ty_37 rfl ?_; refine A0 aV ?_; refine CN ?_
          exact aw_retr2 rfl rfl (rv_cell rfl rfl ty_37 (rpush_err (e := 7) (by rw [pushE_w hw, if_neg ht21, if_neg (fun h => h ⟨Classical.not_not.1 g29, Classical.not_not.1 g37, Classical.not_not.1 ht44⟩), if_neg (fun h => h.elim ht60 g53), if_pos (fun h => ht83 h.2.2)]) (by decide))) (rv_tmp (ret_eq rfl (Eq.symm (a := pushE t b) (by rw [pushE_w hw, if_neg ht21, if_neg (fun h => h ⟨Classical.not_not.1 g29, Classical.not_not.1 g37, Classical.not_not.1 ht44⟩), if_neg (fun h => h.elim ht60 g53), if_pos (fun h => ht83 h.2.2)]))))
         ·
          refine CSQR ?_; refine A0 (oFp fd_33_0) ?_; refine A0 (oLb L_Block_h ty_29) ?_; refine A0 (oCl (rheadMay_ok b.h) rfl fn_60 ⟨(arg_v rfl), trivial⟩) ?_; refine A0 aV ?_; refine CNQQR ?_; refine A0 mV ?_; refine A0 oN ?_; refine CN ?_
          refine aw_ifc (p := ¬ headMay b.h = true) rfl (by cases headMay b.h <;> rfl) (fun ht89 => ?_) (fun ht89 => ?_)
          ·
           refine CQR ?_; refine A0 (oLs rfl rfl rfl ty_37) ?_; refine aw_store_b rfl rfl rfl rfl rfl (Lens.self _) ty_37 rfl ?_; refine A0 aV ?_; refine CN ?_
           exact aw_retr2 rfl rfl (rv_cell rfl rfl ty_37 (rpush_err (e := 4) (by rw [pushE_w hw, if_neg ht21, if_neg (fun h => h ⟨Classical.not_not.1 g29, Classical.not_not.1 g37, Classical.not_not.1 ht44⟩), if_neg (fun h => h.elim ht60 g53), if_neg (fun h => h ⟨Classical.not_not.1 g68, Classical.not_not.1 g76, Classical.not_not.1 ht83⟩), if_pos ht89]) (by decide))) (rv_tmp (ret_eq rfl (Eq.symm (a := pushE t b) (by rw [pushE_w hw, if_neg ht21, if_neg (fun h => h ⟨Classical.not_not.1 g29, Classical.not_not.1 g37, Classical.not_not.1 ht44⟩), if_neg (fun h => h.elim ht60 g53), if_neg (fun h => h ⟨Classical.not_not.1 g68, Classical.not_not.1 g76, Classical.not_not.1 ht83⟩), if_pos ht89]))))
          ·
           refine CSQR ?_; refine A0 (oFp fd_37_2) ?_; refine A0 (oLb L_Tip_c ty_35) ?_; refine A0 (oFp fd_33_2) ?_; refine A0 (oLb L_Block_t ty_31) ?_; refine A0 (oCl (rapply_ok t.c b.t) rfl fn_50 ⟨(arg_v rfl), (arg_v rfl), trivial⟩) ?_
           refine A0 mX ?_; refine A0 (by first | exact g_x20 rfl rfl | exact g_x30 rfl rfl) ?_; refine A0 (by first | exact g_x21 rfl rfl | exact g_x31 rfl rfl) ?_; refine A0 aV ?_; refine A0 aV ?_; refine CNQQR ?_; refine A0 mV ?_; refine A0 o_neq ?_
           refine CN ?_
           refine aw_ifc (p := ¬ (applyOf t.c b.t).2 = 0) rfl (by simp [IntL.toI]) (fun ht100 => ?_) (fun ht100 => ?_)
           ·
            refine CQR ?_; refine A0 (oLs rfl rfl rfl ty_37) ?_; refine A0 mV ?_; refine aw_store_b rfl rfl rfl rfl rfl (Lens.self _) ty_37 rfl ?_; refine A0 aV ?_; refine CN ?_
            exact aw_retr2 rfl rfl (rv_cell rfl rfl ty_37 (rpush_err (e := (applyOf t.c b.t).2) (by rw [pushE_w hw, if_neg ht21, if_neg (fun h => h ⟨Classical.not_not.1 g29, Classical.not_not.1 g37, Classical.not_not.1 ht44⟩), if_neg (fun h => h.elim ht60 g53), if_neg (fun h => h ⟨Classical.not_not.1 g68, Classical.not_not.1 g76, Classical.not_not.1 ht83⟩), if_neg ht89]) ht100)) (rv_tmp (ret_eq rfl (Eq.symm (a := pushE t b) (by rw [pushE_w hw, if_neg ht21, if_neg (fun h => h ⟨Classical.not_not.1 g29, Classical.not_not.1 g37, Classical.not_not.1 ht44⟩), if_neg (fun h => h.elim ht60 g53), if_neg (fun h => h ⟨Classical.not_not.1 g68, Classical.not_not.1 g76, Classical.not_not.1 ht83⟩), if_neg ht89]))))
           ·
            refine CS ?_; refine CQ ?_; refine aw_drawx [some 1, some 1, some 1, some 1, some 1, some 1, some 1, some 1, some 1, none, some 1] mixed (by decide +kernel) ?_; refine X0 (oLs rfl rfl rfl ty_33) ?_; refine X0 (oFp fd_37_1) ?_
            refine X0 (oLb L_Tip_p ty_34) ?_; refine X0 (oFp fd_33_0) ?_; refine X0 (oLb L_Block_h ty_29) ?_; refine X0 (oCl (rleafH_ok b.h) rfl fn_43 ⟨(arg_v rfl), trivial⟩) ?_
            refine X0 (oCl (rmmrAppend_ok t.p (leafH b.h) htp) rfl fn_42 ⟨(arg_v rfl), (arg_v rfl), trivial⟩) ?_; refine X0 mV ?_
            refine X0 (g_build rfl ze_37 bd_37 (.cons fd_37_0 L_Tip_b ty_33 rfl (.cons fd_37_1 L_Tip_p ty_34 rfl (.cons fd_37_2 L_Tip_c ty_35 rfl .nil))) rfl) ?_
            refine XK.e (x := .idk) (fun fr' hfr kk H => by exact aw_store_b rfl rfl rfl ((hfr 4 (by decide +kernel)).trans rfl) rfl (Lens.self _) ty_37 ((hfr 111 (by decide +kernel)).trans rfl) (aw_nil H)) ?_; refine X0 aV ?_; refine XK.nil' ?_
            exact aw_retr2 rfl rfl (rv_cell rfl rfl ty_37 (rpush_ok0 (by rw [pushE_w hw, if_neg ht21, if_neg (fun h => h ⟨Classical.not_not.1 g29, Classical.not_not.1 g37, Classical.not_not.1 ht44⟩), if_neg (fun h => h.elim ht60 g53), if_neg (fun h => h ⟨Classical.not_not.1 g68, Classical.not_not.1 g76, Classical.not_not.1 ht83⟩), if_neg ht89, Classical.not_not.1 ht100]))) (rv_tmp (ret_eq rfl (Eq.symm (a := pushE t b) (by rw [pushE_w hw, if_neg ht21, if_neg (fun h => h ⟨Classical.not_not.1 g29, Classical.not_not.1 g37, Classical.not_not.1 ht44⟩), if_neg (fun h => h.elim ht60 g53), if_neg (fun h => h ⟨Classical.not_not.1 g68, Classical.not_not.1 g76, Classical.not_not.1 ht83⟩), if_neg ht89, Classical.not_not.1 ht100]))))
theorem rmineB_ok (t : Tip) (l : List Tx) (nonce : UInt64) (tries : Int) (hl : l.length ≤ 4000000000000) (hp : t.p.length ≤ 1000000) : Tells P 16 [.val tipT t, .val (sl txT) l, .val u64T nonce, .val i64T tries] (.tup2 (.val blockT (mineB t l nonce tries)) (.val i64T (mineBE t l nonce tries))) := by
 refine fn_of_aw Tryz.func16 rfl rfl rfl (fun ext w hext => ?_)
 refine aw_fact (d := 1) rfl fact_sl (fun hsl1 => ?_)
 refine aw_fact (d := 3) rfl fact_int (fun hin3 => ?_)
 refine CQR ?_; refine aw_box rfl rfl rfl rfl rfl ?_; refine aw_alloc ze_33 rfl rfl rfl rfl ?_; refine A0 aV ?_; refine CNQR ?_; refine A0 (oLs rfl rfl rfl ty_37) ?_; refine A0 mV ?_; refine A0 mV ?_
 refine A0 (oCl (rnextH_ok t l nonce hl hp) rfl fn_23 ⟨(arg_v rfl), (arg_v rfl), (arg_v rfl), trivial⟩) ?_; refine aw_alloc ze_29 rfl rfl rfl rfl ?_; refine aw_store_b rfl rfl rfl rfl rfl (Lens.self _) ty_29 rfl ?_; refine CNQQR ?_
 refine A0 (oFp fd_29_0) ?_; refine A0 (oLb L_Head_height ty_3) ?_; refine A0 o_geq ?_; refine CN ?_
 refine aw_ifc (p := 48 ≤ (nextH t l nonce).height) rfl (by simp [IntL.toI]) (fun ht21 => ?_) (fun ht21 => ?_)
 ·
  have hE : mineBE t l nonce tries = 3 := by unfold mineBE; rw [if_pos ht21]
  refine CQR ?_; refine A0 (g_build rfl ze_33 bd_33 .nil rfl) ?_; refine aw_store_b rfl rfl rfl rfl rfl (Lens.self _) ty_33 rfl ?_; refine A0 aV ?_; refine CN ?_
  exact aw_retr2 rfl rfl (rv_cell rfl rfl ty_33 (by unfold mineB; rw [hE]; rfl)) (rv_tmp (ret_eq rfl (hE.symm)))
 ·
  refine CSQR ?_; refine A0 (oFp fd_37_2) ?_; refine A0 (oLb L_Tip_c ty_35) ?_; refine A0 mV ?_; refine A0 (oCl (rapply_ok t.c l) rfl fn_50 ⟨(arg_v rfl), (arg_v rfl), trivial⟩) ?_; refine A0 mX ?_
  refine A0 (by first | exact g_x20 rfl rfl | exact g_x30 rfl rfl) ?_; refine A0 (by first | exact g_x21 rfl rfl | exact g_x31 rfl rfl) ?_; refine A0 aV ?_; refine A0 aV ?_; refine CNQQR ?_; refine A0 mV ?_; refine A0 o_neq ?_; refine CN ?_
  refine aw_ifc (p := ¬ (applyOf t.c l).2 = 0) rfl (by simp [IntL.toI]) (fun ht31 => ?_) (fun ht31 => ?_)
  ·
   have hE : mineBE t l nonce tries = (applyOf t.c l).2 := by unfold mineBE; rw [if_neg ht21, if_pos ht31]
   refine CQR ?_; refine A0 (g_build rfl ze_33 bd_33 .nil rfl) ?_; refine A0 mV ?_; refine aw_store_b rfl rfl rfl rfl rfl (Lens.self _) ty_33 rfl ?_; refine A0 aV ?_; refine CN ?_
   exact aw_retr2 rfl rfl (rv_cell rfl rfl ty_33 (by unfold mineB; rw [hE, if_neg ht31])) (rv_tmp (ret_eq rfl (hE.symm)))
  ·
   refine CSQR ?_; refine A0 (oLs rfl rfl rfl ty_29) ?_; refine A0 mV ?_; refine A0 (oCl (rmine_ok (nextH t l nonce) tries) rfl fn_51 ⟨(arg_v rfl), (arg_v rfl), trivial⟩) ?_; refine A0 mX ?_
   refine A0 (by first | exact g_x20 rfl rfl | exact g_x30 rfl rfl) ?_; refine A0 (by first | exact g_x21 rfl rfl | exact g_x31 rfl rfl) ?_; refine aw_alloc ze_29 rfl rfl rfl rfl ?_
   refine aw_store_b rfl rfl rfl rfl rfl (Lens.self _) ty_29 rfl ?_; refine A0 aV ?_; refine CNQQR ?_; refine A0 mV ?_; refine A0 oN ?_; refine CN ?_
   refine aw_ifc (p := ¬ (mineOf (nextH t l nonce) tries).isSome = true) rfl (by cases (mineOf (nextH t l nonce) tries).isSome <;> rfl) (fun ht41 => ?_) (fun ht41 => ?_)
   ·
    have hE : mineBE t l nonce tries = 4 := by unfold mineBE; rw [if_neg ht21, if_neg ht31, if_neg ht41]
    refine CQR ?_; refine A0 (g_build rfl ze_33 bd_33 .nil rfl) ?_; refine aw_store_b rfl rfl rfl rfl rfl (Lens.self _) ty_33 rfl ?_; refine A0 aV ?_; refine CN ?_
    exact aw_retr2 rfl rfl (rv_cell rfl rfl ty_33 (by unfold mineB; rw [hE]; rfl)) (rv_tmp (ret_eq rfl (hE.symm)))
   ·
    have hE : mineBE t l nonce tries = 0 := by unfold mineBE; rw [if_neg ht21, if_neg ht31, if_pos (Classical.not_not.1 ht41)]
    refine CS ?_; refine CQ ?_; refine aw_drawx [some 1, some 1, some 1, some 1, some 1, none, some 1] mixed (by decide +kernel) ?_; refine X0 (oLs rfl rfl rfl ty_29) ?_; refine X0 (oLs rfl rfl rfl ty_37) ?_
    refine X0 (oCl (tells_pub (rlinksT_ok t)) rfl fn_52 ⟨(arg_v rfl), trivial⟩) ?_; refine X0 mV ?_
    refine X0 (g_build rfl ze_33 bd_33 (.cons fd_33_0 L_Block_h ty_29 rfl (.cons fd_33_1 L_Block_l ty_30 rfl (.cons fd_33_2 L_Block_t ty_31 rfl .nil))) rfl) ?_
    refine XK.e (x := .idk) (fun fr' hfr kk H => by exact aw_store_b rfl rfl rfl ((hfr 8 (by decide +kernel)).trans rfl) rfl (Lens.self _) ty_33 ((hfr 47 (by decide +kernel)).trans rfl) (aw_nil H)) ?_; refine X0 aV ?_; refine XK.nil' ?_
    exact aw_retr2 rfl rfl (rv_cell rfl rfl ty_33 (by unfold mineB; rw [hE, if_pos rfl])) (rv_tmp (ret_eq rfl (hE.symm)))
end Go.Proofs.YtgoiacajjicjcaaGreat
set_option maxRecDepth 20000
namespace Go.Proofs.YtgoiacajjicjcaaGreat
set_option linter.unusedVariables false
set_option linter.unusedSimpArgs false
open Go.Ab Go.RowKit
theorem BlockTells_ok (t : Tip) (b c : Block) (bits : UInt32) (nonce : UInt64) (tries : Int) : Tells P 3 [.val tipT t, .val blockT b, .val blockT c, .val u32T bits, .val u64T nonce, .val i64T tries] (.val boolT true) := by
 refine fn_of_aw Tryz.func3 rfl rfl rfl (fun ext w hext => ?_)
 refine aw_fact (d := 5) rfl fact_int (fun hin5 => ?_)
 refine CQR ?_; refine aw_box rfl rfl rfl rfl rfl ?_; refine aw_box rfl rfl rfl rfl rfl ?_; refine aw_box rfl rfl rfl rfl rfl ?_; refine A0 aV ?_; refine CNQR ?_; refine A0 (oCl (awake11_ok) rfl fn_10 trivial) ?_; refine A0 aV ?_
 refine CNQR ?_; refine A0 (oLs rfl rfl rfl ty_37) ?_; refine A0 (oCl (fewTip_ok _) rfl fn_11 ⟨(arg_v rfl), trivial⟩) ?_; refine A0 aV ?_; refine CNQR ?_; refine A0 (oLs rfl rfl rfl ty_33) ?_
 refine A0 (oCl (fewB_ok _) rfl fn_12 ⟨(arg_v rfl), trivial⟩) ?_; refine A0 aV ?_; refine CNQR ?_; refine A0 (oLs rfl rfl rfl ty_33) ?_; refine A0 (oCl (fewB_ok _) rfl fn_12 ⟨(arg_v rfl), trivial⟩) ?_; refine A0 aV ?_; refine CNQQR ?_
 refine A0 mV ?_; refine A0 oN ?_; refine A0 mV ?_; refine aw_isf (d := 42) rfl (rfl) ?_; refine A1 mV ?_; refine A1 oN ?_; refine A0 oK ?_; refine A0 mV ?_
 refine aw_splitp (d := 46) (p := ¬ fewTip t = true) rfl (by cases fewTip t <;> rfl) (fun g46 => ?_) (fun g46 => ?_)
 ·
  refine A2 ?_; refine A2 ?_; refine A0 oK ?_; refine A0 mV ?_; refine A2 ?_; refine A2 ?_; refine A0 oK ?_; refine A0 mV ?_; refine A2 ?_; refine A2 ?_; refine A0 oK ?_; refine CN ?_; refine Ct ?_; refine CQR ?_; refine A0 mV ?_
  refine A0 aV ?_; refine CN ?_
  exact aw_ret1 rfl rfl (ret_eq rfl rfl)
 ·
  refine A1 mV ?_; refine A1 oN ?_; refine A0 oK ?_; refine A0 mV ?_
  refine aw_splitp (d := 50) (p := ¬ fewB b = true) rfl (by cases fewB b <;> rfl) (fun g50 => ?_) (fun g50 => ?_)
  ·
   refine A2 ?_; refine A2 ?_; refine A0 oK ?_; refine A0 mV ?_; refine A2 ?_; refine A2 ?_; refine A0 oK ?_; refine CN ?_; refine Ct ?_; refine CQR ?_; refine A0 mV ?_; refine A0 aV ?_; refine CN ?_
   exact aw_ret1 rfl rfl (ret_eq rfl (by simp))
  ·
   refine A1 mV ?_; refine A1 oN ?_; refine A0 oK ?_; refine A0 mV ?_
   refine aw_splitp (d := 54) (p := ¬ fewB c = true) rfl (by cases fewB c <;> rfl) (fun g54 => ?_) (fun g54 => ?_)
   ·
    refine A2 ?_; refine A2 ?_; refine A0 oK ?_; refine CN ?_; refine Ct ?_; refine CQR ?_; refine A0 mV ?_; refine A0 aV ?_; refine CN ?_
    exact aw_ret1 rfl rfl (ret_eq rfl (by simp))
   ·
    refine A1 mV ?_; refine A1 o_gtr ?_; refine A0 oK ?_; refine CN ?_
    refine Cf (p := 20 < tries) (fun ht57 => ?_) (fun ht57 => ?_)
    ·
     refine CQR ?_; refine A0 mV ?_; refine A0 aV ?_; refine CN ?_
     exact aw_ret1 rfl rfl (ret_eq rfl (by simp))
    ·
     have hst := fewTip_small (Classical.not_not.1 g46)
     have hsb := fewB_small (Classical.not_not.1 g50)
     have hbt := hsb.2.1
     have htp := hst.2.1
     refine CSQR ?_; refine A0 mV ?_; refine A0 (oCl (firstTip_ok bits) rfl fn_13 ⟨(arg_v rfl), trivial⟩) ?_; refine A0 mX ?_; refine A0 (by first | exact g_x20 rfl rfl | exact g_x30 rfl rfl) ?_
     refine A0 (by first | exact g_x21 rfl rfl | exact g_x31 rfl rfl) ?_; refine aw_alloc ze_37 rfl rfl rfl rfl ?_; refine aw_store_b rfl rfl rfl rfl rfl (Lens.self _) ty_37 rfl ?_; refine A0 aV ?_; refine CNQR ?_; refine A0 mV ?_
     refine A0 (oCl (rfirstTip_ok bits) rfl fn_14 ⟨(arg_v rfl), trivial⟩) ?_; refine A0 mX ?_; refine A0 (by first | exact g_x20 rfl rfl | exact g_x30 rfl rfl) ?_; refine A0 (by first | exact g_x21 rfl rfl | exact g_x31 rfl rfl) ?_
     refine aw_alloc ze_37 rfl rfl rfl rfl ?_; refine aw_store_b rfl rfl rfl rfl rfl (Lens.self _) ty_37 rfl ?_; refine A0 aV ?_; refine CNQR ?_; refine A0 (oLs rfl rfl rfl ty_37) ?_; refine A0 (oFp fd_33_2) ?_; refine A0 (oLb L_Block_t ty_31) ?_
     refine A0 mV ?_; refine A0 mV ?_; refine A0 (oCl (mineB_ok t b.t nonce tries hst hsb.2) rfl fn_15 ⟨(arg_v rfl), (arg_v rfl), (arg_v rfl), (arg_v rfl), trivial⟩) ?_; refine A0 mX ?_
     refine A0 (by first | exact g_x20 rfl rfl | exact g_x30 rfl rfl) ?_; refine A0 (by first | exact g_x21 rfl rfl | exact g_x31 rfl rfl) ?_; refine aw_alloc ze_33 rfl rfl rfl rfl ?_
     refine aw_store_b rfl rfl rfl rfl rfl (Lens.self _) ty_33 rfl ?_; refine A0 aV ?_; refine CNQR ?_; refine A0 (oLs rfl rfl rfl ty_37) ?_; refine A0 (oFp fd_33_2) ?_; refine A0 (oLb L_Block_t ty_31) ?_; refine A0 mV ?_; refine A0 mV ?_
     refine A0 (oCl (rmineB_ok t b.t nonce tries (by omega) (by omega)) rfl fn_16 ⟨(arg_v rfl), (arg_v rfl), (arg_v rfl), (arg_v rfl), trivial⟩) ?_; refine A0 mX ?_; refine A0 (by first | exact g_x20 rfl rfl | exact g_x30 rfl rfl) ?_
     refine A0 (by first | exact g_x21 rfl rfl | exact g_x31 rfl rfl) ?_; refine aw_alloc ze_33 rfl rfl rfl rfl ?_; refine aw_store_b rfl rfl rfl rfl rfl (Lens.self _) ty_33 rfl ?_; refine A0 aV ?_; refine CNQR ?_
     refine A0 (oLs rfl rfl rfl ty_37) ?_; refine A0 (oLs rfl rfl rfl ty_33) ?_; refine A0 (oCl (push_ok t b hst hsb) rfl fn_17 ⟨(arg_v rfl), (arg_v rfl), trivial⟩) ?_; refine A0 mX ?_
     refine A0 (by first | exact g_x20 rfl rfl | exact g_x30 rfl rfl) ?_; refine A0 (by first | exact g_x21 rfl rfl | exact g_x31 rfl rfl) ?_; refine aw_alloc ze_37 rfl rfl rfl rfl ?_
     refine aw_store_b rfl rfl rfl rfl rfl (Lens.self _) ty_37 rfl ?_; refine A0 aV ?_; refine CNQR ?_; refine A0 (oLs rfl rfl rfl ty_37) ?_; refine A0 (oLs rfl rfl rfl ty_33) ?_
     refine A0 (oCl (rpush_ok t b (by omega) (by omega)) rfl fn_18 ⟨(arg_v rfl), (arg_v rfl), trivial⟩) ?_; refine A0 mX ?_; refine A0 (by first | exact g_x20 rfl rfl | exact g_x30 rfl rfl) ?_
     refine A0 (by first | exact g_x21 rfl rfl | exact g_x31 rfl rfl) ?_; refine aw_alloc ze_37 rfl rfl rfl rfl ?_; refine aw_store_b rfl rfl rfl rfl rfl (Lens.self _) ty_37 rfl ?_; refine A0 aV ?_; refine CNQR ?_
     refine A0 (oLs rfl rfl rfl ty_37) ?_; refine A0 (oLs rfl rfl rfl ty_37) ?_; refine A0 (oCl (refTips_ok (firstTip bits) (firstTip bits)) rfl fn_19 ⟨(arg_v rfl), (arg_v rfl), trivial⟩) ?_; refine A0 aV ?_; refine CNQR ?_
     refine A0 (oLs rfl rfl rfl ty_33) ?_; refine A0 (oLs rfl rfl rfl ty_33) ?_; refine A0 (oCl (refB_ok (mineB t b.t nonce tries) (mineB t b.t nonce tries)) rfl fn_20 ⟨(arg_v rfl), (arg_v rfl), trivial⟩) ?_; refine A0 aV ?_; refine CNQR ?_
     refine A0 (oLs rfl rfl rfl ty_37) ?_; refine A0 (oLs rfl rfl rfl ty_37) ?_; refine A0 (oCl (refTips_ok (pushT t b) (pushT t b)) rfl fn_19 ⟨(arg_v rfl), (arg_v rfl), trivial⟩) ?_; refine A0 aV ?_; refine CNQR ?_
     refine A0 (oLs rfl rfl rfl ty_33) ?_; refine A0 (oLs rfl rfl rfl ty_33) ?_; refine A0 (oCl (refB_ok b c) rfl fn_20 ⟨(arg_v rfl), (arg_v rfl), trivial⟩) ?_; refine A0 aV ?_; refine CNQ ?_; refine CD mixed ?_; refine G0 mV ?_; refine G0 mV ?_
     refine GK_ist (d := 112) rfl (by simp) ?_; refine G1 mV ?_; refine G1 mV ?_; refine G1 (g_eqlB rfl rfl rfl ub_4) ?_; refine G0 oK ?_; refine G0 mV ?_; refine GK_ist (d := 117) rfl (by simp) ?_; refine G1 mV ?_; refine G0 oK ?_
     refine G0 mV ?_; refine GK_ist (d := 120) rfl (by simp) ?_; refine G1 mV ?_; refine G1 mV ?_; refine G1 o_eql ?_; refine G0 oK ?_; refine G0 mV ?_; refine GK_ist (d := 125) rfl (by simp) ?_; refine G1 mV ?_; refine G0 oK ?_; refine G0 mV ?_
     refine GK_ist (d := 128) rfl (by simp) ?_; refine G1 mV ?_; refine G1 mV ?_; refine G1 o_eql ?_; refine G0 oK ?_; refine G0 mV ?_; refine GK_ist (d := 133) rfl (by simp) ?_; refine G1 (oLs rfl rfl rfl ty_33) ?_
     refine G1 (oLs rfl rfl rfl ty_33) ?_; refine G1 (oCl (sameB_ok b c) rfl fn_21 ⟨(arg_v rfl), (arg_v rfl), trivial⟩) ?_; refine G1 mV ?_; refine G1 (g_eqlB rfl rfl rfl ub_4) ?_; refine G0 oK ?_; refine G0 mV ?_
     refine GK_ist (d := 140) rfl (by simp) ?_; refine G1 (oLs rfl rfl rfl ty_37) ?_; refine G1 (oFp fd_33_2) ?_; refine G1 (oLb L_Block_t ty_31) ?_; refine G1 mV ?_
     refine G1 (oCl (nextH_ok t b.t nonce (by omega) (by omega)) rfl fn_22 ⟨(arg_v rfl), (arg_v rfl), (arg_v rfl), trivial⟩) ?_; refine G1 (oLs rfl rfl rfl ty_37) ?_; refine G1 (oFp fd_33_2) ?_; refine G1 (oLb L_Block_t ty_31) ?_; refine G1 mV ?_
     refine G1 (oCl (rnextH_ok t b.t nonce (by omega) (by omega)) rfl fn_23 ⟨(arg_v rfl), (arg_v rfl), (arg_v rfl), trivial⟩) ?_; refine G1 (g_eqlS rfl rfl rfl (eqt_29)) ?_; refine G0 oK ?_; refine G0 aV ?_; refine GK.nil ?_
     exact aw_ret1 rfl rfl (ret_eq rfl (by simp))
end Go.Proofs.YtgoiacajjicjcaaGreat
