/- Parts of the proof: the layer that reads Go values as data, and what the functions of the program tell. -/
import Derived.Test.YtfepfajcdkllfaaGreatK4
set_option maxRecDepth 20000
namespace Go.Proofs.YtfepfajcdkllfaaGreat
set_option linter.unusedVariables false
set_option linter.unusedSimpArgs false
open Go.Ab Go.RowKit
def pushE (t : Tip) (b : Block) : Int :=
  if 48 ≤ b.h.height then 3 else if ¬ behindH b.h = behindH (nextH t b.t b.h.nonce) then 5 else
  if ¬ b.h.links = (nextH t b.t b.h.nonce).links ∨ ¬ b.l = linksT t then 6 else if ¬ b.h = nextH t b.t b.h.nonce then 7 else
  if ¬ headMay b.h = true then 4 else (applyOf t.c b.t).2
def pushT (t : Tip) (b : Block) : Tip := if pushE t b = 0 then ⟨b, mmrAppend t.p (leafH b.h), (applyOf t.c b.t).1⟩ else t
def mineBE (t : Tip) (l : List Tx) (nonce : UInt64) (tries : Int) : Int :=
  if 48 ≤ (nextH t l nonce).height then 3 else if ¬ (applyOf t.c l).2 = 0 then (applyOf t.c l).2 else if (mineOf (nextH t l nonce) tries).isSome = true then 0 else 4
def mineB (t : Tip) (l : List Tx) (nonce : UInt64) (tries : Int) : Block :=
  if mineBE t l nonce tries = 0 then ⟨(mineOf (nextH t l nonce) tries).getD (nextH t l nonce), linksT t, l⟩ else zBlock
theorem ask_two {x : Trial} : firstE [some 48, some 53] x = if 48 ≤ x.b.h.height then 3 else (applyOf x.t.c x.b.t).2 := by
  show (if sizeE x = 0 then (if coinsE x = 0 then 0 else coinsE x) else sizeE x) = _
  unfold sizeE coinsE
  by_cases h : 48 ≤ x.b.h.height
  · rw [if_pos h, if_pos h, if_neg (by decide)]
  · rw [if_neg h, if_neg h, if_pos rfl]; split <;> simp_all
theorem ite_stop {p : Prop} [Decidable p] {e r : Int} (he : e ≠ 0) : (if (if p then e else 0) = 0 then r else (if p then e else 0)) = if p then e else r := by
  by_cases h : p
  · rw [if_pos h, if_pos h, if_neg he]
  · rw [if_neg h, if_neg h, if_pos rfl]
theorem ask_all {t : Tip} {b : Block} {c : List Coin} : firstE [some 48, some 49, some 50, some 51, some 52, some 53] ⟨t, b, nextH t b.t b.h.nonce, c⟩ = pushE t b := by
  obtain ⟨x, hx⟩ : ∃ x : Trial, x = ⟨t, b, nextH t b.t b.h.nonce, c⟩ := ⟨_, rfl⟩
  have e : pushE t b = pushE x.t x.b := by rw [hx]
  have hw : x.want = nextH x.t x.b.t x.b.h.nonce := by rw [hx]
  rw [e, ← hx]
  show (if sizeE x = 0 then (if prevE x = 0 then (if linkE x = 0 then (if rootE x = 0 then (if workE x = 0 then (if coinsE x = 0 then 0 else coinsE x) else workE x) else rootE x) else linkE x) else prevE x) else sizeE x) = _
  have hc : (if coinsE x = 0 then 0 else coinsE x) = coinsE x := by split <;> simp_all
  rw [hc]
  unfold sizeE prevE linkE rootE workE coinsE pushE
  rw [ite_stop (by decide), ite_stop (by decide), ite_stop (by decide), ite_stop (by decide), ite_stop (by decide), hw]
theorem ask_allX {t : Tip} {b : Block} {c : List Coin} (h : pushE t b = 0) : (firstX [some 48, some 49, some 50, some 51, some 52, some 53] ⟨t, b, nextH t b.t b.h.nonce, c⟩).c = (applyOf t.c b.t).1 := by
  obtain ⟨x, hx⟩ : ∃ x : Trial, x = ⟨t, b, nextH t b.t b.h.nonce, c⟩ := ⟨_, rfl⟩
  have hw : x.want = nextH x.t x.b.t x.b.h.nonce := by rw [hx]
  have h : pushE x.t x.b = 0 := by rw [hx]; exact h
  have e : (applyOf t.c b.t).1 = (applyOf x.t.c x.b.t).1 := by rw [hx]
  rw [e, ← hx]
  show (if sizeE x = 0 then (if prevE x = 0 then (if linkE x = 0 then (if rootE x = 0 then (if workE x = 0 then (if coinsE x = 0 then coinsX x else coinsX x) else x) else x) else x) else x) else x).c = _
  unfold pushE at h
  rw [← hw] at h
  by_cases h1 : 48 ≤ x.b.h.height
  · rw [if_pos h1] at h; exact absurd h (by decide)
  rw [if_neg h1] at h
  by_cases h2 : ¬ behindH x.b.h = behindH x.want
  · rw [if_pos h2] at h; exact absurd h (by decide)
  rw [if_neg h2] at h
  by_cases h3 : ¬ x.b.h.links = x.want.links ∨ ¬ x.b.l = linksT x.t
  · rw [if_pos h3] at h; exact absurd h (by decide)
  rw [if_neg h3] at h
  by_cases h4 : ¬ x.b.h = x.want
  · rw [if_pos h4] at h; exact absurd h (by decide)
  rw [if_neg h4] at h
  by_cases h5 : ¬ headMay x.b.h = true
  · rw [if_pos h5] at h; exact absurd h (by decide)
  rw [if_neg h5] at h
  unfold sizeE prevE linkE rootE workE coinsE
  rw [if_neg h1, if_neg h2, if_neg h3, if_neg h4, if_neg h5, if_pos rfl, if_pos rfl, if_pos rfl, if_pos rfl, if_pos rfl, if_pos h]
  rfl
theorem asks_all : ∀ f ∈ ([some 48, some 49, some 50, some 51, some 52, some 53] : List (Option Nat)), Asks f := by intro f hf; simp at hf; unfold Asks; exact hf
theorem asks_two : ∀ f ∈ ([some 48, some 53] : List (Option Nat)), Asks f := by intro f hf; simp at hf; unfold Asks; rcases hf with h | h <;> simp [h]
theorem mineBE_err {t : Tip} {l : List Tx} {nonce : UInt64} {tries : Int} (h : ¬ (if 48 ≤ (nextH t l nonce).height then 3 else (applyOf t.c l).2) = 0) : mineBE t l nonce tries = (if 48 ≤ (nextH t l nonce).height then 3 else (applyOf t.c l).2) := by
  unfold mineBE
  split
  · rfl
  · rename_i h1; rw [if_neg h1] at h; rw [if_pos h]
theorem mineBE_work {t : Tip} {l : List Tx} {nonce : UInt64} {tries : Int} (h : (if 48 ≤ (nextH t l nonce).height then 3 else (applyOf t.c l).2) = 0) (h2 : ¬ (mineOf (nextH t l nonce) tries).isSome = true) : mineBE t l nonce tries = 4 := by
  unfold mineBE
  split
  · rename_i h1; rw [if_pos h1] at h; exact absurd h (by decide)
  · rename_i h1; rw [if_neg h1] at h; simp only [h, h2, not_true_eq_false, if_false]
theorem mineBE_ok {t : Tip} {l : List Tx} {nonce : UInt64} {tries : Int} (h : (if 48 ≤ (nextH t l nonce).height then 3 else (applyOf t.c l).2) = 0) (h2 : (mineOf (nextH t l nonce) tries).isSome = true) : mineBE t l nonce tries = 0 := by
  unfold mineBE
  split
  · rename_i h1; rw [if_pos h1] at h; exact absurd h (by decide)
  · rename_i h1; rw [if_neg h1] at h; simp only [h, h2, not_true_eq_false, if_false]
theorem push_ok (t : Tip) (b : Block) (ht : smallTip t) (hb : smallB b) : Tells P 18 [.val tipT t, .val blockT b] (.tup2 (.val tipT (pushT t b)) (.val i64T (pushE t b))) := by
 have hbt := hb.2.1
 have htp := ht.2.1
 refine fn_of_aw Tryz.func18 rfl rfl rfl (fun ext w hext => ?_)
 refine CQR ?_; refine aw_box rfl rfl rfl rfl rfl ?_; refine aw_box rfl rfl rfl rfl rfl ?_; refine aw_alloc ze_41 rfl rfl rfl rfl ?_; refine A0 aV ?_; refine CNQ ?_
 refine aw_drawx [some 1, some 1, some 1, some 1, some 1, some 1, some 1, some 1, some 1, some 1, none, some 1] mixed (by decide +kernel) ?_; refine X0 (oLs rfl rfl rfl ty_41) ?_; refine X0 (oLs rfl rfl rfl ty_37) ?_
 refine X0 (oLs rfl rfl rfl ty_41) ?_; refine X0 (oFp fd_37_2) ?_; refine X0 (oLb L_Block_t ty_23) ?_; refine X0 (oFp fd_37_0) ?_; refine X0 (oFp fd_34_7) ?_; refine X0 (oLb (L_Block_h.comp L_Head_nonce) ty_24) ?_
 refine X0 (oCl (nextH_ok t b.t b.h.nonce (by omega) (by omega)) rfl fn_47 ⟨(arg_v rfl), (arg_v rfl), (arg_v rfl), trivial⟩) ?_
 refine X0 (g_build rfl ze_94 bd_94 (.cons fd_94_0 L_Trial_t ty_41 rfl (.cons fd_94_1 L_Trial_b ty_37 rfl (.cons fd_94_2 L_Trial_want ty_34 rfl .nil))) rfl) ?_
 refine XK.e (fun fr' hfr kk H => by exact aw_box rfl rfl rfl rfl ((hfr 18 (by decide +kernel)).trans rfl) (aw_nil H)) ?_; refine X0 aP ?_; refine XK.nil' ?_; refine CQR ?_
 refine A0 (g_buildF (xs := [_, _, _, _, _, _]) rfl ar_97 ze_97 ⟨rfl, ⟨_, rfl, rfl⟩, rfl, ⟨_, rfl, rfl⟩, rfl, ⟨_, rfl, rfl⟩, rfl, ⟨_, rfl, rfl⟩, rfl, ⟨_, rfl, rfl⟩, rfl, ⟨_, rfl, rfl⟩, trivial⟩ rfl) ?_; refine aw_alloc ze_97 rfl rfl rfl rfl ?_
 refine aw_store_b rfl rfl rfl rfl rfl (Lens.self _) ty_97 rfl ?_; refine CNQ ?_; refine CQ ?_; refine aw_freeze (d := 7) rfl rfl (Lens.self _) ?_; refine CR ?_; refine A0 mP ?_; refine A0 (g_slice_r rfl rfl ar_97 rfl rfl) ?_
 refine aw_callu (first_ok ⟨t, b, nextH t b.t b.h.nonce, []⟩ [some 48, some 49, some 50, some 51, some 52, some 53] ⟨ht, by show b.t.length ≤ 4000000000000; omega⟩ asks_all) rfl fn_54 rfl trivial trivial rfl ⟨(by first | exact argm_own rfl | exact argm_ptr rfl | exact argm_same rfl | exact argm_bsl rfl | exact argm_lit rfl | exact argm_clo rfl | exact argm_row rfl rfl (by decide)), (by first | exact argm_own rfl | exact argm_ptr rfl | exact argm_same rfl | exact argm_bsl rfl | exact argm_lit rfl | exact argm_clo rfl | exact argm_row rfl rfl (by decide)), trivial⟩ rfl rfl rfl ?_
 refine aw_reval (d := 23) rfl ask_all ?_; refine A0 aV ?_; refine CNQR ?_; refine A0 mV ?_; refine A0 o_neq ?_; refine CN ?_
 refine aw_ifc (p := ¬ pushE t b = 0) rfl (by simp [IntL.toI]) (fun ht25 => ?_) (fun ht25 => ?_)
 ·
  refine CQR ?_; refine A0 (oLs rfl rfl rfl ty_41) ?_; refine A0 (oCl (own_ok t ht) rfl fn_55 ⟨(arg_v rfl), trivial⟩) ?_; refine A0 mV ?_; refine aw_store_b rfl rfl rfl rfl rfl (Lens.self _) ty_41 rfl ?_; refine A0 aV ?_; refine CN ?_
  exact aw_retr2 rfl rfl (rv_cell rfl rfl ty_41 (by unfold pushT; rw [if_neg ht25])) (rv_tmp (ret_eq rfl (rfl)))
 ·
  refine CS ?_; refine CQ ?_; refine aw_drawx [some 1, some 1, some 1, some 1, some 1, some 1, some 1, some 1, some 1, some 1, some 1, some 1, some 1, none, some 1] mixed (by decide +kernel) ?_; refine X0 (oLs rfl rfl rfl ty_37) ?_
  refine X0 (oCl (copied_ok b hb) rfl fn_56 ⟨(arg_v rfl), trivial⟩) ?_; refine X0 (oFp fd_41_1) ?_; refine X0 (oLb L_Tip_p ty_38) ?_; refine X0 (oFp fd_37_0) ?_; refine X0 (oLb L_Block_h ty_34) ?_
  refine X0 (oCl (leafH_ok _) rfl fn_57 ⟨(arg_v rfl), trivial⟩) ?_; refine X0 (oCl (tells_pub (mmrAppend_ok t.p (leafH b.h) (by omega))) rfl fn_33 ⟨(arg_v rfl), (arg_v rfl), trivial⟩) ?_; refine X0 mP ?_; refine X0 (g_nc rfl rfl) ?_
  refine X0 (oFp fd_94_3) ?_; refine X0 (oLb L_Trial_c ty_39) ?_; refine X0 (g_build rfl ze_41 bd_41 (.cons fd_41_0 L_Tip_b ty_37 rfl (.cons fd_41_1 L_Tip_p ty_38 rfl (.cons fd_41_2 L_Tip_c ty_39 rfl .nil))) rfl) ?_
  refine XK.e (x := .idk) (fun fr' hfr kk H => by exact aw_store_b rfl rfl rfl ((hfr 4 (by decide +kernel)).trans rfl) rfl (Lens.self _) ty_41 ((hfr 41 (by decide +kernel)).trans rfl) (aw_nil H)) ?_; refine X0 aV ?_; refine XK.nil' ?_
  exact aw_retr2 rfl rfl (rv_cell rfl rfl ty_41 (by unfold pushT; rw [if_pos (Classical.not_not.1 ht25), ask_allX (Classical.not_not.1 ht25)])) (rv_tmp (ret_eq rfl ((Classical.not_not.1 ht25).symm)))
theorem mineB_ok (t : Tip) (l : List Tx) (nonce : UInt64) (tries : Int) (ht : smallTip t) (hl : smallL l) : Tells P 41 [.val tipT t, .val (sl txT) l, .val u64T nonce, .val i64T tries] (.tup2 (.val blockT (mineB t l nonce tries)) (.val i64T (mineBE t l nonce tries))) := by
 have hbt := hl.1
 have htp := ht.2.1
 refine fn_of_aw Tryz.func41 rfl rfl rfl (fun ext w hext => ?_)
 refine aw_fact (d := 1) rfl fact_sl (fun hsl1 => ?_)
 refine aw_fact (d := 3) rfl fact_int (fun hin3 => ?_)
 refine CQR ?_; refine aw_box rfl rfl rfl rfl rfl ?_; refine aw_alloc ze_37 rfl rfl rfl rfl ?_; refine A0 aV ?_; refine CNQR ?_; refine A0 (oLs rfl rfl rfl ty_41) ?_; refine A0 mV ?_; refine A0 mV ?_
 refine A0 (oCl (nextH_ok t l nonce (by omega) (by omega)) rfl fn_47 ⟨(arg_v rfl), (arg_v rfl), (arg_v rfl), trivial⟩) ?_; refine aw_alloc ze_34 rfl rfl rfl rfl ?_; refine aw_store_b rfl rfl rfl rfl rfl (Lens.self _) ty_34 rfl ?_
 refine CNQR ?_; refine A0 (oLs rfl rfl rfl ty_41) ?_; refine A0 (oLs rfl rfl rfl ty_34) ?_; refine A0 mV ?_; refine A0 (g_build rfl ze_37 bd_37 (.cons fd_37_0 L_Block_h ty_34 rfl (.cons fd_37_2 L_Block_t ty_23 rfl .nil)) rfl) ?_
 refine A0 (oLs rfl rfl rfl ty_34) ?_; refine A0 (g_build rfl ze_94 bd_94 (.cons fd_94_0 L_Trial_t ty_41 rfl (.cons fd_94_1 L_Trial_b ty_37 rfl (.cons fd_94_2 L_Trial_want ty_34 rfl .nil))) rfl) ?_; refine aw_box rfl rfl rfl rfl rfl ?_
 refine A0 aP ?_; refine CNQQR ?_; refine A0 mP ?_; refine A0 (g_bslF (xs := [_, _]) rfl sl_99 row_99 ⟨rfl, ⟨_, rfl, rfl⟩, rfl, ⟨_, rfl, rfl⟩, trivial⟩ rfl rfl) ?_
 refine aw_callu (first_ok ⟨t, ⟨nextH t l nonce, [], l⟩, nextH t l nonce, []⟩ [some 48, some 53] ⟨ht, by show l.length ≤ 4000000000000; omega⟩ asks_two) rfl fn_54 rfl trivial trivial rfl ⟨(by first | exact argm_own rfl | exact argm_ptr rfl | exact argm_same rfl | exact argm_bsl rfl | exact argm_lit rfl | exact argm_clo rfl | exact argm_row rfl rfl (by decide)), (by first | exact argm_own rfl | exact argm_ptr rfl | exact argm_same rfl | exact argm_bsl rfl | exact argm_lit rfl | exact argm_clo rfl | exact argm_row rfl rfl (by decide)), trivial⟩ rfl rfl rfl ?_
 refine aw_reval (d := 27) rfl ask_two ?_; refine A0 aV ?_; refine CNQR ?_; refine A0 mV ?_; refine A0 o_neq ?_; refine CN ?_
 refine aw_ifc (p := ¬ (if 48 ≤ (nextH t l nonce).height then 3 else (applyOf t.c l).2) = 0) rfl (by simp [IntL.toI]) (fun ht29 => ?_) (fun ht29 => ?_)
 ·
  have hE : mineBE t l nonce tries = (if 48 ≤ (nextH t l nonce).height then 3 else (applyOf t.c l).2) := mineBE_err ht29
  refine CQR ?_; refine A0 (g_build rfl ze_37 bd_37 .nil rfl) ?_; refine A0 mV ?_; refine aw_store_b rfl rfl rfl rfl rfl (Lens.self _) ty_37 rfl ?_; refine A0 aV ?_; refine CN ?_
  exact aw_retr2 rfl rfl (rv_cell rfl rfl ty_37 (by unfold mineB; rw [hE, if_neg ht29])) (rv_tmp (ret_eq rfl (hE.symm)))
 ·
  refine CSQR ?_; refine A0 (oLs rfl rfl rfl ty_34) ?_; refine A0 mV ?_; refine A0 (oCl (mine_ok (nextH t l nonce) tries) rfl fn_94 ⟨(arg_v rfl), (arg_v rfl), trivial⟩) ?_; refine A0 mX ?_
  refine A0 (by first | exact g_x20 rfl rfl | exact g_x30 rfl rfl) ?_; refine A0 (by first | exact g_x21 rfl rfl | exact g_x31 rfl rfl) ?_; refine aw_store_b rfl rfl rfl rfl rfl (Lens.self _) ty_34 rfl ?_; refine A0 aV ?_; refine CNQQR ?_
  refine A0 mV ?_; refine A0 oN ?_; refine CN ?_
  refine aw_ifc (p := ¬ (mineOf (nextH t l nonce) tries).isSome = true) rfl (by cases (mineOf (nextH t l nonce) tries).isSome <;> rfl) (fun ht39 => ?_) (fun ht39 => ?_)
  ·
   have hE : mineBE t l nonce tries = 4 := mineBE_work (Classical.not_not.1 ht29) ht39
   refine CQR ?_; refine A0 (g_build rfl ze_37 bd_37 .nil rfl) ?_; refine aw_store_b rfl rfl rfl rfl rfl (Lens.self _) ty_37 rfl ?_; refine A0 aV ?_; refine CN ?_
   exact aw_retr2 rfl rfl (rv_cell rfl rfl ty_37 (by unfold mineB; rw [hE]; rfl)) (rv_tmp (ret_eq rfl (hE.symm)))
  ·
   have hE : mineBE t l nonce tries = 0 := mineBE_ok (Classical.not_not.1 ht29) (Classical.not_not.1 ht39)
   refine CS ?_; refine CQ ?_; refine aw_drawx [some 1, some 1, some 1, some 1, some 1, some 1, none, some 1] mixed (by decide +kernel) ?_; refine X0 (oLs rfl rfl rfl ty_34) ?_; refine X0 (oLs rfl rfl rfl ty_41) ?_
   refine X0 (oCl (tells_pub (linksT_ok t)) rfl fn_95 ⟨(arg_v rfl), trivial⟩) ?_; refine X0 mV ?_; refine X0 (oCl (tells_pub (txs_ok l hl)) rfl fn_96 ⟨(arg_v rfl), trivial⟩) ?_
   refine X0 (g_build rfl ze_37 bd_37 (.cons fd_37_0 L_Block_h ty_34 rfl (.cons fd_37_1 L_Block_l ty_35 rfl (.cons fd_37_2 L_Block_t ty_23 rfl .nil))) rfl) ?_
   refine XK.e (x := .idk) (fun fr' hfr kk H => by exact aw_store_b rfl rfl rfl ((hfr 8 (by decide +kernel)).trans rfl) rfl (Lens.self _) ty_37 ((hfr 46 (by decide +kernel)).trans rfl) (aw_nil H)) ?_; refine X0 aV ?_; refine XK.nil' ?_
   exact aw_retr2 rfl rfl (rv_cell rfl rfl ty_37 (by unfold mineB; rw [hE, if_pos rfl])) (rv_tmp (ret_eq rfl (hE.symm)))
end Go.Proofs.YtfepfajcdkllfaaGreat
set_option maxRecDepth 20000
namespace Go.Proofs.YtfepfajcdkllfaaGreat
set_option linter.unusedVariables false
set_option linter.unusedSimpArgs false
open Go.Ab Go.RowKit
def few (t : Tx) : Bool := decide (t.ins.length ≤ 6 ∧ t.outs.length ≤ 6)
theorem few_ok (t : Tx) : Tells P 37 [.val txT t] (.val boolT (few t)) := by
 refine fn_of_aw Tryz.func37 rfl rfl rfl (fun ext w hext => ?_)
 refine CQR ?_; refine aw_box rfl rfl rfl rfl rfl ?_; refine A0 aV ?_; refine CNQR ?_; refine A0 (oFp fd_77_0) ?_; refine A0 (oLb L_Tx_ins ty_74) ?_; refine A0 (g_len rfl rfl isl_74) ?_; refine A0 o_leq ?_
 refine Sp (d := 6) (p := t.ins.length ≤ 6) (fun g6 => ?_) (fun g6 => ?_)
 ·
  refine A0 mV ?_; refine A1 (oFp fd_77_1) ?_; refine A1 (oLb L_Tx_outs ty_75) ?_; refine A1 (g_len rfl rfl isl_75) ?_; refine A1 o_leq ?_; refine A0 oK ?_; refine A0 aV ?_; refine CN ?_
  exact aw_ret1 rfl rfl (ret_eq rfl (by unfold few; symm; first | (rw [decide_eq_decide]; simp only [IntL.toI, id_eq]; omega) | (apply decide_eq_false; omega) | (simp [g6]; done) | (simp [g6]; omega)))
 ·
  refine A0 mV ?_; refine A2 ?_; refine A2 ?_; refine A2 ?_; refine A2 ?_; refine A0 oK ?_; refine A0 aV ?_; refine CN ?_
  exact aw_ret1 rfl rfl (ret_eq rfl (by unfold few; symm; first | (rw [decide_eq_decide]; simp only [IntL.toI, id_eq]; omega) | (apply decide_eq_false; omega) | (simp [g6]; done) | (simp [g6]; omega)))
theorem fewAll_ok (l : List Tx) (m : Int) : Tells P 12 [.val (bsl txT) l, .val i64T m] (.val boolT (l.all few && decide ((l.length : Int) ≤ m))) := by
 refine fn_of_aw Tryz.func12 rfl rfl rfl (fun ext w hext => ?_)
 refine aw_fact (d := 0) rfl fact_sl (fun hsl0 => ?_)
 refine aw_fact (d := 1) rfl fact_int (fun hin1 => ?_)
 refine CQR ?_; refine A0 aV ?_; refine CNQQR ?_; refine A0 aV ?_; refine CNB ?_
 refine Lp (ι := Nat) 0 (fun (k : Nat) => (((Fr.none).set 0 (.val (bsl txT) l)).set 1 (.val i64T m)).set 5 (.val i64T (k : Int))) (fun (k : Nat) => Hp.none) (fun (k : Nat) => k ≤ l.length ∧ (l.take k).all few = true) (fun (k : Nat) => l.length - k) (0) (⟨Nat.zero_le _, rfl⟩) ?_
 intro k hinv
 refine CQQR ?_; refine A0 mV ?_; refine A0 mV ?_; refine A0 (g_len rfl rfl isl_23) ?_; refine A0 o_lss ?_; refine CN ?_
 refine Cf (p := k < l.length) (fun ht10 => ?_) (fun ht10 => ?_)
 ·
  obtain ⟨t, ht⟩ : ∃ t, l[k]? = some t := ⟨_, List.getElem?_eq_getElem ht10⟩
  refine CSQBQR ?_; refine A0 mV ?_; refine A0 mV ?_; refine A0 (g_ia_n rfl rfl rfl sl_23 (by assumption)) ?_; refine A0 (g_load_r rfl rfl ty_77) ?_
  refine A0 (oCl (few_ok _) rfl fn_37 ⟨(by first | exact arg_same rfl | exact arg_bsl rfl | exact arg_own rfl rfl | exact arg_nil rfl | exact arg_rptr rfl | exact arg_fn rfl rfl | exact arg_lit rfl), trivial⟩) ?_; refine A0 aV ?_
  refine CNQR ?_; refine A0 mV ?_; refine A0 oN ?_; refine CN ?_
  refine aw_ifc (p := ¬ few t = true) rfl (by simp) (fun ht19 => ?_) (fun ht19 => ?_)
  ·
   refine CQR ?_; refine A0 aV ?_; refine CN ?_
   exact aw_ret1 rfl rfl (ret_eq rfl (by symm; rw [Bool.and_eq_false_iff]; left; rw [List.all_eq_false]; exact ⟨t, List.mem_of_getElem? ht, ht19⟩))
  ·
   refine CSIR ?_; refine A0 mV ?_; refine A0 o_add ?_; refine A0 aV ?_; refine CN ?_
   exact Nx (k + 1) (⟨by omega, by rw [List.take_add_one, ht, List.all_append, hinv.2]; simp [Classical.not_not.1 ht19]⟩) (by omega)
 ·
  refine CE ?_; refine CQR ?_; refine A0 mV ?_; refine A0 (g_len rfl rfl isl_23) ?_; refine A0 mV ?_; refine A0 o_leq ?_; refine A0 aV ?_; refine CN ?_
  exact aw_ret1 rfl rfl (ret_eq rfl (by rw [List.take_of_length_le (by omega)] at hinv; rw [hinv.2, Bool.true_and]; rfl))
end Go.Proofs.YtfepfajcdkllfaaGreat
set_option maxRecDepth 20000
namespace Go.Proofs.YtfepfajcdkllfaaGreat
set_option linter.unusedVariables false
set_option linter.unusedSimpArgs false
open Go.Ab Go.RowKit
def s2 : Ab.Id := [219, 193, 180, 201, 0, 255, 228, 141, 87, 91, 93, 165, 198, 56, 4, 1, 37, 246, 93, 176, 254, 62, 36, 73, 75, 118, 234, 152, 100, 87, 217, 134]
def s4 : Ab.Id := [229, 45, 156, 80, 140, 80, 35, 71, 52, 77, 140, 7, 173, 145, 203, 214, 6, 138, 252, 117, 255, 98, 146, 240, 98, 160, 156, 163, 129, 200, 158, 113]
def id0 : Ab.Id := [204, 117, 100, 156, 217, 35, 11, 173, 35, 93, 199, 149, 159, 68, 227, 45, 148, 39, 20, 174, 85, 27, 122, 223, 187, 132, 2, 33, 173, 199, 16, 195]
def lk0 : Ab.Id := [191, 122, 202, 251, 39, 175, 213, 3, 220, 82, 240, 192, 217, 1, 99, 0, 242, 60, 209, 156, 152, 127, 176, 94, 46, 148, 67, 11, 109, 16, 112, 47]
def easyH : Head := ⟨0, zId, s2, s2, s4, zWide, 545259519, 0⟩
def easyN (n : UInt64) : Head := ⟨1, id0, lk0, s2, id0, [2, 0, 0, 0], 545259519, n⟩
theorem sum_s2 : shaSum [2] = s2 := by kernel_rfl
theorem sum_s4 : shaSum [4] = s4 := by kernel_rfl
theorem root_nil : rootOf [] = s2 := by rw [rootOf, if_pos (show ([] : List Ab.Id).length = 0 from rfl), sum_s2]
theorem root_one (x : Ab.Id) : rootOf [x] = x := by rw [rootOf, if_neg (show ¬ [x].length = 0 by simp), dif_pos (show [x].length ≤ 1 by simp)]; rfl
theorem easy_first : firstH 545259519 = easyH := by
  have e1 : linkRoot [] = s2 := root_nil
  have e2 : txRoot [] = s2 := root_nil
  have e3 : (mmrRoot []).h = s4 := sum_s4
  unfold firstH; rw [e1, e2, e3]; rfl
theorem easy_id : headId easyH = id0 := by kernel_rfl
theorem easy_work : headWork easyH = [2, 0, 0, 0] := by kernel_rfl
theorem easy_level : headLevel easyH = 31 := by kernel_rfl
theorem easy_ok : tgtOk 545259519 = true := by kernel_rfl
theorem easy_lk : leafOf id0 = lk0 := by kernel_rfl
theorem easy_may0 : headMay (easyN 0) = false := by kernel_rfl
theorem easy_may1 : headMay (easyN 1) = true := by kernel_rfl
end Go.Proofs.YtfepfajcdkllfaaGreat
set_option maxRecDepth 20000
namespace Go.Proofs.YtfepfajcdkllfaaGreat
set_option linter.unusedVariables false
set_option linter.unusedSimpArgs false
open Go.Ab Go.RowKit
def leaf0 : Total := leafT id0 [2, 0, 0, 0]
def easyTip : Tip := ⟨⟨easyH, [], []⟩, [leaf0], []⟩
def easyB : Block := ⟨easyN 1, [id0], []⟩
def leaf1 : Total := leafH (easyN 1)
def easyTip2 : Tip := ⟨easyB, mmrAppend [leaf0] leaf1, []⟩
theorem easy_leaf : leafH easyH = leaf0 := by unfold leafH leaf0; rw [easy_id, easy_work]
theorem easy_tip : firstTip 545259519 = easyTip := by unfold firstTip; rw [if_pos easy_ok, easy_first, easy_leaf]; rfl
theorem easy_links : linksT easyTip = [id0] := by
  show linkNext [] (headId easyH) (headLevel easyH) = _
  rw [easy_id]; unfold linkNext; rw [if_neg (show ¬ 32 < ([] : List Ab.Id).length by decide), if_pos (show ([] : List Ab.Id).length = 0 from rfl)]
theorem easy_next (n : UInt64) : nextH easyTip [] n = easyN n := by
  have e1 : linkRoot [id0] = lk0 := (root_one _).trans easy_lk
  have e2 : txRoot [] = s2 := root_nil
  unfold nextH
  rw [easy_links, e1, e2]
  show (⟨_, headId easyH, _, _, _, _, _, _⟩ : Head) = _
  rw [easy_id]; rfl
theorem easy_mine : mineOf (easyN 0) 200 = some (easyN 1) := by
  unfold mineOf
  rw [mineFrom_step (by decide) (by rw [easy_may0]; decide)]
  exact mineFrom_yes (by decide) easy_may1
theorem apply_nil : applyOf [] [] = ([], 0) := by kernel_rfl
theorem easy_mineE : mineBE easyTip [] 0 200 = 0 := by
  unfold mineBE
  rw [easy_next, if_neg (by decide), show (applyOf easyTip.c []).2 = 0 from congrArg (·.2) apply_nil, if_neg (by decide), easy_mine]; rfl
theorem easy_mineB : mineB easyTip [] 0 200 = easyB := by
  unfold mineB
  rw [easy_mineE, if_pos rfl, easy_next, easy_mine, easy_links]; rfl
theorem easy_pushE : pushE easyTip easyB = 0 := by
  unfold pushE
  have e : nextH easyTip easyB.t easyB.h.nonce = easyB.h := easy_next 1
  rw [e, if_neg (by decide), if_neg (by simp), if_neg (by rw [easy_links]; simp [easyB]), if_neg (by simp), if_neg (by rw [show headMay easyB.h = true from easy_may1]; simp)]
  exact congrArg (·.2) apply_nil
theorem easy_pushT : pushT easyTip easyB = easyTip2 := by
  unfold pushT
  rw [easy_pushE, if_pos rfl, show (applyOf easyTip.c easyB.t).1 = [] from congrArg (·.1) apply_nil]; rfl
theorem small_easyB : smallB easyB := by refine ⟨by decide, by decide, fun t ht => by cases ht⟩
def fewB (b : Block) : Bool := (b.t.all few && decide ((b.t.length : Int) ≤ 6)) && decide (b.l.length ≤ 40)
theorem few_small {l : List Tx} (h : (l.all few && decide ((l.length : Int) ≤ 6)) = true) : smallL l := by
  rw [Bool.and_eq_true, decide_eq_true_eq] at h
  refine ⟨by omega, fun t ht => ?_⟩
  have := List.all_eq_true.1 h.1 t ht
  unfold few at this
  rw [decide_eq_true_eq] at this
  exact ⟨by omega, by omega⟩
theorem fewB_small {b : Block} (h : fewB b = true) : smallB b := by
  unfold fewB at h
  rw [Bool.and_eq_true, decide_eq_true_eq] at h
  exact ⟨by omega, few_small h.1⟩
end Go.Proofs.YtfepfajcdkllfaaGreat
set_option maxRecDepth 20000
namespace Go.Proofs.YtfepfajcdkllfaaGreat
set_option linter.unusedVariables false
set_option linter.unusedSimpArgs false
open Go.Ab Go.RowKit
theorem eq_u32 {x y : UInt32} : decide (IntL.toI u32T x = IntL.toI u32T y) = decide (x = y) := by rw [decide_eq_decide]; show ((x.toNat : Nat) : Int) = ((y.toNat : Nat) : Int) ↔ _; rw [Int.ofNat_inj, UInt32.toNat_inj]
theorem pushR_len : ∀ (r : List Total) (x : Total), (pushR r x).length ≤ r.length + 1
  | [], _ => Nat.le_refl _
  | y :: r, x => by
    rw [pushR]
    split
    · have := pushR_len r (joinT y x); rw [List.length_cons]; omega
    · rw [List.length_cons]; omega
theorem mmrAppend_len {p : List Total} {x : Total} : (mmrAppend p x).length ≤ p.length + 1 := by
  unfold mmrAppend
  have := pushR_len p.reverse x
  rw [List.length_reverse] at this ⊢; exact this
theorem apply_may {p : List Coin} {l : List Tx} (h : (applyOf p l).2 = 0) : mayCoins p = true := by
  refine Classical.byContradiction fun hn => ?_
  unfold applyOf at h
  rw [if_pos hn] at h
  exact absurd h (show ¬ (1 : Int) = 0 by decide)
theorem push_iff {t : Tip} {b : Block} : pushE t b = 0 ↔ b.h.height < 48 ∧ b.h = nextH t b.t b.h.nonce ∧ b.l = linksT t ∧ headMay b.h = true ∧ (applyOf t.c b.t).2 = 0 := by
  constructor
  · intro h
    unfold pushE at h
    by_cases h1 : 48 ≤ b.h.height
    · rw [if_pos h1] at h; exact absurd h (by decide)
    rw [if_neg h1] at h
    by_cases h2 : ¬ behindH b.h = behindH (nextH t b.t b.h.nonce)
    · rw [if_pos h2] at h; exact absurd h (by decide)
    rw [if_neg h2] at h
    by_cases h3 : ¬ b.h.links = (nextH t b.t b.h.nonce).links ∨ ¬ b.l = linksT t
    · rw [if_pos h3] at h; exact absurd h (by decide)
    rw [if_neg h3] at h
    by_cases h4 : ¬ b.h = nextH t b.t b.h.nonce
    · rw [if_pos h4] at h; exact absurd h (by decide)
    rw [if_neg h4] at h
    by_cases h5 : ¬ headMay b.h = true
    · rw [if_pos h5] at h; exact absurd h (by decide)
    rw [if_neg h5] at h
    exact ⟨by omega, Classical.not_not.1 h4, Classical.not_not.1 fun hc => h3 (.inr hc), Classical.not_not.1 h5, h⟩
  · rintro ⟨h1, h2, h3, h4, h5⟩
    unfold pushE
    rw [if_neg (by omega), if_neg (Classical.not_not.2 (congrArg behindH h2)), if_neg (fun h => h.elim (fun h => h (congrArg (·.links) h2)) fun h => h h3), if_neg (Classical.not_not.2 h2), if_neg (Classical.not_not.2 h4)]
    exact h5
theorem firstTip_is {a : UInt32} (h : tgtOk a = true) : firstTip a = ⟨⟨firstH a, [], []⟩, [leafH (firstH a)], []⟩ := by unfold firstTip; rw [if_pos h]; rfl
end Go.Proofs.YtfepfajcdkllfaaGreat
set_option maxRecDepth 20000
namespace Go.Proofs.YtfepfajcdkllfaaGreat
set_option linter.unusedVariables false
set_option linter.unusedSimpArgs false
open Go.Ab Go.RowKit
theorem mineFrom_spec : ∀ {n : Nat} {h g : Head}, mineFrom n h = some g → headMay g = true ∧ g = { h with nonce := g.nonce }
  | 0, _, _, h => by cases h
  | n + 1, h, g, e => by
    rw [mineFrom] at e
    split at e
    · injection e with e; subst e; exact ⟨by assumption, rfl⟩
    · obtain ⟨h1, h2⟩ := mineFrom_spec e; exact ⟨h1, h2⟩
theorem mined {t : Tip} {l : List Tx} {nonce : UInt64} {tries : Int} (h : mineBE t l nonce tries = 0) : (mineB t l nonce tries).h.height < 48 ∧ (mineB t l nonce tries).h = nextH t l (mineB t l nonce tries).h.nonce ∧ (mineB t l nonce tries).l = linksT t ∧ (mineB t l nonce tries).t = l ∧ headMay (mineB t l nonce tries).h = true ∧ (applyOf t.c l).2 = 0 := by
  have hb : mineB t l nonce tries = ⟨(mineOf (nextH t l nonce) tries).getD (nextH t l nonce), linksT t, l⟩ := by unfold mineB; rw [if_pos h]
  unfold mineBE at h
  by_cases h1 : 48 ≤ (nextH t l nonce).height
  · rw [if_pos h1] at h; exact absurd h (by decide)
  rw [if_neg h1] at h
  by_cases h2 : ¬ (applyOf t.c l).2 = 0
  · rw [if_pos h2] at h; exact absurd h h2
  rw [if_neg h2] at h
  by_cases h3 : (mineOf (nextH t l nonce) tries).isSome = true
  · obtain ⟨g, hg⟩ := Option.isSome_iff_exists.1 h3
    obtain ⟨h4, h5⟩ := mineFrom_spec hg
    rw [hb, hg]
    have e : g = nextH t l g.nonce := h5
    refine ⟨?_, e, rfl, rfl, h4, Classical.not_not.1 h2⟩
    show g.height < 48
    rw [e]
    show (nextH t l nonce).height < 48
    omega
  · rw [if_neg h3] at h; exact absurd h (by decide)
theorem mined_push {t : Tip} {l : List Tx} {nonce : UInt64} {tries : Int} (h : mineBE t l nonce tries = 0) : pushE t (mineB t l nonce tries) = 0 := by
  obtain ⟨h1, h2, h3, h4, h5, h6⟩ := mined h
  exact push_iff.2 ⟨h1, by rw [h4]; exact h2, h3, h5, by rw [h4]; exact h6⟩
theorem pushT_eq {t : Tip} {b : Block} (h : pushE t b = 0) : pushT t b = ⟨b, mmrAppend t.p (leafH b.h), (applyOf t.c b.t).1⟩ := by unfold pushT; rw [if_pos h]
def GoodT (x : Total) : Prop := x.w.length = 4 ∧ -9223372036854775808 ≤ x.n ∧ x.n ≤ 9223372036854775807
theorem wrap_q (n : Int) : ∃ q, IntKind.i64.wrap n = n + 18446744073709551616 * q ∧ -9223372036854775808 ≤ IntKind.i64.wrap n ∧ IntKind.i64.wrap n ≤ 9223372036854775807 := by
  have h := i64_in.1 (wrap_in n)
  refine ⟨(IntKind.i64.wrap n - n) / 18446744073709551616, ?_, h⟩
  simp only [IntKind.wrap, IntKind.signed, IntKind.bits]
  simp
  split <;> omega
def nS (l : List Total) : Nat := (l.map fun x => nW x.w).sum
def iS (l : List Total) : Int := (l.map (·.n)).sum
theorem join_good {y x : Total} (hy : GoodT y) (hx : GoodT x) : GoodT (joinT y x) := ⟨addW_len hy.1 hx.1, (wrap_q _).choose_spec.2⟩
theorem join_sum {y x : Total} (hy : GoodT y) (hx : GoodT x) : nW (joinT y x).w = (nW y.w + nW x.w) % W256 ∧ ∃ q, (joinT y x).n = y.n + x.n + 18446744073709551616 * q := ⟨nW_add hy.1 hx.1, let ⟨q, h, _⟩ := wrap_q (y.n + x.n); ⟨q, h⟩⟩
theorem rootFrom_sum : ∀ {r : List Total} {x : Total}, (∀ y ∈ r, GoodT y) → GoodT x → GoodT (rootFrom r x) ∧ nW (rootFrom r x).w = (nS r + nW x.w) % W256 ∧ ∃ q, (rootFrom r x).n = iS r + x.n + 18446744073709551616 * q
  | [], x, _, hx => ⟨hx, by have := nW_lt hx.1; show nW x.w = (0 + nW x.w) % W256; unfold W256 at *; omega, 0, by show x.n = 0 + x.n + _; omega⟩
  | y :: r, x, hr, hx => by
    have hy := hr y (by simp)
    obtain ⟨h1, h2, q, h3⟩ := rootFrom_sum (r := r) (fun z hz => hr z (by simp [hz])) (join_good hy hx)
    obtain ⟨h4, q', h5⟩ := join_sum hy hx
    refine ⟨h1, ?_, q + q', ?_⟩
    · show nW (rootFrom r (joinT y x)).w = (nS (y :: r) + nW x.w) % W256
      have e : nS (y :: r) = nW y.w + nS r := by unfold nS; simp
      rw [h2, h4, e]; unfold W256; omega
    · show (rootFrom r (joinT y x)).n = iS (y :: r) + x.n + _
      have e : iS (y :: r) = y.n + iS r := by unfold iS; simp
      rw [h3, h5, e]; omega
theorem pushR_sum : ∀ {r : List Total} {x : Total}, (∀ y ∈ r, GoodT y) → GoodT x → (∀ y ∈ pushR r x, GoodT y) ∧ nS (pushR r x) % W256 = (nS r + nW x.w) % W256 ∧ ∃ q, iS (pushR r x) = iS r + x.n + 18446744073709551616 * q
  | [], x, _, hx => ⟨fun y hy => by simp [pushR] at hy; rw [hy]; exact hx, by simp [pushR, nS], 0, by simp [pushR, iS]⟩
  | y :: r, x, hr, hx => by
    have hy := hr y (by simp)
    have e : nS (y :: r) = nW y.w + nS r := by unfold nS; simp
    have e' : iS (y :: r) = y.n + iS r := by unfold iS; simp
    rw [pushR]
    split
    · obtain ⟨h1, h2, q, h3⟩ := pushR_sum (r := r) (fun z hz => hr z (by simp [hz])) (join_good hy hx)
      obtain ⟨h4, q', h5⟩ := join_sum hy hx
      refine ⟨h1, ?_, q + q', ?_⟩
      · rw [h2, h4, e]; unfold W256; omega
      · rw [h3, h5, e']; omega
    · refine ⟨fun z hz => ?_, ?_, 0, ?_⟩
      · rcases List.mem_cons.1 hz with h | h
        · rw [h]; exact hx
        · exact hr z h
      · have : nS (x :: y :: r) = nW x.w + (nW y.w + nS r) := by unfold nS; simp
        rw [this, e]; congr 1; omega
      · have : iS (x :: y :: r) = x.n + (y.n + iS r) := by unfold iS; simp
        rw [this, e']; omega
theorem rootR_sum {r : List Total} (hr : ∀ y ∈ r, GoodT y) : GoodT (mmrRoot r.reverse) ∧ nW (mmrRoot r.reverse).w = nS r % W256 ∧ ∃ q, (mmrRoot r.reverse).n = iS r + 18446744073709551616 * q := by
  unfold mmrRoot
  rw [List.reverse_reverse]
  cases r with
  | nil => exact ⟨⟨rfl, by decide, by decide⟩, rfl, 0, rfl⟩
  | cons x r =>
    obtain ⟨h1, h2, q, h3⟩ := rootFrom_sum (r := r) (fun z hz => hr z (by simp [hz])) (hr x (by simp))
    refine ⟨h1, ?_, q, ?_⟩
    · show nW (rootFrom r x).w = _
      rw [h2]; unfold nS; simp; congr 1; omega
    · show (rootFrom r x).n = _
      rw [h3]; unfold iS; simp; omega
theorem headWork_len (h : Head) : (headWork h).length = 4 := by
  unfold headWork
  split
  · unfold workW
    split
    · refine addW_len ?_ rfl
      unfold divW divP
      split
      · rfl
      · simp only []
        have : ∀ (b : Wide) (n : Nat) (x : Wide × Wide), x.2.length = 4 → (divN b n x).2.length = 4 := fun b n => by
          induction n with
          | zero => intro x hx; exact hx
          | succ n ih =>
            intro x hx
            rw [divN]
            refine ih _ ?_
            unfold divStep
            split
            · simp only [orBit, List.length_set]; exact hx
            · exact hx
        exact this _ _ _ rfl
    · rfl
  · rfl
theorem append_sum {p : List Total} {h : Head} (hp : ∀ x ∈ p, GoodT x) : (mmrRoot (mmrAppend p (leafH h))).w = addW (mmrRoot p).w (headWork h) ∧ (mmrRoot (mmrAppend p (leafH h))).n = IntKind.i64.wrap ((mmrRoot p).n + 1) := by
  have hr : ∀ x ∈ p.reverse, GoodT x := fun x hx => hp x (by simpa using hx)
  have hx : GoodT (leafH h) := ⟨headWork_len h, by show (-9223372036854775808 : Int) ≤ 1; decide, by show (1 : Int) ≤ 9223372036854775807; decide⟩
  obtain ⟨a1, a2, q1, a3⟩ := pushR_sum hr hx
  obtain ⟨b1, b2, q2, b3⟩ := rootR_sum a1
  obtain ⟨c1, c2, q3, c3⟩ := rootR_sum hr
  rw [List.reverse_reverse] at c1 c2 c3
  constructor
  · refine nW_inj b1.1 (addW_len c1.1 (headWork_len h)) ?_
    rw [nW_add c1.1 (headWork_len h), c2]
    show nW (mmrRoot (pushR p.reverse (leafH h)).reverse).w = _
    rw [b2, a2]
    show (nS p.reverse + nW (headWork h)) % W256 = _
    unfold W256; omega
  · show (mmrRoot (pushR p.reverse (leafH h)).reverse).n = _
    obtain ⟨q4, d1, d2⟩ := wrap_q ((mmrRoot p).n + 1)
    have e : (leafH h).n = 1 := rfl
    have := b1.2
    omega
end Go.Proofs.YtfepfajcdkllfaaGreat
set_option maxRecDepth 20000
namespace Go.Proofs.YtfepfajcdkllfaaGreat
set_option linter.unusedVariables false
set_option linter.unusedSimpArgs false
open Go.Ab Go.RowKit
def checkFrom : Tip → List Block → Tip × Int
  | t, [] => (t, 0)
  | t, b :: l => if pushE t b = 0 then checkFrom (pushT t b) l else (zTip, pushE t b)
def checkOf (l : List Block) : Tip × Int :=
  match l with
  | [] => (zTip, 9)
  | g :: r => if tgtOk g.h.bits = true ∧ (firstTip g.h.bits).b = g then checkFrom (firstTip g.h.bits) r else (zTip, 12)
def growE (l : List Block) (t : List Tx) (nonce : UInt64) : Int := if (checkOf l).2 = 0 then mineBE (checkOf l).1 t nonce 200 else (checkOf l).2
def growOf (l : List Block) (t : List Tx) (nonce : UInt64) : List Block := if growE l t nonce = 0 then l ++ [mineB (checkOf l).1 t nonce 200] else l
def findOf (l : List Block) (id : Ab.Id) : Int := idx (fun b => decide (headId b.h = id)) l
def levelsOf (l : List Block) : List Int := l.map fun b => headLevel b.h
def leavesOf (l : List Block) : List Total := l.map fun b => leafH b.h
def smallC (l : List Block) : Prop := l.length * 232 ≤ 140737488351232 ∧ ∀ b ∈ l, smallB b
def Chain (l : List Block) (t : Tip) : Prop := checkOf l = (t, 0)
theorem checkFrom_app : ∀ {l m : List Block} {t : Tip}, checkFrom t (l ++ m) = if (checkFrom t l).2 = 0 then checkFrom (checkFrom t l).1 m else checkFrom t l
  | [], m, t => by simp [checkFrom]
  | b :: l, m, t => by
    rw [List.cons_append, checkFrom, checkFrom]
    by_cases h : pushE t b = 0
    · rw [if_pos h, if_pos h]; exact checkFrom_app
    · rw [if_neg h, if_neg h, if_neg h]
theorem checkOf_app {l m : List Block} (h : ¬ l = []) : checkOf (l ++ m) = if (checkOf l).2 = 0 then checkFrom (checkOf l).1 m else checkOf l := by
  cases l with
  | nil => exact absurd rfl h
  | cons g r =>
    rw [List.cons_append]
    unfold checkOf
    simp only []
    by_cases h : tgtOk g.h.bits = true ∧ (firstTip g.h.bits).b = g
    · rw [if_pos h, if_pos h]; exact checkFrom_app
    · rw [if_neg h, if_neg h]; rfl
theorem chain_ne {l : List Block} (h : (checkOf l).2 = 0) : ¬ l = [] := fun e => by rw [e] at h; exact absurd h (by decide)
theorem checkOf_snoc {l : List Block} {b : Block} (h : (checkOf l).2 = 0) : checkOf (l ++ [b]) = if pushE (checkOf l).1 b = 0 then (pushT (checkOf l).1 b, 0) else (zTip, pushE (checkOf l).1 b) := by
  rw [checkOf_app (chain_ne h), if_pos h]; rfl
theorem chain_of {l : List Block} (h : (checkOf l).2 = 0) : Chain l (checkOf l).1 := by unfold Chain; rw [← h]
theorem chain_one {b : Block} {t : Tip} (h : Chain [b] t) : tgtOk b.h.bits = true ∧ b = ⟨firstH b.h.bits, [], []⟩ ∧ t = firstTip b.h.bits := by
  unfold Chain checkOf at h
  simp only [] at h
  by_cases c : tgtOk b.h.bits = true ∧ (firstTip b.h.bits).b = b
  · rw [if_pos c] at h
    refine ⟨c.1, ?_, (congrArg (·.1) h).symm⟩
    have := c.2
    rw [firstTip_is c.1] at this
    exact this.symm
  · rw [if_neg c] at h; exact absurd (congrArg (·.2) h) (by show ¬ (12 : Int) = 0; decide)
theorem chain_snoc {l : List Block} {b : Block} {t : Tip} (hl : ¬ l = []) (h : Chain (l ++ [b]) t) : ∃ t', Chain l t' ∧ pushE t' b = 0 ∧ t = pushT t' b := by
  unfold Chain at h
  rw [checkOf_app hl] at h
  by_cases c : (checkOf l).2 = 0
  · rw [if_pos c] at h
    rw [checkFrom] at h
    by_cases d : pushE (checkOf l).1 b = 0
    · rw [if_pos d, checkFrom] at h
      exact ⟨_, chain_of c, d, (congrArg (·.1) h).symm⟩
    · rw [if_neg d] at h; exact absurd (congrArg (·.2) h) d
  · rw [if_neg c] at h; exact absurd (congrArg (·.2) h) c
theorem chain_push {l : List Block} {b : Block} {t : Tip} (h : Chain l t) (hp : pushE t b = 0) : Chain (l ++ [b]) (pushT t b) := by
  have h2 : (checkOf l).2 = 0 := congrArg (·.2) h
  have h1 : (checkOf l).1 = t := congrArg (·.1) h
  unfold Chain
  rw [checkOf_snoc h2, h1, if_pos hp]
theorem chain_ind {P : List Block → Tip → Prop} (h1 : ∀ bits, tgtOk bits = true → P [⟨firstH bits, [], []⟩] (firstTip bits)) (h2 : ∀ l t b, Chain l t → P l t → pushE t b = 0 → P (l ++ [b]) (pushT t b)) : ∀ (n : Nat) (l : List Block) (t : Tip), l.length = n → Chain l t → P l t
  | 0, l, t, hn, h => absurd (List.eq_nil_of_length_eq_zero hn) (chain_ne (congrArg (·.2) h))
  | n + 1, l, t, hn, h => by
    have hl : ¬ l = [] := fun e => by rw [e] at hn; cases hn
    obtain ⟨r, b, rfl⟩ : ∃ r b, l = r ++ [b] := ⟨l.dropLast, l.getLast hl, (List.dropLast_concat_getLast hl).symm⟩
    by_cases hr : r = []
    · subst hr
      obtain ⟨e1, e2, e3⟩ := chain_one h
      rw [e3, List.nil_append]
      have := h1 b.h.bits e1
      rw [← e2] at this; exact this
    · obtain ⟨t', e1, e2, e3⟩ := chain_snoc hr h
      rw [e3]
      exact h2 _ _ _ e1 (chain_ind h1 h2 n r t' (by simp at hn; omega) e1) e2
theorem chain_tip {l : List Block} {t : Tip} (h : Chain l t) : l.getLast? = some t.b ∧ t.b.h.height = (l.length : Int) - 1 ∧ l.length ≤ 48 ∧ t.p = (leavesOf l).foldl mmrAppend [] ∧ (∃ g, l[0]? = some g ∧ t.b.h.bits = g.h.bits) := by
  refine chain_ind (P := fun l t => l.getLast? = some t.b ∧ t.b.h.height = (l.length : Int) - 1 ∧ l.length ≤ 48 ∧ t.p = (leavesOf l).foldl mmrAppend [] ∧ (∃ g, l[0]? = some g ∧ t.b.h.bits = g.h.bits)) (fun bits hb => ?_) (fun l t b hc hi hp => ?_) l.length l t rfl h
  · rw [firstTip_is hb]
    exact ⟨rfl, rfl, Nat.le_of_ble_eq_true rfl, rfl, _, rfl, rfl⟩
  · obtain ⟨i1, i2, i3, i4, g, i5, i6⟩ := hi
    obtain ⟨p1, p2, _⟩ := push_iff.1 hp
    have hne : 0 < l.length := List.length_pos_iff.2 (chain_ne (congrArg (·.2) hc))
    have e : b.h.height = IntKind.i64.wrap (t.b.h.height + 1) := congrArg (·.height) p2
    rw [i2, wrap_eq (by omega)] at e
    rw [pushT_eq hp]
    refine ⟨by simp, ?_, ?_, ?_, g, ?_, ?_⟩
    · show b.h.height = _
      rw [e, List.length_append, List.length_singleton]; omega
    · rw [List.length_append, List.length_singleton]; omega
    · show mmrAppend t.p (leafH b.h) = _
      rw [i4]; unfold leavesOf; rw [List.map_append, List.foldl_append]; rfl
    · rw [List.getElem?_append_left hne]; exact i5
    · show b.h.bits = _
      rw [show b.h.bits = t.b.h.bits from congrArg (·.bits) p2, i6]
theorem chain_take {l : List Block} {t : Tip} {i : Nat} (h : Chain l t) (hi : 1 ≤ i) (hl : i ≤ l.length) : ∃ t', Chain (l.take i) t' ∧ checkFrom t' (l.drop i) = (t, 0) := by
  have hne : ¬ l.take i = [] := fun e => by have := congrArg List.length e; rw [List.length_take] at this; change min i l.length = 0 at this; omega
  have h0 : checkOf (l.take i ++ l.drop i) = (t, 0) := by rw [List.take_append_drop]; exact h
  rw [checkOf_app hne] at h0
  by_cases c : (checkOf (l.take i)).2 = 0
  · rw [if_pos c] at h0; exact ⟨_, chain_of c, h0⟩
  · rw [if_neg c] at h0; exact absurd (congrArg (·.2) h0) c
theorem chain_at {l : List Block} {t : Tip} {i : Nat} {b : Block} (h : Chain l t) (hi : 1 ≤ i) (hb : l[i]? = some b) : ∃ t', Chain (l.take i) t' ∧ pushE t' b = 0 ∧ l[i - 1]? = some t'.b := by
  obtain ⟨hl, e⟩ := List.getElem?_eq_some_iff.1 hb
  obtain ⟨t', h1, h2⟩ := chain_take h hi (Nat.le_of_lt hl)
  rw [List.drop_eq_getElem_cons hl, e, checkFrom] at h2
  refine ⟨t', h1, ?_, ?_⟩
  · by_cases c : pushE t' b = 0
    · exact c
    · rw [if_neg c] at h2; exact absurd (congrArg (·.2) h2) c
  · have := (chain_tip h1).1
    have h5 : (l.take i)[i - 1]? = l[i - 1]? := by rw [List.getElem?_take]; split <;> first | rfl | omega
    rw [List.getLast?_eq_getElem?, List.length_take, Nat.min_eq_left (Nat.le_of_lt hl), h5] at this
    exact this
theorem chain_prev {l : List Block} {t : Tip} {i : Nat} {a b : Block} (h : Chain l t) (ha : l[i]? = some a) (hb : l[i + 1]? = some b) : b.h.prev = headId a.h := by
  obtain ⟨t', _, h2, h3⟩ := chain_at h (by omega) hb
  rw [Nat.add_sub_cancel, ha] at h3
  injection h3 with h3
  rw [h3]
  exact congrArg (·.prev) (push_iff.1 h2).2.1
theorem grow_ok {l : List Block} {t : List Tx} {nonce : UInt64} (h : growE l t nonce = 0) : (checkOf l).2 = 0 ∧ mineBE (checkOf l).1 t nonce 200 = 0 ∧ growOf l t nonce = l ++ [mineB (checkOf l).1 t nonce 200] := by
  have e : growOf l t nonce = l ++ [mineB (checkOf l).1 t nonce 200] := by unfold growOf; rw [if_pos h]
  unfold growE at h
  by_cases c : (checkOf l).2 = 0
  · rw [if_pos c] at h; exact ⟨c, h, e⟩
  · rw [if_neg c] at h; exact absurd h c
theorem grow_check {l : List Block} {t : List Tx} {nonce : UInt64} (h : growE l t nonce = 0) : Chain (growOf l t nonce) (pushT (checkOf l).1 (mineB (checkOf l).1 t nonce 200)) := by
  obtain ⟨h1, h2, h3⟩ := grow_ok h
  rw [h3]
  exact chain_push (chain_of h1) (mined_push h2)
theorem grow_height {l : List Block} {t : List Tx} {nonce : UInt64} (h : growE l t nonce = 0) : (pushT (checkOf l).1 (mineB (checkOf l).1 t nonce 200)).b.h.height = l.length := by
  have := (chain_tip (grow_check h)).2.1
  obtain ⟨_, _, h3⟩ := grow_ok h
  rw [this, h3, List.length_append, List.length_singleton]; omega
theorem smallC_take {l : List Block} {i : Nat} (h : smallC l) : smallC (l.take i) := ⟨by have := h.1; rw [List.length_take]; omega, fun b hb => h.2 b (List.mem_of_mem_take hb)⟩
theorem smallC_snoc {l : List Block} {b : Block} (h : smallC l) (hl : l.length ≤ 99) (hb : smallB b) : smallC (l ++ [b]) := ⟨by rw [List.length_append, List.length_singleton]; omega, fun x hx => by
  rcases List.mem_append.1 hx with h1 | h1
  · exact h.2 x h1
  · rw [List.mem_singleton.1 h1]; exact hb⟩
theorem small_nil {t : Tip} (h1 : t.b.l = []) (h2 : t.b.t = []) (h3 : Nat.ble t.p.length 1 = true) (h4 : t.c = []) : smallTip t := by
  have := Nat.le_of_ble_eq_true h3
  refine ⟨⟨by rw [h1]; decide, by rw [h2]; decide, fun x hx => by rw [h2] at hx; cases hx⟩, by omega, by rw [h4]; decide⟩
def smallN (t : Tip) (n : Nat) : Prop := smallTip t ∧ t.p.length ≤ n + 1 ∧ t.b.h.height = n
theorem push_smallN {t : Tip} {b : Block} {n : Nat} (ht : smallN t n) (hn : n ≤ 1000000000000) (hb : smallB b) (h : pushE t b = 0) : smallN (pushT t b) (n + 1) := by
  obtain ⟨h6, h7, _, _, h5⟩ := push_iff.1 h
  rw [pushT_eq h]
  have h1 := mmrAppend_len (p := t.p) (x := leafH b.h)
  have h2 := mayCoins_len (applyOf_tot (l := b.t) (apply_may h5)).1
  obtain ⟨_, h3, h4⟩ := ht
  have e : b.h.height = IntKind.i64.wrap (t.b.h.height + 1) := congrArg (·.height) h7
  rw [h4, wrap_eq (by omega)] at e
  refine ⟨⟨hb, ?_, ?_⟩, ?_, ?_⟩
  · show (mmrAppend t.p (leafH b.h)).length ≤ 1000
    omega
  · show (applyOf t.c b.t).1.length ≤ 1000
    omega
  · show (mmrAppend t.p (leafH b.h)).length ≤ n + 1 + 1
    omega
  · show b.h.height = _
    rw [e]; omega
theorem first_small {bits : UInt32} : smallN (firstTip bits) 0 := by
  by_cases h : tgtOk bits = true
  · rw [firstTip_is h]; exact ⟨small_nil rfl rfl rfl rfl, Nat.le_of_ble_eq_true rfl, rfl⟩
  · have : firstTip bits = zTip := by unfold firstTip; rw [if_neg h]
    rw [this]; exact ⟨small_nil rfl rfl rfl rfl, Nat.le_of_ble_eq_true rfl, rfl⟩
theorem checkFrom_small : ∀ {l : List Block} {t : Tip} {n : Nat}, smallN t n → n + l.length ≤ 1000000000000 → (∀ b ∈ l, smallB b) → smallTip (checkFrom t l).1
  | [], t, n, ht, _, _ => ht.1
  | b :: l, t, n, ht, hn, hl => by
    rw [checkFrom]
    rw [List.length_cons] at hn
    split
    · rename_i h
      exact checkFrom_small (push_smallN ht (by omega) (hl b (by simp)) h) (by omega) fun x hx => hl x (by simp [hx])
    · exact small_nil rfl rfl rfl rfl
theorem check_small {l : List Block} (h : smallC l) : smallTip (checkOf l).1 := by
  cases l with
  | nil => exact small_nil rfl rfl rfl rfl
  | cons g r =>
    unfold checkOf
    simp only []
    split
    · refine checkFrom_small first_small ?_ fun x hx => h.2 x (by simp [hx])
      have := h.1
      rw [List.length_cons] at this
      omega
    · exact small_nil rfl rfl rfl rfl
theorem mined_small {t : Tip} {l : List Tx} {nonce : UInt64} {tries : Int} (h : mineBE t l nonce tries = 0) (hl : smallL l) : smallB (mineB t l nonce tries) := by
  obtain ⟨_, _, h3, h4, _⟩ := mined h
  exact ⟨by rw [h3]; have := linkNext_len (l := t.b.l) (id := headId t.b.h) (level := headLevel t.b.h); unfold linksT; omega, by rw [h4]; exact hl⟩
end Go.Proofs.YtfepfajcdkllfaaGreat
set_option maxRecDepth 20000
namespace Go.Proofs.YtfepfajcdkllfaaGreat
set_option linter.unusedVariables false
set_option linter.unusedSimpArgs false
open Go.Ab Go.RowKit
def lastAt (v : Nat → Int) (n : Int) : Nat → Nat
  | 0 => 0
  | i + 1 => if 1 ≤ i ∧ n ≤ v i ∧ 0 < n then i else lastAt v n i
theorem lastAt_congr {v u : Nat → Int} {n : Int} : ∀ {i : Nat}, (∀ k, k < i → v k = u k) → lastAt v n i = lastAt u n i
  | 0, _ => rfl
  | i + 1, h => by
    rw [lastAt, lastAt, h i (by omega), lastAt_congr (i := i) fun k hk => h k (by omega)]
theorem lastAt_lt {v : Nat → Int} {n : Int} : ∀ {i : Nat}, lastAt v n i < i ∨ lastAt v n i = 0
  | 0 => .inr rfl
  | i + 1 => by
    rw [lastAt]
    split
    · left; omega
    · have := lastAt_lt (v := v) (n := n) (i := i); omega
def levelAt (l : List Block) (k : Nat) : Int := (l[k]?.map fun b => headLevel b.h).getD 0
def idAt (l : List Block) (k : Nat) : Ab.Id := (l[k]?.map fun b => headId b.h).getD []
def Linked (l : List Block) (L : List Ab.Id) : Prop := 1 ≤ L.length ∧ L.length ≤ 32 ∧ L[0]? = some (idAt l 0) ∧ ∀ n : Nat, 1 ≤ n → n ≤ 31 → (n < L.length → 0 < lastAt (levelAt l) n l.length ∧ L[n]? = some (idAt l (lastAt (levelAt l) n l.length))) ∧ (L.length ≤ n → lastAt (levelAt l) n l.length = 0)
theorem at_snoc {l : List Block} {b : Block} {k : Nat} (h : k < l.length) : levelAt (l ++ [b]) k = levelAt l k ∧ idAt (l ++ [b]) k = idAt l k := by
  unfold levelAt idAt; rw [List.getElem?_append_left h]; exact ⟨rfl, rfl⟩
theorem at_last {l : List Block} {b : Block} : levelAt (l ++ [b]) l.length = headLevel b.h ∧ idAt (l ++ [b]) l.length = headId b.h := by
  unfold levelAt idAt; rw [List.getElem?_append_right (Nat.le_refl _), Nat.sub_self]; exact ⟨rfl, rfl⟩
theorem linked_step {l : List Block} {L : List Ab.Id} {b : Block} (hl : 1 ≤ l.length) (h : Linked l L) : Linked (l ++ [b]) (linkNext L (headId b.h) (headLevel b.h)) := by
  obtain ⟨h1, h2, h3, h4⟩ := h
  have e0 : idAt (l ++ [b]) 0 = idAt l 0 := (at_snoc (by omega)).2
  have la : ∀ n : Nat, lastAt (levelAt (l ++ [b])) n (l ++ [b]).length = if n ≤ headLevel b.h ∧ (0 : Int) < n then l.length else lastAt (levelAt l) n l.length := fun n => by
    rw [List.length_append, List.length_singleton, lastAt, (at_last (l := l) (b := b)).1, lastAt_congr fun k hk => (at_snoc hk).1]
    by_cases c : (n : Int) ≤ headLevel b.h ∧ (0 : Int) < n
    · rw [if_pos c, if_pos ⟨hl, c.1, c.2⟩]
    · rw [if_neg c, if_neg fun x => c ⟨x.2.1, x.2.2⟩]
  have ll : ∀ n : Nat, lastAt (levelAt l) n l.length < l.length := fun n => by
    have := lastAt_lt (v := levelAt l) (n := n) (i := l.length); omega
  unfold linkNext
  rw [if_neg (by omega), if_neg (by omega)]
  by_cases c : headLevel b.h < 1
  · rw [if_pos c]
    refine ⟨h1, h2, by rw [e0]; exact h3, fun n hn hn' => ?_⟩
    rw [la n, if_neg (by omega)]
    rw [(at_snoc (ll n)).2]
    exact h4 n hn hn'
  · rw [if_neg c]
    obtain ⟨m, hm⟩ : ∃ m, m = (min (headLevel b.h) 31).toNat := ⟨_, rfl⟩
    rw [← hm]
    have hm1 : 1 ≤ m ∧ m ≤ 31 := by omega
    have hlen : (L.take 1 ++ List.replicate m (headId b.h) ++ L.drop (m + 1)).length = max (m + 1) L.length := by
      simp only [List.length_append, List.length_take, List.length_replicate, List.length_drop]; omega
    have ht1 : (L.take 1).length = 1 := by rw [List.length_take]; omega
    have get_lo : ∀ n : Nat, 1 ≤ n → n ≤ m → (L.take 1 ++ List.replicate m (headId b.h) ++ L.drop (m + 1))[n]? = some (headId b.h) := fun n hn hn' => by
      rw [List.append_assoc, List.getElem?_append_right (by omega), List.getElem?_append_left (by rw [List.length_replicate]; omega), List.getElem?_replicate, if_pos (by omega)]
    have get_hi : ∀ n : Nat, m < n → (L.take 1 ++ List.replicate m (headId b.h) ++ L.drop (m + 1))[n]? = L[n]? := fun n hn => by
      rw [List.getElem?_append_right (by simp only [List.length_append, ht1, List.length_replicate]; omega), List.getElem?_drop]
      congr 1; simp only [List.length_append, ht1, List.length_replicate]; omega
    refine ⟨by rw [hlen]; omega, by rw [hlen]; omega, ?_, fun n hn hn' => ?_⟩
    · rw [List.append_assoc, List.getElem?_append_left (by omega), List.getElem?_take, e0]; simpa using h3
    · rw [hlen, la n]
      by_cases d : n ≤ m
      · rw [if_pos (by omega), get_lo n hn d, (at_last (l := l) (b := b)).2]
        exact ⟨fun _ => ⟨by omega, rfl⟩, fun h => by omega⟩
      · rw [if_neg (by omega), get_hi n (by omega), (at_snoc (ll n)).2]
        obtain ⟨a1, a2⟩ := h4 n hn hn'
        exact ⟨fun h => a1 (by omega), fun h => a2 (by omega)⟩
theorem chain_links {l : List Block} {t : Tip} (h : Chain l t) : Linked l (linksT t) := by
  refine chain_ind (P := fun l t => Linked l (linksT t)) (fun bits hb => ?_) (fun l t b hc hi hp => ?_) l.length l t rfl h
  · rw [firstTip_is hb]
    show Linked _ (linkNext [] (headId (firstH bits)) _)
    unfold linkNext
    rw [if_neg (by decide), if_pos (show ([] : List Ab.Id).length = 0 from rfl)]
    refine ⟨Nat.le_of_ble_eq_true rfl, Nat.le_of_ble_eq_true rfl, rfl, fun n hn hn' => ⟨fun h => ?_, fun _ => rfl⟩⟩
    rw [List.length_singleton] at h; omega
  · have e : linksT (pushT t b) = linkNext (linksT t) (headId b.h) (headLevel b.h) := by
      rw [pushT_eq hp]
      show linkNext b.l _ _ = _
      rw [(push_iff.1 hp).2.2.1]
    rw [e]
    exact linked_step (List.length_pos_iff.2 (chain_ne (congrArg (·.2) hc))) hi
theorem lastAt_take {l : List Block} {i : Nat} (h : i ≤ l.length) (n : Int) : lastAt (levelAt (l.take i)) n (l.take i).length = lastAt (levelAt l) n i := by
  rw [List.length_take, Nat.min_eq_left h]
  refine lastAt_congr fun k hk => ?_
  unfold levelAt
  rw [List.getElem?_take, if_pos hk]
theorem idAt_take {l : List Block} {i k : Nat} (h : k < i) : idAt (l.take i) k = idAt l k := by
  unfold idAt; rw [List.getElem?_take, if_pos h]
theorem chain_linked {l : List Block} {t : Tip} {i : Nat} {b : Block} (h : Chain l t) (hi : 1 ≤ i) (hb : l[i]? = some b) : b.l[0]? = some (idAt l 0) ∧ ∀ n : Nat, n ≤ 31 → (n < b.l.length → b.l[n]? = some (idAt l (lastAt (levelAt l) n i)) ∧ (n = 0 ∨ 0 < lastAt (levelAt l) n i)) ∧ (b.l.length ≤ n → lastAt (levelAt l) n i = 0) := by
  obtain ⟨t', h1, h2, h3⟩ := chain_at h hi hb
  obtain ⟨hl, _⟩ := List.getElem?_eq_some_iff.1 hb
  have e : b.l = linksT t' := (push_iff.1 h2).2.2.1
  obtain ⟨a1, a2, a3, a4⟩ := chain_links h1
  rw [← e] at a1 a2 a3 a4
  rw [idAt_take (by omega)] at a3
  refine ⟨a3, fun n hn => ?_⟩
  by_cases hn0 : n = 0
  · subst hn0
    have z : lastAt (levelAt l) ((0 : Nat) : Int) i = 0 := by
      have : ∀ j, lastAt (levelAt l) ((0 : Nat) : Int) j = 0 := fun j => by
        induction j with
        | zero => rfl
        | succ j ih => rw [lastAt, if_neg (by omega)]; exact ih
      exact this i
    rw [z]
    exact ⟨fun _ => ⟨a3, .inl rfl⟩, fun _ => rfl⟩
  · obtain ⟨b1, b2⟩ := a4 n (by omega) hn
    rw [lastAt_take (by omega)] at b1 b2
    have hlt : lastAt (levelAt l) n i < i := by have := lastAt_lt (v := levelAt l) (n := n) (i := i); omega
    rw [idAt_take hlt] at b1
    exact ⟨fun h => ⟨(b1 h).2, .inr (b1 h).1⟩, b2⟩
theorem chain_total {l : List Block} {t : Tip} (h : Chain l t) : (∀ x ∈ t.p, GoodT x) ∧ (mmrRoot t.p).n = l.length := by
  refine chain_ind (P := fun l t => (∀ x ∈ t.p, GoodT x) ∧ (mmrRoot t.p).n = l.length) (fun bits hb => ?_) (fun l t b hc hi hp => ?_) l.length l t rfl h
  · rw [firstTip_is hb]
    refine ⟨fun x hx => ?_, rfl⟩
    rw [List.mem_singleton.1 hx]
    exact ⟨headWork_len _, by show (-9223372036854775808 : Int) ≤ 1; decide, by show (1 : Int) ≤ 9223372036854775807; decide⟩
  · have hlen := (chain_tip hc).2.2.1
    rw [pushT_eq hp]
    obtain ⟨i1, i2⟩ := hi
    refine ⟨fun x hx => ?_, ?_⟩
    · have hr : ∀ y ∈ t.p.reverse, GoodT y := fun y hy => i1 y (by simpa using hy)
      have hg : GoodT (leafH b.h) := ⟨headWork_len _, by show (-9223372036854775808 : Int) ≤ 1; decide, by show (1 : Int) ≤ 9223372036854775807; decide⟩
      refine (pushR_sum hr hg).1 x ?_
      have hx : x ∈ mmrAppend t.p (leafH b.h) := hx
      unfold mmrAppend at hx
      simpa using hx
    · show (mmrRoot (mmrAppend t.p (leafH b.h))).n = _
      rw [(append_sum i1).2, i2, wrap_eq (by omega), List.length_append, List.length_singleton]; omega
theorem leaves_take {l : List Block} {i : Nat} : leavesOf (l.take i) = (leavesOf l).take i := by unfold leavesOf; rw [List.map_take]
theorem chain_stands {l : List Block} {t : Tip} {i : Nat} {b a g : Block} (h : Chain l t) (hi : 1 ≤ i) (hb : l[i]? = some b) (ha : l[i - 1]? = some a) (hg : l[0]? = some g) : b.h.height = i ∧ b.h.prev = headId a.h ∧ b.h.past = (mmrRoot (((leavesOf l).take i).foldl mmrAppend [])).h ∧ b.h.work = (mmrRoot (((leavesOf l).take i).foldl mmrAppend [])).w ∧ (mmrRoot (((leavesOf l).take i).foldl mmrAppend [])).n = i ∧ b.h.bits = g.h.bits ∧ b.h.links = linkRoot b.l ∧ headMay b.h = true := by
  obtain ⟨t', h1, h2, h3⟩ := chain_at h hi hb
  obtain ⟨hl, _⟩ := List.getElem?_eq_some_iff.1 hb
  obtain ⟨c1, c2, c3, c4, g', c5, c6⟩ := chain_tip h1
  obtain ⟨_, p2, p3, p4, _⟩ := push_iff.1 h2
  have hlt : (l.take i).length = i := by rw [List.length_take]; omega
  rw [leaves_take] at c4
  rw [ha] at h3; injection h3 with h3
  rw [List.getElem?_take, if_pos (by omega), hg] at c5; injection c5 with c5
  rw [← c4]
  refine ⟨?_, ?_, congrArg (·.past) p2, congrArg (·.work) p2, ?_, ?_, ?_, p4⟩
  · rw [show b.h.height = IntKind.i64.wrap (t'.b.h.height + 1) from congrArg (·.height) p2, c2, hlt, wrap_eq (by omega)]; omega
  · rw [h3]; exact congrArg (·.prev) p2
  · rw [(chain_total h1).2, hlt]
  · rw [c5, ← c6]; exact congrArg (·.bits) p2
  · rw [p3]; exact congrArg (·.links) p2
theorem chain_spoiled {l : List Block} {t : Tip} {i : Nat} {a b c : Block} (h : Chain l t) (ha : l[i]? = some a) (hc : l[i + 1]? = some c) (h2 : (checkOf (l.set i b)).2 = 0) : headId b.h = headId a.h ∧ c.h.prev = headId b.h := by
  have e1 := chain_prev h ha hc
  obtain ⟨hl, _⟩ := List.getElem?_eq_some_iff.1 ha
  have e2 := chain_prev (chain_of h2) (i := i) (a := b) (b := c) (by rw [List.getElem?_set_self hl]) (by rw [List.getElem?_set_ne (by omega)]; exact hc)
  exact ⟨by rw [← e2, e1], e2⟩
theorem find_range {l : List Block} {id : Ab.Id} : -1 ≤ findOf l id ∧ findOf l id < l.length ∧ (0 ≤ findOf l id → ∃ b, l[(findOf l id).toNat]? = some b ∧ headId b.h = id) := by
  unfold findOf
  have h1 := idx_ge (fun b : Block => decide (headId b.h = id)) l
  refine ⟨h1, ?_, fun h => ?_⟩
  · rcases idx_lt (p := fun b : Block => decide (headId b.h = id)) (l := l) with h | h
    · exact h
    · subst h; show (-1 : Int) < 0; decide
  · obtain ⟨x, h2, h3, _⟩ := idx_some h
    exact ⟨x, h2, of_decide_eq_true h3⟩
theorem find_self {l : List Block} {i : Nat} {b : Block} (hb : l[i]? = some b) : ∃ k : Nat, findOf l (headId b.h) = k ∧ k ≤ i ∧ ∃ c, l[k]? = some c ∧ headId c.h = headId b.h := by
  unfold findOf
  by_cases h : 0 ≤ idx (fun c : Block => decide (headId c.h = headId b.h)) l
  · obtain ⟨x, h2, h3, h4⟩ := idx_some h
    have := h4 i b hb (by simp)
    exact ⟨_, (Int.toNat_of_nonneg h).symm, by omega, x, h2, of_decide_eq_true h3⟩
  · have := idx_none (Int.not_le.1 h) b (List.mem_of_getElem? hb)
    simp at this
end Go.Proofs.YtfepfajcdkllfaaGreat
set_option maxRecDepth 20000
namespace Go.Proofs.YtfepfajcdkllfaaGreat
set_option linter.unusedVariables false
set_option linter.unusedSimpArgs false
open Go.Ab Go.RowKit
def easyB0 : Block := ⟨easyH, [], []⟩
theorem easy_chain0 : checkOf [easyB0] = (easyTip, 0) := by
  unfold checkOf
  simp only []
  have e : firstTip easyB0.h.bits = easyTip := easy_tip
  rw [e, if_pos ⟨easy_ok, rfl⟩]; rfl
theorem easy_growE : growE [easyB0] [] 0 = 0 := by
  unfold growE; rw [easy_chain0, if_pos rfl]; exact easy_mineE
theorem easy_grown : growOf [easyB0] [] 0 = [easyB0, easyB] := by
  unfold growOf; rw [easy_growE, if_pos rfl, easy_chain0, easy_mineB]; rfl
theorem easy_chain1 : checkOf [easyB0, easyB] = (easyTip2, 0) := by
  rw [show [easyB0, easyB] = [easyB0] ++ [easyB] from rfl, checkOf_snoc (by rw [easy_chain0]), easy_chain0, easy_pushE, if_pos rfl, easy_pushT]
theorem easy_level1 : decide (0 ≤ headLevel easyB.h) = true := by kernel_rfl
theorem easy_two : decide (headId easyH = headId easyB.h) = false := by kernel_rfl
theorem easy_nz : decide (headId easyB.h = zId) = false := by kernel_rfl
theorem easy_find : findOf [easyB0, easyB] (headId easyB.h) = 1 := by
  unfold findOf
  rw [idx, idx]
  have e : decide (headId easyB0.h = headId easyB.h) = false := easy_two
  simp only [e]
  simp [idx]
theorem small_easyB0 : smallB easyB0 := by refine ⟨by decide, by decide, fun t ht => by cases ht⟩
theorem small_easyC0 : smallC [easyB0] := ⟨by decide, fun b hb => by rw [List.mem_singleton.1 hb]; exact small_easyB0⟩
theorem small_easyC : smallC [easyB0, easyB] := ⟨by decide, fun b hb => by
  rcases List.mem_cons.1 hb with h | h
  · rw [h]; exact small_easyB0
  · rw [List.mem_singleton.1 h]; exact small_easyB⟩
def fewC (l : List Block) : Bool := l.all fewB && decide ((l.length : Int) ≤ 50)
theorem fewC_small {l : List Block} (h : fewC l = true) : smallC l := by
  unfold fewC at h
  rw [Bool.and_eq_true, decide_eq_true_eq] at h
  exact ⟨by omega, fun b hb => fewB_small (List.all_eq_true.1 h.1 b hb)⟩
theorem fewC_len {l : List Block} (h : fewC l = true) : l.length ≤ 50 := by
  unfold fewC at h
  rw [Bool.and_eq_true, decide_eq_true_eq] at h
  omega
end Go.Proofs.YtfepfajcdkllfaaGreat
set_option maxRecDepth 20000
namespace Go.Proofs.YtfepfajcdkllfaaGreat
set_option linter.unusedVariables false
set_option linter.unusedSimpArgs false
open Go.Ab Go.RowKit
theorem indexFuncBlock (l : List Block) (p : Block → Bool) : Tells P 61 [.val (bsl blockT) l, .fn1 P blockT boolT p] (.val i64T (idx p l)) := by
 refine fn_of_aw Tryz.func61 rfl rfl rfl (fun ext w hext => ?_)
 refine aw_fact (d := 0) rfl fact_sl (fun hsl0 => ?_)
 refine CQR ?_; refine A0 aV ?_; refine CNQQR ?_; refine A0 mV ?_; refine A0 (g_len rfl rfl isl_22) ?_; refine A0 mV ?_; refine CNB ?_
 refine Lp (ι := Nat) 0 (fun (k : Nat) => (((((Fr.none).set 0 (.val (bsl blockT) l)).set 1 (.fn1 P blockT boolT p)).set 6 (.val (bsl blockT) l)).set 7 (.val i64T (l.length : Int))).set 8 (.val i64T (k : Int))) (fun (k : Nat) => Hp.none) (fun (k : Nat) => k ≤ l.length ∧ idx p l = shift k (idx p (l.drop k))) (fun (k : Nat) => l.length - k) (0) (⟨Nat.zero_le _, shift_zero p l⟩) ?_
 intro k hinv
 refine CQR ?_; refine A0 o_lss ?_; refine CNQ ?_
 refine Cf (p := k < l.length) (fun ht9 => ?_) (fun ht9 => ?_)
 ·
  obtain ⟨x, hx⟩ : ∃ x, l[k]? = some x := ⟨_, List.getElem?_eq_getElem ht9⟩
  refine CSQBQR ?_; refine A0 mV ?_; refine A0 aV ?_; refine CNQR ?_; refine A0 mF ?_; refine A0 mV ?_; refine A0 mV ?_; refine A0 (g_ia_n rfl rfl rfl sl_22 (by assumption)) ?_; refine A0 (g_load_r rfl rfl ty_37) ?_
  refine A0 (g_callf1 rfl rfl (by first | exact arg_same rfl | exact arg_bsl rfl | exact arg_own rfl rfl | exact arg_nil rfl | exact arg_rptr rfl | exact arg_fn rfl rfl | exact arg_lit rfl)) ?_; refine CN ?_
  refine aw_ifc (p := p x = true) rfl (by simp) (fun ht16 => ?_) (fun ht16 => ?_)
  ·
   refine CQR ?_; refine A0 mV ?_; refine A0 aV ?_; refine CN ?_
   exact aw_ret1 rfl rfl (ret_eq rfl (hinv.2.trans (idx_yes hx ht16)).symm)
  ·
   refine CSIR ?_; refine A0 o_add ?_; refine A0 mV ?_; refine CN ?_
   exact Nx (k + 1) (⟨by omega, hinv.2.trans (idx_no hx ht16)⟩) (by omega)
 ·
  refine CE ?_; refine CQR ?_; refine A0 aV ?_; refine CN ?_
  exact aw_ret1 rfl rfl (ret_eq rfl (hinv.2.trans (idx_end (by omega))).symm)
theorem equalFBlock (l m : List Block) : Tells P 42 [.val (bsl blockT) l, .val (bsl blockT) m, .fn2 P blockT blockT boolT (fun x y => decide (x = y))] (.val boolT (decide (l = m))) := by
 refine fn_of_aw Tryz.func42 rfl rfl rfl (fun ext w hext => ?_)
 refine aw_fact (d := 0) rfl fact_sl (fun hsl0 => ?_)
 refine aw_fact (d := 1) rfl fact_sl (fun hsl1 => ?_)
 refine CQR ?_; refine A0 aV ?_; refine CNQQR ?_; refine A0 mV ?_; refine A0 (g_len rfl rfl isl_22) ?_; refine A0 mV ?_; refine A0 (g_len rfl rfl isl_22) ?_; refine A0 o_neq ?_; refine CN ?_
 refine Cf (p := ¬ l.length = m.length) (fun ht14 => ?_) (fun ht14 => ?_)
 ·
  refine CQR ?_; refine A0 aV ?_; refine CN ?_
  exact aw_ret1 rfl rfl (ret_eq rfl (decide_eq_false (fun e => ht14 (by rw [e]))).symm)
 ·
  refine CSQQR ?_; refine A0 mV ?_; refine A0 (g_len rfl rfl isl_22) ?_; refine A0 mV ?_; refine CNB ?_
  refine Lp (ι := Nat) 0 (fun (k : Nat) => ((((((Fr.none).set 0 (.val (bsl blockT) l)).set 1 (.val (bsl blockT) m)).set 2 (.fn2 P blockT blockT boolT (fun x y => decide (x = y)))).set 15 (.val (bsl blockT) l)).set 16 (.val i64T (l.length : Int))).set 17 (.val i64T (k : Int))) (fun (k : Nat) => Hp.none) (fun (k : Nat) => k ≤ l.length ∧ l.take k = m.take k) (fun (k : Nat) => l.length - k) (0) (⟨Nat.zero_le _, by simp⟩) ?_
  intro k hinv
  refine CQR ?_; refine A0 o_lss ?_; refine CNQ ?_
  refine Cf (p := k < l.length) (fun ht18 => ?_) (fun ht18 => ?_)
  ·
   obtain ⟨x, hx⟩ : ∃ x, l[k]? = some x := ⟨_, List.getElem?_eq_getElem ht18⟩
   obtain ⟨y, hy⟩ : ∃ y, m[k]? = some y := ⟨_, List.getElem?_eq_getElem (by omega)⟩
   refine CSQBQR ?_; refine A0 mV ?_; refine A0 (g_ia_n rfl rfl rfl sl_22 (by assumption)) ?_; refine A0 (g_load_r rfl rfl ty_37) ?_; refine aw_alloc ze_37 rfl rfl rfl rfl ?_; refine A0 aV ?_
   refine aw_store_b rfl rfl rfl rfl rfl (Lens.self _) ty_37 rfl ?_; refine CNQR ?_; refine A0 mV ?_; refine A0 mV ?_; refine A0 (g_ia_n rfl rfl rfl sl_22 (by assumption)) ?_; refine A0 (g_load_r rfl rfl ty_37) ?_
   refine aw_alloc ze_37 rfl rfl rfl rfl ?_; refine aw_store_b rfl rfl rfl rfl rfl (Lens.self _) ty_37 rfl ?_; refine CNQR ?_; refine A0 mH ?_; refine A0 (oLs rfl rfl rfl ty_37) ?_; refine A0 (oLs rfl rfl rfl ty_37) ?_
   refine A0 (g_callf2 rfl rfl (arg_v rfl) (arg_v rfl)) ?_; refine A0 oN ?_; refine CN ?_
   refine aw_ifc (p := ¬ x = y) rfl (by simp) (fun ht30 => ?_) (fun ht30 => ?_)
   ·
    refine CQR ?_; refine A0 aV ?_; refine CN ?_
    exact aw_ret1 rfl rfl (ret_eq rfl (decide_eq_false (ne_of_at hx hy ht30)).symm)
   ·
    refine CSIR ?_; refine A0 o_add ?_; refine A0 mV ?_; refine CN ?_
    exact Nx (k + 1) (⟨by omega, beq_all_succ hx hy hinv.2 (by simpa using ht30)⟩) (by omega)
  ·
   refine CE ?_; refine CQR ?_; refine A0 aV ?_; refine CN ?_
   exact aw_ret1 rfl rfl (ret_eq rfl (decide_eq_true (by have h := hinv.2; rw [List.take_of_length_le (by omega), List.take_of_length_le (by omega)] at h; exact h)).symm)
theorem checkOf_start {l : List Block} {g : Block} (h : l[0]? = some g) (h1 : tgtOk g.h.bits = true) (h2 : (firstTip g.h.bits).b = g) : checkOf l = checkFrom (firstTip g.h.bits) (l.drop 1) := by
  cases l with
  | nil => cases h
  | cons x r =>
    injection h with h; subst h
    unfold checkOf; simp only []; rw [if_pos ⟨h1, h2⟩]; rfl
theorem checkOf_other {l : List Block} {g : Block} (h : l[0]? = some g) (h1 : ¬ (tgtOk g.h.bits = true ∧ (firstTip g.h.bits).b = g)) : checkOf l = (zTip, 12) := by
  cases l with
  | nil => cases h
  | cons x r =>
    injection h with h; subst h
    unfold checkOf; simp only []; rw [if_neg h1]
theorem check_step {r : List Block} {k : Nat} {b : Block} {t : Tip} (hb : r[k]? = some b) (h : pushE t b = 0) : checkFrom t (r.drop k) = checkFrom (pushT t b) (r.drop (k + 1)) := by
  obtain ⟨hk, rfl⟩ := List.getElem?_eq_some_iff.1 hb
  rw [List.drop_eq_getElem_cons hk, checkFrom, if_pos h]
theorem check_stop {r : List Block} {k : Nat} {b : Block} {t : Tip} (hb : r[k]? = some b) (h : ¬ pushE t b = 0) : checkFrom t (r.drop k) = (zTip, pushE t b) := by
  obtain ⟨hk, rfl⟩ := List.getElem?_eq_some_iff.1 hb
  rw [List.drop_eq_getElem_cons hk, checkFrom, if_neg h]
theorem check_end {r : List Block} {k : Nat} {t : Tip} (h : r.length ≤ k) : checkFrom t (r.drop k) = (t, 0) := by
  rw [List.drop_of_length_le h]; rfl
theorem checkOf_nil {l : List Block} (h : l.length = 0) : checkOf l = (zTip, 9) := by rw [List.eq_nil_of_length_eq_zero h]; rfl
def newOf (bits : UInt32) : List Block := if tgtOk bits = true then [(firstTip bits).b] else []
theorem own11_ok (t : Tx) (ht : smallTx t) : Tells P 91 [.val txT t] (.val txT t) := by
 refine fn_of_aw Tryz.func91 rfl rfl rfl (fun ext w hext => ?_)
 refine CQR ?_; refine aw_box rfl rfl rfl rfl rfl ?_; refine aw_alloc ze_77 rfl rfl rfl rfl ?_; refine CNQ ?_; refine aw_drawx [some 1, some 1, some 1, some 1, some 1, some 1, some 1, none] mixed (by decide +kernel) ?_
 refine X0 (oFp fd_77_0) ?_; refine X0 (oLb L_Tx_ins ty_74) ?_; refine X0 (oCl (tells_pub (cloneIn t.ins (by unfold smallTx at ht; constructor <;> omega))) rfl fn_92 ⟨(arg_v rfl), trivial⟩) ?_; refine X0 (oFp fd_77_1) ?_
 refine X0 (oLb L_Tx_outs ty_75) ?_; refine X0 (oCl (tells_pub (cloneOut t.outs (by unfold smallTx at ht; constructor <;> omega))) rfl fn_93 ⟨(arg_v rfl), trivial⟩) ?_
 refine X0 (g_build rfl ze_77 bd_77 (.cons fd_77_0 L_Tx_ins ty_74 rfl (.cons fd_77_1 L_Tx_outs ty_75 rfl .nil)) rfl) ?_
 refine XK.e (x := .idk) (fun fr' hfr kk H => by exact aw_store_b rfl rfl rfl ((hfr 2 (by decide +kernel)).trans rfl) rfl (Lens.self _) ty_77 ((hfr 9 (by decide +kernel)).trans rfl) (aw_nil H)) ?_; refine XK.nil' ?_
 exact aw_retc1 rfl rfl rfl rfl ty_77 (rfl)
theorem toldTx_ok (l : List Tx) (hl : smallL l) : Tells P 90 [.val (bsl txT) l, .clo 91 []] (.fresh 77 txT l) := by
 have hll := hl.1
 refine fn_of_aw Tryz.func90 rfl rfl rfl (fun ext w hext => ?_)
 refine aw_fact (d := 0) rfl fact_sl (fun hsl0 => ?_)
 refine CQR ?_; refine A0 aL ?_; refine CNQR ?_; refine A0 aL ?_; refine CNQQR ?_; refine A0 mV ?_; refine A0 (g_len rfl rfl isl_23) ?_; refine A0 mV ?_; refine CNB ?_; refine aw_nilrow (T := txT) (d := 5) 77 rfl ?_
 refine Lp (ι := Nat) 1 (fun (k : Nat) => ((((((Fr.none).set 0 (.val (bsl txT) l)).set 1 (.clo 91 [])).set 5 (.own 0)).set 8 (.val (bsl txT) l)).set 9 (.val i64T (l.length : Int))).set 10 (.val i64T (k : Int))) (fun (k : Nat) => (Hp.none).set 0 (.row 77 txT (l.take k))) (fun (k : Nat) => k ≤ l.length) (fun (k : Nat) => l.length - k) (0) (Nat.zero_le _) ?_
 intro k hinv
 refine CQR ?_; refine A0 o_lss ?_; refine CNQ ?_
 refine Cf (p := k < l.length) (fun ht11 => ?_) (fun ht11 => ?_)
 ·
  obtain ⟨x, hx⟩ : ∃ x, l[k]? = some x := ⟨_, List.getElem?_eq_getElem ht11⟩
  have hxm := List.mem_of_getElem? hx
  refine CSQBQR ?_; refine A0 (g_ia_n rfl rfl rfl sl_23 (by assumption)) ?_; refine A0 (g_load_r rfl rfl ty_77) ?_; refine aw_alloc ze_77 rfl rfl rfl rfl ?_; refine aw_store_b rfl rfl rfl rfl rfl (Lens.self _) ty_77 rfl ?_; refine CNR ?_
  refine A0 mO ?_; refine A0 mC ?_; refine A0 (oLs rfl rfl rfl ty_77) ?_; refine A0 (g_callc (As := [_]) (Cs := []) (own11_ok x (hl.2 x hxm)) rfl rfl fn_91 ⟨(arg_v rfl), trivial⟩ (by intro n hn; cases hn) trivial rfl) ?_
  refine A0 (g_bslice (T := txT) (xs := [_]) rfl sl_23 row_23 ⟨rfl, rfl, trivial⟩ rfl rfl) ?_; refine aw_append rfl rfl rfl rfl rfl rfl rfl row_23 (by simp; omega) ?_; refine A0 aO ?_; refine CNIR ?_; refine A0 o_add ?_; refine A0 mV ?_
  refine CN ?_; refine aw_ren 2 0 3 rfl rfl rfl rfl rfl rfl ?_; refine aw_rerow (n := 0) (y := l.take (k + 1)) rfl (by rw [List.take_add_one, hx]; rfl) ?_
  exact Nx (k + 1) (by omega) (by omega)
 ·
  refine CE ?_; refine CQR ?_; refine A0 mO ?_; refine A0 aO ?_; refine CN ?_
  exact aw_ret1 rfl rfl (ret_fresh_eq rfl rfl (by rw [List.take_of_length_le (by omega)]))
theorem own1_ok (b : Block) (hb : smallB b) : Tells P 88 [.val blockT b] (.val blockT b) := by
 have hb1 := hb.1
 refine fn_of_aw Tryz.func88 rfl rfl rfl (fun ext w hext => ?_)
 refine CQR ?_; refine aw_box rfl rfl rfl rfl rfl ?_; refine aw_alloc ze_37 rfl rfl rfl rfl ?_; refine CNQR ?_; refine A0 (oFp fd_37_1) ?_; refine A0 (oLb L_Block_l ty_35) ?_
 refine A0 (oCl (tells_pub (cloneId b.l (by constructor <;> omega))) rfl fn_89 ⟨(arg_v rfl), trivial⟩) ?_; refine A0 (oFp fd_37_1) ?_; refine aw_store_b rfl rfl rfl rfl rfl L_Block_l ty_35 rfl ?_; refine CNQR ?_; refine A0 (oFp fd_37_2) ?_
 refine A0 (oLb L_Block_t ty_23) ?_
 refine A0 (oCl (tells_pub (toldTx_ok b.t hb.2)) rfl fn_90 ⟨(arg_v rfl), (by first | exact arg_fn1 (Cs := []) rfl fn_91 (by intro n hn; cases hn) trivial rfl (fun x => own11_ok _ (by assumption)) | exact arg_fn2 (Cs := []) rfl fn_91 (by intro n hn; cases hn) trivial rfl (fun x y => own11_ok _ (by assumption)) | exact arg_clo rfl), trivial⟩) ?_
 refine A0 (oFp fd_37_2) ?_; refine aw_store_b rfl rfl rfl rfl rfl L_Block_t ty_23 rfl ?_; refine CNQR ?_; refine A0 (oLs rfl rfl rfl ty_37) ?_; refine aw_store_b rfl rfl rfl rfl rfl (Lens.self _) ty_37 rfl ?_; refine CN ?_
 exact aw_retc1 rfl rfl rfl rfl ty_37 (rfl)
theorem toldBlock_ok (l : List Block) (hl : smallC l) : Tells P 87 [.val (bsl blockT) l, .clo 88 []] (.fresh 37 blockT l) := by
 have hll := hl.1
 refine fn_of_aw Tryz.func87 rfl rfl rfl (fun ext w hext => ?_)
 refine aw_fact (d := 0) rfl fact_sl (fun hsl0 => ?_)
 refine CQR ?_; refine A0 aL ?_; refine CNQR ?_; refine A0 aL ?_; refine CNQQR ?_; refine A0 mV ?_; refine A0 (g_len rfl rfl isl_22) ?_; refine A0 mV ?_; refine CNB ?_; refine aw_nilrow (T := blockT) (d := 5) 37 rfl ?_
 refine Lp (ι := Nat) 1 (fun (k : Nat) => ((((((Fr.none).set 0 (.val (bsl blockT) l)).set 1 (.clo 88 [])).set 5 (.own 0)).set 8 (.val (bsl blockT) l)).set 9 (.val i64T (l.length : Int))).set 10 (.val i64T (k : Int))) (fun (k : Nat) => (Hp.none).set 0 (.row 37 blockT (l.take k))) (fun (k : Nat) => k ≤ l.length) (fun (k : Nat) => l.length - k) (0) (Nat.zero_le _) ?_
 intro k hinv
 refine CQR ?_; refine A0 o_lss ?_; refine CNQ ?_
 refine Cf (p := k < l.length) (fun ht11 => ?_) (fun ht11 => ?_)
 ·
  obtain ⟨x, hx⟩ : ∃ x, l[k]? = some x := ⟨_, List.getElem?_eq_getElem ht11⟩
  have hxm := List.mem_of_getElem? hx
  refine CSQBQR ?_; refine A0 (g_ia_n rfl rfl rfl sl_22 (by assumption)) ?_; refine A0 (g_load_r rfl rfl ty_37) ?_; refine aw_alloc ze_37 rfl rfl rfl rfl ?_; refine aw_store_b rfl rfl rfl rfl rfl (Lens.self _) ty_37 rfl ?_; refine CNR ?_
  refine A0 mO ?_; refine A0 mC ?_; refine A0 (oLs rfl rfl rfl ty_37) ?_; refine A0 (g_callc (As := [_]) (Cs := []) (own1_ok x (hl.2 x hxm)) rfl rfl fn_88 ⟨(arg_v rfl), trivial⟩ (by intro n hn; cases hn) trivial rfl) ?_
  refine A0 (g_bslice (T := blockT) (xs := [_]) rfl sl_22 row_22 ⟨rfl, rfl, trivial⟩ rfl rfl) ?_; refine aw_append rfl rfl rfl rfl rfl rfl rfl row_22 (by simp; omega) ?_; refine A0 aO ?_; refine CNIR ?_; refine A0 o_add ?_; refine A0 mV ?_
  refine CN ?_; refine aw_ren 2 0 3 rfl rfl rfl rfl rfl rfl ?_; refine aw_rerow (n := 0) (y := l.take (k + 1)) rfl (by rw [List.take_add_one, hx]; rfl) ?_
  exact Nx (k + 1) (by omega) (by omega)
 ·
  refine CE ?_; refine CQR ?_; refine A0 mO ?_; refine A0 aO ?_; refine CN ?_
  exact aw_ret1 rfl rfl (ret_fresh_eq rfl rfl (by rw [List.take_of_length_le (by omega)]))
theorem ownC_ok (l : List Block) (hl : smallC l) : Tells P 40 [.val (bsl blockT) l] (.fresh 37 blockT l) := by
 refine fn_of_aw Tryz.func40 rfl rfl rfl (fun ext w hext => ?_)
 refine aw_fact (d := 0) rfl fact_sl (fun hsl0 => ?_)
 refine CQR ?_; refine A0 aL ?_; refine CNQR ?_; refine A0 mV ?_
 refine aw_callf (toldBlock_ok l hl) rfl fn_87 ⟨(arg_v rfl), (by first | exact arg_fn1 (Cs := []) rfl fn_88 (by intro n hn; cases hn) trivial rfl (fun x => own1_ok _ (by assumption)) | exact arg_fn2 (Cs := []) rfl fn_88 (by intro n hn; cases hn) trivial rfl (fun x y => own1_ok _ (by assumption)) | exact arg_clo rfl), trivial⟩ rfl rfl rfl ?_
 refine A0 aO ?_; refine CN ?_
 exact aw_ret1 rfl rfl (ret_fresh_eq rfl rfl rfl)
theorem levelC_ok (b : Block) : Tells P 44 [.val blockT b] (.val i64T (headLevel b.h)) := by
 refine fn_of_aw Tryz.func44 rfl rfl rfl (fun ext w hext => ?_)
 refine CQR ?_; refine aw_box rfl rfl rfl rfl rfl ?_; refine A0 aV ?_; refine CNQR ?_; refine A0 (oFp fd_37_0) ?_; refine A0 (oLb L_Block_h ty_34) ?_; refine A0 (oCl (headLevel_ok _) rfl fn_21 ⟨(arg_v rfl), trivial⟩) ?_; refine A0 aV ?_
 refine CN ?_
 exact aw_ret1 rfl rfl (by first | exact ret_val rfl | exact ret_own rfl rfl | exact ret_nil rfl | exact ret_fresh rfl rfl | exact ret_fresh_nil rfl | exact ret_lit rfl)
theorem leafC_ok (b : Block) : Tells P 71 [.val blockT b] (.val totalT (leafH b.h)) := by
 refine fn_of_aw Tryz.func71 rfl rfl rfl (fun ext w hext => ?_)
 refine CQR ?_; refine aw_box rfl rfl rfl rfl rfl ?_; refine aw_alloc ze_68 rfl rfl rfl rfl ?_; refine CNQ ?_; refine aw_drawx [some 1, some 1, some 1, some 1, some 1, some 1, some 1, none] mixed (by decide +kernel) ?_
 refine X0 (oFp fd_37_0) ?_; refine X0 (oLb L_Block_h ty_34) ?_; refine X0 (oCl (headId_ok _) rfl fn_17 ⟨(arg_v rfl), trivial⟩) ?_; refine X0 (oFp fd_37_0) ?_; refine X0 (oLb L_Block_h ty_34) ?_
 refine X0 (oCl (headWork_ok _) rfl fn_105 ⟨(arg_v rfl), trivial⟩) ?_; refine X0 (oCl (mleaf_ok _ _) rfl fn_104 ⟨(arg_v rfl), (arg_v rfl), trivial⟩) ?_
 refine XK.e (x := .idk) (fun fr' hfr kk H => by exact aw_store_b rfl rfl rfl ((hfr 2 (by decide +kernel)).trans rfl) rfl (Lens.self _) ty_68 ((hfr 9 (by decide +kernel)).trans rfl) (aw_nil H)) ?_; refine XK.nil' ?_
 exact aw_retc1 rfl rfl rfl rfl ty_68 (rfl)
theorem toldInt_ok (l : List Block) (f : Block → Int) (hl : l.length ≤ 1000000000000) : Tells P 43 [.val (bsl blockT) l, .fn1 P blockT i64T f] (.fresh 3 i64T (l.map f)) := by
 refine fn_of_aw Tryz.func43 rfl rfl rfl (fun ext w hext => ?_)
 refine aw_fact (d := 0) rfl fact_sl (fun hsl0 => ?_)
 refine CQR ?_; refine A0 aL ?_; refine CNQR ?_; refine A0 aL ?_; refine CNQQR ?_; refine A0 mV ?_; refine A0 (g_len rfl rfl isl_22) ?_; refine A0 mV ?_; refine CNB ?_; refine aw_nilrow (T := i64T) (d := 5) 3 rfl ?_
 refine Lp (ι := Nat) 1 (fun (k : Nat) => ((((((Fr.none).set 0 (.val (bsl blockT) l)).set 1 (.fn1 P blockT i64T f)).set 5 (.own 0)).set 8 (.val (bsl blockT) l)).set 9 (.val i64T (l.length : Int))).set 10 (.val i64T (k : Int))) (fun (k : Nat) => (Hp.none).set 0 (.row 3 i64T ((l.take k).map f))) (fun (k : Nat) => k ≤ l.length) (fun (k : Nat) => l.length - k) (0) (Nat.zero_le _) ?_
 intro k hinv
 refine CQR ?_; refine A0 o_lss ?_; refine CNQ ?_
 refine Cf (p := k < l.length) (fun ht11 => ?_) (fun ht11 => ?_)
 ·
  obtain ⟨x, hx⟩ : ∃ x, l[k]? = some x := ⟨_, List.getElem?_eq_getElem ht11⟩
  have hxm := List.mem_of_getElem? hx
  refine CSQBQR ?_; refine A0 (g_ia_n rfl rfl rfl sl_22 (by assumption)) ?_; refine A0 (g_load_r rfl rfl ty_37) ?_; refine aw_alloc ze_37 rfl rfl rfl rfl ?_; refine aw_store_b rfl rfl rfl rfl rfl (Lens.self _) ty_37 rfl ?_; refine CNR ?_
  refine A0 mO ?_; refine A0 mF ?_; refine A0 (oLs rfl rfl rfl ty_37) ?_; refine A0 (g_callf1 rfl rfl (arg_v rfl)) ?_; refine A0 (g_bslice (T := i64T) (xs := [_]) rfl sl_49 row_49 ⟨rfl, rfl, trivial⟩ rfl rfl) ?_
  refine aw_append rfl rfl rfl rfl rfl rfl rfl row_49 (by simp; omega) ?_; refine A0 aO ?_; refine CNIR ?_; refine A0 o_add ?_; refine A0 mV ?_; refine CN ?_; refine aw_ren 2 0 3 rfl rfl rfl rfl rfl rfl ?_
  refine aw_rerow (n := 0) (y := (l.take (k + 1)).map f) rfl (by rw [List.take_add_one, hx]; simp) ?_
  exact Nx (k + 1) (by omega) (by omega)
 ·
  refine CE ?_; refine CQR ?_; refine A0 mO ?_; refine A0 aO ?_; refine CN ?_
  exact aw_ret1 rfl rfl (ret_fresh_eq rfl rfl (by rw [List.take_of_length_le (by omega)]))
theorem toldTotal_ok (l : List Block) (f : Block → Total) (hl : l.length ≤ 1000000000000) : Tells P 70 [.val (bsl blockT) l, .fn1 P blockT totalT f] (.fresh 68 totalT (l.map f)) := by
 refine fn_of_aw Tryz.func70 rfl rfl rfl (fun ext w hext => ?_)
 refine aw_fact (d := 0) rfl fact_sl (fun hsl0 => ?_)
 refine CQR ?_; refine A0 aL ?_; refine CNQR ?_; refine A0 aL ?_; refine CNQQR ?_; refine A0 mV ?_; refine A0 (g_len rfl rfl isl_22) ?_; refine A0 mV ?_; refine CNB ?_; refine aw_nilrow (T := totalT) (d := 5) 68 rfl ?_
 refine Lp (ι := Nat) 1 (fun (k : Nat) => ((((((Fr.none).set 0 (.val (bsl blockT) l)).set 1 (.fn1 P blockT totalT f)).set 5 (.own 0)).set 8 (.val (bsl blockT) l)).set 9 (.val i64T (l.length : Int))).set 10 (.val i64T (k : Int))) (fun (k : Nat) => (Hp.none).set 0 (.row 68 totalT ((l.take k).map f))) (fun (k : Nat) => k ≤ l.length) (fun (k : Nat) => l.length - k) (0) (Nat.zero_le _) ?_
 intro k hinv
 refine CQR ?_; refine A0 o_lss ?_; refine CNQ ?_
 refine Cf (p := k < l.length) (fun ht11 => ?_) (fun ht11 => ?_)
 ·
  obtain ⟨x, hx⟩ : ∃ x, l[k]? = some x := ⟨_, List.getElem?_eq_getElem ht11⟩
  have hxm := List.mem_of_getElem? hx
  refine CSQBQR ?_; refine A0 (g_ia_n rfl rfl rfl sl_22 (by assumption)) ?_; refine A0 (g_load_r rfl rfl ty_37) ?_; refine aw_alloc ze_37 rfl rfl rfl rfl ?_; refine aw_store_b rfl rfl rfl rfl rfl (Lens.self _) ty_37 rfl ?_; refine CNR ?_
  refine A0 mO ?_; refine A0 mF ?_; refine A0 (oLs rfl rfl rfl ty_37) ?_; refine A0 (g_callf1 rfl rfl (arg_v rfl)) ?_; refine A0 (g_bslice (T := totalT) (xs := [_]) rfl sl_38 row_38 ⟨rfl, rfl, trivial⟩ rfl rfl) ?_
  refine aw_append rfl rfl rfl rfl rfl rfl rfl row_38 (by simp; omega) ?_; refine A0 aO ?_; refine CNIR ?_; refine A0 o_add ?_; refine A0 mV ?_; refine CN ?_; refine aw_ren 2 0 3 rfl rfl rfl rfl rfl rfl ?_
  refine aw_rerow (n := 0) (y := (l.take (k + 1)).map f) rfl (by rw [List.take_add_one, hx]; simp) ?_
  exact Nx (k + 1) (by omega) (by omega)
 ·
  refine CE ?_; refine CQR ?_; refine A0 mO ?_; refine A0 aO ?_; refine CN ?_
  exact aw_ret1 rfl rfl (ret_fresh_eq rfl rfl (by rw [List.take_of_length_le (by omega)]))
theorem levels_ok (l : List Block) (hl : l.length ≤ 1000000000000) : Tells P 16 [.val (bsl blockT) l] (.fresh 3 i64T (levelsOf l)) := by
 refine fn_of_aw Tryz.func16 rfl rfl rfl (fun ext w hext => ?_)
 refine aw_fact (d := 0) rfl fact_sl (fun hsl0 => ?_)
 refine CQR ?_; refine A0 aL ?_; refine CNQR ?_; refine A0 mV ?_
 refine aw_callf (toldInt_ok l (fun b => headLevel b.h) hl) rfl fn_43 ⟨(arg_v rfl), (by first | exact arg_fn1 (Cs := []) rfl fn_44 (by intro n hn; cases hn) trivial rfl (fun x => levelC_ok x) | exact arg_fn2 (Cs := []) rfl fn_44 (by intro n hn; cases hn) trivial rfl (fun x y => levelC_ok x) | exact arg_clo rfl), trivial⟩ rfl rfl rfl ?_
 refine A0 aO ?_; refine CN ?_
 exact aw_ret1 rfl rfl (ret_fresh_eq rfl rfl rfl)
theorem leaves_ok (l : List Block) (hl : l.length ≤ 1000000000000) : Tells P 30 [.val (bsl blockT) l] (.fresh 68 totalT (leavesOf l)) := by
 refine fn_of_aw Tryz.func30 rfl rfl rfl (fun ext w hext => ?_)
 refine aw_fact (d := 0) rfl fact_sl (fun hsl0 => ?_)
 refine CQR ?_; refine A0 aL ?_; refine CNQR ?_; refine A0 mV ?_
 refine aw_callf (toldTotal_ok l (fun b => leafH b.h) hl) rfl fn_70 ⟨(arg_v rfl), (by first | exact arg_fn1 (Cs := []) rfl fn_71 (by intro n hn; cases hn) trivial rfl (fun x => leafC_ok x) | exact arg_fn2 (Cs := []) rfl fn_71 (by intro n hn; cases hn) trivial rfl (fun x y => leafC_ok x) | exact arg_clo rfl), trivial⟩ rfl rfl rfl ?_
 refine A0 aO ?_; refine CN ?_
 exact aw_ret1 rfl rfl (ret_fresh_eq rfl rfl rfl)
theorem findC1_ok (id : Ab.Id) (b : Block) : Tells P 62 [.val blockT b, .rptr idT id] (.val boolT (decide (headId b.h = id))) := by
 refine fn_of_aw Tryz.func62 rfl rfl rfl (fun ext w hext => ?_)
 refine CQR ?_; refine aw_box rfl rfl rfl rfl rfl ?_; refine A0 aV ?_; refine CNQ ?_; refine CD mixed ?_; refine G0 (oFp fd_37_0) ?_; refine G0 (oLb L_Block_h ty_34) ?_; refine G0 (oCl (headId_ok _) rfl fn_17 ⟨(arg_v rfl), trivial⟩) ?_
 refine G0 (g_load_r rfl rfl ty_29) ?_; refine G0 (g_eqlS rfl rfl rfl (eqt_29)) ?_; refine G0 aV ?_; refine GK.nil ?_
 exact aw_ret1 rfl rfl (by first | exact ret_val rfl | exact ret_own rfl rfl | exact ret_nil rfl | exact ret_fresh rfl rfl | exact ret_fresh_nil rfl | exact ret_lit rfl)
theorem findC_ok (l : List Block) (id : Ab.Id) : Tells P 20 [.val (bsl blockT) l, .val idT id] (.val i64T (findOf l id)) := by
 refine fn_of_aw Tryz.func20 rfl rfl rfl (fun ext w hext => ?_)
 refine aw_fact (d := 0) rfl fact_sl (fun hsl0 => ?_)
 refine CQR ?_; refine aw_box rfl rfl rfl rfl rfl ?_; refine A0 aV ?_; refine CNQR ?_; refine A0 mV ?_; refine A0 (g_mkf (caps := [_]) rfl rfl) ?_
 refine A0 (oCl (indexFuncBlock l (fun b => decide (headId b.h = id))) rfl fn_61 ⟨(arg_v rfl), (by first | exact arg_fn1 (Cs := [_]) rfl fn_62 (by intro n hn; simp only [List.mem_cons, List.not_mem_nil, or_false] at hn; rcases hn with rfl <;> exact ⟨_, _, _, _, rfl⟩) ⟨(by exact arg_cap rfl), trivial⟩ rfl (fun x => findC1_ok id x) | exact arg_fn2 (Cs := [_]) rfl fn_62 (by intro n hn; simp only [List.mem_cons, List.not_mem_nil, or_false] at hn; rcases hn with rfl <;> exact ⟨_, _, _, _, rfl⟩) ⟨(by exact arg_cap rfl), trivial⟩ rfl (fun x y => findC1_ok id x) | exact arg_clo rfl), trivial⟩) ?_
 refine A0 aV ?_; refine CN ?_
 exact aw_ret1 rfl rfl (ret_eq rfl rfl)
theorem sameC_ok (a b : List Block) : Tells P 15 [.val (bsl blockT) a, .val (bsl blockT) b] (.val boolT (decide (a = b))) := by
 refine fn_of_aw Tryz.func15 rfl rfl rfl (fun ext w hext => ?_)
 refine aw_fact (d := 0) rfl fact_sl (fun hsl0 => ?_)
 refine aw_fact (d := 1) rfl fact_sl (fun hsl1 => ?_)
 refine CQR ?_; refine A0 aV ?_; refine CNQR ?_; refine A0 mV ?_; refine A0 mV ?_
 refine A0 (oCl (equalFBlock _ _) rfl fn_42 ⟨(arg_v rfl), (arg_v rfl), (by first | exact arg_fn1 (Cs := []) rfl fn_39 (by intro n hn; cases hn) trivial rfl (fun x => sameB_ok x y) | exact arg_fn2 (Cs := []) rfl fn_39 (by intro n hn; cases hn) trivial rfl (fun x y => sameB_ok x y) | exact arg_clo rfl), trivial⟩) ?_
 refine A0 aV ?_; refine CN ?_
 exact aw_ret1 rfl rfl (by first | exact ret_val rfl | exact ret_own rfl rfl | exact ret_nil rfl | exact ret_fresh rfl rfl | exact ret_fresh_nil rfl | exact ret_lit rfl)
theorem check_ok (l : List Block) (hl : smallC l) : Tells P 13 [.val (bsl blockT) l] (.tup2 (.val tipT (checkOf l).1) (.val i64T (checkOf l).2)) := by
 have hll := hl.1
 refine fn_of_aw Tryz.func13 rfl rfl rfl (fun ext w hext => ?_)
 refine aw_fact (d := 0) rfl fact_sl (fun hsl0 => ?_)
 refine CQR ?_; refine aw_alloc ze_41 rfl rfl rfl rfl ?_; refine A0 aV ?_; refine CN ?_
 refine aw_scope (ι := Block) 2 0 rfl rfl rfl (fun (g : Block) => ((((Fr.none).set 0 (.val (bsl blockT) l)).set 2 (.ptr 0 0)).set 4 (.ptr 1 0)).set 6 (.val i64T 0)) (fun (g : Block) => ((Hp.none).set 0 (.box 41 tipT zTip)).set 1 (.box 41 tipT (firstTip g.h.bits))) (fun (g : Block) => l[0]? = some g ∧ tgtOk g.h.bits = true ∧ (firstTip g.h.bits).b = g) (fun (g : Block) => 0) ?_ (fun hreach => ?_)
 ·
  intro g hinv
  have hl1 := (List.getElem?_eq_some_iff.1 hinv.1).1
  refine CQQR ?_; refine A0 mV ?_; refine A0 (g_sl_l rfl rfl rfl sl_22 (by first | assumption | omega | (simp; omega))) ?_; refine A0 (g_len rfl rfl isl_22) ?_; refine A0 mV ?_; refine CNB ?_
  refine Lp (ι := Nat × Tip) 2 (fun (i : Nat × Tip) => match i with | (k, t) => (((((((Fr.none).set 0 (.val (bsl blockT) l)).set 2 (.ptr 0 0)).set 4 (.ptr 1 0)).set 6 (.val i64T 0)).set 35 (.val (bsl blockT) (l.drop 1))).set 36 (.val i64T ((l.drop 1).length : Int))).set 37 (.val i64T (k : Int))) (fun (i : Nat × Tip) => match i with | (k, t) => ((Hp.none).set 0 (.box 41 tipT zTip)).set 1 (.box 41 tipT t)) (fun (i : Nat × Tip) => match i with | (k, t) => k ≤ (l.drop 1).length ∧ smallN t k ∧ checkOf l = checkFrom t ((l.drop 1).drop k)) (fun (i : Nat × Tip) => match i with | (k, t) => (l.drop 1).length - k) ((0, firstTip g.h.bits)) (⟨Nat.zero_le _, first_small, checkOf_start hinv.1 hinv.2.1 hinv.2.2⟩) ?_
  intro ⟨k, t⟩ hin
  dsimp only at hin
  refine CQR ?_; refine A0 o_lss ?_; refine CNQ ?_
  refine Cf (p := k < (l.drop 1).length) (fun ht38 => ?_) (fun ht38 => ?_)
  ·
   have hk38 : k < l.length := by rw [List.length_drop] at ht38; omega
   obtain ⟨b, hb⟩ : ∃ b, (l.drop 1)[k]? = some b := ⟨_, List.getElem?_eq_getElem ht38⟩
   have hbm := hl.2 b (List.mem_of_mem_drop (List.mem_of_getElem? hb))
   refine CSQBQR ?_; refine A0 (g_ia_i (i := k) rfl rfl rfl (by omega) sl_22 (by assumption)) ?_; refine A0 (g_load_r rfl rfl ty_37) ?_; refine aw_alloc ze_37 rfl rfl rfl rfl ?_; refine aw_store_b rfl rfl rfl rfl rfl (Lens.self _) ty_37 rfl ?_
   refine CNQR ?_; refine A0 (oLs rfl rfl rfl ty_41) ?_; refine A0 (oLs rfl rfl rfl ty_37) ?_; refine A0 (oCl (push_ok t b hin.2.1.1 hbm) rfl fn_18 ⟨(arg_v rfl), (arg_v rfl), trivial⟩) ?_; refine A0 mX ?_
   refine A0 (by first | exact g_x20 rfl rfl | exact g_x30 rfl rfl) ?_; refine A0 (by first | exact g_x21 rfl rfl | exact g_x31 rfl rfl) ?_; refine aw_store_b rfl rfl rfl rfl rfl (Lens.self _) ty_41 rfl ?_; refine A0 aV ?_; refine CNQR ?_
   refine A0 mV ?_; refine A0 o_neq ?_; refine CN ?_
   refine aw_ifc (p := ¬ pushE t b = 0) rfl (by simp [IntL.toI]) (fun ht48 => ?_) (fun ht48 => ?_)
   ·
    refine CE ?_; refine CQQR ?_; refine A0 mV ?_; refine A0 o_neq ?_; refine CN ?_; refine aw_if_t rfl (by simpa [IntL.toI] using ht48) ?_; refine CQR ?_; refine A0 (g_build rfl ze_41 bd_41 .nil rfl) ?_; refine A0 mV ?_
    refine aw_store_b rfl rfl rfl rfl rfl (Lens.self _) ty_41 rfl ?_; refine A0 aV ?_; refine CN ?_
    exact aw_retr2 rfl rfl (rv_cell rfl rfl ty_41 (by rw [hin.2.2, check_stop hb ht48])) (rv_tmp (ret_eq rfl (by rw [hin.2.2, check_stop hb ht48])))
   ·
    refine CSIR ?_; refine A0 o_add ?_; refine A0 mV ?_; refine CN ?_; refine aw_reval (d := 6) (y := (0 : Int)) rfl (Classical.not_not.1 ht48) ?_
    exact Nx ((k + 1, pushT t b)) (⟨by omega, push_smallN hin.2.1 (by rw [List.length_drop] at ht38; omega) hbm (Classical.not_not.1 ht48), hin.2.2.trans (check_step hb (Classical.not_not.1 ht48))⟩) (by show (l.drop 1).length - (k + 1) < (l.drop 1).length - k; omega)
  ·
   refine CE ?_; refine CQQR ?_; refine A0 mV ?_; refine A0 o_neq ?_; refine CN ?_; refine Cg ?_; refine CSQR ?_; refine A0 (oLs rfl rfl rfl ty_41) ?_; refine aw_store_b rfl rfl rfl rfl rfl (Lens.self _) ty_41 rfl ?_; refine A0 aV ?_
   refine CN ?_
   exact aw_retr2 rfl rfl (rv_cell rfl rfl ty_41 (by rw [hin.2.2, check_end (by omega)])) (rv_tmp (ret_eq rfl (by rw [hin.2.2, check_end (by omega)])))
 ·
  refine CQQR ?_; refine A0 mV ?_; refine A0 (g_len rfl rfl isl_22) ?_; refine A0 o_eql ?_; refine CN ?_
  refine Cf (p := l.length = 0) (fun ht11 => ?_) (fun ht11 => ?_)
  ·
   refine CQR ?_; refine A0 (g_build rfl ze_41 bd_41 .nil rfl) ?_; refine aw_store_b rfl rfl rfl rfl rfl (Lens.self _) ty_41 rfl ?_; refine A0 aV ?_; refine CN ?_
   exact aw_retr2 rfl rfl (rv_cell rfl rfl ty_41 (by rw [checkOf_nil ht11])) (rv_tmp (ret_eq rfl (by rw [checkOf_nil ht11])))
  ·
   obtain ⟨g, hg⟩ : ∃ g, l[0]? = some g := ⟨_, List.getElem?_eq_getElem (by omega)⟩
   refine CSQR ?_; refine A0 mV ?_; refine A0 (g_ia_i (i := 0) rfl rfl rfl (by omega) sl_22 (by assumption)) ?_; refine A0 (oFr fd_37_0 L_Block_h) ?_; refine A0 (oFr fd_34_6 L_Head_bits) ?_; refine A0 (g_load_r rfl rfl ty_32) ?_
   refine A0 (oCl (firstTip_ok g.h.bits) rfl fn_38 ⟨(by first | exact arg_same rfl | exact arg_bsl rfl | exact arg_own rfl rfl | exact arg_nil rfl | exact arg_rptr rfl | exact arg_fn rfl rfl | exact arg_lit rfl), trivial⟩) ?_; refine A0 mX ?_
   refine A0 (by first | exact g_x20 rfl rfl | exact g_x30 rfl rfl) ?_; refine A0 (by first | exact g_x21 rfl rfl | exact g_x31 rfl rfl) ?_; refine aw_alloc ze_41 rfl rfl rfl rfl ?_
   refine aw_store_b rfl rfl rfl rfl rfl (Lens.self _) ty_41 rfl ?_; refine A0 aV ?_; refine CNQ ?_; refine CQ ?_; refine CD mixed ?_; refine G0 mV ?_; refine G0 oN ?_; refine G0 mV ?_
   refine GK_splitp (d := 24) (p := ¬ tgtOk g.h.bits = true) rfl (by cases tgtOk g.h.bits <;> rfl) (fun g24 => ?_) (fun g24 => ?_)
   ·
    refine G2 ?_; refine G2 ?_; refine G2 ?_; refine G2 ?_; refine G2 ?_; refine G2 ?_; refine G2 ?_; refine G0 oK ?_; refine GK.nil ?_; refine Ct ?_; refine CQR ?_; refine A0 (g_build rfl ze_41 bd_41 .nil rfl) ?_
    refine aw_store_b rfl rfl rfl rfl rfl (Lens.self _) ty_41 rfl ?_; refine A0 aV ?_; refine CN ?_
    exact aw_retr2 rfl rfl (rv_cell rfl rfl ty_41 (by rw [checkOf_other hg fun h => g24 h.1])) (rv_tmp (ret_eq rfl (by rw [checkOf_other hg fun h => g24 h.1])))
   ·
    refine G1 (oFp fd_41_0) ?_; refine G1 (oLb L_Tip_b ty_37) ?_; refine G1 mV ?_; refine G1 (g_ia_i (i := 0) rfl rfl rfl (by omega) sl_22 (by assumption)) ?_; refine G1 (g_load_r rfl rfl ty_37) ?_
    refine G1 (oCl (sameB_ok _ _) rfl fn_39 ⟨(arg_v rfl), (by first | exact arg_same rfl | exact arg_bsl rfl | exact arg_own rfl rfl | exact arg_nil rfl | exact arg_rptr rfl | exact arg_fn rfl rfl | exact arg_lit rfl), trivial⟩) ?_
    refine G1 oN ?_; refine G0 oK ?_; refine GK.nil ?_
    refine aw_ifc (p := ¬ (firstTip g.h.bits).b = g) rfl (by simp) (fun ht32 => ?_) (fun ht32 => ?_)
    ·
     refine CQR ?_; refine A0 (g_build rfl ze_41 bd_41 .nil rfl) ?_; refine aw_store_b rfl rfl rfl rfl rfl (Lens.self _) ty_41 rfl ?_; refine A0 aV ?_; refine CN ?_
     exact aw_retr2 rfl rfl (rv_cell rfl rfl ty_41 (by rw [checkOf_other hg fun h => ht32 h.2])) (rv_tmp (ret_eq rfl (by rw [checkOf_other hg fun h => ht32 h.2])))
    ·
     refine CSQR ?_; refine A0 aV ?_; refine CNQ ?_
     exact aw_reach hreach (g) rfl (⟨hg, Classical.not_not.1 g24, Classical.not_not.1 ht32⟩) rfl (by (repeat refine Fr.le_set ?_ (by first | rfl | (simp; done))); exact Fr.le_none _) (by (repeat refine Hp.le_set ?_ rfl); exact Hp.le_none _) (by (repeat refine Fr.below_setB ?_ rfl); exact Fr.below_none _) (by (repeat refine Hp.below_set ?_ (by decide)); exact Hp.below_none _)
theorem newC_ok (bits : UInt32) : Tells P 24 [.val u32T bits] (.tup2 (.val (sl blockT) (newOf bits)) (.val boolT (tgtOk bits))) := by
 refine fn_of_aw Tryz.func24 rfl rfl rfl (fun ext w hext => ?_)
 refine CQR ?_; refine A0 aL ?_; refine A0 aV ?_; refine CNQR ?_; refine A0 mV ?_; refine A0 (oCl (firstTip_ok bits) rfl fn_38 ⟨(arg_v rfl), trivial⟩) ?_; refine A0 mX ?_; refine A0 (by first | exact g_x20 rfl rfl | exact g_x30 rfl rfl) ?_
 refine A0 (by first | exact g_x21 rfl rfl | exact g_x31 rfl rfl) ?_; refine aw_alloc ze_41 rfl rfl rfl rfl ?_; refine aw_store_b rfl rfl rfl rfl rfl (Lens.self _) ty_41 rfl ?_; refine A0 aV ?_; refine CNQQR ?_; refine A0 mV ?_
 refine A0 oN ?_; refine CN ?_
 refine aw_ifc (p := ¬ tgtOk bits = true) rfl (by cases tgtOk bits <;> rfl) (fun ht12 => ?_) (fun ht12 => ?_)
 ·
  refine CQR ?_; refine A0 aL ?_; refine A0 aV ?_; refine CN ?_
  exact aw_ret2 rfl rfl (by unfold newOf; rw [if_neg ht12]; exact ret_nil rfl) (ret_eq rfl (by simpa using ht12))
 ·
  refine CSQR ?_; refine A0 (oFp fd_41_0) ?_; refine A0 (oLb L_Tip_b ty_37) ?_; refine A0 (g_bslice (T := blockT) (xs := [_]) rfl sl_22 row_22 ⟨rfl, rfl, trivial⟩ rfl rfl) ?_; refine A0 aV ?_; refine A0 aV ?_; refine CN ?_
  exact aw_ret2 rfl rfl (ret_eq rfl (by unfold newOf; rw [if_pos (Classical.not_not.1 ht12)])) (ret_eq rfl (Classical.not_not.1 ht12).symm)
theorem growC_ok (l : List Block) (t : List Tx) (nonce : UInt64) (hl : smallC l) (ht : smallL t) : Tells P 14 [.val (bsl blockT) l, .val (sl txT) t, .val u64T nonce] (.tup2 (.fresh 37 blockT (growOf l t nonce)) (.val i64T (growE l t nonce))) := by
 have hll := hl.1
 refine fn_of_aw Tryz.func14 rfl rfl rfl (fun ext w hext => ?_)
 refine aw_fact (d := 0) rfl fact_sl (fun hsl0 => ?_)
 refine aw_fact (d := 1) rfl fact_sl (fun hsl1 => ?_)
 refine CQR ?_; refine A0 aL ?_; refine A0 aV ?_; refine CNQR ?_; refine A0 mV ?_; refine aw_callf (ownC_ok l hl) rfl fn_40 ⟨(arg_v rfl), trivial⟩ rfl rfl rfl ?_; refine A0 aO ?_; refine CNQR ?_; refine A0 mV ?_
 refine A0 (oCl (check_ok l hl) rfl fn_13 ⟨(arg_v rfl), trivial⟩) ?_; refine A0 mX ?_; refine A0 (by first | exact g_x20 rfl rfl | exact g_x30 rfl rfl) ?_; refine A0 (by first | exact g_x21 rfl rfl | exact g_x31 rfl rfl) ?_
 refine aw_alloc ze_41 rfl rfl rfl rfl ?_; refine aw_store_b rfl rfl rfl rfl rfl (Lens.self _) ty_41 rfl ?_; refine A0 aV ?_; refine CNQQR ?_; refine A0 mV ?_; refine A0 o_neq ?_; refine CN ?_
 refine aw_ifc (p := ¬ (checkOf l).2 = 0) rfl (by simp [IntL.toI]) (fun ht20 => ?_) (fun ht20 => ?_)
 ·
  have hE : growE l t nonce = (checkOf l).2 := by unfold growE; rw [if_neg ht20]
  have hG : growOf l t nonce = l := by unfold growOf; rw [hE, if_neg ht20]
  refine CQR ?_; refine A0 mO ?_; refine A0 mV ?_; refine A0 aO ?_; refine A0 aV ?_; refine CN ?_
  exact aw_ret2 rfl rfl (ret_fresh_eq rfl rfl (by rw [hG])) (ret_eq rfl hE.symm)
 ·
  refine CSQR ?_; refine A0 (oLs rfl rfl rfl ty_41) ?_; refine A0 mV ?_; refine A0 mV ?_; refine A0 (oCl (mineB_ok (checkOf l).1 t nonce 200 (check_small hl) ht) rfl fn_41 ⟨(arg_v rfl), (arg_v rfl), (arg_v rfl), (arg_v rfl), trivial⟩) ?_
  refine A0 mX ?_; refine A0 (by first | exact g_x20 rfl rfl | exact g_x30 rfl rfl) ?_; refine A0 (by first | exact g_x21 rfl rfl | exact g_x31 rfl rfl) ?_; refine aw_alloc ze_37 rfl rfl rfl rfl ?_
  refine aw_store_b rfl rfl rfl rfl rfl (Lens.self _) ty_37 rfl ?_; refine A0 aV ?_; refine CNQQR ?_; refine A0 mV ?_; refine A0 o_neq ?_; refine CN ?_
  refine aw_ifc (p := ¬ mineBE (checkOf l).1 t nonce 200 = 0) rfl (by simp [IntL.toI]) (fun ht31 => ?_) (fun ht31 => ?_)
  ·
   have hE : growE l t nonce = mineBE (checkOf l).1 t nonce 200 := by unfold growE; rw [if_pos (Classical.not_not.1 ht20)]
   have hG : growOf l t nonce = l := by unfold growOf; rw [hE, if_neg ht31]
   refine CQR ?_; refine A0 mO ?_; refine A0 mV ?_; refine A0 aO ?_; refine A0 aV ?_; refine CN ?_
   exact aw_ret2 rfl rfl (ret_fresh_eq rfl rfl (by rw [hG])) (ret_eq rfl hE.symm)
  ·
   have hE : growE l t nonce = 0 := by unfold growE; rw [if_pos (Classical.not_not.1 ht20)]; exact Classical.not_not.1 ht31
   have hG : growOf l t nonce = l ++ [mineB (checkOf l).1 t nonce 200] := by unfold growOf; rw [if_pos hE]
   refine CSQR ?_; refine A0 mO ?_; refine A0 (oLs rfl rfl rfl ty_37) ?_; refine A0 (g_bslice (T := blockT) (xs := [_]) rfl sl_22 row_22 ⟨rfl, rfl, trivial⟩ rfl rfl) ?_; refine aw_append rfl rfl rfl rfl rfl rfl rfl row_22 (by simp; omega) ?_
   refine A0 aO ?_; refine A0 aV ?_; refine CN ?_
   exact aw_ret2 rfl rfl (ret_fresh_eq rfl rfl (by rw [hG])) (ret_eq rfl hE.symm)
end Go.Proofs.YtfepfajcdkllfaaGreat
set_option maxRecDepth 20000
namespace Go.Proofs.YtfepfajcdkllfaaGreat
set_option linter.unusedVariables false
set_option linter.unusedSimpArgs false
open Go.Ab Go.RowKit
theorem fewC_no {l : List Block} {k : Nat} {x : Block} (hx : l[k]? = some x) (h : ¬ fewB x = true) : fewC l = false := by
  unfold fewC
  rw [Bool.and_eq_false_iff]
  left
  rw [List.all_eq_false]
  exact ⟨x, List.mem_of_getElem? hx, h⟩
theorem fewB_all {x : Block} (h : ¬ (x.t.all few && decide ((x.t.length : Int) ≤ 6)) = true) : ¬ fewB x = true := fun h2 => by unfold fewB at h2; rw [Bool.and_eq_true] at h2; exact h h2.1
theorem fewB_links {x : Block} (h : 40 < x.l.length) : ¬ fewB x = true := fun h2 => by unfold fewB at h2; rw [Bool.and_eq_true, decide_eq_true_eq] at h2; omega
theorem fewB_yes {x : Block} (h : (x.t.all few && decide ((x.t.length : Int) ≤ 6)) = true) (h2 : ¬ 40 < x.l.length) : fewB x = true := by unfold fewB; rw [h, Bool.true_and]; exact decide_eq_true (by omega)
theorem all_take_succ {α : Type} {p : α → Bool} {l : List α} {k : Nat} {x : α} (h : (l.take k).all p = true) (hx : l[k]? = some x) (hp : p x = true) : (l.take (k + 1)).all p = true := by
  rw [List.take_add_one, hx, List.all_append, h]; simp [hp]
theorem fewC_end {l : List Block} {k : Nat} (h : (l.take k).all fewB = true) (hk : l.length ≤ k) : fewC l = decide ((l.length : Int) ≤ 50) := by
  rw [List.take_of_length_le hk] at h
  unfold fewC; rw [h, Bool.true_and]
theorem fewC_at {l : List Block} {b : Block} (h : fewC l = true) (hb : b ∈ l) : b.l.length ≤ 40 := by
  unfold fewC at h
  rw [Bool.and_eq_true] at h
  have h2 := List.all_eq_true.1 h.1 b hb
  unfold fewB at h2
  rw [Bool.and_eq_true, decide_eq_true_eq] at h2
  exact h2.2
theorem easy_newOf : newOf 545259519 = [easyB0] := by unfold newOf; rw [if_pos easy_ok, easy_tip]; rfl
theorem easy_lv0 : (levelsOf [easyB0, easyB])[0]? = some 31 := by unfold levelsOf; show some (headLevel easyH) = _; rw [easy_level]
theorem idAt_eq {l : List Block} {k : Nat} {b : Block} (h : l[k]? = some b) : idAt l k = headId b.h := by unfold idAt; rw [h]; rfl
theorem levels_at {l : List Block} {k : Nat} (h : k < l.length) : (levelsOf l)[k]? = some (levelAt l k) := by
  unfold levelsOf levelAt; rw [List.getElem?_map, List.getElem?_eq_getElem h]; rfl
theorem levels_at' {l : List Block} {k : Nat} {b : Block} (h : l[k]? = some b) : (levelsOf l)[k]? = some (headLevel b.h) := by
  unfold levelsOf; rw [List.getElem?_map, h]; rfl
theorem leaves_at {l : List Block} {k : Nat} {b : Block} (h : l[k]? = some b) : (leavesOf l)[k]? = some (leafH b.h) := by
  unfold leavesOf; rw [List.getElem?_map, h]; rfl
def peaks (l : List Block) (k : Nat) : List Total := ((leavesOf l).take k).foldl mmrAppend []
theorem peaks_succ {l : List Block} {k : Nat} {x : Total} (h : (leavesOf l)[k]? = some x) : mmrAppend (peaks l k) x = peaks l (k + 1) := by
  unfold peaks; rw [List.take_add_one, h, List.foldl_append]; rfl
theorem peaks_len {l : List Block} : ∀ {k : Nat}, (peaks l k).length ≤ k
  | 0 => Nat.le_refl _
  | k + 1 => by
    cases h : (leavesOf l)[k]? with
    | none =>
      have : peaks l (k + 1) = peaks l k := by unfold peaks; rw [List.take_add_one, h]; simp
      rw [this]; have := peaks_len (l := l) (k := k); omega
    | some x =>
      rw [← peaks_succ h]
      have h1 := mmrAppend_len (p := peaks l k) (x := x)
      have h2 := peaks_len (l := l) (k := k)
      omega
theorem may_level {h : Head} (hm : headMay h = true) : 0 ≤ headLevel h := by
  have h1 : ¬ headLevel h = -1 := fun e => by unfold headMay at hm; rw [e] at hm; exact absurd hm (by decide)
  have h2 : -1 ≤ headLevel h := by
    unfold headLevel
    split
    · split
      · decide
      · unfold levelW; omega
    · omega
  omega
theorem chain_begin {l : List Block} {t : Tip} {i : Nat} (h : Chain l t) (hi : 1 ≤ i) (hl : i ≤ l.length) : (checkOf (l.take i)).2 = 0 := by
  obtain ⟨t', h1, _⟩ := chain_take h hi hl
  exact congrArg (·.2) h1
theorem fewC_ok (l : List Block) : Tells P 11 [.val (bsl blockT) l] (.val boolT (fewC l)) := by
 refine fn_of_aw Tryz.func11 rfl rfl rfl (fun ext w hext => ?_)
 refine aw_fact (d := 0) rfl fact_sl (fun hsl0 => ?_)
 refine CQR ?_; refine A0 aV ?_; refine CNQQR ?_; refine A0 aV ?_; refine CNB ?_
 refine Lp (ι := Nat) 0 (fun (k : Nat) => ((Fr.none).set 0 (.val (bsl blockT) l)).set 3 (.val i64T (k : Int))) (fun (k : Nat) => Hp.none) (fun (k : Nat) => k ≤ l.length ∧ (l.take k).all fewB = true) (fun (k : Nat) => l.length - k) (0) (⟨Nat.zero_le _, by simp⟩) ?_
 intro k hinv
 refine CQQR ?_; refine A0 mV ?_; refine A0 mV ?_; refine A0 (g_len rfl rfl isl_22) ?_; refine A0 o_lss ?_; refine CN ?_
 refine Cf (p := k < l.length) (fun ht8 => ?_) (fun ht8 => ?_)
 ·
  obtain ⟨x, hx⟩ : ∃ x, l[k]? = some x := ⟨_, List.getElem?_eq_getElem ht8⟩
  refine CSQBQR ?_; refine A0 mV ?_; refine A0 mV ?_; refine A0 (g_ia_i (i := k) rfl rfl rfl (by omega) sl_22 (by assumption)) ?_; refine A0 (oFr fd_37_2 L_Block_t) ?_; refine A0 (g_load_r rfl rfl ty_23) ?_
  refine A0 (oCl (fewAll_ok _ _) rfl fn_12 ⟨(by first | exact arg_same rfl | exact arg_bsl rfl | exact arg_own rfl rfl | exact arg_nil rfl | exact arg_rptr rfl | exact arg_fn rfl rfl | exact arg_lit rfl), (arg_v rfl), trivial⟩) ?_
  refine A0 aV ?_; refine CNQR ?_; refine A0 mV ?_; refine A0 oN ?_; refine A0 mV ?_
  refine aw_splitp (d := 19) (p := ¬ (x.t.all few && decide ((x.t.length : Int) ≤ 6)) = true) rfl (by cases (x.t.all few && decide ((x.t.length : Int) ≤ 6)) <;> rfl) (fun g19 => ?_) (fun g19 => ?_)
  ·
   refine A2 ?_; refine A2 ?_; refine A2 ?_; refine A2 ?_; refine A2 ?_; refine A2 ?_; refine A2 ?_; refine A0 oK ?_; refine CN ?_; refine Ct ?_; refine CQR ?_; refine A0 aV ?_; refine CN ?_
   exact aw_ret1 rfl rfl (ret_eq rfl (fewC_no hx (fewB_all g19)).symm)
  ·
   refine A1 mV ?_; refine A1 mV ?_; refine A1 (g_ia_i (i := k) rfl rfl rfl (by omega) sl_22 (by assumption)) ?_; refine A1 (oFr fd_37_1 L_Block_l) ?_; refine A1 (g_load_r rfl rfl ty_35) ?_
   refine A1 (by first | exact g_len rfl rfl isl_35 | exact g_len_o rfl rfl rfl isl_35 | exact g_len_nil rfl rfl isl_35) ?_; refine A1 o_gtr ?_; refine A0 oK ?_; refine CN ?_
   refine Cf (p := 40 < x.l.length) (fun ht27 => ?_) (fun ht27 => ?_)
   ·
    refine CQR ?_; refine A0 aV ?_; refine CN ?_
    exact aw_ret1 rfl rfl (ret_eq rfl (fewC_no hx (fewB_links ht27)).symm)
   ·
    refine CSIR ?_; refine A0 mV ?_; refine A0 o_add ?_; refine A0 aV ?_; refine CN ?_
    exact Nx (k + 1) (⟨by omega, all_take_succ hinv.2 hx (fewB_yes (Classical.not_not.1 g19) ht27)⟩) (by omega)
 ·
  refine CE ?_; refine CQR ?_; refine A0 mV ?_; refine A0 (g_len rfl rfl isl_22) ?_; refine A0 o_leq ?_; refine A0 aV ?_; refine CN ?_
  exact aw_ret1 rfl rfl (ret_eq rfl (by rw [fewC_end hinv.2 (by omega), decide_eq_decide]; rfl))
theorem awake12_ok : Tells P 10 [] (.val boolT true) := by
 refine fn_of_aw Tryz.func10 rfl rfl rfl (fun ext w hext => ?_)
 have hw0 := easy_lv0
 have hw1 : (levelsOf [easyB0, easyB])[1]? = some (headLevel easyB.h) := rfl
 have hw2 : ([easyB0, easyB] : List Block)[1]? = some easyB := rfl
 refine CQR ?_; refine A0 aV ?_; refine CNQR ?_; refine A0 (oCl (newC_ok 545259519) rfl fn_24 ⟨(arg_v rfl), trivial⟩) ?_; refine A0 mX ?_; refine A0 (by first | exact g_x20 rfl rfl | exact g_x30 rfl rfl) ?_
 refine aw_reval (d := 10) (y := [easyB0]) rfl easy_newOf ?_; refine A0 (by first | exact g_x21 rfl rfl | exact g_x31 rfl rfl) ?_; refine aw_reval (d := 11) (y := true) rfl easy_ok ?_; refine A0 aV ?_; refine A0 aV ?_; refine CNQR ?_
 refine A0 mV ?_
 refine A0 (oCl (tells_pub2 (growC_ok [easyB0] [] 0 small_easyC0 ⟨by decide, fun t ht => by cases ht⟩)) rfl fn_14 ⟨(arg_v rfl), (by first | exact arg_same rfl | exact arg_bsl rfl | exact arg_own rfl rfl | exact arg_nil rfl | exact arg_rptr rfl | exact arg_fn rfl rfl | exact arg_lit rfl), (arg_v rfl), trivial⟩) ?_
 refine A0 mX ?_; refine A0 (by first | exact g_x20 rfl rfl | exact g_x30 rfl rfl) ?_; refine aw_reval (d := 15) (y := [easyB0, easyB]) rfl easy_grown ?_; refine A0 (by first | exact g_x21 rfl rfl | exact g_x31 rfl rfl) ?_
 refine aw_reval (d := 16) (y := (0 : Int)) rfl easy_growE ?_; refine A0 aV ?_; refine A0 aV ?_; refine CNQR ?_; refine A0 mV ?_; refine A0 (oCl (check_ok [easyB0, easyB] small_easyC) rfl fn_13 ⟨(arg_v rfl), trivial⟩) ?_; refine A0 mX ?_
 refine A0 (by first | exact g_x20 rfl rfl | exact g_x30 rfl rfl) ?_; refine aw_reval (d := 20) (y := easyTip2) rfl (congrArg (·.1) easy_chain1) ?_; refine A0 (by first | exact g_x21 rfl rfl | exact g_x31 rfl rfl) ?_
 refine aw_reval (d := 21) (y := (0 : Int)) rfl (congrArg (·.2) easy_chain1) ?_; refine aw_alloc ze_41 rfl rfl rfl rfl ?_; refine aw_store_b rfl rfl rfl rfl rfl (Lens.self _) ty_41 rfl ?_; refine A0 aV ?_; refine CNQR ?_; refine A0 mV ?_
 refine A0 (oCl (tells_pub (levels_ok [easyB0, easyB] (by decide))) rfl fn_16 ⟨(arg_v rfl), trivial⟩) ?_; refine A0 aV ?_; refine CNQR ?_; refine A0 mV ?_; refine A0 mV ?_; refine aw_ist (d := 25) rfl (rfl) ?_; refine A1 mV ?_
 refine A1 o_eql ?_; refine A0 oK ?_; refine A0 mV ?_; refine aw_ist (d := 29) rfl (rfl) ?_; refine A1 mV ?_; refine A1 o_eql ?_; refine A0 oK ?_; refine A0 mV ?_; refine aw_ist (d := 33) rfl (rfl) ?_; refine A1 mV ?_
 refine A1 (g_len rfl rfl isl_22) ?_; refine A1 o_eql ?_; refine A0 oK ?_; refine A0 mV ?_; refine aw_ist (d := 38) rfl (rfl) ?_; refine A1 (oFp fd_41_0) ?_; refine A1 (oFp fd_37_0) ?_; refine A1 (oFp fd_34_0) ?_
 refine A1 (oLb ((L_Tip_b.comp L_Block_h).comp L_Head_height) ty_3) ?_; refine A1 o_eql ?_; refine A0 oK ?_; refine A0 mV ?_; refine aw_ist (d := 45) rfl (rfl) ?_; refine A1 mV ?_; refine A1 (g_len rfl rfl isl_49) ?_; refine A1 o_eql ?_
 refine A0 oK ?_; refine A0 mV ?_; refine aw_ist (d := 50) rfl (rfl) ?_; refine A1 mV ?_; refine A1 (g_ia_i (i := 0) rfl rfl rfl (by omega) sl_49 (by assumption)) ?_; refine A1 (g_load_r rfl rfl ty_3) ?_; refine A1 o_eql ?_; refine A0 oK ?_
 refine A0 mV ?_; refine aw_ist (d := 56) rfl (rfl) ?_; refine A1 mV ?_; refine A1 (g_ia_i (i := 1) rfl rfl rfl (by omega) sl_49 (by assumption)) ?_; refine A1 (g_load_r rfl rfl ty_3) ?_; refine A1 o_geq ?_; refine A0 oK ?_; refine A0 mV ?_
 refine aw_ist (d := 62) rfl (by simpa [IntL.toI] using easy_level1) ?_; refine A1 mV ?_; refine A1 mV ?_; refine A1 (g_ia_i (i := 1) rfl rfl rfl (by omega) sl_22 (by assumption)) ?_; refine A1 (oFr fd_37_0 L_Block_h) ?_
 refine A1 (g_load_r rfl rfl ty_34) ?_
 refine A1 (oCl (headId_ok easyB.h) rfl fn_17 ⟨(by first | exact arg_same rfl | exact arg_bsl rfl | exact arg_own rfl rfl | exact arg_nil rfl | exact arg_rptr rfl | exact arg_fn rfl rfl | exact arg_lit rfl), trivial⟩) ?_
 refine A1 (oCl (findC_ok [easyB0, easyB] (headId easyB.h)) rfl fn_20 ⟨(arg_v rfl), (arg_v rfl), trivial⟩) ?_; refine A1 o_eql ?_; refine A0 oK ?_; refine A0 mV ?_; refine aw_ist (d := 72) rfl (by rw [easy_find]; rfl) ?_; refine A1 mV ?_
 refine A1 mV ?_; refine A1 (oCl (sameC_ok [easyB0, easyB] [easyB0, easyB]) rfl fn_15 ⟨(arg_v rfl), (arg_v rfl), trivial⟩) ?_; refine A0 oK ?_; refine A0 mV ?_; refine aw_ist (d := 77) rfl (by simp) ?_; refine A1 mV ?_
 refine A1 (g_ia_i (i := 1) rfl rfl rfl (by omega) sl_22 (by assumption)) ?_; refine A1 (oFr fd_37_0 L_Block_h) ?_; refine A1 (g_load_r rfl rfl ty_34) ?_
 refine A1 (oCl (headId_ok easyB.h) rfl fn_17 ⟨(by first | exact arg_same rfl | exact arg_bsl rfl | exact arg_own rfl rfl | exact arg_nil rfl | exact arg_rptr rfl | exact arg_fn rfl rfl | exact arg_lit rfl), trivial⟩) ?_
 refine A1 (g_buildZ rfl ar_29 ze_29 rfl) ?_; refine A1 (g_neqS rfl rfl rfl (eqt_29)) ?_; refine A0 oK ?_; refine A0 mV ?_; refine aw_ist (d := 86) rfl (by rw [easy_nz]; rfl) ?_; refine A1 mV ?_
 refine A1 (oCl (tells_pub (leaves_ok [easyB0, easyB] (by decide))) rfl fn_30 ⟨(arg_v rfl), trivial⟩) ?_; refine A1 (g_len rfl rfl isl_38) ?_; refine A1 o_eql ?_; refine A0 oK ?_; refine A0 aV ?_; refine CN ?_
 exact aw_ret1 rfl rfl (ret_eq rfl rfl)
theorem ChainGrows_ok (l : List Block) (t : List Tx) (nonce : UInt64) (k : Int) : Tells P 3 [.val (sl blockT) l, .val (sl txT) t, .val u64T nonce, .val i64T k] (.val boolT true) := by
 refine fn_of_aw Tryz.func3 rfl rfl rfl (fun ext w hext => ?_)
 refine aw_fact (d := 0) rfl fact_sl (fun hsl0 => ?_)
 refine aw_fact (d := 1) rfl fact_sl (fun hsl1 => ?_)
 refine aw_fact (d := 3) rfl fact_int (fun hin3 => ?_)
 refine CQR ?_; refine A0 aV ?_; refine CNQR ?_; refine A0 (oCl (awake12_ok) rfl fn_10 trivial) ?_; refine A0 aV ?_; refine CNQR ?_; refine A0 mV ?_; refine A0 (oCl (fewC_ok _) rfl fn_11 ⟨(arg_v rfl), trivial⟩) ?_; refine A0 aV ?_
 refine CNQR ?_; refine A0 mV ?_; refine A0 (oCl (fewAll_ok _ _) rfl fn_12 ⟨(arg_v rfl), (arg_v rfl), trivial⟩) ?_; refine A0 aV ?_; refine CNQQR ?_; refine A0 mV ?_; refine A0 oN ?_; refine A0 mV ?_; refine aw_isf (d := 27) rfl (rfl) ?_
 refine A1 mV ?_; refine A1 oN ?_; refine A0 oK ?_; refine A0 mV ?_
 refine aw_splitp (d := 31) (p := ¬ fewC l = true) rfl (by cases fewC l <;> rfl) (fun g31 => ?_) (fun g31 => ?_)
 ·
  refine A2 ?_; refine A2 ?_; refine A0 oK ?_; refine CN ?_; refine Ct ?_; refine CQR ?_; refine A0 mV ?_; refine A0 aV ?_; refine CN ?_
  exact aw_ret1 rfl rfl (ret_eq rfl rfl)
 ·
  have hsl := fewC_small (Classical.not_not.1 g31)
  have hlen := fewC_len (Classical.not_not.1 g31)
  refine A1 mV ?_; refine A1 oN ?_; refine A0 oK ?_; refine CN ?_
  refine aw_ifc (p := ¬ (t.all few && decide ((t.length : Int) ≤ 6)) = true) rfl (by cases (t.all few && decide ((t.length : Int) ≤ 6)) <;> rfl) (fun ht34 => ?_) (fun ht34 => ?_)
  ·
   refine CQR ?_; refine A0 mV ?_; refine A0 aV ?_; refine CN ?_
   exact aw_ret1 rfl rfl (ret_eq rfl rfl)
  ·
   have hst := few_small (Classical.not_not.1 ht34)
   refine CSQR ?_; refine A0 mV ?_; refine A0 (oCl (check_ok l hsl) rfl fn_13 ⟨(arg_v rfl), trivial⟩) ?_; refine A0 mX ?_; refine A0 (by first | exact g_x20 rfl rfl | exact g_x30 rfl rfl) ?_
   refine A0 (by first | exact g_x21 rfl rfl | exact g_x31 rfl rfl) ?_; refine aw_alloc ze_41 rfl rfl rfl rfl ?_; refine aw_store_b rfl rfl rfl rfl rfl (Lens.self _) ty_41 rfl ?_; refine A0 aV ?_; refine CNQR ?_; refine A0 mV ?_; refine A0 mV ?_
   refine A0 mV ?_; refine A0 (oCl (tells_pub2 (growC_ok l t nonce hsl hst)) rfl fn_14 ⟨(arg_v rfl), (arg_v rfl), (arg_v rfl), trivial⟩) ?_; refine A0 mX ?_; refine A0 (by first | exact g_x20 rfl rfl | exact g_x30 rfl rfl) ?_
   refine A0 (by first | exact g_x21 rfl rfl | exact g_x31 rfl rfl) ?_; refine A0 aV ?_; refine A0 aV ?_; refine CNQQR ?_; refine A0 mV ?_; refine A0 o_neq ?_; refine CN ?_
   refine aw_ifc (p := ¬ growE l t nonce = 0) rfl (by simp [IntL.toI]) (fun ht49 => ?_) (fun ht49 => ?_)
   ·
    refine CQR ?_; refine A0 mV ?_; refine A0 mV ?_; refine A0 (oCl (sameC_ok _ _) rfl fn_15 ⟨(arg_v rfl), (arg_v rfl), trivial⟩) ?_; refine A0 mV ?_; refine aw_ist (d := 53) rfl (decide_eq_true (by unfold growOf; rw [if_neg ht49])) ?_
    refine A1 mV ?_; refine A1 o_eql ?_; refine A1 mV ?_
    refine aw_splitp (d := 56) (p := (checkOf l).2 = 0) rfl (by simp [IntL.toI]) (fun g56 => ?_) (fun g56 => ?_)
    ·
     refine A2 ?_; refine A2 ?_; refine A2 ?_; refine A1 oK ?_; refine A0 oK ?_; refine A0 aV ?_; refine CN ?_
     exact aw_ret1 rfl rfl (ret_eq rfl rfl)
    ·
     refine A1 mV ?_; refine A1 mV ?_; refine A1 o_eql ?_; refine A1 oK ?_; refine A0 oK ?_; refine A0 aV ?_; refine CN ?_
     exact aw_ret1 rfl rfl (ret_eq rfl (by unfold growE; rw [if_neg g56]; simp))
   ·
    have hE := Classical.not_not.1 ht49
    obtain ⟨hg0, hg2, hg3⟩ := grow_ok hE
    have hck := grow_check hE
    have hg1 : (checkOf (growOf l t nonce)).2 = 0 := congrArg (·.2) hck
    have hg4 : (checkOf (growOf l t nonce)).1 = _ := congrArg (·.1) hck
    have hh : (checkOf (growOf l t nonce)).1.b.h.height = l.length := by rw [hg4]; exact grow_height hE
    have hml : (growOf l t nonce).length = l.length + 1 := by rw [hg3]; simp
    have hsm : smallC (growOf l t nonce) := by rw [hg3]; exact smallC_snoc hsl (by omega) (mined_small hg2 hst)
    have htk : (growOf l t nonce).take l.length = l := by rw [hg3]; simp
    refine CSQR ?_; refine A0 mV ?_; refine A0 (oCl (check_ok (growOf l t nonce) hsm) rfl fn_13 ⟨(arg_v rfl), trivial⟩) ?_; refine A0 mX ?_; refine A0 (by first | exact g_x20 rfl rfl | exact g_x30 rfl rfl) ?_
    refine A0 (by first | exact g_x21 rfl rfl | exact g_x31 rfl rfl) ?_; refine aw_alloc ze_41 rfl rfl rfl rfl ?_; refine aw_store_b rfl rfl rfl rfl rfl (Lens.self _) ty_41 rfl ?_; refine A0 aV ?_; refine CNQQR ?_; refine A0 mV ?_
    refine A0 o_neq ?_; refine A0 mV ?_; refine aw_isf (d := 69) rfl (by rw [hg0]; rfl) ?_; refine A1 mV ?_; refine A1 o_neq ?_; refine A0 oK ?_; refine A0 mV ?_; refine aw_isf (d := 73) rfl (by rw [hg1]; rfl) ?_; refine A1 mV ?_
    refine A1 (g_len rfl rfl isl_22) ?_; refine A1 mV ?_; refine A1 (g_len rfl rfl isl_22) ?_; refine A1 o_add ?_; refine A1 o_neq ?_; refine A0 oK ?_; refine A0 mV ?_; refine aw_isf (d := 81) rfl (by rw [hml]; simp [IntL.toI]) ?_
    refine A1 mV ?_; refine A1 mV ?_; refine A1 (g_len rfl rfl isl_22) ?_; refine A1 (by first | exact g_sl_nil rfl rfl rfl (by first | rfl | omega) sl_22 | exact g_sl_h rfl rfl rfl sl_22 (by first | assumption | omega | (simp; omega))) ?_
    refine A1 mV ?_; refine A1 (oCl (sameC_ok _ _) rfl fn_15 ⟨(arg_v rfl), (arg_v rfl), trivial⟩) ?_; refine A1 oN ?_; refine A0 oK ?_; refine A0 mV ?_; refine aw_isf (d := 90) rfl (by simp [htk]) ?_; refine A1 (oFp fd_41_0) ?_
    refine A1 (oFp fd_37_0) ?_; refine A1 (oFp fd_34_0) ?_; refine A1 (oLb ((L_Tip_b.comp L_Block_h).comp L_Head_height) ty_3) ?_; refine A1 mV ?_; refine A1 (g_len rfl rfl isl_22) ?_; refine A1 o_neq ?_; refine A0 oK ?_; refine CN ?_
    refine aw_if_f rfl (by rw [hh]; simp [IntL.toI]) ?_; refine CSQQR ?_; refine A0 mV ?_; refine A0 o_lss ?_; refine A0 mV ?_
    refine Sp (d := 101) (p := k < 1) (fun g101 => ?_) (fun g101 => ?_)
    ·
     refine A2 ?_; refine A2 ?_; refine A2 ?_; refine A2 ?_; refine A0 oK ?_; refine CN ?_; refine Ct ?_; refine CQR ?_; refine A0 aV ?_; refine CN ?_
     exact aw_ret1 rfl rfl (ret_eq rfl rfl)
    ·
     refine A1 mV ?_; refine A1 mV ?_; refine A1 (g_len rfl rfl isl_22) ?_; refine A1 o_gtr ?_; refine A0 oK ?_; refine CN ?_
     refine Cf (p := (l.length : Int) < k) (fun ht106 => ?_) (fun ht106 => ?_)
     ·
      refine CQR ?_; refine A0 aV ?_; refine CN ?_
      exact aw_ret1 rfl rfl (ret_eq rfl rfl)
     ·
      refine CSQR ?_; refine A0 mV ?_; refine A0 mV ?_; refine A0 (by first | exact g_sl_nil rfl rfl rfl (by first | rfl | omega) sl_22 | exact g_sl_h rfl rfl rfl sl_22 (by first | assumption | omega | (simp; omega))) ?_
      refine A0 (oCl (check_ok (l.take k.toNat) (smallC_take hsl)) rfl fn_13 ⟨(arg_v rfl), trivial⟩) ?_; refine A0 mX ?_; refine A0 (by first | exact g_x20 rfl rfl | exact g_x30 rfl rfl) ?_
      refine A0 (by first | exact g_x21 rfl rfl | exact g_x31 rfl rfl) ?_; refine aw_alloc ze_41 rfl rfl rfl rfl ?_; refine aw_store_b rfl rfl rfl rfl rfl (Lens.self _) ty_41 rfl ?_; refine A0 aV ?_; refine CNQR ?_; refine A0 mV ?_
      refine A0 o_eql ?_; refine A0 aV ?_; refine CN ?_
      exact aw_ret1 rfl rfl (ret_eq rfl (by rw [chain_begin (chain_of hg0) (by omega) (by omega)]; rfl))
theorem ChainLinks_ok (l : List Block) (i n : Int) (hl : smallC l) : Tells P 4 [.val (sl blockT) l, .val i64T i, .val i64T n] (.val boolT true) := by
 refine fn_of_aw Tryz.func4 rfl rfl rfl (fun ext w hext => ?_)
 refine aw_fact (d := 0) rfl fact_sl (fun hsl0 => ?_)
 refine aw_fact (d := 1) rfl fact_int (fun hin1 => ?_)
 refine aw_fact (d := 2) rfl fact_int (fun hin2 => ?_)
 refine CQR ?_; refine A0 aV ?_; refine CNQR ?_; refine A0 (oCl (awake12_ok) rfl fn_10 trivial) ?_; refine A0 aV ?_; refine CNQR ?_; refine A0 mV ?_; refine A0 (oCl (fewC_ok _) rfl fn_11 ⟨(arg_v rfl), trivial⟩) ?_; refine A0 aV ?_
 refine CNQR ?_; refine A0 mV ?_; refine A0 (oCl (check_ok l hl) rfl fn_13 ⟨(arg_v rfl), trivial⟩) ?_; refine A0 mX ?_; refine A0 (by first | exact g_x20 rfl rfl | exact g_x30 rfl rfl) ?_
 refine A0 (by first | exact g_x21 rfl rfl | exact g_x31 rfl rfl) ?_; refine aw_alloc ze_41 rfl rfl rfl rfl ?_; refine aw_store_b rfl rfl rfl rfl rfl (Lens.self _) ty_41 rfl ?_; refine A0 aV ?_; refine CNQQR ?_; refine A0 mV ?_
 refine A0 oN ?_; refine A0 mV ?_; refine aw_isf (d := 24) rfl (rfl) ?_; refine A1 mV ?_; refine A1 oN ?_; refine A0 oK ?_; refine A0 mV ?_
 refine aw_splitp (d := 28) (p := ¬ fewC l = true) rfl (by cases fewC l <;> rfl) (fun g28 => ?_) (fun g28 => ?_)
 ·
  refine A2 ?_; refine A2 ?_; refine A0 oK ?_; refine A0 mV ?_; refine A2 ?_; refine A2 ?_; refine A0 oK ?_; refine A0 mV ?_; refine A2 ?_; refine A2 ?_; refine A2 ?_; refine A2 ?_; refine A0 oK ?_; refine A0 mV ?_; refine A2 ?_; refine A2 ?_
  refine A0 oK ?_; refine A0 mV ?_; refine A2 ?_; refine A2 ?_; refine A0 oK ?_; refine CN ?_; refine Ct ?_; refine CQR ?_; refine A0 mV ?_; refine A0 aV ?_; refine CN ?_
  exact aw_ret1 rfl rfl (ret_eq rfl rfl)
 ·
  refine A1 mV ?_; refine A1 o_neq ?_; refine A0 oK ?_; refine A0 mV ?_
  refine aw_splitp (d := 32) (p := ¬ (checkOf l).2 = 0) rfl (by simp [IntL.toI]) (fun g32 => ?_) (fun g32 => ?_)
  ·
   refine A2 ?_; refine A2 ?_; refine A0 oK ?_; refine A0 mV ?_; refine A2 ?_; refine A2 ?_; refine A2 ?_; refine A2 ?_; refine A0 oK ?_; refine A0 mV ?_; refine A2 ?_; refine A2 ?_; refine A0 oK ?_; refine A0 mV ?_; refine A2 ?_; refine A2 ?_
   refine A0 oK ?_; refine CN ?_; refine Ct ?_; refine CQR ?_; refine A0 mV ?_; refine A0 aV ?_; refine CN ?_
   exact aw_ret1 rfl rfl (ret_eq rfl rfl)
  ·
   refine A1 mV ?_; refine A1 o_lss ?_; refine A0 oK ?_; refine A0 mV ?_
   refine Sp (d := 36) (p := i < 1) (fun g36 => ?_) (fun g36 => ?_)
   ·
    refine A2 ?_; refine A2 ?_; refine A2 ?_; refine A2 ?_; refine A0 oK ?_; refine A0 mV ?_; refine A2 ?_; refine A2 ?_; refine A0 oK ?_; refine A0 mV ?_; refine A2 ?_; refine A2 ?_; refine A0 oK ?_; refine CN ?_; refine Ct ?_; refine CQR ?_
    refine A0 mV ?_; refine A0 aV ?_; refine CN ?_
    exact aw_ret1 rfl rfl (ret_eq rfl rfl)
   ·
    refine A1 mV ?_; refine A1 mV ?_; refine A1 (g_len rfl rfl isl_22) ?_; refine A1 o_geq ?_; refine A0 oK ?_; refine A0 mV ?_
    refine Sp (d := 42) (p := (l.length : Int) ≤ i) (fun g42 => ?_) (fun g42 => ?_)
    ·
     refine A2 ?_; refine A2 ?_; refine A0 oK ?_; refine A0 mV ?_; refine A2 ?_; refine A2 ?_; refine A0 oK ?_; refine CN ?_; refine Ct ?_; refine CQR ?_; refine A0 mV ?_; refine A0 aV ?_; refine CN ?_
     exact aw_ret1 rfl rfl (ret_eq rfl rfl)
    ·
     refine A1 mV ?_; refine A1 o_lss ?_; refine A0 oK ?_; refine A0 mV ?_
     refine Sp (d := 46) (p := n < 0) (fun g46 => ?_) (fun g46 => ?_)
     ·
      refine A2 ?_; refine A2 ?_; refine A0 oK ?_; refine CN ?_; refine Ct ?_; refine CQR ?_; refine A0 mV ?_; refine A0 aV ?_; refine CN ?_
      exact aw_ret1 rfl rfl (ret_eq rfl rfl)
     ·
      refine A1 mV ?_; refine A1 o_gtr ?_; refine A0 oK ?_; refine CN ?_
      refine Cf (p := 31 < n) (fun ht49 => ?_) (fun ht49 => ?_)
      ·
       refine CQR ?_; refine A0 mV ?_; refine A0 aV ?_; refine CN ?_
       exact aw_ret1 rfl rfl (ret_eq rfl rfl)
      ·
       have hlen := fewC_len (Classical.not_not.1 g28)
       have hch := chain_of (Classical.not_not.1 g32)
       obtain ⟨p, rfl⟩ : ∃ p : Nat, i = p := ⟨i.toNat, by omega⟩
       obtain ⟨q, rfl⟩ : ∃ q : Nat, n = q := ⟨n.toNat, by omega⟩
       obtain ⟨b, hb⟩ : ∃ b, l[p]? = some b := ⟨_, List.getElem?_eq_getElem (by omega)⟩
       obtain ⟨g, hg⟩ : ∃ g, l[0]? = some g := ⟨_, List.getElem?_eq_getElem (by omega)⟩
       obtain ⟨hL0, hL⟩ := chain_linked hch (by omega) hb
       have hln := hL q (by omega)
       have hbl := (List.getElem?_eq_some_iff.1 hL0).1
       refine CSQR ?_; refine A0 mV ?_; refine A0 (oCl (tells_pub (levels_ok l (by have := hl.1; omega))) rfl fn_16 ⟨(arg_v rfl), trivial⟩) ?_; refine A0 aV ?_; refine CNQ ?_; refine CQ ?_; refine CD mixed ?_; refine G0 mV ?_
       refine G0 (g_len rfl rfl isl_49) ?_; refine G0 mV ?_; refine G0 (g_len rfl rfl isl_22) ?_; refine G0 o_neq ?_; refine G0 mV ?_; refine GK_isf (d := 58) rfl (by simp [levelsOf]) ?_; refine G1 mV ?_; refine G1 mV ?_
       refine G1 (g_ia_i (i := p) rfl rfl rfl (by omega) sl_22 (by assumption)) ?_; refine G1 (oFr fd_37_1 L_Block_l) ?_; refine G1 (g_load_r rfl rfl ty_35) ?_
       refine G1 (by first | exact g_len rfl rfl isl_35 | exact g_len_o rfl rfl rfl isl_35 | exact g_len_nil rfl rfl isl_35) ?_; refine G1 o_eql ?_; refine G0 oK ?_; refine G0 mV ?_
       refine GK_isf (d := 67) rfl (decide_eq_false (by show ¬ ((b.l.length : Nat) : Int) = 0; omega)) ?_; refine G1 mV ?_; refine G1 mV ?_; refine G1 (g_ia_i (i := p) rfl rfl rfl (by omega) sl_22 (by assumption)) ?_
       refine G1 (oFr fd_37_1 L_Block_l) ?_; refine G1 (g_load_r rfl rfl ty_35) ?_; refine G1 (g_ia_i (i := 0) rfl rfl rfl (by omega) sl_35 (by assumption)) ?_; refine G1 (g_load_r rfl rfl ty_29) ?_; refine G1 mV ?_
       refine G1 (g_ia_i (i := 0) rfl rfl rfl (by omega) sl_22 (by assumption)) ?_; refine G1 (oFr fd_37_0 L_Block_h) ?_; refine G1 (g_load_r rfl rfl ty_34) ?_
       refine G1 (oCl (headId_ok _) rfl fn_17 ⟨(by first | exact arg_same rfl | exact arg_bsl rfl | exact arg_own rfl rfl | exact arg_nil rfl | exact arg_rptr rfl | exact arg_fn rfl rfl | exact arg_lit rfl), trivial⟩) ?_
       refine G1 (g_neqS rfl rfl rfl (eqt_29)) ?_; refine G0 oK ?_; refine GK.nil ?_; refine aw_if_f rfl (by rw [idAt_eq hg]; simp) ?_; refine CSQR ?_; refine A0 aV ?_; refine CNQQR ?_; refine A0 aV ?_; refine CNB ?_
       refine aw_reval (d := 12) (y := ((lastAt (levelAt l) q 1 : Nat) : Int)) rfl (by rw [lastAt, if_neg (by omega)]; rfl) ?_
       refine Lp (ι := Nat) 0 (fun (k : Nat) => ((((((Fr.none).set 0 (.val (sl blockT) l)).set 1 (.val i64T (p : Int))).set 2 (.val i64T (q : Int))).set 11 (.val (sl i64T) (levelsOf l))).set 12 (.val i64T ((lastAt (levelAt l) q k : Nat) : Int))).set 13 (.val i64T (k : Int))) (fun (k : Nat) => Hp.none) (fun (k : Nat) => 1 ≤ k ∧ k ≤ p) (fun (k : Nat) => p - k) (1) (⟨Nat.le_refl _, by omega⟩) ?_
       intro k hinv
       refine CQQR ?_; refine A0 mV ?_; refine A0 mV ?_; refine A0 o_lss ?_; refine CN ?_
       refine Cf (p := k < p) (fun ht84 => ?_) (fun ht84 => ?_)
       ·
        have hv := levels_at (l := l) (k := k) (by omega)
        refine CSQBQR ?_; refine A0 mV ?_; refine A0 mV ?_; refine A0 (g_ia_i (i := k) rfl rfl rfl (by omega) sl_49 (by assumption)) ?_; refine A0 (g_load_r rfl rfl ty_3) ?_; refine A0 mV ?_; refine A0 o_geq ?_; refine A0 mV ?_
        refine Sp (d := 93) (p := (q : Int) ≤ levelAt l k) (fun g93 => ?_) (fun g93 => ?_)
        ·
         refine A1 mV ?_; refine A1 o_gtr ?_; refine A0 oK ?_; refine CN ?_
         refine Cf (p := 0 < q) (fun ht96 => ?_) (fun ht96 => ?_)
         ·
          refine CR ?_; refine A0 mV ?_; refine A0 aV ?_; refine CNIR ?_; refine A0 mV ?_; refine A0 o_add ?_; refine A0 aV ?_; refine CN ?_
          refine aw_reval (d := 12) (y := ((lastAt (levelAt l) q (k + 1) : Nat) : Int)) rfl (by rw [lastAt, if_pos ⟨hinv.1, g93, by omega⟩]) ?_
          exact Nx (k + 1) (⟨by omega, by omega⟩) (by omega)
         ·
          refine CSIR ?_; refine A0 mV ?_; refine A0 o_add ?_; refine A0 aV ?_; refine CN ?_; refine aw_reval (d := 12) (y := ((lastAt (levelAt l) q (k + 1) : Nat) : Int)) rfl (by rw [lastAt, if_neg (by omega)]) ?_
          exact Nx (k + 1) (⟨by omega, by omega⟩) (by omega)
        ·
         refine A2 ?_; refine A2 ?_; refine A0 oK ?_; refine CN ?_; refine Cg ?_; refine CSIR ?_; refine A0 mV ?_; refine A0 o_add ?_; refine A0 aV ?_; refine CN ?_
         refine aw_reval (d := 12) (y := ((lastAt (levelAt l) q (k + 1) : Nat) : Int)) rfl (by rw [lastAt, if_neg (by omega)]) ?_
         exact Nx (k + 1) (⟨by omega, by omega⟩) (by omega)
       ·
        obtain rfl : k = p := by omega
        refine CE ?_; refine CQQR ?_; refine A0 mV ?_; refine A0 mV ?_; refine A0 mV ?_; refine A0 (g_ia_i (i := k) rfl rfl rfl (by omega) sl_22 (by assumption)) ?_; refine A0 (oFr fd_37_1 L_Block_l) ?_; refine A0 (g_load_r rfl rfl ty_35) ?_
        refine A0 (by first | exact g_len rfl rfl isl_35 | exact g_len_o rfl rfl rfl isl_35 | exact g_len_nil rfl rfl isl_35) ?_; refine A0 o_geq ?_; refine CN ?_
        refine Cf (p := b.l.length ≤ q) (fun ht105 => ?_) (fun ht105 => ?_)
        ·
         refine CQR ?_; refine A0 mV ?_; refine A0 o_eql ?_; refine A0 aV ?_; refine CN ?_
         exact aw_ret1 rfl rfl (ret_eq rfl (by rw [hln.2 (by omega)]; rfl))
        ·
         obtain ⟨hz, hz2⟩ := hln.1 (by omega)
         have hlt := lastAt_lt (v := levelAt l) (n := (q : Int)) (i := k)
         obtain ⟨c, hc⟩ : ∃ c, l[lastAt (levelAt l) q k]? = some c := ⟨_, List.getElem?_eq_getElem (by omega)⟩
         refine CS ?_; refine CQ ?_; refine CD mixed ?_; refine G0 mV ?_; refine G0 mV ?_; refine G0 (g_ia_i (i := k) rfl rfl rfl (by omega) sl_22 (by assumption)) ?_; refine G0 (oFr fd_37_1 L_Block_l) ?_; refine G0 (g_load_r rfl rfl ty_35) ?_
         refine G0 mV ?_; refine G0 (g_ia_i (i := q) rfl rfl rfl (by omega) sl_35 (by assumption)) ?_; refine G0 (g_load_r rfl rfl ty_29) ?_; refine G0 mV ?_; refine G0 mV ?_
         refine G0 (g_ia_i (i := lastAt (levelAt l) q k) rfl rfl rfl (by omega) sl_22 (by assumption)) ?_; refine G0 (oFr fd_37_0 L_Block_h) ?_; refine G0 (g_load_r rfl rfl ty_34) ?_
         refine G0 (oCl (headId_ok _) rfl fn_17 ⟨(by first | exact arg_same rfl | exact arg_bsl rfl | exact arg_own rfl rfl | exact arg_nil rfl | exact arg_rptr rfl | exact arg_fn rfl rfl | exact arg_lit rfl), trivial⟩) ?_
         refine G0 (g_eqlS rfl rfl rfl (eqt_29)) ?_; refine G0 mV ?_; refine GK_ist (d := 123) rfl (by rw [idAt_eq hc]; simp) ?_; refine G1 mV ?_; refine G1 o_eql ?_; refine G1 mV ?_
         refine GK_splitp (d := 126) (p := q = 0) rfl (by first | rfl | (rw [decide_eq_decide]; simp only [IntL.toI, id_eq]; omega) | (simp [IntL.toI]; done) | (simp [IntL.toI]; omega)) (fun g126 => ?_) (fun g126 => ?_)
         ·
          refine G2 ?_; refine G2 ?_; refine G1 oK ?_; refine G0 oK ?_; refine G0 aV ?_; refine GK.nil ?_
          exact aw_ret1 rfl rfl (ret_eq rfl rfl)
         ·
          refine G1 mV ?_; refine G1 o_gtr ?_; refine G1 oK ?_; refine G0 oK ?_; refine G0 aV ?_; refine GK.nil ?_
          exact aw_ret1 rfl rfl (ret_eq rfl (decide_eq_true (show (0 : Int) < ((lastAt (levelAt l) (q : Int) k : Nat) : Int) by omega)))
theorem ChainSpoiled_ok (l : List Block) (i : Int) (b : Block) (hl : smallC l) : Tells P 5 [.val (sl blockT) l, .val i64T i, .val blockT b] (.val boolT true) := by
 refine fn_of_aw Tryz.func5 rfl rfl rfl (fun ext w hext => ?_)
 refine aw_fact (d := 0) rfl fact_sl (fun hsl0 => ?_)
 refine aw_fact (d := 1) rfl fact_int (fun hin1 => ?_)
 refine CQR ?_; refine aw_box rfl rfl rfl rfl rfl ?_; refine A0 aV ?_; refine CNQR ?_; refine A0 (oCl (awake12_ok) rfl fn_10 trivial) ?_; refine A0 aV ?_; refine CNQR ?_; refine A0 mV ?_
 refine A0 (oCl (fewC_ok l) rfl fn_11 ⟨(arg_v rfl), trivial⟩) ?_; refine A0 aV ?_; refine CNQR ?_; refine A0 (oLs rfl rfl rfl ty_37) ?_; refine A0 (g_bslice (T := blockT) (xs := [_]) rfl sl_22 row_22 ⟨rfl, rfl, trivial⟩ rfl rfl) ?_
 refine A0 (oCl (fewC_ok [b]) rfl fn_11 ⟨(arg_v rfl), trivial⟩) ?_; refine A0 aV ?_; refine CNQR ?_; refine A0 mV ?_; refine A0 (oCl (check_ok l hl) rfl fn_13 ⟨(arg_v rfl), trivial⟩) ?_; refine A0 mX ?_
 refine A0 (by first | exact g_x20 rfl rfl | exact g_x30 rfl rfl) ?_; refine A0 (by first | exact g_x21 rfl rfl | exact g_x31 rfl rfl) ?_; refine aw_alloc ze_41 rfl rfl rfl rfl ?_
 refine aw_store_b rfl rfl rfl rfl rfl (Lens.self _) ty_41 rfl ?_; refine A0 aV ?_; refine CNQQR ?_; refine A0 mV ?_; refine A0 oN ?_; refine A0 mV ?_; refine aw_isf (d := 28) rfl (rfl) ?_; refine A1 mV ?_; refine A1 oN ?_; refine A0 oK ?_
 refine A0 mV ?_
 refine aw_splitp (d := 32) (p := ¬ fewC l = true) rfl (by cases fewC l <;> rfl) (fun g32 => ?_) (fun g32 => ?_)
 ·
  refine A2 ?_; refine A2 ?_; refine A0 oK ?_; refine A0 mV ?_; refine A2 ?_; refine A2 ?_; refine A0 oK ?_; refine A0 mV ?_; refine A2 ?_; refine A2 ?_; refine A0 oK ?_; refine A0 mV ?_; refine A2 ?_; refine A2 ?_; refine A2 ?_; refine A2 ?_
  refine A2 ?_; refine A0 oK ?_; refine CN ?_; refine Ct ?_; refine CQR ?_; refine A0 mV ?_; refine A0 aV ?_; refine CN ?_
  exact aw_ret1 rfl rfl (ret_eq rfl rfl)
 ·
  refine A1 mV ?_; refine A1 oN ?_; refine A0 oK ?_; refine A0 mV ?_
  refine aw_splitp (d := 36) (p := ¬ fewC [b] = true) rfl (by cases fewC [b] <;> rfl) (fun g36 => ?_) (fun g36 => ?_)
  ·
   refine A2 ?_; refine A2 ?_; refine A0 oK ?_; refine A0 mV ?_; refine A2 ?_; refine A2 ?_; refine A0 oK ?_; refine A0 mV ?_; refine A2 ?_; refine A2 ?_; refine A2 ?_; refine A2 ?_; refine A2 ?_; refine A0 oK ?_; refine CN ?_; refine Ct ?_
   refine CQR ?_; refine A0 mV ?_; refine A0 aV ?_; refine CN ?_
   exact aw_ret1 rfl rfl (ret_eq rfl rfl)
  ·
   refine A1 mV ?_; refine A1 o_neq ?_; refine A0 oK ?_; refine A0 mV ?_
   refine aw_splitp (d := 40) (p := ¬ (checkOf l).2 = 0) rfl (by simp [IntL.toI]) (fun g40 => ?_) (fun g40 => ?_)
   ·
    refine A2 ?_; refine A2 ?_; refine A0 oK ?_; refine A0 mV ?_; refine A2 ?_; refine A2 ?_; refine A2 ?_; refine A2 ?_; refine A2 ?_; refine A0 oK ?_; refine CN ?_; refine Ct ?_; refine CQR ?_; refine A0 mV ?_; refine A0 aV ?_; refine CN ?_
    exact aw_ret1 rfl rfl (ret_eq rfl rfl)
   ·
    refine A1 mV ?_; refine A1 o_lss ?_; refine A0 oK ?_; refine A0 mV ?_
    refine Sp (d := 44) (p := i < 0) (fun g44 => ?_) (fun g44 => ?_)
    ·
     refine A2 ?_; refine A2 ?_; refine A2 ?_; refine A2 ?_; refine A2 ?_; refine A0 oK ?_; refine CN ?_; refine Ct ?_; refine CQR ?_; refine A0 mV ?_; refine A0 aV ?_; refine CN ?_
     exact aw_ret1 rfl rfl (ret_eq rfl rfl)
    ·
     refine A1 mV ?_; refine A1 mV ?_; refine A1 (g_len rfl rfl isl_22) ?_; refine A1 o_sub ?_; refine A1 o_geq ?_; refine A0 oK ?_; refine CN ?_
     refine Cf (p := (l.length : Int) - 1 ≤ i) (fun ht50 => ?_) (fun ht50 => ?_)
     ·
      refine CQR ?_; refine A0 mV ?_; refine A0 aV ?_; refine CN ?_
      exact aw_ret1 rfl rfl (ret_eq rfl rfl)
     ·
      have hlen := fewC_len (Classical.not_not.1 g32)
      have hb1 : smallB b := (fewC_small (Classical.not_not.1 g36)).2 b (by simp)
      have hch := chain_of (Classical.not_not.1 g40)
      obtain ⟨p, rfl⟩ : ∃ p : Nat, i = p := ⟨i.toNat, by omega⟩
      obtain ⟨a, ha⟩ : ∃ a, l[p]? = some a := ⟨_, List.getElem?_eq_getElem (by omega)⟩
      obtain ⟨c, hc2⟩ : ∃ c, l[p + 1]? = some c := ⟨_, List.getElem?_eq_getElem (by omega)⟩
      have hsm : smallC (l.set p b) := ⟨by have := hl.1; rw [List.length_set]; omega, fun x hx => (List.mem_or_eq_of_mem_set hx).elim (hl.2 x) fun e => by rw [e]; exact hb1⟩
      refine CSQR ?_; refine A0 mV ?_; refine aw_append0 rfl rfl rfl rfl rfl rfl row_22 (by omega) ?_; refine A0 aO ?_; refine CNQR ?_; refine A0 mO ?_; refine A0 mV ?_; refine A0 (oLs rfl rfl rfl ty_37) ?_
      refine A0 (g_ia_o (i := p) rfl rfl rfl rfl (by first | omega | rfl) sl_22 (by first | assumption | omega | (simp; omega))) ?_; refine aw_store_e rfl rfl rfl rfl rfl rfl (by assumption) (Lens.self _) ty_37 rfl ?_; refine CNQR ?_
      refine A0 mO ?_; refine A0 (oCl (check_ok (l.set p b) hsm) rfl fn_13 ⟨(arg_own rfl rfl), trivial⟩) ?_; refine A0 mX ?_; refine A0 (by first | exact g_x20 rfl rfl | exact g_x30 rfl rfl) ?_
      refine A0 (by first | exact g_x21 rfl rfl | exact g_x31 rfl rfl) ?_; refine aw_alloc ze_41 rfl rfl rfl rfl ?_; refine aw_store_b rfl rfl rfl rfl rfl (Lens.self _) ty_41 rfl ?_; refine A0 aV ?_; refine CNQ ?_; refine CD mixed ?_
      refine G0 mV ?_; refine G0 o_neq ?_; refine G0 mV ?_
      refine GK_splitp (d := 65) (p := ¬ (checkOf (l.set p b)).2 = 0) rfl (by simp [IntL.toI]) (fun g65 => ?_) (fun g65 => ?_)
      ·
       refine G2 ?_; refine G2 ?_; refine G2 ?_; refine G2 ?_; refine G2 ?_; refine G2 ?_; refine G2 ?_; refine G2 ?_; refine G2 ?_; refine G2 ?_; refine G2 ?_; refine G3 ?_; refine G3 ?_; refine G3 ?_; refine G3 ?_; refine G3 ?_; refine G3 ?_
       refine G3 ?_; refine G3 ?_; refine G3 ?_; refine G3 ?_; refine G3 ?_; refine G2 ?_; refine G0 oK ?_; refine G0 aV ?_; refine GK.nil ?_
       exact aw_ret1 rfl rfl (ret_eq rfl rfl)
      ·
       have hE2 := Classical.not_not.1 g65
       refine G1 (oFp fd_37_0) ?_; refine G1 (oLb L_Block_h ty_34) ?_; refine G1 (oCl (headId_ok _) rfl fn_17 ⟨(arg_v rfl), trivial⟩) ?_; refine G1 mV ?_; refine G1 mV ?_; refine G1 (g_ia_i (i := p) rfl rfl rfl (by omega) sl_22 (by assumption)) ?_
       refine G1 (oFr fd_37_0 L_Block_h) ?_; refine G1 (g_load_r rfl rfl ty_34) ?_
       refine G1 (oCl (headId_ok _) rfl fn_17 ⟨(by first | exact arg_same rfl | exact arg_bsl rfl | exact arg_own rfl rfl | exact arg_nil rfl | exact arg_rptr rfl | exact arg_fn rfl rfl | exact arg_lit rfl), trivial⟩) ?_
       refine G1 (g_eqlS rfl rfl rfl (eqt_29)) ?_; refine G1 mV ?_; refine GK_ist (d := 76) rfl (by rw [(chain_spoiled hch ha hc2 hE2).1]; simp) ?_; refine G1 mV ?_; refine G1 mV ?_; refine G1 o_add ?_
       refine G1 (g_ia_i (i := p + 1) rfl rfl rfl (by omega) sl_22 (by assumption)) ?_; refine G1 (oFr fd_37_0 L_Block_h) ?_; refine G1 (oFr fd_34_1 L_Head_prev) ?_; refine G1 (g_load_r rfl rfl ty_29) ?_; refine G1 (oFp fd_37_0) ?_
       refine G1 (oLb L_Block_h ty_34) ?_; refine G1 (oCl (headId_ok _) rfl fn_17 ⟨(arg_v rfl), trivial⟩) ?_; refine G1 (g_eqlS rfl rfl rfl (eqt_29)) ?_; refine G1 oK ?_; refine G0 oK ?_; refine G0 aV ?_; refine GK.nil ?_
       exact aw_ret1 rfl rfl (ret_eq rfl (decide_eq_true (chain_spoiled hch ha hc2 hE2).2))
theorem ChainFinds_ok (l : List Block) (i : Int) (id : Ab.Id) : Tells P 7 [.val (sl blockT) l, .val i64T i, .val idT id] (.val boolT true) := by
 refine fn_of_aw Tryz.func7 rfl rfl rfl (fun ext w hext => ?_)
 refine aw_fact (d := 0) rfl fact_sl (fun hsl0 => ?_)
 refine aw_fact (d := 1) rfl fact_int (fun hin1 => ?_)
 refine CQR ?_; refine aw_box rfl rfl rfl rfl rfl ?_; refine A0 aV ?_; refine CNQR ?_; refine A0 (oCl (awake12_ok) rfl fn_10 trivial) ?_; refine A0 aV ?_; refine CNQR ?_; refine A0 mV ?_
 refine A0 (oCl (fewC_ok _) rfl fn_11 ⟨(arg_v rfl), trivial⟩) ?_; refine A0 aV ?_; refine CNQQR ?_; refine A0 mV ?_; refine A0 oN ?_; refine A0 mV ?_; refine aw_isf (d := 17) rfl (rfl) ?_; refine A1 mV ?_; refine A1 oN ?_; refine A0 oK ?_
 refine CN ?_
 refine aw_ifc (p := ¬ fewC l = true) rfl (by cases fewC l <;> rfl) (fun ht20 => ?_) (fun ht20 => ?_)
 ·
  refine CQR ?_; refine A0 mV ?_; refine A0 aV ?_; refine CN ?_
  exact aw_ret1 rfl rfl (ret_eq rfl (by first | rfl | simp))
 ·
  have hlen := fewC_len (Classical.not_not.1 ht20)
  obtain ⟨hr1, hr2, hr3⟩ := find_range (l := l) (id := id)
  refine CSQR ?_; refine A0 mV ?_; refine A0 (oLs rfl rfl rfl ty_29) ?_; refine A0 (oCl (findC_ok l id) rfl fn_20 ⟨(arg_v rfl), (arg_v rfl), trivial⟩) ?_; refine A0 aV ?_; refine CNQ ?_; refine CQ ?_; refine CD mixed ?_; refine G0 mV ?_
  refine G0 o_lss ?_; refine G0 mV ?_; refine GK_isf (d := 27) rfl (decide_eq_false (by show ¬ findOf l id < -1; omega)) ?_; refine G1 mV ?_; refine G1 mV ?_; refine G1 (g_len rfl rfl isl_22) ?_; refine G1 o_geq ?_; refine G0 oK ?_
  refine G0 mV ?_; refine GK_isf (d := 33) rfl (decide_eq_false (by show ¬ (l.length : Int) ≤ findOf l id; omega)) ?_; refine G1 mV ?_; refine G1 o_geq ?_; refine G1 mV ?_
  refine GK_splitp (d := 36) (p := 0 ≤ findOf l id) rfl (by first | rfl | (rw [decide_eq_decide]; simp only [IntL.toI, id_eq]; omega) | (simp [IntL.toI]; done) | (simp [IntL.toI]; omega)) (fun g36 => ?_) (fun g36 => ?_)
  ·
   obtain ⟨f, hf, hfid⟩ := hr3 g36
   refine G1 mV ?_; refine G1 mV ?_; refine G1 (g_ia_i (i := (findOf l id).toNat) rfl rfl rfl (by omega) sl_22 (by assumption)) ?_; refine G1 (oFr fd_37_0 L_Block_h) ?_; refine G1 (g_load_r rfl rfl ty_34) ?_
   refine G1 (oCl (headId_ok _) rfl fn_17 ⟨(by first | exact arg_same rfl | exact arg_bsl rfl | exact arg_own rfl rfl | exact arg_nil rfl | exact arg_rptr rfl | exact arg_fn rfl rfl | exact arg_lit rfl), trivial⟩) ?_
   refine G1 (oLs rfl rfl rfl ty_29) ?_; refine G1 (g_neqS rfl rfl rfl (eqt_29)) ?_; refine G1 oK ?_; refine G0 oK ?_; refine GK.nil ?_; refine aw_if_f rfl (by rw [hfid]; simp) ?_; refine CSQQR ?_; refine A0 mV ?_; refine A0 o_lss ?_
   refine A0 mV ?_
   refine Sp (d := 49) (p := i < 0) (fun g49 => ?_) (fun g49 => ?_)
   ·
    refine A2 ?_; refine A2 ?_; refine A2 ?_; refine A2 ?_; refine A0 oK ?_; refine CN ?_; refine Ct ?_; refine CQR ?_; refine A0 aV ?_; refine CN ?_
    exact aw_ret1 rfl rfl (ret_eq rfl (by first | rfl | simp))
   ·
    refine A1 mV ?_; refine A1 mV ?_; refine A1 (g_len rfl rfl isl_22) ?_; refine A1 o_geq ?_; refine A0 oK ?_; refine CN ?_
    refine Cf (p := (l.length : Int) ≤ i) (fun ht54 => ?_) (fun ht54 => ?_)
    ·
     refine CQR ?_; refine A0 aV ?_; refine CN ?_
     exact aw_ret1 rfl rfl (ret_eq rfl (by first | rfl | simp))
    ·
     obtain ⟨p, rfl⟩ : ∃ p : Nat, i = p := ⟨i.toNat, by omega⟩
     obtain ⟨b, hb⟩ : ∃ b, l[p]? = some b := ⟨_, List.getElem?_eq_getElem (by omega)⟩
     obtain ⟨k, hk1, hk2, c, hk3, hk4⟩ := find_self hb
     have hv := levels_at' hb
     refine CSQR ?_; refine A0 mV ?_; refine A0 mV ?_; refine A0 mV ?_; refine A0 (g_ia_i (i := p) rfl rfl rfl (by omega) sl_22 (by assumption)) ?_; refine A0 (oFr fd_37_0 L_Block_h) ?_; refine A0 (g_load_r rfl rfl ty_34) ?_
     refine A0 (oCl (headId_ok _) rfl fn_17 ⟨(by first | exact arg_same rfl | exact arg_bsl rfl | exact arg_own rfl rfl | exact arg_nil rfl | exact arg_rptr rfl | exact arg_fn rfl rfl | exact arg_lit rfl), trivial⟩) ?_
     refine A0 (oCl (findC_ok l (headId b.h)) rfl fn_20 ⟨(arg_v rfl), (arg_v rfl), trivial⟩) ?_; refine A0 aV ?_; refine CNQR ?_; refine A0 mV ?_; refine A0 (oCl (tells_pub (levels_ok l (by omega))) rfl fn_16 ⟨(arg_v rfl), trivial⟩) ?_
     refine A0 aV ?_; refine CNQ ?_; refine CD mixed ?_; refine G0 mV ?_; refine G0 o_geq ?_; refine G0 mV ?_; refine GK_ist (d := 67) rfl (decide_eq_true (by rw [hk1]; show (0 : Int) ≤ (k : Int); omega)) ?_; refine G1 mV ?_; refine G1 mV ?_
     refine G1 o_leq ?_; refine G0 oK ?_; refine G0 mV ?_; refine GK_ist (d := 72) rfl (decide_eq_true (by rw [hk1]; show (k : Int) ≤ (p : Int); omega)) ?_; refine G1 mV ?_; refine G1 mV ?_
     refine G1 (g_ia_i (i := k) rfl rfl rfl (by omega) sl_22 (by assumption)) ?_; refine G1 (oFr fd_37_0 L_Block_h) ?_; refine G1 (g_load_r rfl rfl ty_34) ?_
     refine G1 (oCl (headId_ok _) rfl fn_17 ⟨(by first | exact arg_same rfl | exact arg_bsl rfl | exact arg_own rfl rfl | exact arg_nil rfl | exact arg_rptr rfl | exact arg_fn rfl rfl | exact arg_lit rfl), trivial⟩) ?_; refine G1 mV ?_
     refine G1 mV ?_; refine G1 (g_ia_i (i := p) rfl rfl rfl (by omega) sl_22 (by assumption)) ?_; refine G1 (oFr fd_37_0 L_Block_h) ?_; refine G1 (g_load_r rfl rfl ty_34) ?_
     refine G1 (oCl (headId_ok _) rfl fn_17 ⟨(by first | exact arg_same rfl | exact arg_bsl rfl | exact arg_own rfl rfl | exact arg_nil rfl | exact arg_rptr rfl | exact arg_fn rfl rfl | exact arg_lit rfl), trivial⟩) ?_
     refine G1 (g_eqlS rfl rfl rfl (eqt_29)) ?_; refine G0 oK ?_; refine G0 mV ?_; refine GK_ist (d := 87) rfl (decide_eq_true hk4) ?_; refine G1 mV ?_; refine G1 (g_len rfl rfl isl_49) ?_; refine G1 mV ?_; refine G1 (g_len rfl rfl isl_22) ?_
     refine G1 o_eql ?_; refine G0 oK ?_; refine G0 mV ?_; refine GK_ist (d := 94) rfl (by simp [levelsOf]) ?_; refine G1 mV ?_; refine G1 mV ?_; refine G1 (g_ia_i (i := p) rfl rfl rfl (by omega) sl_49 (by assumption)) ?_
     refine G1 (g_load_r rfl rfl ty_3) ?_; refine G1 mV ?_; refine G1 mV ?_; refine G1 (g_ia_i (i := p) rfl rfl rfl (by omega) sl_22 (by assumption)) ?_; refine G1 (oFr fd_37_0 L_Block_h) ?_; refine G1 (g_load_r rfl rfl ty_34) ?_
     refine G1 (oCl (headLevel_ok _) rfl fn_21 ⟨(by first | exact arg_same rfl | exact arg_bsl rfl | exact arg_own rfl rfl | exact arg_nil rfl | exact arg_rptr rfl | exact arg_fn rfl rfl | exact arg_lit rfl), trivial⟩) ?_; refine G1 o_eql ?_
     refine G0 oK ?_; refine G0 aV ?_; refine GK.nil ?_
     exact aw_ret1 rfl rfl (ret_eq rfl (by first | rfl | simp))
  ·
   refine G2 ?_; refine G2 ?_; refine G2 ?_; refine G2 ?_; refine G2 ?_; refine G2 ?_; refine G2 ?_; refine G2 ?_; refine G1 oK ?_; refine G0 oK ?_; refine GK.nil ?_; refine Cg ?_; refine CSQQR ?_; refine A0 mV ?_; refine A0 o_lss ?_
   refine A0 mV ?_
   refine Sp (d := 49) (p := i < 0) (fun g49 => ?_) (fun g49 => ?_)
   ·
    refine A2 ?_; refine A2 ?_; refine A2 ?_; refine A2 ?_; refine A0 oK ?_; refine CN ?_; refine Ct ?_; refine CQR ?_; refine A0 aV ?_; refine CN ?_
    exact aw_ret1 rfl rfl (ret_eq rfl (by first | rfl | simp))
   ·
    refine A1 mV ?_; refine A1 mV ?_; refine A1 (g_len rfl rfl isl_22) ?_; refine A1 o_geq ?_; refine A0 oK ?_; refine CN ?_
    refine Cf (p := (l.length : Int) ≤ i) (fun ht54 => ?_) (fun ht54 => ?_)
    ·
     refine CQR ?_; refine A0 aV ?_; refine CN ?_
     exact aw_ret1 rfl rfl (ret_eq rfl (by first | rfl | simp))
    ·
     obtain ⟨p, rfl⟩ : ∃ p : Nat, i = p := ⟨i.toNat, by omega⟩
     obtain ⟨b, hb⟩ : ∃ b, l[p]? = some b := ⟨_, List.getElem?_eq_getElem (by omega)⟩
     obtain ⟨k, hk1, hk2, c, hk3, hk4⟩ := find_self hb
     have hv := levels_at' hb
     refine CSQR ?_; refine A0 mV ?_; refine A0 mV ?_; refine A0 mV ?_; refine A0 (g_ia_i (i := p) rfl rfl rfl (by omega) sl_22 (by assumption)) ?_; refine A0 (oFr fd_37_0 L_Block_h) ?_; refine A0 (g_load_r rfl rfl ty_34) ?_
     refine A0 (oCl (headId_ok _) rfl fn_17 ⟨(by first | exact arg_same rfl | exact arg_bsl rfl | exact arg_own rfl rfl | exact arg_nil rfl | exact arg_rptr rfl | exact arg_fn rfl rfl | exact arg_lit rfl), trivial⟩) ?_
     refine A0 (oCl (findC_ok l (headId b.h)) rfl fn_20 ⟨(arg_v rfl), (arg_v rfl), trivial⟩) ?_; refine A0 aV ?_; refine CNQR ?_; refine A0 mV ?_; refine A0 (oCl (tells_pub (levels_ok l (by omega))) rfl fn_16 ⟨(arg_v rfl), trivial⟩) ?_
     refine A0 aV ?_; refine CNQ ?_; refine CD mixed ?_; refine G0 mV ?_; refine G0 o_geq ?_; refine G0 mV ?_; refine GK_ist (d := 67) rfl (decide_eq_true (by rw [hk1]; show (0 : Int) ≤ (k : Int); omega)) ?_; refine G1 mV ?_; refine G1 mV ?_
     refine G1 o_leq ?_; refine G0 oK ?_; refine G0 mV ?_; refine GK_ist (d := 72) rfl (decide_eq_true (by rw [hk1]; show (k : Int) ≤ (p : Int); omega)) ?_; refine G1 mV ?_; refine G1 mV ?_
     refine G1 (g_ia_i (i := k) rfl rfl rfl (by omega) sl_22 (by assumption)) ?_; refine G1 (oFr fd_37_0 L_Block_h) ?_; refine G1 (g_load_r rfl rfl ty_34) ?_
     refine G1 (oCl (headId_ok _) rfl fn_17 ⟨(by first | exact arg_same rfl | exact arg_bsl rfl | exact arg_own rfl rfl | exact arg_nil rfl | exact arg_rptr rfl | exact arg_fn rfl rfl | exact arg_lit rfl), trivial⟩) ?_; refine G1 mV ?_
     refine G1 mV ?_; refine G1 (g_ia_i (i := p) rfl rfl rfl (by omega) sl_22 (by assumption)) ?_; refine G1 (oFr fd_37_0 L_Block_h) ?_; refine G1 (g_load_r rfl rfl ty_34) ?_
     refine G1 (oCl (headId_ok _) rfl fn_17 ⟨(by first | exact arg_same rfl | exact arg_bsl rfl | exact arg_own rfl rfl | exact arg_nil rfl | exact arg_rptr rfl | exact arg_fn rfl rfl | exact arg_lit rfl), trivial⟩) ?_
     refine G1 (g_eqlS rfl rfl rfl (eqt_29)) ?_; refine G0 oK ?_; refine G0 mV ?_; refine GK_ist (d := 87) rfl (decide_eq_true hk4) ?_; refine G1 mV ?_; refine G1 (g_len rfl rfl isl_49) ?_; refine G1 mV ?_; refine G1 (g_len rfl rfl isl_22) ?_
     refine G1 o_eql ?_; refine G0 oK ?_; refine G0 mV ?_; refine GK_ist (d := 94) rfl (by simp [levelsOf]) ?_; refine G1 mV ?_; refine G1 mV ?_; refine G1 (g_ia_i (i := p) rfl rfl rfl (by omega) sl_49 (by assumption)) ?_
     refine G1 (g_load_r rfl rfl ty_3) ?_; refine G1 mV ?_; refine G1 mV ?_; refine G1 (g_ia_i (i := p) rfl rfl rfl (by omega) sl_22 (by assumption)) ?_; refine G1 (oFr fd_37_0 L_Block_h) ?_; refine G1 (g_load_r rfl rfl ty_34) ?_
     refine G1 (oCl (headLevel_ok _) rfl fn_21 ⟨(by first | exact arg_same rfl | exact arg_bsl rfl | exact arg_own rfl rfl | exact arg_nil rfl | exact arg_rptr rfl | exact arg_fn rfl rfl | exact arg_lit rfl), trivial⟩) ?_; refine G1 o_eql ?_
     refine G0 oK ?_; refine G0 aV ?_; refine GK.nil ?_
     exact aw_ret1 rfl rfl (ret_eq rfl (by first | rfl | simp))
theorem ChainStands_ok (l : List Block) (i : Int) (hl : smallC l) : Tells P 9 [.val (sl blockT) l, .val i64T i] (.val boolT true) := by
 refine fn_of_aw Tryz.func9 rfl rfl rfl (fun ext w hext => ?_)
 refine aw_fact (d := 0) rfl fact_sl (fun hsl0 => ?_)
 refine aw_fact (d := 1) rfl fact_int (fun hin1 => ?_)
 refine CQR ?_; refine A0 aV ?_; refine CNQR ?_; refine A0 (oCl (awake12_ok) rfl fn_10 trivial) ?_; refine A0 aV ?_; refine CNQR ?_; refine A0 mV ?_; refine A0 (oCl (fewC_ok _) rfl fn_11 ⟨(arg_v rfl), trivial⟩) ?_; refine A0 aV ?_
 refine CNQR ?_; refine A0 mV ?_; refine A0 (oCl (check_ok l hl) rfl fn_13 ⟨(arg_v rfl), trivial⟩) ?_; refine A0 mX ?_; refine A0 (by first | exact g_x20 rfl rfl | exact g_x30 rfl rfl) ?_
 refine A0 (by first | exact g_x21 rfl rfl | exact g_x31 rfl rfl) ?_; refine aw_alloc ze_41 rfl rfl rfl rfl ?_; refine aw_store_b rfl rfl rfl rfl rfl (Lens.self _) ty_41 rfl ?_; refine A0 aV ?_; refine CNQQR ?_; refine A0 mV ?_
 refine A0 oN ?_; refine A0 mV ?_; refine aw_isf (d := 25) rfl (rfl) ?_; refine A1 mV ?_; refine A1 oN ?_; refine A0 oK ?_; refine A0 mV ?_
 refine aw_splitp (d := 29) (p := ¬ fewC l = true) rfl (by cases fewC l <;> rfl) (fun g29 => ?_) (fun g29 => ?_)
 ·
  refine A2 ?_; refine A2 ?_; refine A0 oK ?_; refine A0 mV ?_; refine A2 ?_; refine A2 ?_; refine A0 oK ?_; refine A0 mV ?_; refine A2 ?_; refine A2 ?_; refine A2 ?_; refine A2 ?_; refine A0 oK ?_; refine CN ?_; refine Ct ?_; refine CQR ?_
  refine A0 mV ?_; refine A0 aV ?_; refine CN ?_
  exact aw_ret1 rfl rfl (ret_eq rfl rfl)
 ·
  refine A1 mV ?_; refine A1 o_neq ?_; refine A0 oK ?_; refine A0 mV ?_
  refine aw_splitp (d := 33) (p := ¬ (checkOf l).2 = 0) rfl (by simp [IntL.toI]) (fun g33 => ?_) (fun g33 => ?_)
  ·
   refine A2 ?_; refine A2 ?_; refine A0 oK ?_; refine A0 mV ?_; refine A2 ?_; refine A2 ?_; refine A2 ?_; refine A2 ?_; refine A0 oK ?_; refine CN ?_; refine Ct ?_; refine CQR ?_; refine A0 mV ?_; refine A0 aV ?_; refine CN ?_
   exact aw_ret1 rfl rfl (ret_eq rfl rfl)
  ·
   refine A1 mV ?_; refine A1 o_lss ?_; refine A0 oK ?_; refine A0 mV ?_
   refine Sp (d := 37) (p := i < 1) (fun g37 => ?_) (fun g37 => ?_)
   ·
    refine A2 ?_; refine A2 ?_; refine A2 ?_; refine A2 ?_; refine A0 oK ?_; refine CN ?_; refine Ct ?_; refine CQR ?_; refine A0 mV ?_; refine A0 aV ?_; refine CN ?_
    exact aw_ret1 rfl rfl (ret_eq rfl rfl)
   ·
    refine A1 mV ?_; refine A1 mV ?_; refine A1 (g_len rfl rfl isl_22) ?_; refine A1 o_geq ?_; refine A0 oK ?_; refine CN ?_
    refine Cf (p := (l.length : Int) ≤ i) (fun ht42 => ?_) (fun ht42 => ?_)
    ·
     refine CQR ?_; refine A0 mV ?_; refine A0 aV ?_; refine CN ?_
     exact aw_ret1 rfl rfl (ret_eq rfl rfl)
    ·
     have hlen := fewC_len (Classical.not_not.1 g29)
     have hch := chain_of (Classical.not_not.1 g33)
     obtain ⟨p, rfl⟩ : ∃ p : Nat, i = p := ⟨i.toNat, by omega⟩
     obtain ⟨b, hb⟩ : ∃ b, l[p]? = some b := ⟨_, List.getElem?_eq_getElem (by omega)⟩
     obtain ⟨a, ha⟩ : ∃ a, l[p - 1]? = some a := ⟨_, List.getElem?_eq_getElem (by omega)⟩
     obtain ⟨g, hg⟩ : ∃ g, l[0]? = some g := ⟨_, List.getElem?_eq_getElem (by omega)⟩
     obtain ⟨s1, s2, s3, s4, s5, s6, s7, s8⟩ := chain_stands hch (by omega) hb ha hg
     refine CSQR ?_; refine A0 mV ?_; refine A0 mV ?_; refine A0 (g_ia_i (i := p) rfl rfl rfl (by omega) sl_22 (by assumption)) ?_; refine A0 (oFr fd_37_0 L_Block_h) ?_; refine A0 (g_load_r rfl rfl ty_34) ?_
     refine aw_alloc ze_34 rfl rfl rfl rfl ?_; refine aw_store_b rfl rfl rfl rfl rfl (Lens.self _) ty_34 rfl ?_; refine CNQR ?_; refine A0 aL ?_; refine CNQR ?_; refine A0 mV ?_
     refine A0 (oCl (tells_pub (leaves_ok l (by have := hl.1; omega))) rfl fn_30 ⟨(arg_v rfl), trivial⟩) ?_; refine A0 aV ?_; refine CNQQR ?_; refine A0 mV ?_; refine A0 (g_len rfl rfl isl_38) ?_; refine A0 mV ?_
     refine A0 (g_len rfl rfl isl_22) ?_; refine A0 o_neq ?_; refine CN ?_; refine aw_if_f rfl (by simp [leavesOf]) ?_; refine CSQQR ?_; refine A0 aV ?_; refine CNB ?_; refine aw_nilrow (T := totalT) (d := 10) 68 rfl ?_
     refine aw_pub (d := 10) rfl rfl ?_; refine aw_reval (d := 10) (y := peaks l 0) rfl rfl ?_
     refine Lp (ι := Nat) 3 (fun (k : Nat) => ((((((Fr.none).set 0 (.val (sl blockT) l)).set 1 (.val i64T (p : Int))).set 9 (.ptr 1 0)).set 10 (.val (sl totalT) (peaks l k))).set 11 (.val (sl totalT) (leavesOf l))).set 12 (.val i64T (k : Int))) (fun (k : Nat) => (Hp.none).set 1 (.box 34 headT b.h)) (fun (k : Nat) => k ≤ p) (fun (k : Nat) => p - k) (0) (Nat.zero_le _) ?_
     intro k hinv
     refine CQQR ?_; refine A0 mV ?_; refine A0 mV ?_; refine A0 o_lss ?_; refine CN ?_
     refine Cf (p := k < p) (fun ht58 => ?_) (fun ht58 => ?_)
     ·
      obtain ⟨c, hc⟩ : ∃ c, l[k]? = some c := ⟨_, List.getElem?_eq_getElem (by omega)⟩
      have hlf := leaves_at hc
      have hpl := peaks_len (l := l) (k := k)
      refine CS ?_; refine CQ ?_; refine CB ?_; refine CR ?_; refine A0 mV ?_; refine A0 mV ?_; refine A0 mV ?_; refine A0 (g_ia_i (i := k) rfl rfl rfl (by omega) sl_38 (by assumption)) ?_; refine A0 (g_load_r rfl rfl ty_68) ?_
      refine A0 (oCl (tells_pub (mmrAppend_ok (peaks l k) (leafH c.h) (by omega))) rfl fn_33 ⟨(arg_v rfl), (by first | exact arg_same rfl | exact arg_bsl rfl | exact arg_own rfl rfl | exact arg_nil rfl | exact arg_rptr rfl | exact arg_fn rfl rfl | exact arg_lit rfl), trivial⟩) ?_
      refine A0 aV ?_; refine CNIR ?_; refine A0 mV ?_; refine A0 o_add ?_; refine A0 aV ?_; refine CN ?_; refine aw_reval (d := 10) (y := peaks l (k + 1)) rfl (peaks_succ hlf) ?_
      exact Nx (k + 1) (by omega) (by omega)
     ·
      obtain rfl : k = p := by omega
      have hpl := peaks_len (l := l) (k := k)
      refine CE ?_; refine CQR ?_; refine A0 mV ?_; refine A0 (oCl (mmrRoot_ok (peaks l k) (by omega)) rfl fn_34 ⟨(arg_v rfl), trivial⟩) ?_; refine aw_alloc ze_68 rfl rfl rfl rfl ?_; refine aw_store_b rfl rfl rfl rfl rfl (Lens.self _) ty_68 rfl ?_
      refine CNQR ?_; refine A0 mV ?_; refine A0 mV ?_; refine A0 o_sub ?_; refine A0 (g_ia_i (i := k - 1) rfl rfl rfl (by omega) sl_22 (by assumption)) ?_; refine A0 (oFr fd_37_0 L_Block_h) ?_; refine A0 (g_load_r rfl rfl ty_34) ?_
      refine A0 (oCl (headId_ok _) rfl fn_17 ⟨(by first | exact arg_same rfl | exact arg_bsl rfl | exact arg_own rfl rfl | exact arg_nil rfl | exact arg_rptr rfl | exact arg_fn rfl rfl | exact arg_lit rfl), trivial⟩) ?_
      refine aw_alloc ze_29 rfl rfl rfl rfl ?_; refine aw_store_b rfl rfl rfl rfl rfl (Lens.self _) ty_29 rfl ?_; refine CNQ ?_; refine CD mixed ?_; refine G0 (oFp fd_34_0) ?_; refine G0 (oLb L_Head_height ty_3) ?_; refine G0 mV ?_
      refine G0 o_eql ?_; refine G0 mV ?_; refine GK_ist (d := 80) rfl (decide_eq_true s1) ?_; refine G1 (oFp fd_34_1) ?_; refine G1 (oLb L_Head_prev ty_29) ?_; refine G1 (oLs rfl rfl rfl ty_29) ?_; refine G1 (g_eqlS rfl rfl rfl (eqt_29)) ?_
      refine G0 oK ?_; refine G0 mV ?_; refine GK_ist (d := 86) rfl (decide_eq_true s2) ?_; refine G1 (oFp fd_34_4) ?_; refine G1 (oLb L_Head_past ty_29) ?_; refine G1 (oFp fd_68_0) ?_; refine G1 (oLb L_Total_h ty_29) ?_
      refine G1 (g_eqlS rfl rfl rfl (eqt_29)) ?_; refine G0 oK ?_; refine G0 mV ?_; refine GK_ist (d := 93) rfl (decide_eq_true s3) ?_; refine G1 (oFp fd_34_5) ?_; refine G1 (oLb L_Head_work ty_31) ?_; refine G1 (oFp fd_68_1) ?_
      refine G1 (oLb L_Total_w ty_31) ?_; refine G1 (g_eqlS rfl rfl rfl (eqt_31)) ?_; refine G0 oK ?_; refine G0 mV ?_; refine GK_ist (d := 100) rfl (decide_eq_true s4) ?_; refine G1 (oFp fd_68_2) ?_; refine G1 (oLb L_Total_n ty_3) ?_
      refine G1 mV ?_; refine G1 o_eql ?_; refine G0 oK ?_; refine G0 mV ?_; refine GK_ist (d := 106) rfl (decide_eq_true s5) ?_; refine G1 (oFp fd_34_6) ?_; refine G1 (oLb L_Head_bits ty_32) ?_; refine G1 mV ?_
      refine G1 (g_ia_i (i := 0) rfl rfl rfl (by omega) sl_22 (by assumption)) ?_; refine G1 (oFr fd_37_0 L_Block_h) ?_; refine G1 (oFr fd_34_6 L_Head_bits) ?_; refine G1 (g_load_r rfl rfl ty_32) ?_; refine G1 o_eql ?_; refine G0 oK ?_
      refine G0 mV ?_; refine GK_ist (d := 116) rfl (by rw [s6]; simp) ?_; refine G1 mV ?_; refine G1 mV ?_; refine G1 (g_ia_i (i := k) rfl rfl rfl (by omega) sl_22 (by assumption)) ?_; refine G1 (oFr fd_37_1 L_Block_l) ?_
      refine G1 (g_load_r rfl rfl ty_35) ?_; refine G1 (oFp fd_34_1) ?_; refine G1 (oLb L_Head_prev ty_29) ?_; refine G1 (oLs rfl rfl rfl ty_29) ?_
      refine G1 (oCl (leads_ok _ _ _) rfl fn_35 ⟨(by first | exact arg_same rfl | exact arg_bsl rfl | exact arg_own rfl rfl | exact arg_nil rfl | exact arg_rptr rfl | exact arg_fn rfl rfl | exact arg_lit rfl), (arg_v rfl), (arg_v rfl), trivial⟩) ?_
      refine G0 oK ?_; refine G0 mV ?_; refine GK_ist (d := 127) rfl (by rw [decide_eq_true s2]; rfl) ?_; refine G1 (oFp fd_34_2) ?_; refine G1 (oLb L_Head_links ty_29) ?_; refine G1 mV ?_; refine G1 mV ?_
      refine G1 (g_ia_i (i := k) rfl rfl rfl (by omega) sl_22 (by assumption)) ?_; refine G1 (oFr fd_37_1 L_Block_l) ?_; refine G1 (g_load_r rfl rfl ty_35) ?_
      refine G1 (oCl (linkRoot_ok b.l (by have := fewC_at (Classical.not_not.1 g29) (List.mem_of_getElem? hb); omega)) rfl fn_36 ⟨(by first | exact arg_same rfl | exact arg_bsl rfl | exact arg_own rfl rfl | exact arg_nil rfl | exact arg_rptr rfl | exact arg_fn rfl rfl | exact arg_lit rfl), trivial⟩) ?_
      refine G1 (g_eqlS rfl rfl rfl (eqt_29)) ?_; refine G0 oK ?_; refine G0 mV ?_; refine GK_ist (d := 138) rfl (decide_eq_true s7) ?_; refine G1 (oLs rfl rfl rfl ty_34) ?_; refine G1 (oCl (headLevel_ok _) rfl fn_21 ⟨(arg_v rfl), trivial⟩) ?_
      refine G1 o_geq ?_; refine G0 oK ?_; refine G0 aV ?_; refine GK.nil ?_
      exact aw_ret1 rfl rfl (ret_eq rfl (decide_eq_true (may_level s8)))
end Go.Proofs.YtfepfajcdkllfaaGreat
