/- Parts of the proof: the layer that reads Go values as data, and what the functions of the program tell. -/
import Derived.Test.YtgoiacajjicjcaaGreatK4
set_option maxRecDepth 20000
namespace Go.Proofs.YtgoiacajjicjcaaGreat
set_option linter.unusedVariables false
set_option linter.unusedSimpArgs false
open Go.Ab Go.RowKit
def pushE (t : Tip) (b : Block) : Int :=
  if 48 ≤ b.h.height then 3 else if ¬ behindH b.h = behindH (nextH t b.t b.h.nonce) then 5 else
  if ¬ b.h.links = (nextH t b.t b.h.nonce).links ∨ ¬ b.l = linksT t then 6 else if ¬ b.h = nextH t b.t b.h.nonce then 7 else
  if ¬ headMay b.h = true then 4 else (applyOf t.c b.t).2
def pushT (t : Tip) (b : Block) : Tip := if pushE t b = 0 then ⟨b, mmrAppend t.p (leafH b.h), (applyOf t.c b.t).1⟩ else t
def mineBE (t : Tip) (l : List Tx) (nonce : UInt64) (tries : Int) : Int :=
  if 48 ≤ (nextH t l nonce).height then 3 else if ¬ (applyOf t.c l).2 = 0 then (applyOf t.c l).2 else if (mineOf (nextH t l nonce) tries).isSome = true then 0 else 4
def mineB (t : Tip) (l : List Tx) (nonce : UInt64) (tries : Int) : Block :=
  if mineBE t l nonce tries = 0 then ⟨(mineOf (nextH t l nonce) tries).getD (nextH t l nonce), linksT t, l⟩ else zBlock
theorem ask_two {x : Trial} : firstE [some 45, some 46] x = if 48 ≤ x.b.h.height then 3 else (applyOf x.t.c x.b.t).2 := by
  show (if sizeE x = 0 then (if coinsE x = 0 then 0 else coinsE x) else sizeE x) = _
  unfold sizeE coinsE
  by_cases h : 48 ≤ x.b.h.height
  · rw [if_pos h, if_pos h, if_neg (by decide)]
  · rw [if_neg h, if_neg h, if_pos rfl]; split <;> simp_all
theorem ite_stop {p : Prop} [Decidable p] {e r : Int} (he : e ≠ 0) : (if (if p then e else 0) = 0 then r else (if p then e else 0)) = if p then e else r := by
  by_cases h : p
  · rw [if_pos h, if_pos h, if_neg he]
  · rw [if_neg h, if_neg h, if_pos rfl]
theorem ask_all {t : Tip} {b : Block} {c : List Coin} : firstE [some 45, some 53, some 54, some 55, some 56, some 46] ⟨t, b, nextH t b.t b.h.nonce, c⟩ = pushE t b := by
  obtain ⟨x, hx⟩ : ∃ x : Trial, x = ⟨t, b, nextH t b.t b.h.nonce, c⟩ := ⟨_, rfl⟩
  have e : pushE t b = pushE x.t x.b := by rw [hx]
  have hw : x.want = nextH x.t x.b.t x.b.h.nonce := by rw [hx]
  rw [e, ← hx]
  show (if sizeE x = 0 then (if prevE x = 0 then (if linkE x = 0 then (if rootE x = 0 then (if workE x = 0 then (if coinsE x = 0 then 0 else coinsE x) else workE x) else rootE x) else linkE x) else prevE x) else sizeE x) = _
  have hc : (if coinsE x = 0 then 0 else coinsE x) = coinsE x := by split <;> simp_all
  rw [hc]
  unfold sizeE prevE linkE rootE workE coinsE pushE
  rw [ite_stop (by decide), ite_stop (by decide), ite_stop (by decide), ite_stop (by decide), ite_stop (by decide), hw]
theorem ask_allX {t : Tip} {b : Block} {c : List Coin} (h : pushE t b = 0) : (firstX [some 45, some 53, some 54, some 55, some 56, some 46] ⟨t, b, nextH t b.t b.h.nonce, c⟩).c = (applyOf t.c b.t).1 := by
  obtain ⟨x, hx⟩ : ∃ x : Trial, x = ⟨t, b, nextH t b.t b.h.nonce, c⟩ := ⟨_, rfl⟩
  have hw : x.want = nextH x.t x.b.t x.b.h.nonce := by rw [hx]
  have h : pushE x.t x.b = 0 := by rw [hx]; exact h
  have e : (applyOf t.c b.t).1 = (applyOf x.t.c x.b.t).1 := by rw [hx]
  rw [e, ← hx]
  show (if sizeE x = 0 then (if prevE x = 0 then (if linkE x = 0 then (if rootE x = 0 then (if workE x = 0 then (if coinsE x = 0 then coinsX x else coinsX x) else x) else x) else x) else x) else x).c = _
  unfold pushE at h
  rw [← hw] at h
  by_cases h1 : 48 ≤ x.b.h.height
  · rw [if_pos h1] at h; exact absurd h (by decide)
  rw [if_neg h1] at h
  by_cases h2 : ¬ behindH x.b.h = behindH x.want
  · rw [if_pos h2] at h; exact absurd h (by decide)
  rw [if_neg h2] at h
  by_cases h3 : ¬ x.b.h.links = x.want.links ∨ ¬ x.b.l = linksT x.t
  · rw [if_pos h3] at h; exact absurd h (by decide)
  rw [if_neg h3] at h
  by_cases h4 : ¬ x.b.h = x.want
  · rw [if_pos h4] at h; exact absurd h (by decide)
  rw [if_neg h4] at h
  by_cases h5 : ¬ headMay x.b.h = true
  · rw [if_pos h5] at h; exact absurd h (by decide)
  rw [if_neg h5] at h
  unfold sizeE prevE linkE rootE workE coinsE
  rw [if_neg h1, if_neg h2, if_neg h3, if_neg h4, if_neg h5, if_pos rfl, if_pos rfl, if_pos rfl, if_pos rfl, if_pos rfl, if_pos h]
  rfl
theorem asks_all : ∀ f ∈ ([some 45, some 53, some 54, some 55, some 56, some 46] : List (Option Nat)), Asks f := by intro f hf; simp at hf; unfold Asks; exact hf
theorem asks_two : ∀ f ∈ ([some 45, some 46] : List (Option Nat)), Asks f := by intro f hf; simp at hf; unfold Asks; rcases hf with h | h <;> simp [h]
theorem mineBE_err {t : Tip} {l : List Tx} {nonce : UInt64} {tries : Int} (h : ¬ (if 48 ≤ (nextH t l nonce).height then 3 else (applyOf t.c l).2) = 0) : mineBE t l nonce tries = (if 48 ≤ (nextH t l nonce).height then 3 else (applyOf t.c l).2) := by
  unfold mineBE
  split
  · rfl
  · rename_i h1; rw [if_neg h1] at h; rw [if_pos h]
theorem mineBE_work {t : Tip} {l : List Tx} {nonce : UInt64} {tries : Int} (h : (if 48 ≤ (nextH t l nonce).height then 3 else (applyOf t.c l).2) = 0) (h2 : ¬ (mineOf (nextH t l nonce) tries).isSome = true) : mineBE t l nonce tries = 4 := by
  unfold mineBE
  split
  · rename_i h1; rw [if_pos h1] at h; exact absurd h (by decide)
  · rename_i h1; rw [if_neg h1] at h; simp only [h, h2, not_true_eq_false, if_false]
theorem mineBE_ok {t : Tip} {l : List Tx} {nonce : UInt64} {tries : Int} (h : (if 48 ≤ (nextH t l nonce).height then 3 else (applyOf t.c l).2) = 0) (h2 : (mineOf (nextH t l nonce) tries).isSome = true) : mineBE t l nonce tries = 0 := by
  unfold mineBE
  split
  · rename_i h1; rw [if_pos h1] at h; exact absurd h (by decide)
  · rename_i h1; rw [if_neg h1] at h; simp only [h, h2, not_true_eq_false, if_false]
theorem push_ok (t : Tip) (b : Block) (ht : smallTip t) (hb : smallB b) : Tells P 17 [.val tipT t, .val blockT b] (.tup2 (.val tipT (pushT t b)) (.val i64T (pushE t b))) := by
 have hbt := hb.2.1
 have htp := ht.2.1
 refine fn_of_aw Tryz.func17 rfl rfl rfl (fun ext w hext => ?_)
 refine CQR ?_; refine aw_box rfl rfl rfl rfl rfl ?_; refine aw_box rfl rfl rfl rfl rfl ?_; refine aw_alloc ze_37 rfl rfl rfl rfl ?_; refine A0 aV ?_; refine CNQ ?_
 refine aw_drawx [some 1, some 1, some 1, some 1, some 1, some 1, some 1, some 1, some 1, some 1, none, some 1] mixed (by decide +kernel) ?_; refine X0 (oLs rfl rfl rfl ty_37) ?_; refine X0 (oLs rfl rfl rfl ty_33) ?_
 refine X0 (oLs rfl rfl rfl ty_37) ?_; refine X0 (oFp fd_33_2) ?_; refine X0 (oLb L_Block_t ty_31) ?_; refine X0 (oFp fd_33_0) ?_; refine X0 (oFp fd_29_7) ?_; refine X0 (oLb (L_Block_h.comp L_Head_nonce) ty_24) ?_
 refine X0 (oCl (nextH_ok t b.t b.h.nonce (by omega) (by omega)) rfl fn_22 ⟨(arg_v rfl), (arg_v rfl), (arg_v rfl), trivial⟩) ?_
 refine X0 (g_build rfl ze_77 bd_77 (.cons fd_77_0 L_Trial_t ty_37 rfl (.cons fd_77_1 L_Trial_b ty_33 rfl (.cons fd_77_2 L_Trial_want ty_29 rfl .nil))) rfl) ?_
 refine XK.e (fun fr' hfr kk H => by exact aw_box rfl rfl rfl rfl ((hfr 18 (by decide +kernel)).trans rfl) (aw_nil H)) ?_; refine X0 aP ?_; refine XK.nil' ?_; refine CQR ?_
 refine A0 (g_buildF (xs := [_, _, _, _, _, _]) rfl ar_87 ze_87 ⟨rfl, ⟨_, rfl, rfl⟩, rfl, ⟨_, rfl, rfl⟩, rfl, ⟨_, rfl, rfl⟩, rfl, ⟨_, rfl, rfl⟩, rfl, ⟨_, rfl, rfl⟩, rfl, ⟨_, rfl, rfl⟩, trivial⟩ rfl) ?_; refine aw_alloc ze_87 rfl rfl rfl rfl ?_
 refine aw_store_b rfl rfl rfl rfl rfl (Lens.self _) ty_87 rfl ?_; refine CNQ ?_; refine CQ ?_; refine aw_freeze (d := 7) rfl rfl (Lens.self _) ?_; refine CR ?_; refine A0 mP ?_; refine A0 (g_slice_r rfl rfl ar_87 rfl rfl) ?_
 refine aw_callu (first_ok ⟨t, b, nextH t b.t b.h.nonce, []⟩ [some 45, some 53, some 54, some 55, some 56, some 46] ⟨ht, by show b.t.length ≤ 4000000000000; omega⟩ asks_all) rfl fn_44 rfl trivial trivial rfl ⟨(by first | exact argm_own rfl | exact argm_ptr rfl | exact argm_same rfl | exact argm_bsl rfl | exact argm_lit rfl | exact argm_clo rfl | exact argm_row rfl rfl (by decide)), (by first | exact argm_own rfl | exact argm_ptr rfl | exact argm_same rfl | exact argm_bsl rfl | exact argm_lit rfl | exact argm_clo rfl | exact argm_row rfl rfl (by decide)), trivial⟩ rfl rfl rfl ?_
 refine aw_reval (d := 23) rfl ask_all ?_; refine A0 aV ?_; refine CNQR ?_; refine A0 mV ?_; refine A0 o_neq ?_; refine CN ?_
 refine aw_ifc (p := ¬ pushE t b = 0) rfl (by simp [IntL.toI]) (fun ht25 => ?_) (fun ht25 => ?_)
 ·
  refine CQR ?_; refine A0 (oLs rfl rfl rfl ty_37) ?_; refine A0 (oCl (own_ok t ht) rfl fn_57 ⟨(arg_v rfl), trivial⟩) ?_; refine A0 mV ?_; refine aw_store_b rfl rfl rfl rfl rfl (Lens.self _) ty_37 rfl ?_; refine A0 aV ?_; refine CN ?_
  exact aw_retr2 rfl rfl (rv_cell rfl rfl ty_37 (by unfold pushT; rw [if_neg ht25])) (rv_tmp (ret_eq rfl (rfl)))
 ·
  refine CS ?_; refine CQ ?_; refine aw_drawx [some 1, some 1, some 1, some 1, some 1, some 1, some 1, some 1, some 1, some 1, some 1, some 1, some 1, none, some 1] mixed (by decide +kernel) ?_; refine X0 (oLs rfl rfl rfl ty_33) ?_
  refine X0 (oCl (copied_ok b hb) rfl fn_58 ⟨(arg_v rfl), trivial⟩) ?_; refine X0 (oFp fd_37_1) ?_; refine X0 (oLb L_Tip_p ty_34) ?_; refine X0 (oFp fd_33_0) ?_; refine X0 (oLb L_Block_h ty_29) ?_
  refine X0 (oCl (leafH_ok _) rfl fn_37 ⟨(arg_v rfl), trivial⟩) ?_; refine X0 (oCl (tells_pub (mmrAppend_ok t.p (leafH b.h) (by omega))) rfl fn_36 ⟨(arg_v rfl), (arg_v rfl), trivial⟩) ?_; refine X0 mP ?_; refine X0 (g_nc rfl rfl) ?_
  refine X0 (oFp fd_77_3) ?_; refine X0 (oLb L_Trial_c ty_35) ?_; refine X0 (g_build rfl ze_37 bd_37 (.cons fd_37_0 L_Tip_b ty_33 rfl (.cons fd_37_1 L_Tip_p ty_34 rfl (.cons fd_37_2 L_Tip_c ty_35 rfl .nil))) rfl) ?_
  refine XK.e (x := .idk) (fun fr' hfr kk H => by exact aw_store_b rfl rfl rfl ((hfr 4 (by decide +kernel)).trans rfl) rfl (Lens.self _) ty_37 ((hfr 41 (by decide +kernel)).trans rfl) (aw_nil H)) ?_; refine X0 aV ?_; refine XK.nil' ?_
  exact aw_retr2 rfl rfl (rv_cell rfl rfl ty_37 (by unfold pushT; rw [if_pos (Classical.not_not.1 ht25), ask_allX (Classical.not_not.1 ht25)])) (rv_tmp (ret_eq rfl ((Classical.not_not.1 ht25).symm)))
theorem mineB_ok (t : Tip) (l : List Tx) (nonce : UInt64) (tries : Int) (ht : smallTip t) (hl : smallL l) : Tells P 15 [.val tipT t, .val (sl txT) l, .val u64T nonce, .val i64T tries] (.tup2 (.val blockT (mineB t l nonce tries)) (.val i64T (mineBE t l nonce tries))) := by
 have hbt := hl.1
 have htp := ht.2.1
 refine fn_of_aw Tryz.func15 rfl rfl rfl (fun ext w hext => ?_)
 refine aw_fact (d := 1) rfl fact_sl (fun hsl1 => ?_)
 refine aw_fact (d := 3) rfl fact_int (fun hin3 => ?_)
 refine CQR ?_; refine aw_box rfl rfl rfl rfl rfl ?_; refine aw_alloc ze_33 rfl rfl rfl rfl ?_; refine A0 aV ?_; refine CNQR ?_; refine A0 (oLs rfl rfl rfl ty_37) ?_; refine A0 mV ?_; refine A0 mV ?_
 refine A0 (oCl (nextH_ok t l nonce (by omega) (by omega)) rfl fn_22 ⟨(arg_v rfl), (arg_v rfl), (arg_v rfl), trivial⟩) ?_; refine aw_alloc ze_29 rfl rfl rfl rfl ?_; refine aw_store_b rfl rfl rfl rfl rfl (Lens.self _) ty_29 rfl ?_
 refine CNQR ?_; refine A0 (oLs rfl rfl rfl ty_37) ?_; refine A0 (oLs rfl rfl rfl ty_29) ?_; refine A0 mV ?_; refine A0 (g_build rfl ze_33 bd_33 (.cons fd_33_0 L_Block_h ty_29 rfl (.cons fd_33_2 L_Block_t ty_31 rfl .nil)) rfl) ?_
 refine A0 (oLs rfl rfl rfl ty_29) ?_; refine A0 (g_build rfl ze_77 bd_77 (.cons fd_77_0 L_Trial_t ty_37 rfl (.cons fd_77_1 L_Trial_b ty_33 rfl (.cons fd_77_2 L_Trial_want ty_29 rfl .nil))) rfl) ?_; refine aw_box rfl rfl rfl rfl rfl ?_
 refine A0 aP ?_; refine CNQQR ?_; refine A0 mP ?_; refine A0 (g_bslF (xs := [_, _]) rfl sl_88 row_88 ⟨rfl, ⟨_, rfl, rfl⟩, rfl, ⟨_, rfl, rfl⟩, trivial⟩ rfl rfl) ?_
 refine aw_callu (first_ok ⟨t, ⟨nextH t l nonce, [], l⟩, nextH t l nonce, []⟩ [some 45, some 46] ⟨ht, by show l.length ≤ 4000000000000; omega⟩ asks_two) rfl fn_44 rfl trivial trivial rfl ⟨(by first | exact argm_own rfl | exact argm_ptr rfl | exact argm_same rfl | exact argm_bsl rfl | exact argm_lit rfl | exact argm_clo rfl | exact argm_row rfl rfl (by decide)), (by first | exact argm_own rfl | exact argm_ptr rfl | exact argm_same rfl | exact argm_bsl rfl | exact argm_lit rfl | exact argm_clo rfl | exact argm_row rfl rfl (by decide)), trivial⟩ rfl rfl rfl ?_
 refine aw_reval (d := 27) rfl ask_two ?_; refine A0 aV ?_; refine CNQR ?_; refine A0 mV ?_; refine A0 o_neq ?_; refine CN ?_
 refine aw_ifc (p := ¬ (if 48 ≤ (nextH t l nonce).height then 3 else (applyOf t.c l).2) = 0) rfl (by simp [IntL.toI]) (fun ht29 => ?_) (fun ht29 => ?_)
 ·
  have hE : mineBE t l nonce tries = (if 48 ≤ (nextH t l nonce).height then 3 else (applyOf t.c l).2) := mineBE_err ht29
  refine CQR ?_; refine A0 (g_build rfl ze_33 bd_33 .nil rfl) ?_; refine A0 mV ?_; refine aw_store_b rfl rfl rfl rfl rfl (Lens.self _) ty_33 rfl ?_; refine A0 aV ?_; refine CN ?_
  exact aw_retr2 rfl rfl (rv_cell rfl rfl ty_33 (by unfold mineB; rw [hE, if_neg ht29])) (rv_tmp (ret_eq rfl (hE.symm)))
 ·
  refine CSQR ?_; refine A0 (oLs rfl rfl rfl ty_29) ?_; refine A0 mV ?_; refine A0 (oCl (mine_ok (nextH t l nonce) tries) rfl fn_47 ⟨(arg_v rfl), (arg_v rfl), trivial⟩) ?_; refine A0 mX ?_
  refine A0 (by first | exact g_x20 rfl rfl | exact g_x30 rfl rfl) ?_; refine A0 (by first | exact g_x21 rfl rfl | exact g_x31 rfl rfl) ?_; refine aw_store_b rfl rfl rfl rfl rfl (Lens.self _) ty_29 rfl ?_; refine A0 aV ?_; refine CNQQR ?_
  refine A0 mV ?_; refine A0 oN ?_; refine CN ?_
  refine aw_ifc (p := ¬ (mineOf (nextH t l nonce) tries).isSome = true) rfl (by cases (mineOf (nextH t l nonce) tries).isSome <;> rfl) (fun ht39 => ?_) (fun ht39 => ?_)
  ·
   have hE : mineBE t l nonce tries = 4 := mineBE_work (Classical.not_not.1 ht29) ht39
   refine CQR ?_; refine A0 (g_build rfl ze_33 bd_33 .nil rfl) ?_; refine aw_store_b rfl rfl rfl rfl rfl (Lens.self _) ty_33 rfl ?_; refine A0 aV ?_; refine CN ?_
   exact aw_retr2 rfl rfl (rv_cell rfl rfl ty_33 (by unfold mineB; rw [hE]; rfl)) (rv_tmp (ret_eq rfl (hE.symm)))
  ·
   have hE : mineBE t l nonce tries = 0 := mineBE_ok (Classical.not_not.1 ht29) (Classical.not_not.1 ht39)
   refine CS ?_; refine CQ ?_; refine aw_drawx [some 1, some 1, some 1, some 1, some 1, some 1, none, some 1] mixed (by decide +kernel) ?_; refine X0 (oLs rfl rfl rfl ty_29) ?_; refine X0 (oLs rfl rfl rfl ty_37) ?_
   refine X0 (oCl (tells_pub (linksT_ok t)) rfl fn_48 ⟨(arg_v rfl), trivial⟩) ?_; refine X0 mV ?_; refine X0 (oCl (tells_pub (txs_ok l hl)) rfl fn_49 ⟨(arg_v rfl), trivial⟩) ?_
   refine X0 (g_build rfl ze_33 bd_33 (.cons fd_33_0 L_Block_h ty_29 rfl (.cons fd_33_1 L_Block_l ty_30 rfl (.cons fd_33_2 L_Block_t ty_31 rfl .nil))) rfl) ?_
   refine XK.e (x := .idk) (fun fr' hfr kk H => by exact aw_store_b rfl rfl rfl ((hfr 8 (by decide +kernel)).trans rfl) rfl (Lens.self _) ty_33 ((hfr 46 (by decide +kernel)).trans rfl) (aw_nil H)) ?_; refine X0 aV ?_; refine XK.nil' ?_
   exact aw_retr2 rfl rfl (rv_cell rfl rfl ty_33 (by unfold mineB; rw [hE, if_pos rfl])) (rv_tmp (ret_eq rfl (hE.symm)))
end Go.Proofs.YtgoiacajjicjcaaGreat
set_option maxRecDepth 20000
namespace Go.Proofs.YtgoiacajjicjcaaGreat
set_option linter.unusedVariables false
set_option linter.unusedSimpArgs false
open Go.Ab Go.RowKit
def few (t : Tx) : Bool := decide (t.ins.length ≤ 6 ∧ t.outs.length ≤ 6)
theorem few_ok (t : Tx) : Tells P 75 [.val txT t] (.val boolT (few t)) := by
 refine fn_of_aw Tryz.func75 rfl rfl rfl (fun ext w hext => ?_)
 refine CQR ?_; refine aw_box rfl rfl rfl rfl rfl ?_; refine A0 aV ?_; refine CNQR ?_; refine A0 (oFp fd_99_0) ?_; refine A0 (oLb L_Tx_ins ty_96) ?_; refine A0 (g_len rfl rfl isl_96) ?_; refine A0 o_leq ?_
 refine Sp (d := 6) (p := t.ins.length ≤ 6) (fun g6 => ?_) (fun g6 => ?_)
 ·
  refine A0 mV ?_; refine A1 (oFp fd_99_1) ?_; refine A1 (oLb L_Tx_outs ty_97) ?_; refine A1 (g_len rfl rfl isl_97) ?_; refine A1 o_leq ?_; refine A0 oK ?_; refine A0 aV ?_; refine CN ?_
  exact aw_ret1 rfl rfl (ret_eq rfl (by unfold few; symm; first | (rw [decide_eq_decide]; simp only [IntL.toI, id_eq]; omega) | (apply decide_eq_false; omega) | (simp [g6]; done) | (simp [g6]; omega)))
 ·
  refine A0 mV ?_; refine A2 ?_; refine A2 ?_; refine A2 ?_; refine A2 ?_; refine A0 oK ?_; refine A0 aV ?_; refine CN ?_
  exact aw_ret1 rfl rfl (ret_eq rfl (by unfold few; symm; first | (rw [decide_eq_decide]; simp only [IntL.toI, id_eq]; omega) | (apply decide_eq_false; omega) | (simp [g6]; done) | (simp [g6]; omega)))
theorem fewAll_ok (l : List Tx) (m : Int) : Tells P 28 [.val (bsl txT) l, .val i64T m] (.val boolT (l.all few && decide ((l.length : Int) ≤ m))) := by
 refine fn_of_aw Tryz.func28 rfl rfl rfl (fun ext w hext => ?_)
 refine aw_fact (d := 0) rfl fact_sl (fun hsl0 => ?_)
 refine aw_fact (d := 1) rfl fact_int (fun hin1 => ?_)
 refine CQR ?_; refine A0 aV ?_; refine CNQQR ?_; refine A0 aV ?_; refine CNB ?_
 refine Lp (ι := Nat) 0 (fun (k : Nat) => (((Fr.none).set 0 (.val (bsl txT) l)).set 1 (.val i64T m)).set 5 (.val i64T (k : Int))) (fun (k : Nat) => Hp.none) (fun (k : Nat) => k ≤ l.length ∧ (l.take k).all few = true) (fun (k : Nat) => l.length - k) (0) (⟨Nat.zero_le _, rfl⟩) ?_
 intro k hinv
 refine CQQR ?_; refine A0 mV ?_; refine A0 mV ?_; refine A0 (g_len rfl rfl isl_31) ?_; refine A0 o_lss ?_; refine CN ?_
 refine Cf (p := k < l.length) (fun ht10 => ?_) (fun ht10 => ?_)
 ·
  obtain ⟨t, ht⟩ : ∃ t, l[k]? = some t := ⟨_, List.getElem?_eq_getElem ht10⟩
  refine CSQBQR ?_; refine A0 mV ?_; refine A0 mV ?_; refine A0 (g_ia_n rfl rfl rfl sl_31 (by assumption)) ?_; refine A0 (g_load_r rfl rfl ty_99) ?_
  refine A0 (oCl (few_ok _) rfl fn_75 ⟨(by first | exact arg_same rfl | exact arg_bsl rfl | exact arg_own rfl rfl | exact arg_nil rfl | exact arg_rptr rfl | exact arg_fn rfl rfl | exact arg_lit rfl), trivial⟩) ?_; refine A0 aV ?_
  refine CNQR ?_; refine A0 mV ?_; refine A0 oN ?_; refine CN ?_
  refine aw_ifc (p := ¬ few t = true) rfl (by simp) (fun ht19 => ?_) (fun ht19 => ?_)
  ·
   refine CQR ?_; refine A0 aV ?_; refine CN ?_
   exact aw_ret1 rfl rfl (ret_eq rfl (by symm; rw [Bool.and_eq_false_iff]; left; rw [List.all_eq_false]; exact ⟨t, List.mem_of_getElem? ht, ht19⟩))
  ·
   refine CSIR ?_; refine A0 mV ?_; refine A0 o_add ?_; refine A0 aV ?_; refine CN ?_
   exact Nx (k + 1) (⟨by omega, by rw [List.take_add_one, ht, List.all_append, hinv.2]; simp [Classical.not_not.1 ht19]⟩) (by omega)
 ·
  refine CE ?_; refine CQR ?_; refine A0 mV ?_; refine A0 (g_len rfl rfl isl_31) ?_; refine A0 mV ?_; refine A0 o_leq ?_; refine A0 aV ?_; refine CN ?_
  exact aw_ret1 rfl rfl (ret_eq rfl (by rw [List.take_of_length_le (by omega)] at hinv; rw [hinv.2, Bool.true_and]; rfl))
end Go.Proofs.YtgoiacajjicjcaaGreat
set_option maxRecDepth 20000
namespace Go.Proofs.YtgoiacajjicjcaaGreat
set_option linter.unusedVariables false
set_option linter.unusedSimpArgs false
open Go.Ab Go.RowKit
def s2 : Ab.Id := [219, 193, 180, 201, 0, 255, 228, 141, 87, 91, 93, 165, 198, 56, 4, 1, 37, 246, 93, 176, 254, 62, 36, 73, 75, 118, 234, 152, 100, 87, 217, 134]
def s4 : Ab.Id := [229, 45, 156, 80, 140, 80, 35, 71, 52, 77, 140, 7, 173, 145, 203, 214, 6, 138, 252, 117, 255, 98, 146, 240, 98, 160, 156, 163, 129, 200, 158, 113]
def id0 : Ab.Id := [204, 117, 100, 156, 217, 35, 11, 173, 35, 93, 199, 149, 159, 68, 227, 45, 148, 39, 20, 174, 85, 27, 122, 223, 187, 132, 2, 33, 173, 199, 16, 195]
def lk0 : Ab.Id := [191, 122, 202, 251, 39, 175, 213, 3, 220, 82, 240, 192, 217, 1, 99, 0, 242, 60, 209, 156, 152, 127, 176, 94, 46, 148, 67, 11, 109, 16, 112, 47]
def easyH : Head := ⟨0, zId, s2, s2, s4, zWide, 545259519, 0⟩
def easyN (n : UInt64) : Head := ⟨1, id0, lk0, s2, id0, [2, 0, 0, 0], 545259519, n⟩
theorem sum_s2 : shaSum [2] = s2 := by kernel_rfl
theorem sum_s4 : shaSum [4] = s4 := by kernel_rfl
theorem root_nil : rootOf [] = s2 := by rw [rootOf, if_pos (show ([] : List Ab.Id).length = 0 from rfl), sum_s2]
theorem root_one (x : Ab.Id) : rootOf [x] = x := by rw [rootOf, if_neg (show ¬ [x].length = 0 by simp), dif_pos (show [x].length ≤ 1 by simp)]; rfl
theorem easy_first : firstH 545259519 = easyH := by
  have e1 : linkRoot [] = s2 := root_nil
  have e2 : txRoot [] = s2 := root_nil
  have e3 : (mmrRoot []).h = s4 := sum_s4
  unfold firstH; rw [e1, e2, e3]; rfl
theorem easy_id : headId easyH = id0 := by kernel_rfl
theorem easy_work : headWork easyH = [2, 0, 0, 0] := by kernel_rfl
theorem easy_ok : tgtOk 545259519 = true := by kernel_rfl
theorem easy_lk : leafOf id0 = lk0 := by kernel_rfl
theorem easy_may0 : headMay (easyN 0) = false := by kernel_rfl
theorem easy_may1 : headMay (easyN 1) = true := by kernel_rfl
end Go.Proofs.YtgoiacajjicjcaaGreat
set_option maxRecDepth 20000
namespace Go.Proofs.YtgoiacajjicjcaaGreat
set_option linter.unusedVariables false
set_option linter.unusedSimpArgs false
open Go.Ab Go.RowKit
def leaf0 : Total := leafT id0 [2, 0, 0, 0]
def easyTip : Tip := ⟨⟨easyH, [], []⟩, [leaf0], []⟩
def easyB : Block := ⟨easyN 1, [id0], []⟩
def leaf1 : Total := leafH (easyN 1)
def easyTip2 : Tip := ⟨easyB, mmrAppend [leaf0] leaf1, []⟩
theorem easy_leaf : leafH easyH = leaf0 := by unfold leafH leaf0; rw [easy_id, easy_work]
theorem easy_tip : firstTip 545259519 = easyTip := by unfold firstTip; rw [if_pos easy_ok, easy_first, easy_leaf]; rfl
theorem easy_links : linksT easyTip = [id0] := by
  show linkNext [] (headId easyH) (headLevel easyH) = _
  rw [easy_id]; unfold linkNext; rw [if_neg (show ¬ 32 < ([] : List Ab.Id).length by decide), if_pos (show ([] : List Ab.Id).length = 0 from rfl)]
theorem easy_next (n : UInt64) : nextH easyTip [] n = easyN n := by
  have e1 : linkRoot [id0] = lk0 := (root_one _).trans easy_lk
  have e2 : txRoot [] = s2 := root_nil
  unfold nextH
  rw [easy_links, e1, e2]
  show (⟨_, headId easyH, _, _, _, _, _, _⟩ : Head) = _
  rw [easy_id]; rfl
theorem easy_mine : mineOf (easyN 0) 200 = some (easyN 1) := by
  unfold mineOf
  rw [mineFrom_step (by decide) (by rw [easy_may0]; decide)]
  exact mineFrom_yes (by decide) easy_may1
theorem apply_nil : applyOf [] [] = ([], 0) := by kernel_rfl
theorem easy_mineE : mineBE easyTip [] 0 200 = 0 := by
  unfold mineBE
  rw [easy_next, if_neg (by decide), show (applyOf easyTip.c []).2 = 0 from congrArg (·.2) apply_nil, if_neg (by decide), easy_mine]; rfl
theorem easy_mineB : mineB easyTip [] 0 200 = easyB := by
  unfold mineB
  rw [easy_mineE, if_pos rfl, easy_next, easy_mine, easy_links]; rfl
theorem easy_pushE : pushE easyTip easyB = 0 := by
  unfold pushE
  have e : nextH easyTip easyB.t easyB.h.nonce = easyB.h := easy_next 1
  rw [e, if_neg (by decide), if_neg (by simp), if_neg (by rw [easy_links]; simp [easyB]), if_neg (by simp), if_neg (by rw [show headMay easyB.h = true from easy_may1]; simp)]
  exact congrArg (·.2) apply_nil
theorem easy_pushT : pushT easyTip easyB = easyTip2 := by
  unfold pushT
  rw [easy_pushE, if_pos rfl, show (applyOf easyTip.c easyB.t).1 = [] from congrArg (·.1) apply_nil]; rfl
theorem small_easy : smallTip easyTip := by refine ⟨⟨by decide, by decide, fun t ht => by cases ht⟩, by decide, by decide⟩
theorem small_easyB : smallB easyB := by refine ⟨by decide, by decide, fun t ht => by cases ht⟩
def fewB (b : Block) : Bool := (b.t.all few && decide ((b.t.length : Int) ≤ 6)) && decide (b.l.length ≤ 40)
def fewTip (t : Tip) : Bool := (t.b.t.all few && decide ((t.b.t.length : Int) ≤ 6)) && decide (t.b.l.length ≤ 40 ∧ t.p.length ≤ 70 ∧ t.c.length ≤ 60)
theorem few_small {l : List Tx} (h : (l.all few && decide ((l.length : Int) ≤ 6)) = true) : smallL l := by
  rw [Bool.and_eq_true, decide_eq_true_eq] at h
  refine ⟨by omega, fun t ht => ?_⟩
  have := List.all_eq_true.1 h.1 t ht
  unfold few at this
  rw [decide_eq_true_eq] at this
  exact ⟨by omega, by omega⟩
theorem fewB_small {b : Block} (h : fewB b = true) : smallB b := by
  unfold fewB at h
  rw [Bool.and_eq_true, decide_eq_true_eq] at h
  exact ⟨by omega, few_small h.1⟩
theorem fewTip_small {t : Tip} (h : fewTip t = true) : smallTip t := by
  unfold fewTip at h
  rw [Bool.and_eq_true, decide_eq_true_eq] at h
  exact ⟨⟨by omega, few_small h.1⟩, by omega, by omega⟩
theorem fewTip_ok (t : Tip) : Tells P 11 [.val tipT t] (.val boolT (fewTip t)) := by
 refine fn_of_aw Tryz.func11 rfl rfl rfl (fun ext w hext => ?_)
 refine CQR ?_; refine aw_box rfl rfl rfl rfl rfl ?_; refine A0 aV ?_; refine CNQR ?_; refine A0 (oFp fd_37_0) ?_; refine A0 (oFp fd_33_2) ?_; refine A0 (oLb (L_Tip_b.comp L_Block_t) ty_31) ?_
 refine A0 (oCl (fewAll_ok _ _) rfl fn_28 ⟨(arg_v rfl), (arg_v rfl), trivial⟩) ?_; refine A0 aV ?_; refine CNQR ?_; refine A0 mV ?_
 refine aw_splitp (d := 8) (p := (t.b.t.all few && decide ((t.b.t.length : Int) ≤ 6)) = true) rfl (Bool.decide_eq_true.symm) (fun g8 => ?_) (fun g8 => ?_)
 ·
  refine A0 mV ?_; refine A1 (oFp fd_37_0) ?_; refine A1 (oFp fd_33_1) ?_; refine A1 (oLb (L_Tip_b.comp L_Block_l) ty_30) ?_; refine A1 (g_len rfl rfl isl_30) ?_; refine A1 o_leq ?_
  refine Sp (d := 14) (p := t.b.l.length ≤ 40) (fun g14 => ?_) (fun g14 => ?_)
  ·
   refine A0 oK ?_; refine A0 mV ?_; refine A1 (oFp fd_37_1) ?_; refine A1 (oLb L_Tip_p ty_34) ?_; refine A1 (g_len rfl rfl isl_34) ?_; refine A1 o_leq ?_
   refine Sp (d := 20) (p := t.p.length ≤ 70) (fun g20 => ?_) (fun g20 => ?_)
   ·
    refine A0 oK ?_; refine A0 mV ?_; refine A1 (oFp fd_37_2) ?_; refine A1 (oLb L_Tip_c ty_35) ?_; refine A1 (g_len rfl rfl isl_35) ?_; refine A1 o_leq ?_
    refine Sp (d := 26) (p := t.c.length ≤ 60) (fun g26 => ?_) (fun g26 => ?_)
    ·
     refine A0 oK ?_; refine A0 aV ?_; refine CN ?_
     exact aw_ret1 rfl rfl (ret_eq rfl (by unfold fewTip; symm; first | (rw [g8, Bool.true_and]; first | (apply decide_eq_true; omega) | (apply decide_eq_false; omega)) | (rw [show (t.b.t.all few && decide ((t.b.t.length : Int) ≤ 6)) = false by simpa using g8]; rfl)))
    ·
     refine A0 oK ?_; refine A0 aV ?_; refine CN ?_
     exact aw_ret1 rfl rfl (ret_eq rfl (by unfold fewTip; symm; first | (rw [g8, Bool.true_and]; first | (apply decide_eq_true; omega) | (apply decide_eq_false; omega)) | (rw [show (t.b.t.all few && decide ((t.b.t.length : Int) ≤ 6)) = false by simpa using g8]; rfl)))
   ·
    refine A0 oK ?_; refine A0 mV ?_; refine A2 ?_; refine A2 ?_; refine A2 ?_; refine A2 ?_; refine A0 oK ?_; refine A0 aV ?_; refine CN ?_
    exact aw_ret1 rfl rfl (ret_eq rfl (by unfold fewTip; symm; first | (rw [g8, Bool.true_and]; first | (apply decide_eq_true; omega) | (apply decide_eq_false; omega)) | (rw [show (t.b.t.all few && decide ((t.b.t.length : Int) ≤ 6)) = false by simpa using g8]; rfl)))
  ·
   refine A0 oK ?_; refine A0 mV ?_; refine A2 ?_; refine A2 ?_; refine A2 ?_; refine A2 ?_; refine A0 oK ?_; refine A0 mV ?_; refine A2 ?_; refine A2 ?_; refine A2 ?_; refine A2 ?_; refine A0 oK ?_; refine A0 aV ?_; refine CN ?_
   exact aw_ret1 rfl rfl (ret_eq rfl (by unfold fewTip; symm; first | (rw [g8, Bool.true_and]; first | (apply decide_eq_true; omega) | (apply decide_eq_false; omega)) | (rw [show (t.b.t.all few && decide ((t.b.t.length : Int) ≤ 6)) = false by simpa using g8]; rfl)))
 ·
  refine A0 mV ?_; refine A2 ?_; refine A2 ?_; refine A2 ?_; refine A2 ?_; refine A2 ?_; refine A0 oK ?_; refine A0 mV ?_; refine A2 ?_; refine A2 ?_; refine A2 ?_; refine A2 ?_; refine A0 oK ?_; refine A0 mV ?_; refine A2 ?_; refine A2 ?_
  refine A2 ?_; refine A2 ?_; refine A0 oK ?_; refine A0 aV ?_; refine CN ?_
  exact aw_ret1 rfl rfl (ret_eq rfl (by unfold fewTip; symm; first | (rw [g8, Bool.true_and]; first | (apply decide_eq_true; omega) | (apply decide_eq_false; omega)) | (rw [show (t.b.t.all few && decide ((t.b.t.length : Int) ≤ 6)) = false by simpa using g8]; rfl)))
theorem fewB_ok (b : Block) : Tells P 12 [.val blockT b] (.val boolT (fewB b)) := by
 refine fn_of_aw Tryz.func12 rfl rfl rfl (fun ext w hext => ?_)
 refine CQR ?_; refine aw_box rfl rfl rfl rfl rfl ?_; refine A0 aV ?_; refine CNQR ?_; refine A0 (oFp fd_33_2) ?_; refine A0 (oLb L_Block_t ty_31) ?_; refine A0 (oCl (fewAll_ok _ _) rfl fn_28 ⟨(arg_v rfl), (arg_v rfl), trivial⟩) ?_
 refine A0 aV ?_; refine CNQR ?_; refine A0 mV ?_
 refine aw_splitp (d := 7) (p := (b.t.all few && decide ((b.t.length : Int) ≤ 6)) = true) rfl (Bool.decide_eq_true.symm) (fun g7 => ?_) (fun g7 => ?_)
 ·
  refine A0 mV ?_; refine A1 (oFp fd_33_1) ?_; refine A1 (oLb L_Block_l ty_30) ?_; refine A1 (g_len rfl rfl isl_30) ?_; refine A1 o_leq ?_
  refine Sp (d := 12) (p := b.l.length ≤ 40) (fun g12 => ?_) (fun g12 => ?_)
  ·
   refine A0 oK ?_; refine A0 aV ?_; refine CN ?_
   exact aw_ret1 rfl rfl (ret_eq rfl (by unfold fewB; symm; first | (rw [g7, Bool.true_and]; first | (apply decide_eq_true; omega) | (apply decide_eq_false; omega)) | (rw [show (b.t.all few && decide ((b.t.length : Int) ≤ 6)) = false by simpa using g7]; rfl)))
  ·
   refine A0 oK ?_; refine A0 aV ?_; refine CN ?_
   exact aw_ret1 rfl rfl (ret_eq rfl (by unfold fewB; symm; first | (rw [g7, Bool.true_and]; first | (apply decide_eq_true; omega) | (apply decide_eq_false; omega)) | (rw [show (b.t.all few && decide ((b.t.length : Int) ≤ 6)) = false by simpa using g7]; rfl)))
 ·
  refine A0 mV ?_; refine A2 ?_; refine A2 ?_; refine A2 ?_; refine A2 ?_; refine A0 oK ?_; refine A0 aV ?_; refine CN ?_
  exact aw_ret1 rfl rfl (ret_eq rfl (by unfold fewB; symm; first | (rw [g7, Bool.true_and]; first | (apply decide_eq_true; omega) | (apply decide_eq_false; omega)) | (rw [show (b.t.all few && decide ((b.t.length : Int) ≤ 6)) = false by simpa using g7]; rfl)))
theorem awake11_ok : Tells P 10 [] (.val boolT true) := by
 refine fn_of_aw Tryz.func10 rfl rfl rfl (fun ext w hext => ?_)
 have hw0 : ([id0] : List Ab.Id)[0]? = some id0 := rfl
 refine CQR ?_; refine A0 aV ?_; refine CNQR ?_; refine A0 (oCl (firstTip_ok 545259519) rfl fn_13 ⟨(arg_v rfl), trivial⟩) ?_; refine A0 mX ?_; refine A0 (by first | exact g_x20 rfl rfl | exact g_x30 rfl rfl) ?_
 refine aw_reval (d := 9) (y := easyTip) rfl easy_tip ?_; refine A0 (by first | exact g_x21 rfl rfl | exact g_x31 rfl rfl) ?_; refine aw_reval (d := 10) (y := true) rfl easy_ok ?_; refine aw_alloc ze_37 rfl rfl rfl rfl ?_
 refine aw_store_b rfl rfl rfl rfl rfl (Lens.self _) ty_37 rfl ?_; refine A0 aV ?_; refine CNQR ?_; refine A0 (oLs rfl rfl rfl ty_37) ?_
 refine A0 (oCl (mineB_ok easyTip [] 0 200 small_easy ⟨by decide, fun t ht => by cases ht⟩) rfl fn_15 ⟨(arg_v rfl), (by first | exact arg_same rfl | exact arg_bsl rfl | exact arg_own rfl rfl | exact arg_nil rfl | exact arg_rptr rfl | exact arg_fn rfl rfl | exact arg_lit rfl), (arg_v rfl), (arg_v rfl), trivial⟩) ?_
 refine A0 mX ?_; refine A0 (by first | exact g_x20 rfl rfl | exact g_x30 rfl rfl) ?_; refine aw_reval (d := 14) (y := easyB) rfl easy_mineB ?_; refine A0 (by first | exact g_x21 rfl rfl | exact g_x31 rfl rfl) ?_
 refine aw_reval (d := 15) (y := (0 : Int)) rfl easy_mineE ?_; refine aw_alloc ze_33 rfl rfl rfl rfl ?_; refine aw_store_b rfl rfl rfl rfl rfl (Lens.self _) ty_33 rfl ?_; refine A0 aV ?_; refine CNQR ?_; refine A0 (oLs rfl rfl rfl ty_37) ?_
 refine A0 (oLs rfl rfl rfl ty_33) ?_; refine A0 (oCl (push_ok easyTip easyB small_easy small_easyB) rfl fn_17 ⟨(arg_v rfl), (arg_v rfl), trivial⟩) ?_; refine A0 mX ?_; refine A0 (by first | exact g_x20 rfl rfl | exact g_x30 rfl rfl) ?_
 refine aw_reval (d := 20) (y := easyTip2) rfl easy_pushT ?_; refine A0 (by first | exact g_x21 rfl rfl | exact g_x31 rfl rfl) ?_; refine aw_reval (d := 21) (y := (0 : Int)) rfl easy_pushE ?_; refine aw_alloc ze_37 rfl rfl rfl rfl ?_
 refine aw_store_b rfl rfl rfl rfl rfl (Lens.self _) ty_37 rfl ?_; refine A0 aV ?_; refine CNQ ?_; refine CD mixed ?_; refine G0 mV ?_; refine G0 mV ?_; refine GK_ist (d := 23) rfl (rfl) ?_; refine G1 mV ?_; refine G1 o_eql ?_; refine G0 oK ?_
 refine G0 mV ?_; refine GK_ist (d := 27) rfl (rfl) ?_; refine G1 mV ?_; refine G1 o_eql ?_; refine G0 oK ?_; refine G0 mV ?_; refine GK_ist (d := 31) rfl (rfl) ?_; refine G1 (oFp fd_37_0) ?_; refine G1 (oFp fd_33_0) ?_
 refine G1 (oFp fd_29_0) ?_; refine G1 (oLb ((L_Tip_b.comp L_Block_h).comp L_Head_height) ty_3) ?_; refine G1 o_eql ?_; refine G0 oK ?_; refine G0 mV ?_; refine GK_ist (d := 38) rfl (rfl) ?_; refine G1 (oFp fd_37_0) ?_
 refine G1 (oFp fd_33_1) ?_; refine G1 (oLb (L_Tip_b.comp L_Block_l) ty_30) ?_; refine G1 (g_len rfl rfl isl_30) ?_; refine G1 o_eql ?_; refine G0 oK ?_; refine G0 mV ?_; refine GK_ist (d := 45) rfl (rfl) ?_; refine G1 (oFp fd_37_0) ?_
 refine G1 (oFp fd_33_1) ?_; refine G1 (oLb (L_Tip_b.comp L_Block_l) ty_30) ?_; refine G1 (g_ia_i (i := 0) rfl rfl rfl (by omega) sl_30 (by assumption)) ?_; refine G1 (g_load_r rfl rfl ty_23) ?_; refine G1 (oFp fd_37_0) ?_
 refine G1 (oFp fd_33_0) ?_; refine G1 (oLb (L_Tip_b.comp L_Block_h) ty_29) ?_; refine G1 (oCl (headId_ok easyH) rfl fn_26 ⟨(arg_v rfl), trivial⟩) ?_; refine G1 (g_eqlS rfl rfl rfl (eqt_23)) ?_; refine G0 oK ?_; refine G0 mV ?_
 refine GK_ist (d := 57) rfl (by rw [easy_id]; simp) ?_; refine G1 (oFp fd_37_0) ?_; refine G1 (oFp fd_33_0) ?_; refine G1 (oFp fd_29_5) ?_; refine G1 (oLb ((L_Tip_b.comp L_Block_h).comp L_Head_work) ty_26) ?_
 refine G1 (oCl (ofW_ok 2) rfl fn_32 ⟨(arg_v rfl), trivial⟩) ?_; refine G1 (g_eqlS rfl rfl rfl (eqt_26)) ?_; refine G0 oK ?_; refine G0 mV ?_; refine GK_ist (d := 65) rfl (rfl) ?_; refine G1 (oFp fd_37_0) ?_; refine G1 (oFp fd_33_0) ?_
 refine G1 (oLb (L_Tip_b.comp L_Block_h) ty_29) ?_; refine G1 (oCl (headId_ok easyH) rfl fn_26 ⟨(arg_v rfl), trivial⟩) ?_; refine G1 (g_buildZ rfl ar_23 ze_23 rfl) ?_; refine G1 (g_neqS rfl rfl rfl (eqt_23)) ?_; refine G0 oK ?_
 refine G0 mV ?_; refine GK_ist (d := 73) rfl (by rw [easy_id]; kernel_rfl) ?_; refine G1 (oLs rfl rfl rfl ty_33) ?_; refine G1 (oFp fd_37_0) ?_; refine G1 (oLb L_Tip_b ty_33) ?_
 refine G1 (oCl (sameB_ok easyB easyB) rfl fn_21 ⟨(arg_v rfl), (arg_v rfl), trivial⟩) ?_; refine GK_ist (d := 77) rfl (by simp) ?_; refine G0 oK ?_; refine G0 aV ?_; refine GK.nil ?_
 exact aw_ret1 rfl rfl (ret_eq rfl rfl)
end Go.Proofs.YtgoiacajjicjcaaGreat
set_option maxRecDepth 20000
namespace Go.Proofs.YtgoiacajjicjcaaGreat
set_option linter.unusedVariables false
set_option linter.unusedSimpArgs false
open Go.Ab Go.RowKit
theorem eq_u32 {x y : UInt32} : decide (IntL.toI u32T x = IntL.toI u32T y) = decide (x = y) := by rw [decide_eq_decide]; show ((x.toNat : Nat) : Int) = ((y.toNat : Nat) : Int) ↔ _; rw [Int.ofNat_inj, UInt32.toNat_inj]
end Go.Proofs.YtgoiacajjicjcaaGreat
set_option maxRecDepth 20000
namespace Go.Proofs.YtgoiacajjicjcaaGreat
set_option linter.unusedVariables false
set_option linter.unusedSimpArgs false
open Go.Ab Go.RowKit
theorem cb_split {x y : UInt8} {a b : List UInt8} (h : x ≠ y) : Lib.compareBytes (x :: a) (y :: b) < 0 ↔ x < y := by
  unfold Lib.compareBytes
  by_cases h1 : x < y
  · simp [h1]
  · have h2 : y < x := by
      rcases UInt8.lt_or_lt_of_ne h with h | h
      · exact absurd h h1
      · exact h
    simp [h1, h2]
theorem cb_same : ∀ {p a b : List UInt8}, Lib.compareBytes (p ++ a) (p ++ b) = Lib.compareBytes a b
  | [], _, _ => rfl
  | x :: p, a, b => by
    rw [List.cons_append, List.cons_append, Lib.compareBytes, if_neg (UInt8.lt_irrefl _), if_neg (UInt8.lt_irrefl _)]
    exact cb_same
theorem less_at {a b : List UInt8} {k : Nat} (ha : k < a.length) (hb : k < b.length) (h : a.take k = b.take k) (hn : a.getD k default ≠ b.getD k default) : decide (a.getD k default < b.getD k default) = decide (Lib.compareBytes a b < 0) := by
  rw [decide_eq_decide]
  have e1 : a = a.take k ++ a[k] :: a.drop (k + 1) := by rw [← List.drop_eq_getElem_cons ha, List.take_append_drop]
  have e2 : b = a.take k ++ b[k] :: b.drop (k + 1) := by rw [h, ← List.drop_eq_getElem_cons hb, List.take_append_drop]
  have g1 : a.getD k default = a[k] := by simp [List.getD, ha]
  have g2 : b.getD k default = b[k] := by simp [List.getD, hb]
  rw [g1, g2] at hn ⊢
  have : Lib.compareBytes a b = Lib.compareBytes (a[k] :: a.drop (k + 1)) (b[k] :: b.drop (k + 1)) := by
    conv => lhs; rw [e1, e2]
    exact cb_same
  rw [this]
  exact (cb_split hn).symm
theorem take_same {α : Type} [Inhabited α] {a b : List α} {k : Nat} (ha : k < a.length) (hb : k < b.length) (h : a.take k = b.take k) (hn : a.getD k default = b.getD k default) : a.take (k + 1) = b.take (k + 1) := by
  rw [List.take_add_one, List.take_add_one, h, List.getElem?_eq_getElem ha, List.getElem?_eq_getElem hb]
  congr 2
  simpa [List.getD, ha, hb] using hn
theorem fact_id {a : Ab.Id} {ρ : Nat → Value} {B : Nat → Prop} {U N : Nat → Prop} {w : World} {v : Value} (h : (AV.val idT a).rel ρ B U N w v) : a.length = 32 := by
  obtain ⟨cs, h, _⟩ := h
  exact h.1
theorem before_eq {a b : In} : decide (ordIn a b < 0) = (decide (Lib.compareBytes a.tx b.tx < 0) || (decide (a.tx = b.tx) && decide (a.i < b.i))) := by
  rw [ordIn_eq]
  by_cases h : Lib.compareBytes a.tx b.tx = 0
  · have h' := cb_zero.1 h
    rw [if_pos h, h]
    simp only [h', cmpInt]
    by_cases c : a.i < b.i <;> by_cases d : b.i < a.i <;> simp [c, d]
  · rw [if_neg h]
    have h' : ¬ a.tx = b.tx := fun e => h (cb_zero.2 e)
    simp [h']
theorem same_end {α : Type} {p q : List α} (hl : p.length = q.length) (h : p.take p.length = q.take p.length) : p = q := by
  rw [List.take_length, hl, List.take_length] at h
  exact h
theorem same_step {α : Type} {p q : List α} {k : Nat} {c : α} (h : p.take k = q.take k) (hp : p[k]? = some c) (hq : q[k]? = some c) : p.take (k + 1) = q.take (k + 1) := by
  rw [List.take_add_one, List.take_add_one, h, hp, hq]
theorem any_step {α : Type} {f : α → Bool} {p : List α} {k : Nat} {c : α} (h : (p.take k).any f = false) (hp : p[k]? = some c) (hf : f c = false) : (p.take (k + 1)).any f = false := by
  rw [List.take_add_one, hp, List.any_append, h]; simp [hf]
theorem any_hit {α : Type} {f : α → Bool} {p : List α} {c : α} {k : Nat} (hp : p[k]? = some c) (hf : f c = true) : p.any f = true := List.any_eq_true.2 ⟨c, List.mem_of_getElem? hp, hf⟩
theorem any_hit_take {α : Type} {f : α → Bool} {p : List α} {c : α} {j k : Nat} (hp : p[j]? = some c) (hj : j < k) (hf : f c = true) : (p.take k).any f = true := any_hit (k := j) (by rw [List.getElem?_take_of_lt hj]; exact hp) hf
theorem odd_bad {t : Tx} {o : Out} {k : Nat} (h : t.outs[k]? = some o) (hb : o.v < 1 ∨ 1099511627776 < o.v ∨ o.to < 0 ∨ 255 < o.to) : mayTx t = false := by
  have : t.outs.any outOdd = true := any_hit h (decide_eq_true hb)
  unfold mayTx
  rw [this]; simp
theorem rless_ok (a b : Ab.Id) : Tells P 196 [.val idT a, .val idT b] (.val boolT (decide (Lib.compareBytes a b < 0))) := by
 refine fn_of_aw Tryz.func196 rfl rfl rfl (fun ext w hext => ?_)
 refine aw_fact (d := 0) rfl fact_id (fun ha => ?_)
 refine aw_fact (d := 1) rfl fact_id (fun hb => ?_)
 refine CQR ?_; refine aw_box rfl rfl rfl rfl rfl ?_; refine aw_box rfl rfl rfl rfl rfl ?_; refine A0 aV ?_; refine CNQQR ?_; refine A0 aV ?_; refine CNB ?_
 refine Lp (ι := Nat) 2 (fun (k : Nat) => (((Fr.none).set 2 (.ptr 0 0)).set 3 (.ptr 1 0)).set 5 (.val i64T (k : Int))) (fun (k : Nat) => ((Hp.none).set 0 (.box 23 idT a)).set 1 (.box 23 idT b)) (fun (k : Nat) => k ≤ 32 ∧ a.take k = b.take k) (fun (k : Nat) => 32 - k) (0) (⟨Nat.zero_le _, rfl⟩) ?_
 intro k hinv
 refine CQQR ?_; refine A0 mV ?_; refine A0 o_lss ?_; refine CN ?_
 refine Cf (p := k < 32) (fun ht7 => ?_) (fun ht7 => ?_)
 ·
  refine CS ?_; refine CQ ?_; refine CB ?_; refine CQ ?_; refine CD mixed ?_; refine G0 mV ?_; refine G0 (g_ia_b0 (i := k) rfl rfl rfl (by first | omega | rfl) ar_23 (by omega)) ?_
  refine G0 (g_load_b rfl rfl rfl (Lens.elem (i := k) (by omega) u8T) ty_5) ?_; refine G0 mV ?_; refine G0 (g_ia_b0 (i := k) rfl rfl rfl (by first | omega | rfl) ar_23 (by omega)) ?_
  refine G0 (g_load_b rfl rfl rfl (Lens.elem (i := k) (by omega) u8T) ty_5) ?_; refine G0 o_neq ?_; refine GK.nil ?_
  refine aw_ifc (p := a.getD k default ≠ b.getD k default) rfl (by simp [IntL.toI]; exact Int.ofNat_inj.trans UInt8.toNat_inj) (fun ht16 => ?_) (fun ht16 => ?_)
  ·
   refine CQ ?_; refine CD mixed ?_; refine G0 mV ?_; refine G0 (g_ia_b0 (i := k) rfl rfl rfl (by first | omega | rfl) ar_23 (by omega)) ?_; refine G0 (g_load_b rfl rfl rfl (Lens.elem (i := k) (by omega) u8T) ty_5) ?_; refine G0 mV ?_
   refine G0 (g_ia_b0 (i := k) rfl rfl rfl (by first | omega | rfl) ar_23 (by omega)) ?_; refine G0 (g_load_b rfl rfl rfl (Lens.elem (i := k) (by omega) u8T) ty_5) ?_; refine G0 o_lss ?_; refine G0 aV ?_; refine GK.nil ?_
   exact aw_ret1 rfl rfl (ret_eq rfl ((by simp [IntL.toI, UInt8.lt_iff_toNat_lt] : _ = _).trans (less_at (by omega) (by omega) hinv.2 ht16)))
  ·
   refine CSIR ?_; refine A0 mV ?_; refine A0 o_add ?_; refine A0 aV ?_; refine CN ?_
   exact Nx (k + 1) (⟨by omega, take_same (by omega) (by omega) hinv.2 (Classical.not_not.1 ht16)⟩) (by omega)
 ·
  refine CE ?_; refine CQR ?_; refine A0 aV ?_; refine CN ?_
  exact aw_ret1 rfl rfl (ret_eq rfl (decide_eq_false (by have h := hinv.2; rw [List.take_of_length_le (by omega), List.take_of_length_le (by omega)] at h; rw [h, cb_zero.2 rfl]; exact Int.lt_irrefl 0)).symm)
theorem rbefore_ok (a b : Coin) : Tells P 153 [.val coinT a, .val coinT b] (.val boolT (decide (ordIn a.inn b.inn < 0))) := by
 refine fn_of_aw Tryz.func153 rfl rfl rfl (fun ext w hext => ?_)
 refine CQR ?_; refine aw_box rfl rfl rfl rfl rfl ?_; refine aw_box rfl rfl rfl rfl rfl ?_; refine A0 aV ?_; refine CNQR ?_; refine A0 (oFp fd_123_0) ?_; refine A0 (oFp fd_119_0) ?_; refine A0 (oLb (L_Coin_inn.comp L_In_tx) ty_23) ?_
 refine A0 (oFp fd_123_0) ?_; refine A0 (oFp fd_119_0) ?_; refine A0 (oLb (L_Coin_inn.comp L_In_tx) ty_23) ?_; refine A0 (oCl (rless_ok _ _) rfl fn_196 ⟨(arg_v rfl), (arg_v rfl), trivial⟩) ?_
 refine Sp (d := 12) (p := Lib.compareBytes a.inn.tx b.inn.tx < 0) (fun g12 => ?_) (fun g12 => ?_)
 ·
  refine A0 aV ?_; refine CNQR ?_; refine A0 mV ?_; refine A0 mV ?_; refine A2 ?_; refine A2 ?_; refine A2 ?_; refine A2 ?_; refine A2 ?_; refine A2 ?_; refine A2 ?_; refine A2 ?_; refine A3 ?_; refine A3 ?_; refine A3 ?_; refine A3 ?_
  refine A3 ?_; refine A3 ?_; refine A3 ?_; refine A2 ?_; refine A0 oK ?_; refine A0 aV ?_; refine CN ?_
  exact aw_ret1 rfl rfl (ret_eq rfl (by rw [before_eq]; simp [g12]))
 ·
  refine A0 aV ?_; refine CNQR ?_; refine A0 mV ?_; refine A0 mV ?_; refine A1 (oFp fd_123_0) ?_; refine A1 (oFp fd_119_0) ?_; refine A1 (oLb (L_Coin_inn.comp L_In_tx) ty_23) ?_; refine A1 (oFp fd_123_0) ?_; refine A1 (oFp fd_119_0) ?_
  refine A1 (oLb (L_Coin_inn.comp L_In_tx) ty_23) ?_; refine A1 (g_eqlS rfl rfl rfl (eqt_23)) ?_
  refine aw_splitp (d := 21) (p := a.inn.tx = b.inn.tx) rfl (by simp) (fun g21 => ?_) (fun g21 => ?_)
  ·
   refine A1 mV ?_; refine A1 (oFp fd_123_0) ?_; refine A1 (oFp fd_119_1) ?_; refine A1 (oLb (L_Coin_inn.comp L_In_i) ty_3) ?_; refine A1 (oFp fd_123_0) ?_; refine A1 (oFp fd_119_1) ?_; refine A1 (oLb (L_Coin_inn.comp L_In_i) ty_3) ?_
   refine A1 o_lss ?_; refine A1 oK ?_; refine A0 oK ?_; refine A0 aV ?_; refine CN ?_
   exact aw_ret1 rfl rfl (ret_eq rfl (by rw [before_eq, decide_eq_false g12, Bool.false_or, decide_eq_true g21, Bool.true_and]; rfl))
  ·
   refine A1 mV ?_; refine A2 ?_; refine A2 ?_; refine A2 ?_; refine A2 ?_; refine A2 ?_; refine A2 ?_; refine A2 ?_; refine A1 oK ?_; refine A0 oK ?_; refine A0 aV ?_; refine CN ?_
   exact aw_ret1 rfl rfl (ret_eq rfl (by rw [before_eq, decide_eq_false g12, decide_eq_false g21]; rfl))
theorem rmay_ok (p : List Coin) : Tells P 104 [.val (bsl coinT) p] (.val boolT (mayCoins p)) := by
 refine fn_of_aw Tryz.func104 rfl rfl rfl (fun ext w hext => ?_)
 refine aw_fact (d := 0) rfl fact_sl (fun hsl0 => ?_)
 refine CQR ?_; refine A0 aV ?_; refine CNQQR ?_; refine A0 aV ?_; refine CNB ?_
 refine Lp (ι := Nat) 0 (fun (k : Nat) => ((Fr.none).set 0 (.val (bsl coinT) p)).set 3 (.val i64T (k : Int))) (fun (k : Nat) => Hp.none) (fun (k : Nat) => k ≤ p.length ∧ (List.range k).all (coinAt p) = true) (fun (k : Nat) => p.length - k) (0) (⟨Nat.zero_le _, rfl⟩) ?_
 intro k hinv
 refine CQQR ?_; refine A0 mV ?_; refine A0 mV ?_; refine A0 (g_len rfl rfl isl_35) ?_; refine A0 o_lss ?_; refine CN ?_
 refine Cf (p := k < p.length) (fun ht9 => ?_) (fun ht9 => ?_)
 ·
  obtain ⟨c, hc⟩ : ∃ c, p[k]? = some c := ⟨_, List.getElem?_eq_getElem ht9⟩
  refine CSQBQR ?_; refine A0 mV ?_; refine A0 mV ?_; refine A0 (g_ia_i (i := k) rfl rfl rfl (by omega) sl_35 (by assumption)) ?_; refine A0 (g_load_r rfl rfl ty_123) ?_; refine aw_alloc ze_123 rfl rfl rfl rfl ?_
  refine aw_store_b rfl rfl rfl rfl rfl (Lens.self _) ty_123 rfl ?_; refine CNQQR ?_; refine A0 (oFp fd_123_0) ?_; refine A0 (oFp fd_119_1) ?_; refine A0 (oLb (L_Coin_inn.comp L_In_i) ty_3) ?_; refine A0 o_lss ?_
  refine Sp (d := 19) (p := c.inn.i < 0) (fun g19 => ?_) (fun g19 => ?_)
  ·
   refine A0 mV ?_; refine A2 ?_; refine A2 ?_; refine A2 ?_; refine A2 ?_; refine A0 oK ?_; refine A0 mV ?_; refine A2 ?_; refine A2 ?_; refine A2 ?_; refine A2 ?_; refine A0 oK ?_; refine A0 mV ?_; refine A2 ?_; refine A2 ?_; refine A2 ?_
   refine A2 ?_; refine A0 oK ?_; refine A0 mV ?_; refine A2 ?_; refine A2 ?_; refine A2 ?_; refine A2 ?_; refine A0 oK ?_; refine A0 mV ?_; refine A2 ?_; refine A2 ?_; refine A2 ?_; refine A2 ?_; refine A0 oK ?_; refine CN ?_; refine Ct ?_
   refine CQR ?_; refine A0 aV ?_; refine CN ?_
   exact aw_ret1 rfl rfl (ret_eq rfl (coinAt_bad hc ht9 (by omega)).symm)
  ·
   refine A0 mV ?_; refine A1 (oFp fd_123_0) ?_; refine A1 (oFp fd_119_1) ?_; refine A1 (oLb (L_Coin_inn.comp L_In_i) ty_3) ?_; refine A1 o_geq ?_
   refine Sp (d := 24) (p := 3 ≤ c.inn.i) (fun g24 => ?_) (fun g24 => ?_)
   ·
    refine A0 oK ?_; refine A0 mV ?_; refine A2 ?_; refine A2 ?_; refine A2 ?_; refine A2 ?_; refine A0 oK ?_; refine A0 mV ?_; refine A2 ?_; refine A2 ?_; refine A2 ?_; refine A2 ?_; refine A0 oK ?_; refine A0 mV ?_; refine A2 ?_; refine A2 ?_
    refine A2 ?_; refine A2 ?_; refine A0 oK ?_; refine A0 mV ?_; refine A2 ?_; refine A2 ?_; refine A2 ?_; refine A2 ?_; refine A0 oK ?_; refine CN ?_; refine Ct ?_; refine CQR ?_; refine A0 aV ?_; refine CN ?_
    exact aw_ret1 rfl rfl (ret_eq rfl (coinAt_bad hc ht9 (by omega)).symm)
   ·
    refine A0 oK ?_; refine A0 mV ?_; refine A1 (oFp fd_123_1) ?_; refine A1 (oFp fd_121_0) ?_; refine A1 (oLb (L_Coin_out.comp L_Out_v) ty_3) ?_; refine A1 o_lss ?_
    refine Sp (d := 30) (p := c.out.v < 1) (fun g30 => ?_) (fun g30 => ?_)
    ·
     refine A0 oK ?_; refine A0 mV ?_; refine A2 ?_; refine A2 ?_; refine A2 ?_; refine A2 ?_; refine A0 oK ?_; refine A0 mV ?_; refine A2 ?_; refine A2 ?_; refine A2 ?_; refine A2 ?_; refine A0 oK ?_; refine A0 mV ?_; refine A2 ?_; refine A2 ?_
     refine A2 ?_; refine A2 ?_; refine A0 oK ?_; refine CN ?_; refine Ct ?_; refine CQR ?_; refine A0 aV ?_; refine CN ?_
     exact aw_ret1 rfl rfl (ret_eq rfl (coinAt_bad hc ht9 (by omega)).symm)
    ·
     refine A0 oK ?_; refine A0 mV ?_; refine A1 (oFp fd_123_1) ?_; refine A1 (oFp fd_121_0) ?_; refine A1 (oLb (L_Coin_out.comp L_Out_v) ty_3) ?_; refine A1 o_gtr ?_
     refine Sp (d := 36) (p := 1099511627776 < c.out.v) (fun g36 => ?_) (fun g36 => ?_)
     ·
      refine A0 oK ?_; refine A0 mV ?_; refine A2 ?_; refine A2 ?_; refine A2 ?_; refine A2 ?_; refine A0 oK ?_; refine A0 mV ?_; refine A2 ?_; refine A2 ?_; refine A2 ?_; refine A2 ?_; refine A0 oK ?_; refine CN ?_; refine Ct ?_; refine CQR ?_
      refine A0 aV ?_; refine CN ?_
      exact aw_ret1 rfl rfl (ret_eq rfl (coinAt_bad hc ht9 (by omega)).symm)
     ·
      refine A0 oK ?_; refine A0 mV ?_; refine A1 (oFp fd_123_1) ?_; refine A1 (oFp fd_121_1) ?_; refine A1 (oLb (L_Coin_out.comp L_Out_to) ty_3) ?_; refine A1 o_lss ?_
      refine Sp (d := 42) (p := c.out.to < 0) (fun g42 => ?_) (fun g42 => ?_)
      ·
       refine A0 oK ?_; refine A0 mV ?_; refine A2 ?_; refine A2 ?_; refine A2 ?_; refine A2 ?_; refine A0 oK ?_; refine CN ?_; refine Ct ?_; refine CQR ?_; refine A0 aV ?_; refine CN ?_
       exact aw_ret1 rfl rfl (ret_eq rfl (coinAt_bad hc ht9 (by omega)).symm)
      ·
       refine A0 oK ?_; refine A0 mV ?_; refine A1 (oFp fd_123_1) ?_; refine A1 (oFp fd_121_1) ?_; refine A1 (oLb (L_Coin_out.comp L_Out_to) ty_3) ?_; refine A1 o_gtr ?_
       refine Sp (d := 48) (p := 255 < c.out.to) (fun g48 => ?_) (fun g48 => ?_)
       ·
        refine A0 oK ?_; refine CN ?_; refine Ct ?_; refine CQR ?_; refine A0 aV ?_; refine CN ?_
        exact aw_ret1 rfl rfl (ret_eq rfl (coinAt_bad hc ht9 (by omega)).symm)
       ·
        refine A0 oK ?_; refine CN ?_; refine Cg ?_; refine CS ?_; refine CQ ?_; refine CD mixed ?_; refine G0 mV ?_; refine G0 o_eql ?_
        refine GK_splitp (d := 51) (p := k = 0) rfl (by first | rfl | (rw [decide_eq_decide]; simp only [IntL.toI, id_eq]; omega) | (simp [IntL.toI]; done) | (simp [IntL.toI]; omega)) (fun g51 => ?_) (fun g51 => ?_)
        ·
         refine G0 mV ?_; refine G2 ?_; refine G2 ?_; refine G2 ?_; refine G2 ?_; refine G2 ?_; refine G2 ?_; refine G2 ?_; refine G0 oK ?_; refine G0 aV ?_; refine GK.nil ?_; refine CQR ?_; refine A0 mV ?_; refine A0 oN ?_; refine CN ?_; refine Cg ?_
         refine CSIR ?_; refine A0 mV ?_; refine A0 o_add ?_; refine A0 aV ?_; refine CN ?_
         exact Nx (k + 1) (⟨by omega, all_range_succ hinv.2 (by first | exact coinAt_next hc (by omega) hb g59 (by omega) | (obtain rfl : k = 0 := (by omega); exact coinAt_first hc (by omega)))⟩) (by omega)
        ·
         obtain ⟨b, hb⟩ : ∃ b, p[k - 1]? = some b := ⟨_, List.getElem?_eq_getElem (by omega)⟩
         refine G0 mV ?_; refine G1 mV ?_; refine G1 mV ?_; refine G1 o_sub ?_; refine G1 (g_ia_i (i := k - 1) rfl rfl rfl (by omega) sl_35 (by assumption)) ?_; refine G1 (g_load_r rfl rfl ty_123) ?_; refine G1 (oLs rfl rfl rfl ty_123) ?_
         refine G1 (oCl (rbefore_ok _ _) rfl fn_153 ⟨(by first | exact arg_same rfl | exact arg_bsl rfl | exact arg_own rfl rfl | exact arg_nil rfl | exact arg_rptr rfl | exact arg_fn rfl rfl | exact arg_lit rfl), (arg_v rfl), trivial⟩) ?_
         refine GK_splitp (d := 59) (p := ordIn b.inn c.inn < 0) rfl (by first | rfl | (rw [decide_eq_decide]; simp only [IntL.toI, id_eq]; omega) | (simp [IntL.toI]; done) | (simp [IntL.toI]; omega)) (fun g59 => ?_) (fun g59 => ?_)
         ·
          refine G0 oK ?_; refine G0 aV ?_; refine GK.nil ?_; refine CQR ?_; refine A0 mV ?_; refine A0 oN ?_; refine CN ?_; refine Cg ?_; refine CSIR ?_; refine A0 mV ?_; refine A0 o_add ?_; refine A0 aV ?_; refine CN ?_
          exact Nx (k + 1) (⟨by omega, all_range_succ hinv.2 (by first | exact coinAt_next hc (by omega) hb g59 (by omega) | (obtain rfl : k = 0 := (by omega); exact coinAt_first hc (by omega)))⟩) (by omega)
         ·
          refine G0 oK ?_; refine G0 aV ?_; refine GK.nil ?_; refine CQR ?_; refine A0 mV ?_; refine A0 oN ?_; refine CN ?_; refine Ct ?_; refine CQR ?_; refine A0 aV ?_; refine CN ?_
          exact aw_ret1 rfl rfl (ret_eq rfl (coinAt_unsorted hc ht9 (by omega) hb g59).symm)
 ·
  refine CE ?_; refine CQR ?_; refine A0 mV ?_; refine A0 (g_len rfl rfl isl_35) ?_; refine A0 o_leq ?_; refine A0 aV ?_; refine CN ?_
  exact aw_ret1 rfl rfl (ret_eq rfl (by unfold mayCoins; rw [show k = p.length by omega] at hinv; rw [hinv.2, Bool.true_and, decide_eq_decide]; simp only [IntL.toI, id_eq]; omega))
theorem rsame_ok (p q : List Coin) : Tells P 62 [.val (bsl coinT) p, .val (bsl coinT) q] (.val boolT (decide (p = q))) := by
 refine fn_of_aw Tryz.func62 rfl rfl rfl (fun ext w hext => ?_)
 refine aw_fact (d := 0) rfl fact_sl (fun hsl0 => ?_)
 refine aw_fact (d := 1) rfl fact_sl (fun hsl1 => ?_)
 refine CQR ?_; refine A0 aV ?_; refine CNQQR ?_; refine A0 mV ?_; refine A0 (g_len rfl rfl isl_35) ?_; refine A0 mV ?_; refine A0 (g_len rfl rfl isl_35) ?_; refine A0 o_neq ?_; refine CN ?_
 refine aw_ifc (p := ¬ p.length = q.length) rfl (by simp [IntL.toI]; omega) (fun ht10 => ?_) (fun ht10 => ?_)
 ·
  refine CQR ?_; refine A0 aV ?_; refine CN ?_
  exact aw_ret1 rfl rfl (ret_eq rfl (decide_eq_false (fun e => ht10 (by rw [e]))).symm)
 ·
  have hpq := Classical.not_not.1 ht10
  refine CSQQR ?_; refine A0 aV ?_; refine CNB ?_
  refine Lp (ι := Nat) 0 (fun (k : Nat) => (((Fr.none).set 0 (.val (bsl coinT) p)).set 1 (.val (bsl coinT) q)).set 5 (.val i64T (k : Int))) (fun (k : Nat) => Hp.none) (fun (k : Nat) => k ≤ p.length ∧ p.take k = q.take k) (fun (k : Nat) => p.length - k) (0) (⟨Nat.zero_le _, rfl⟩) ?_
  intro k hinv
  refine CQQR ?_; refine A0 mV ?_; refine A0 mV ?_; refine A0 (g_len rfl rfl isl_35) ?_; refine A0 o_lss ?_; refine CN ?_
  refine Cf (p := k < p.length) (fun ht14 => ?_) (fun ht14 => ?_)
  ·
   obtain ⟨c, hc⟩ : ∃ c, p[k]? = some c := ⟨_, List.getElem?_eq_getElem ht14⟩
   obtain ⟨d, hd⟩ : ∃ d, q[k]? = some d := ⟨_, List.getElem?_eq_getElem (by omega)⟩
   refine CS ?_; refine CQ ?_; refine CB ?_; refine CQ ?_; refine CD mixed ?_; refine G0 mV ?_; refine G0 mV ?_; refine G0 (g_ia_i (i := k) rfl rfl rfl (by omega) sl_35 (by assumption)) ?_; refine G0 (g_load_r rfl rfl ty_123) ?_; refine G0 mV ?_
   refine G0 mV ?_; refine G0 (g_ia_i (i := k) rfl rfl rfl (by omega) sl_35 (by assumption)) ?_; refine G0 (g_load_r rfl rfl ty_123) ?_; refine G0 (g_neqS rfl rfl rfl (eqt_123)) ?_; refine GK.nil ?_
   refine aw_ifc (p := ¬ c = d) rfl (by simp) (fun ht25 => ?_) (fun ht25 => ?_)
   ·
    refine CQR ?_; refine A0 aV ?_; refine CN ?_
    exact aw_ret1 rfl rfl (ret_eq rfl (decide_eq_false (fun e => ht25 (by rw [e, hd] at hc; injection hc with hc; exact hc.symm))).symm)
   ·
    refine CSIR ?_; refine A0 mV ?_; refine A0 o_add ?_; refine A0 aV ?_; refine CN ?_
    exact Nx (k + 1) (⟨by omega, same_step hinv.2 hc ((Classical.not_not.1 ht25) ▸ hd)⟩) (by omega)
  ·
   refine CE ?_; refine CQR ?_; refine A0 aV ?_; refine CN ?_
   exact aw_ret1 rfl rfl (ret_eq rfl (decide_eq_true (same_end hpq (by have h := hinv.2; rw [show k = p.length by omega] at h; exact h))).symm)
theorem rfind_ok (p : List Coin) (x : In) : Tells P 154 [.val (bsl coinT) p, .val inT x] (.val i64T (findC p x)) := by
 refine fn_of_aw Tryz.func154 rfl rfl rfl (fun ext w hext => ?_)
 refine aw_fact (d := 0) rfl fact_sl (fun hsl0 => ?_)
 refine CQR ?_; refine aw_box rfl rfl rfl rfl rfl ?_; refine A0 aV ?_; refine CNQQR ?_; refine A0 aV ?_; refine CNB ?_
 refine Lp (ι := Nat) 1 (fun (k : Nat) => (((Fr.none).set 0 (.val (bsl coinT) p)).set 3 (.ptr 0 0)).set 5 (.val i64T (k : Int))) (fun (k : Nat) => (Hp.none).set 0 (.box 119 inT x)) (fun (k : Nat) => k ≤ p.length ∧ findC p x = shift k (idx (fun c => decide (c.inn = x)) (p.drop k))) (fun (k : Nat) => p.length - k) (0) (⟨Nat.zero_le _, by unfold findC shift; rw [List.drop_zero]; have := findC_ge p x; unfold findC at this; split <;> omega⟩) ?_
 intro k hinv
 refine CQQR ?_; refine A0 mV ?_; refine A0 mV ?_; refine A0 (g_len rfl rfl isl_35) ?_; refine A0 o_lss ?_; refine CN ?_
 refine Cf (p := k < p.length) (fun ht9 => ?_) (fun ht9 => ?_)
 ·
  obtain ⟨c, hc⟩ : ∃ c, p[k]? = some c := ⟨_, List.getElem?_eq_getElem ht9⟩
  refine CS ?_; refine CQ ?_; refine CB ?_; refine CQ ?_; refine CD mixed ?_; refine G0 mV ?_; refine G0 mV ?_; refine G0 (g_ia_i (i := k) rfl rfl rfl (by omega) sl_35 (by assumption)) ?_; refine G0 (oFr fd_123_0 L_Coin_inn) ?_
  refine G0 (g_load_r rfl rfl ty_119) ?_; refine G0 (oLs rfl rfl rfl ty_119) ?_; refine G0 (g_eqlS rfl rfl rfl (eqt_119)) ?_; refine GK.nil ?_
  refine Cf (p := c.inn = x) (fun ht18 => ?_) (fun ht18 => ?_)
  ·
   refine CQR ?_; refine A0 mV ?_; refine A0 aV ?_; refine CN ?_
   exact aw_ret1 rfl rfl (ret_eq rfl (hinv.2.trans (idx_yes hc (by simpa using ht18))).symm)
  ·
   refine CSIR ?_; refine A0 mV ?_; refine A0 o_add ?_; refine A0 aV ?_; refine CN ?_
   exact Nx (k + 1) (⟨by omega, hinv.2.trans (idx_no hc (by simpa using ht18))⟩) (by omega)
 ·
  refine CE ?_; refine CQR ?_; refine A0 aV ?_; refine CN ?_
  exact aw_ret1 rfl rfl (ret_eq rfl (hinv.2.trans (idx_end (by omega))).symm)
theorem rthere_ok (p : List Coin) (id : Ab.Id) : Tells P 107 [.val (bsl coinT) p, .val idT id] (.val boolT (p.any fun c => decide (c.inn.tx = id))) := by
 refine fn_of_aw Tryz.func107 rfl rfl rfl (fun ext w hext => ?_)
 refine aw_fact (d := 0) rfl fact_sl (fun hsl0 => ?_)
 refine CQR ?_; refine aw_box rfl rfl rfl rfl rfl ?_; refine A0 aV ?_; refine CNQQR ?_; refine A0 aV ?_; refine CNB ?_
 refine Lp (ι := Nat) 1 (fun (k : Nat) => (((Fr.none).set 0 (.val (bsl coinT) p)).set 3 (.ptr 0 0)).set 5 (.val i64T (k : Int))) (fun (k : Nat) => (Hp.none).set 0 (.box 23 idT id)) (fun (k : Nat) => k ≤ p.length ∧ ((p.take k).any fun c => decide (c.inn.tx = id)) = false) (fun (k : Nat) => p.length - k) (0) (⟨Nat.zero_le _, rfl⟩) ?_
 intro k hinv
 refine CQQR ?_; refine A0 mV ?_; refine A0 mV ?_; refine A0 (g_len rfl rfl isl_35) ?_; refine A0 o_lss ?_; refine CN ?_
 refine Cf (p := k < p.length) (fun ht9 => ?_) (fun ht9 => ?_)
 ·
  obtain ⟨c, hc⟩ : ∃ c, p[k]? = some c := ⟨_, List.getElem?_eq_getElem ht9⟩
  refine CS ?_; refine CQ ?_; refine CB ?_; refine CQ ?_; refine CD mixed ?_; refine G0 mV ?_; refine G0 mV ?_; refine G0 (g_ia_i (i := k) rfl rfl rfl (by omega) sl_35 (by assumption)) ?_; refine G0 (oFr fd_123_0 L_Coin_inn) ?_
  refine G0 (oFr fd_119_0 L_In_tx) ?_; refine G0 (g_load_r rfl rfl ty_23) ?_; refine G0 (oLs rfl rfl rfl ty_23) ?_; refine G0 (g_eqlS rfl rfl rfl (eqt_23)) ?_; refine GK.nil ?_
  refine Cf (p := c.inn.tx = id) (fun ht19 => ?_) (fun ht19 => ?_)
  ·
   refine CQR ?_; refine A0 aV ?_; refine CN ?_
   exact aw_ret1 rfl rfl (ret_eq rfl (any_hit hc (by simpa using ht19)).symm)
  ·
   refine CSIR ?_; refine A0 mV ?_; refine A0 o_add ?_; refine A0 aV ?_; refine CN ?_
   exact Nx (k + 1) (⟨by omega, any_step hinv.2 hc (by simpa using ht19)⟩) (by omega)
 ·
  refine CE ?_; refine CQR ?_; refine A0 aV ?_; refine CN ?_
  exact aw_ret1 rfl rfl (ret_eq rfl (by have h := hinv.2; rw [List.take_of_length_le (by omega)] at h; exact h.symm))
theorem rworth_ok (t : Tx) : Tells P 109 [.val txT t] (.val i64T (worthF (·.v) t.outs)) := by
 refine fn_of_aw Tryz.func109 rfl rfl rfl (fun ext w hext => ?_)
 refine aw_fact (d := 0) rfl fact_txl (fun htl => ?_)
 refine CQR ?_; refine aw_box rfl rfl rfl rfl rfl ?_; refine A0 aV ?_; refine CNQR ?_; refine A0 aV ?_; refine CNQQR ?_; refine A0 aV ?_; refine CNB ?_
 refine Lp (ι := Nat) 1 (fun (k : Nat) => (((Fr.none).set 1 (.ptr 0 0)).set 3 (.val i64T (worthF (·.v) (t.outs.take k)))).set 4 (.val i64T (k : Int))) (fun (k : Nat) => (Hp.none).set 0 (.box 99 txT t)) (fun (k : Nat) => k ≤ t.outs.length) (fun (k : Nat) => t.outs.length - k) (0) (Nat.zero_le _) ?_
 intro k hinv
 refine CQQR ?_; refine A0 mV ?_; refine A0 (oFp fd_99_1) ?_; refine A0 (oLb L_Tx_outs ty_97) ?_; refine A0 (g_len rfl rfl isl_97) ?_; refine A0 o_lss ?_; refine CN ?_
 refine Cf (p := k < t.outs.length) (fun ht9 => ?_) (fun ht9 => ?_)
 ·
  obtain ⟨o, ho⟩ : ∃ o, t.outs[k]? = some o := ⟨_, List.getElem?_eq_getElem ht9⟩
  refine CS ?_; refine CQ ?_; refine CB ?_; refine CR ?_; refine A0 mV ?_; refine A0 (oFp fd_99_1) ?_; refine A0 (oLb L_Tx_outs ty_97) ?_; refine A0 mV ?_; refine A0 (g_ia_i (i := k) rfl rfl rfl (by omega) sl_97 (by assumption)) ?_
  refine A0 (oFr fd_121_0 L_Out_v) ?_; refine A0 (g_load_r rfl rfl ty_3) ?_; refine A0 o_add ?_; refine A0 aV ?_; refine CNIR ?_; refine A0 mV ?_; refine A0 o_add ?_; refine A0 aV ?_; refine CN ?_
  refine aw_reval (d := 3) rfl (worth_step ho).symm ?_
  exact Nx (k + 1) (by omega) (by omega)
 ·
  refine CE ?_; refine CQR ?_; refine A0 mV ?_; refine A0 aV ?_; refine CN ?_
  exact aw_ret1 rfl rfl (ret_eq rfl (by rw [List.take_of_length_le (by omega)]))
theorem rmayTx_ok (t : Tx) : Tells P 106 [.val txT t] (.val boolT (mayTx t)) := by
 refine fn_of_aw Tryz.func106 rfl rfl rfl (fun ext w hext => ?_)
 refine aw_fact (d := 0) rfl fact_txl (fun htl => ?_)
 refine CQR ?_; refine aw_box rfl rfl rfl rfl rfl ?_; refine A0 aV ?_; refine CNQQR ?_; refine A0 aV ?_; refine CNB ?_
 refine Lp (ι := Nat) 1 (fun (k : Nat) => ((Fr.none).set 1 (.ptr 0 0)).set 3 (.val i64T (k : Int))) (fun (k : Nat) => (Hp.none).set 0 (.box 99 txT t)) (fun (k : Nat) => k ≤ t.ins.length ∧ (List.range k).all (inAt t) = true) (fun (k : Nat) => t.ins.length - k) (0) (⟨Nat.zero_le _, rfl⟩) ?_
 intro k hinv
 refine CQQR ?_; refine A0 mV ?_; refine A0 (oFp fd_99_0) ?_; refine A0 (oLb L_Tx_ins ty_96) ?_; refine A0 (g_len rfl rfl isl_96) ?_; refine A0 o_lss ?_; refine CN ?_
 refine Cf (p := k < t.ins.length) (fun ht11 => ?_) (fun ht11 => ?_)
 ·
  obtain ⟨x, hx⟩ : ∃ x, t.ins[k]? = some x := ⟨_, List.getElem?_eq_getElem ht11⟩
  refine CS ?_; refine CQ ?_; refine CB ?_; refine CQQR ?_; refine A0 (oFp fd_99_0) ?_; refine A0 (oLb L_Tx_ins ty_96) ?_; refine A0 mV ?_; refine A0 (g_ia_i (i := k) rfl rfl rfl (by omega) sl_96 (by assumption)) ?_
  refine A0 (oFr fd_119_1 L_In_i) ?_; refine A0 (g_load_r rfl rfl ty_3) ?_; refine A0 o_lss ?_
  refine Sp (d := 20) (p := x.i < 0) (fun g20 => ?_) (fun g20 => ?_)
  ·
   refine A0 mV ?_; refine A2 ?_; refine A2 ?_; refine A2 ?_; refine A2 ?_; refine A2 ?_; refine A2 ?_; refine A2 ?_; refine A0 oK ?_; refine CN ?_; refine Ct ?_; refine CQR ?_; refine A0 aV ?_; refine CN ?_
   exact aw_ret1 rfl rfl (ret_eq rfl (by first | exact (inAt_bad hx ht11 (by omega)).symm | exact (inAt_twice hx ht11 (any_hit_take hy ht32 (by simp [ht45]))).symm | exact (odd_bad ho (by omega)).symm | (unfold mayTx; rw [hall, hodd]; simp [g79, g84, g90, IntL.toI]; try omega) | (unfold mayTx; rw [hall, hodd]; simp [g79, g84, IntL.toI]; try omega) | (unfold mayTx; rw [hall, hodd]; simp [g79, IntL.toI]; try omega)))
  ·
   refine A0 mV ?_; refine A1 (oFp fd_99_0) ?_; refine A1 (oLb L_Tx_ins ty_96) ?_; refine A1 mV ?_; refine A1 (g_ia_i (i := k) rfl rfl rfl (by omega) sl_96 (by assumption)) ?_; refine A1 (oFr fd_119_1 L_In_i) ?_
   refine A1 (g_load_r rfl rfl ty_3) ?_; refine A1 o_geq ?_
   refine Sp (d := 28) (p := 3 ≤ x.i) (fun g28 => ?_) (fun g28 => ?_)
   ·
    refine A0 oK ?_; refine CN ?_; refine Ct ?_; refine CQR ?_; refine A0 aV ?_; refine CN ?_
    exact aw_ret1 rfl rfl (ret_eq rfl (by first | exact (inAt_bad hx ht11 (by omega)).symm | exact (inAt_twice hx ht11 (any_hit_take hy ht32 (by simp [ht45]))).symm | exact (odd_bad ho (by omega)).symm | (unfold mayTx; rw [hall, hodd]; simp [g79, g84, g90, IntL.toI]; try omega) | (unfold mayTx; rw [hall, hodd]; simp [g79, g84, IntL.toI]; try omega) | (unfold mayTx; rw [hall, hodd]; simp [g79, IntL.toI]; try omega)))
   ·
    have hout := hinv.2
    have hkl := hinv.1
    refine A0 oK ?_; refine CN ?_; refine Cg ?_; refine CSQR ?_; refine A0 aV ?_; refine CNB ?_
    refine Lp (ι := Nat) 1 (fun (j : Nat) => (((Fr.none).set 1 (.ptr 0 0)).set 3 (.val i64T (k : Int))).set 4 (.val i64T (j : Int))) (fun (j : Nat) => (Hp.none).set 0 (.box 99 txT t)) (fun (j : Nat) => j ≤ k ∧ ((t.ins.take j).any fun c => decide (x = c)) = false) (fun (j : Nat) => k - j) (0) (⟨Nat.zero_le _, rfl⟩) ?_
    intro j hinv
    refine CQQR ?_; refine A0 mV ?_; refine A0 mV ?_; refine A0 o_lss ?_; refine CN ?_
    refine Cf (p := j < k) (fun ht32 => ?_) (fun ht32 => ?_)
    ·
     obtain ⟨y, hy⟩ : ∃ y, t.ins[j]? = some y := ⟨_, List.getElem?_eq_getElem (by omega)⟩
     refine CS ?_; refine CQ ?_; refine CB ?_; refine CQ ?_; refine CD mixed ?_; refine G0 (oFp fd_99_0) ?_; refine G0 (oLb L_Tx_ins ty_96) ?_; refine G0 mV ?_; refine G0 (g_ia_i (i := j) rfl rfl rfl (by omega) sl_96 (by assumption)) ?_
     refine G0 (g_load_r rfl rfl ty_119) ?_; refine G0 (oFp fd_99_0) ?_; refine G0 (oLb L_Tx_ins ty_96) ?_; refine G0 mV ?_; refine G0 (g_ia_i (i := k) rfl rfl rfl (by omega) sl_96 (by assumption)) ?_; refine G0 (g_load_r rfl rfl ty_119) ?_
     refine G0 (g_eqlS rfl rfl rfl (eqt_119)) ?_; refine GK.nil ?_
     refine Cf (p := y = x) (fun ht45 => ?_) (fun ht45 => ?_)
     ·
      refine CQR ?_; refine A0 aV ?_; refine CN ?_
      exact aw_ret1 rfl rfl (ret_eq rfl (by first | exact (inAt_bad hx ht11 (by omega)).symm | exact (inAt_twice hx ht11 (any_hit_take hy ht32 (by simp [ht45]))).symm | exact (odd_bad ho (by omega)).symm | (unfold mayTx; rw [hall, hodd]; simp [g79, g84, g90, IntL.toI]; try omega) | (unfold mayTx; rw [hall, hodd]; simp [g79, g84, IntL.toI]; try omega) | (unfold mayTx; rw [hall, hodd]; simp [g79, IntL.toI]; try omega)))
     ·
      refine CSIR ?_; refine A0 mV ?_; refine A0 o_add ?_; refine A0 aV ?_; refine CN ?_
      exact Nx (j + 1) (⟨by omega, any_step hinv.2 hy (by simpa using fun e => ht45 e.symm)⟩) (by omega)
    ·
     obtain rfl : k = j := (by omega)
     refine CE ?_; refine CI ?_; refine CR ?_; refine A0 mV ?_; refine A0 o_add ?_; refine A0 aV ?_; refine CN ?_
     exact Nx (k + 1) (⟨by omega, all_range_succ hout (inAt_good hx (by omega) (by rw [hinv.2]; simp))⟩) (by omega)
 ·
  have hall : (List.range t.ins.length).all (inAt t) = true := by have h := hinv.2; rw [show k = t.ins.length by omega] at h; exact h
  refine CE ?_; refine CQQR ?_; refine A0 aV ?_; refine CNB ?_
  refine Lp (ι := Nat) 1 (fun (k : Nat) => ((Fr.none).set 1 (.ptr 0 0)).set 5 (.val i64T (k : Int))) (fun (k : Nat) => (Hp.none).set 0 (.box 99 txT t)) (fun (k : Nat) => k ≤ t.outs.length ∧ (t.outs.take k).any outOdd = false) (fun (k : Nat) => t.outs.length - k) (0) (⟨Nat.zero_le _, rfl⟩) ?_
  intro k hinv
  refine CQQR ?_; refine A0 mV ?_; refine A0 (oFp fd_99_1) ?_; refine A0 (oLb L_Tx_outs ty_97) ?_; refine A0 (g_len rfl rfl isl_97) ?_; refine A0 o_lss ?_; refine CN ?_
  refine Cf (p := k < t.outs.length) (fun ht50 => ?_) (fun ht50 => ?_)
  ·
   obtain ⟨o, ho⟩ : ∃ o, t.outs[k]? = some o := ⟨_, List.getElem?_eq_getElem ht50⟩
   refine CSQBQR ?_; refine A0 (oFp fd_99_1) ?_; refine A0 (oLb L_Tx_outs ty_97) ?_; refine A0 mV ?_; refine A0 (g_ia_i (i := k) rfl rfl rfl (by omega) sl_97 (by assumption)) ?_; refine A0 (g_load_r rfl rfl ty_121) ?_
   refine aw_alloc ze_121 rfl rfl rfl rfl ?_; refine aw_store_b rfl rfl rfl rfl rfl (Lens.self _) ty_121 rfl ?_; refine CNQR ?_; refine A0 (oFp fd_121_0) ?_; refine A0 (oLb L_Out_v ty_3) ?_; refine A0 o_lss ?_
   refine Sp (d := 60) (p := o.v < 1) (fun g60 => ?_) (fun g60 => ?_)
   ·
    refine A0 mV ?_; refine A2 ?_; refine A2 ?_; refine A2 ?_; refine A0 oK ?_; refine A0 mV ?_; refine A2 ?_; refine A2 ?_; refine A2 ?_; refine A0 oK ?_; refine A0 mV ?_; refine A2 ?_; refine A2 ?_; refine A2 ?_; refine A0 oK ?_; refine CN ?_
    refine Ct ?_; refine CQR ?_; refine A0 aV ?_; refine CN ?_
    exact aw_ret1 rfl rfl (ret_eq rfl (by first | exact (inAt_bad hx ht11 (by omega)).symm | exact (inAt_twice hx ht11 (any_hit_take hy ht32 (by simp [ht45]))).symm | exact (odd_bad ho (by omega)).symm | (unfold mayTx; rw [hall, hodd]; simp [g79, g84, g90, IntL.toI]; try omega) | (unfold mayTx; rw [hall, hodd]; simp [g79, g84, IntL.toI]; try omega) | (unfold mayTx; rw [hall, hodd]; simp [g79, IntL.toI]; try omega)))
   ·
    refine A0 mV ?_; refine A1 (oFp fd_121_0) ?_; refine A1 (oLb L_Out_v ty_3) ?_; refine A1 o_gtr ?_
    refine Sp (d := 64) (p := 1099511627776 < o.v) (fun g64 => ?_) (fun g64 => ?_)
    ·
     refine A0 oK ?_; refine A0 mV ?_; refine A2 ?_; refine A2 ?_; refine A2 ?_; refine A0 oK ?_; refine A0 mV ?_; refine A2 ?_; refine A2 ?_; refine A2 ?_; refine A0 oK ?_; refine CN ?_; refine Ct ?_; refine CQR ?_; refine A0 aV ?_; refine CN ?_
     exact aw_ret1 rfl rfl (ret_eq rfl (by first | exact (inAt_bad hx ht11 (by omega)).symm | exact (inAt_twice hx ht11 (any_hit_take hy ht32 (by simp [ht45]))).symm | exact (odd_bad ho (by omega)).symm | (unfold mayTx; rw [hall, hodd]; simp [g79, g84, g90, IntL.toI]; try omega) | (unfold mayTx; rw [hall, hodd]; simp [g79, g84, IntL.toI]; try omega) | (unfold mayTx; rw [hall, hodd]; simp [g79, IntL.toI]; try omega)))
    ·
     refine A0 oK ?_; refine A0 mV ?_; refine A1 (oFp fd_121_1) ?_; refine A1 (oLb L_Out_to ty_3) ?_; refine A1 o_lss ?_
     refine Sp (d := 69) (p := o.to < 0) (fun g69 => ?_) (fun g69 => ?_)
     ·
      refine A0 oK ?_; refine A0 mV ?_; refine A2 ?_; refine A2 ?_; refine A2 ?_; refine A0 oK ?_; refine CN ?_; refine Ct ?_; refine CQR ?_; refine A0 aV ?_; refine CN ?_
      exact aw_ret1 rfl rfl (ret_eq rfl (by first | exact (inAt_bad hx ht11 (by omega)).symm | exact (inAt_twice hx ht11 (any_hit_take hy ht32 (by simp [ht45]))).symm | exact (odd_bad ho (by omega)).symm | (unfold mayTx; rw [hall, hodd]; simp [g79, g84, g90, IntL.toI]; try omega) | (unfold mayTx; rw [hall, hodd]; simp [g79, g84, IntL.toI]; try omega) | (unfold mayTx; rw [hall, hodd]; simp [g79, IntL.toI]; try omega)))
     ·
      refine A0 oK ?_; refine A0 mV ?_; refine A1 (oFp fd_121_1) ?_; refine A1 (oLb L_Out_to ty_3) ?_; refine A1 o_gtr ?_
      refine Sp (d := 74) (p := 255 < o.to) (fun g74 => ?_) (fun g74 => ?_)
      ·
       refine A0 oK ?_; refine CN ?_; refine Ct ?_; refine CQR ?_; refine A0 aV ?_; refine CN ?_
       exact aw_ret1 rfl rfl (ret_eq rfl (by first | exact (inAt_bad hx ht11 (by omega)).symm | exact (inAt_twice hx ht11 (any_hit_take hy ht32 (by simp [ht45]))).symm | exact (odd_bad ho (by omega)).symm | (unfold mayTx; rw [hall, hodd]; simp [g79, g84, g90, IntL.toI]; try omega) | (unfold mayTx; rw [hall, hodd]; simp [g79, g84, IntL.toI]; try omega) | (unfold mayTx; rw [hall, hodd]; simp [g79, IntL.toI]; try omega)))
      ·
       refine A0 oK ?_; refine CN ?_; refine Cg ?_; refine CSIR ?_; refine A0 mV ?_; refine A0 o_add ?_; refine A0 aV ?_; refine CN ?_
       exact Nx (k + 1) (⟨by omega, any_step hinv.2 ho (by unfold outOdd; apply decide_eq_false; omega)⟩) (by omega)
  ·
   have hodd : t.outs.any outOdd = false := by have h := hinv.2; rw [List.take_of_length_le (by omega)] at h; exact h
   refine CE ?_; refine CQR ?_; refine A0 (oFp fd_99_0) ?_; refine A0 (oLb L_Tx_ins ty_96) ?_; refine A0 (g_len rfl rfl isl_96) ?_; refine A0 o_leq ?_
   refine Sp (d := 79) (p := t.ins.length ≤ 3) (fun g79 => ?_) (fun g79 => ?_)
   ·
    refine A0 mV ?_; refine A1 (oFp fd_99_1) ?_; refine A1 (oLb L_Tx_outs ty_97) ?_; refine A1 (g_len rfl rfl isl_97) ?_; refine A1 o_geq ?_
    refine Sp (d := 84) (p := 1 ≤ t.outs.length) (fun g84 => ?_) (fun g84 => ?_)
    ·
     refine A0 oK ?_; refine A0 mV ?_; refine A1 (oFp fd_99_1) ?_; refine A1 (oLb L_Tx_outs ty_97) ?_; refine A1 (g_len rfl rfl isl_97) ?_; refine A1 o_leq ?_
     refine Sp (d := 90) (p := t.outs.length ≤ 3) (fun g90 => ?_) (fun g90 => ?_)
     ·
      refine A0 oK ?_; refine A0 aV ?_; refine CN ?_
      exact aw_ret1 rfl rfl (ret_eq rfl (by first | exact (inAt_bad hx ht11 (by omega)).symm | exact (inAt_twice hx ht11 (any_hit_take hy ht32 (by simp [ht45]))).symm | exact (odd_bad ho (by omega)).symm | (unfold mayTx; rw [hall, hodd]; simp [g79, g84, g90, IntL.toI]; try omega) | (unfold mayTx; rw [hall, hodd]; simp [g79, g84, IntL.toI]; try omega) | (unfold mayTx; rw [hall, hodd]; simp [g79, IntL.toI]; try omega)))
     ·
      refine A0 oK ?_; refine A0 aV ?_; refine CN ?_
      exact aw_ret1 rfl rfl (ret_eq rfl (by first | exact (inAt_bad hx ht11 (by omega)).symm | exact (inAt_twice hx ht11 (any_hit_take hy ht32 (by simp [ht45]))).symm | exact (odd_bad ho (by omega)).symm | (unfold mayTx; rw [hall, hodd]; simp [g79, g84, g90, IntL.toI]; try omega) | (unfold mayTx; rw [hall, hodd]; simp [g79, g84, IntL.toI]; try omega) | (unfold mayTx; rw [hall, hodd]; simp [g79, IntL.toI]; try omega)))
    ·
     refine A0 oK ?_; refine A0 mV ?_; refine A2 ?_; refine A2 ?_; refine A2 ?_; refine A2 ?_; refine A0 oK ?_; refine A0 aV ?_; refine CN ?_
     exact aw_ret1 rfl rfl (ret_eq rfl (by first | exact (inAt_bad hx ht11 (by omega)).symm | exact (inAt_twice hx ht11 (any_hit_take hy ht32 (by simp [ht45]))).symm | exact (odd_bad ho (by omega)).symm | (unfold mayTx; rw [hall, hodd]; simp [g79, g84, g90, IntL.toI]; try omega) | (unfold mayTx; rw [hall, hodd]; simp [g79, g84, IntL.toI]; try omega) | (unfold mayTx; rw [hall, hodd]; simp [g79, IntL.toI]; try omega)))
   ·
    refine A0 mV ?_; refine A2 ?_; refine A2 ?_; refine A2 ?_; refine A2 ?_; refine A0 oK ?_; refine A0 mV ?_; refine A2 ?_; refine A2 ?_; refine A2 ?_; refine A2 ?_; refine A0 oK ?_; refine A0 aV ?_; refine CN ?_
    exact aw_ret1 rfl rfl (ret_eq rfl (by first | exact (inAt_bad hx ht11 (by omega)).symm | exact (inAt_twice hx ht11 (any_hit_take hy ht32 (by simp [ht45]))).symm | exact (odd_bad ho (by omega)).symm | (unfold mayTx; rw [hall, hodd]; simp [g79, g84, g90, IntL.toI]; try omega) | (unfold mayTx; rw [hall, hodd]; simp [g79, g84, IntL.toI]; try omega) | (unfold mayTx; rw [hall, hodd]; simp [g79, IntL.toI]; try omega)))
end Go.Proofs.YtgoiacajjicjcaaGreat
set_option maxRecDepth 20000
namespace Go.Proofs.YtgoiacajjicjcaaGreat
set_option linter.unusedVariables false
set_option linter.unusedSimpArgs false
open Go.Ab Go.RowKit
theorem refIds_ok (l m : List Ab.Id) : Tells P 59 [.val (bsl idT) l, .val (bsl idT) m] (.val boolT (decide (l = m))) := by
 refine fn_of_aw Tryz.func59 rfl rfl rfl (fun ext w hext => ?_)
 refine aw_fact (d := 0) rfl fact_sl (fun hsl0 => ?_)
 refine aw_fact (d := 1) rfl fact_sl (fun hsl1 => ?_)
 refine CQR ?_; refine A0 aV ?_; refine CNQQR ?_; refine A0 mV ?_; refine A0 (g_len rfl rfl isl_30) ?_; refine A0 mV ?_; refine A0 (g_len rfl rfl isl_30) ?_; refine A0 o_neq ?_; refine CN ?_
 refine aw_ifc (p := ¬ l.length = m.length) rfl (by simp [IntL.toI]; omega) (fun ht10 => ?_) (fun ht10 => ?_)
 ·
  refine CQR ?_; refine A0 aV ?_; refine CN ?_
  exact aw_ret1 rfl rfl (ret_eq rfl (decide_eq_false (fun e => ht10 (by rw [e]))).symm)
 ·
  refine CSQQR ?_; refine A0 aV ?_; refine CNB ?_
  refine Lp (ι := Nat) 0 (fun (k : Nat) => (((Fr.none).set 0 (.val (bsl idT) l)).set 1 (.val (bsl idT) m)).set 5 (.val i64T (k : Int))) (fun (k : Nat) => Hp.none) (fun (k : Nat) => k ≤ l.length ∧ l.take k = m.take k) (fun (k : Nat) => l.length - k) (0) (⟨Nat.zero_le _, rfl⟩) ?_
  intro k hinv
  refine CQQR ?_; refine A0 mV ?_; refine A0 mV ?_; refine A0 (g_len rfl rfl isl_30) ?_; refine A0 o_lss ?_; refine CN ?_
  refine Cf (p := k < l.length) (fun ht14 => ?_) (fun ht14 => ?_)
  ·
   obtain ⟨x, hx⟩ : ∃ x, l[k]? = some x := ⟨_, List.getElem?_eq_getElem ht14⟩
   obtain ⟨y, hy⟩ : ∃ y, m[k]? = some y := ⟨_, List.getElem?_eq_getElem (by omega)⟩
   refine CS ?_; refine CQ ?_; refine CB ?_; refine CQ ?_; refine CD mixed ?_; refine G0 mV ?_; refine G0 mV ?_; refine G0 (g_ia_i (i := k) rfl rfl rfl (by omega) sl_30 (by assumption)) ?_; refine G0 (g_load_r rfl rfl ty_23) ?_; refine G0 mV ?_
   refine G0 mV ?_; refine G0 (g_ia_i (i := k) rfl rfl rfl (by omega) sl_30 (by assumption)) ?_; refine G0 (g_load_r rfl rfl ty_23) ?_; refine G0 (g_neqS rfl rfl rfl (eqt_23)) ?_; refine GK.nil ?_
   refine aw_ifc (p := ¬ x = y) rfl (by simp) (fun ht25 => ?_) (fun ht25 => ?_)
   ·
    refine CQR ?_; refine A0 aV ?_; refine CN ?_
    exact aw_ret1 rfl rfl (ret_eq rfl (decide_eq_false (ne_of_at hx hy ht25)).symm)
   ·
    refine CSIR ?_; refine A0 mV ?_; refine A0 o_add ?_; refine A0 aV ?_; refine CN ?_
    exact Nx (k + 1) (⟨by omega, beq_all_succ hx hy hinv.2 (Classical.not_not.1 ht25)⟩) (by omega)
  ·
   refine CE ?_; refine CQR ?_; refine A0 aV ?_; refine CN ?_
   exact aw_ret1 rfl rfl (ret_eq rfl (decide_eq_true (by have h := hinv.2; rw [List.take_of_length_le (by omega), List.take_of_length_le (by omega)] at h; exact h)).symm)
theorem refTotals_ok (l m : List Total) : Tells P 61 [.val (bsl totalT) l, .val (bsl totalT) m] (.val boolT (decide (l = m))) := by
 refine fn_of_aw Tryz.func61 rfl rfl rfl (fun ext w hext => ?_)
 refine aw_fact (d := 0) rfl fact_sl (fun hsl0 => ?_)
 refine aw_fact (d := 1) rfl fact_sl (fun hsl1 => ?_)
 refine CQR ?_; refine A0 aV ?_; refine CNQQR ?_; refine A0 mV ?_; refine A0 (g_len rfl rfl isl_34) ?_; refine A0 mV ?_; refine A0 (g_len rfl rfl isl_34) ?_; refine A0 o_neq ?_; refine CN ?_
 refine aw_ifc (p := ¬ l.length = m.length) rfl (by simp [IntL.toI]; omega) (fun ht10 => ?_) (fun ht10 => ?_)
 ·
  refine CQR ?_; refine A0 aV ?_; refine CN ?_
  exact aw_ret1 rfl rfl (ret_eq rfl (decide_eq_false (fun e => ht10 (by rw [e]))).symm)
 ·
  refine CSQQR ?_; refine A0 aV ?_; refine CNB ?_
  refine Lp (ι := Nat) 0 (fun (k : Nat) => (((Fr.none).set 0 (.val (bsl totalT) l)).set 1 (.val (bsl totalT) m)).set 5 (.val i64T (k : Int))) (fun (k : Nat) => Hp.none) (fun (k : Nat) => k ≤ l.length ∧ l.take k = m.take k) (fun (k : Nat) => l.length - k) (0) (⟨Nat.zero_le _, rfl⟩) ?_
  intro k hinv
  refine CQQR ?_; refine A0 mV ?_; refine A0 mV ?_; refine A0 (g_len rfl rfl isl_34) ?_; refine A0 o_lss ?_; refine CN ?_
  refine Cf (p := k < l.length) (fun ht14 => ?_) (fun ht14 => ?_)
  ·
   obtain ⟨x, hx⟩ : ∃ x, l[k]? = some x := ⟨_, List.getElem?_eq_getElem ht14⟩
   obtain ⟨y, hy⟩ : ∃ y, m[k]? = some y := ⟨_, List.getElem?_eq_getElem (by omega)⟩
   refine CS ?_; refine CQ ?_; refine CB ?_; refine CQ ?_; refine CD mixed ?_; refine G0 mV ?_; refine G0 mV ?_; refine G0 (g_ia_i (i := k) rfl rfl rfl (by omega) sl_34 (by assumption)) ?_; refine G0 (g_load_r rfl rfl ty_54) ?_; refine G0 mV ?_
   refine G0 mV ?_; refine G0 (g_ia_i (i := k) rfl rfl rfl (by omega) sl_34 (by assumption)) ?_; refine G0 (g_load_r rfl rfl ty_54) ?_; refine G0 (g_neqS rfl rfl rfl (eqt_54)) ?_; refine GK.nil ?_
   refine aw_ifc (p := ¬ x = y) rfl (by simp) (fun ht25 => ?_) (fun ht25 => ?_)
   ·
    refine CQR ?_; refine A0 aV ?_; refine CN ?_
    exact aw_ret1 rfl rfl (ret_eq rfl (decide_eq_false (ne_of_at hx hy ht25)).symm)
   ·
    refine CSIR ?_; refine A0 mV ?_; refine A0 o_add ?_; refine A0 aV ?_; refine CN ?_
    exact Nx (k + 1) (⟨by omega, beq_all_succ hx hy hinv.2 (Classical.not_not.1 ht25)⟩) (by omega)
  ·
   refine CE ?_; refine CQR ?_; refine A0 aV ?_; refine CN ?_
   exact aw_ret1 rfl rfl (ret_eq rfl (decide_eq_true (by have h := hinv.2; rw [List.take_of_length_le (by omega), List.take_of_length_le (by omega)] at h; exact h)).symm)
theorem refTx_ok (a b : Tx) : Tells P 116 [.val txT a, .val txT b] (.val boolT (decide (a = b))) := by
 refine fn_of_aw Tryz.func116 rfl rfl rfl (fun ext w hext => ?_)
 refine aw_fact (d := 0) rfl fact_txl (fun htl => ?_)
 refine CQR ?_; refine aw_box rfl rfl rfl rfl rfl ?_; refine aw_box rfl rfl rfl rfl rfl ?_; refine A0 aV ?_; refine CNQQR ?_; refine A0 (oFp fd_99_0) ?_; refine A0 (oLb L_Tx_ins ty_96) ?_; refine A0 (g_len rfl rfl isl_96) ?_
 refine A0 (oFp fd_99_0) ?_; refine A0 (oLb L_Tx_ins ty_96) ?_; refine A0 (g_len rfl rfl isl_96) ?_; refine A0 o_neq ?_
 refine aw_splitp (d := 13) (p := ¬ a.ins.length = b.ins.length) rfl (by simp [IntL.toI]; omega) (fun g13 => ?_) (fun g13 => ?_)
 ·
  refine A0 mV ?_; refine A2 ?_; refine A2 ?_; refine A2 ?_; refine A2 ?_; refine A2 ?_; refine A2 ?_; refine A2 ?_; refine A0 oK ?_; refine CN ?_; refine Ct ?_; refine CQR ?_; refine A0 aV ?_; refine CN ?_
  exact aw_ret1 rfl rfl (ret_eq rfl (decide_eq_false (fun e => g13 (by rw [e]))).symm)
 ·
  refine A0 mV ?_; refine A1 (oFp fd_99_1) ?_; refine A1 (oLb L_Tx_outs ty_97) ?_; refine A1 (g_len rfl rfl isl_97) ?_; refine A1 (oFp fd_99_1) ?_; refine A1 (oLb L_Tx_outs ty_97) ?_; refine A1 (g_len rfl rfl isl_97) ?_; refine A1 o_neq ?_
  refine A0 oK ?_; refine CN ?_
  refine aw_ifc (p := ¬ a.outs.length = b.outs.length) rfl (by simp [IntL.toI]; omega) (fun ht22 => ?_) (fun ht22 => ?_)
  ·
   refine CQR ?_; refine A0 aV ?_; refine CN ?_
   exact aw_ret1 rfl rfl (ret_eq rfl (decide_eq_false (fun e => ht22 (by rw [e]))).symm)
  ·
   refine CSQQR ?_; refine A0 aV ?_; refine CNB ?_
   refine Lp (ι := Nat) 2 (fun (k : Nat) => (((Fr.none).set 2 (.ptr 0 0)).set 3 (.ptr 1 0)).set 5 (.val i64T (k : Int))) (fun (k : Nat) => ((Hp.none).set 0 (.box 99 txT a)).set 1 (.box 99 txT b)) (fun (k : Nat) => k ≤ a.ins.length ∧ a.ins.take k = b.ins.take k) (fun (k : Nat) => a.ins.length - k) (0) (⟨Nat.zero_le _, rfl⟩) ?_
   intro k hinv
   refine CQQR ?_; refine A0 mV ?_; refine A0 (oFp fd_99_0) ?_; refine A0 (oLb L_Tx_ins ty_96) ?_; refine A0 (g_len rfl rfl isl_96) ?_; refine A0 o_lss ?_; refine CN ?_
   refine Cf (p := k < a.ins.length) (fun ht27 => ?_) (fun ht27 => ?_)
   ·
    obtain ⟨x, hx⟩ : ∃ x, a.ins[k]? = some x := ⟨_, List.getElem?_eq_getElem ht27⟩
    obtain ⟨y, hy⟩ : ∃ y, b.ins[k]? = some y := ⟨_, List.getElem?_eq_getElem (by omega)⟩
    refine CS ?_; refine CQ ?_; refine CB ?_; refine CQ ?_; refine CD mixed ?_; refine G0 (oFp fd_99_0) ?_; refine G0 (oLb L_Tx_ins ty_96) ?_; refine G0 mV ?_; refine G0 (g_ia_i (i := k) rfl rfl rfl (by omega) sl_96 (by assumption)) ?_
    refine G0 (g_load_r rfl rfl ty_119) ?_; refine G0 (oFp fd_99_0) ?_; refine G0 (oLb L_Tx_ins ty_96) ?_; refine G0 mV ?_; refine G0 (g_ia_i (i := k) rfl rfl rfl (by omega) sl_96 (by assumption)) ?_; refine G0 (g_load_r rfl rfl ty_119) ?_
    refine G0 (g_neqS rfl rfl rfl (eqt_119)) ?_; refine GK.nil ?_
    refine aw_ifc (p := ¬ x = y) rfl (by simp) (fun ht40 => ?_) (fun ht40 => ?_)
    ·
     refine CQR ?_; refine A0 aV ?_; refine CN ?_
     exact aw_ret1 rfl rfl (ret_eq rfl (decide_eq_false (fun e => ne_of_at hx hy ht40 (by rw [e]))).symm)
    ·
     refine CSIR ?_; refine A0 mV ?_; refine A0 o_add ?_; refine A0 aV ?_; refine CN ?_
     exact Nx (k + 1) (⟨by omega, beq_all_succ hx hy hinv.2 (Classical.not_not.1 ht40)⟩) (by omega)
   ·
    have hins : a.ins = b.ins := by have h := hinv.2; rw [List.take_of_length_le (by omega), List.take_of_length_le (by omega)] at h; exact h
    refine CE ?_; refine CQQR ?_; refine A0 aV ?_; refine CNB ?_
    refine Lp (ι := Nat) 2 (fun (k : Nat) => (((Fr.none).set 2 (.ptr 0 0)).set 3 (.ptr 1 0)).set 6 (.val i64T (k : Int))) (fun (k : Nat) => ((Hp.none).set 0 (.box 99 txT a)).set 1 (.box 99 txT b)) (fun (k : Nat) => k ≤ a.outs.length ∧ a.outs.take k = b.outs.take k) (fun (k : Nat) => a.outs.length - k) (0) (⟨Nat.zero_le _, rfl⟩) ?_
    intro k hinv
    refine CQQR ?_; refine A0 mV ?_; refine A0 (oFp fd_99_1) ?_; refine A0 (oLb L_Tx_outs ty_97) ?_; refine A0 (g_len rfl rfl isl_97) ?_; refine A0 o_lss ?_; refine CN ?_
    refine Cf (p := k < a.outs.length) (fun ht45 => ?_) (fun ht45 => ?_)
    ·
     obtain ⟨x, hx⟩ : ∃ x, a.outs[k]? = some x := ⟨_, List.getElem?_eq_getElem ht45⟩
     obtain ⟨y, hy⟩ : ∃ y, b.outs[k]? = some y := ⟨_, List.getElem?_eq_getElem (by omega)⟩
     refine CS ?_; refine CQ ?_; refine CB ?_; refine CQ ?_; refine CD mixed ?_; refine G0 (oFp fd_99_1) ?_; refine G0 (oLb L_Tx_outs ty_97) ?_; refine G0 mV ?_; refine G0 (g_ia_i (i := k) rfl rfl rfl (by omega) sl_97 (by assumption)) ?_
     refine G0 (g_load_r rfl rfl ty_121) ?_; refine G0 (oFp fd_99_1) ?_; refine G0 (oLb L_Tx_outs ty_97) ?_; refine G0 mV ?_; refine G0 (g_ia_i (i := k) rfl rfl rfl (by omega) sl_97 (by assumption)) ?_; refine G0 (g_load_r rfl rfl ty_121) ?_
     refine G0 (g_neqS rfl rfl rfl (eqt_121)) ?_; refine GK.nil ?_
     refine aw_ifc (p := ¬ x = y) rfl (by simp) (fun ht58 => ?_) (fun ht58 => ?_)
     ·
      refine CQR ?_; refine A0 aV ?_; refine CN ?_
      exact aw_ret1 rfl rfl (ret_eq rfl (decide_eq_false (fun e => ne_of_at hx hy ht58 (by rw [e]))).symm)
     ·
      refine CSIR ?_; refine A0 mV ?_; refine A0 o_add ?_; refine A0 aV ?_; refine CN ?_
      exact Nx (k + 1) (⟨by omega, beq_all_succ hx hy hinv.2 (Classical.not_not.1 ht58)⟩) (by omega)
    ·
     refine CE ?_; refine CQR ?_; refine A0 aV ?_; refine CN ?_
     exact aw_ret1 rfl rfl (ret_eq rfl (decide_eq_true (by have h := hinv.2; rw [List.take_of_length_le (by omega), List.take_of_length_le (by omega)] at h; cases a; cases b; simp_all)).symm)
theorem refTxs_ok (l m : List Tx) : Tells P 63 [.val (bsl txT) l, .val (bsl txT) m] (.val boolT (decide (l = m))) := by
 refine fn_of_aw Tryz.func63 rfl rfl rfl (fun ext w hext => ?_)
 refine aw_fact (d := 0) rfl fact_sl (fun hsl0 => ?_)
 refine aw_fact (d := 1) rfl fact_sl (fun hsl1 => ?_)
 refine CQR ?_; refine A0 aV ?_; refine CNQQR ?_; refine A0 mV ?_; refine A0 (g_len rfl rfl isl_31) ?_; refine A0 mV ?_; refine A0 (g_len rfl rfl isl_31) ?_; refine A0 o_neq ?_; refine CN ?_
 refine aw_ifc (p := ¬ l.length = m.length) rfl (by simp [IntL.toI]; omega) (fun ht11 => ?_) (fun ht11 => ?_)
 ·
  refine CQR ?_; refine A0 aV ?_; refine CN ?_
  exact aw_ret1 rfl rfl (ret_eq rfl (decide_eq_false (fun e => ht11 (by rw [e]))).symm)
 ·
  refine CSQQR ?_; refine A0 aV ?_; refine CNB ?_
  refine Lp (ι := Nat) 0 (fun (k : Nat) => (((Fr.none).set 0 (.val (bsl txT) l)).set 1 (.val (bsl txT) m)).set 5 (.val i64T (k : Int))) (fun (k : Nat) => Hp.none) (fun (k : Nat) => k ≤ l.length ∧ l.take k = m.take k) (fun (k : Nat) => l.length - k) (0) (⟨Nat.zero_le _, rfl⟩) ?_
  intro k hinv
  refine CQQR ?_; refine A0 mV ?_; refine A0 mV ?_; refine A0 (g_len rfl rfl isl_31) ?_; refine A0 o_lss ?_; refine CN ?_
  refine Cf (p := k < l.length) (fun ht15 => ?_) (fun ht15 => ?_)
  ·
   obtain ⟨x, hx⟩ : ∃ x, l[k]? = some x := ⟨_, List.getElem?_eq_getElem ht15⟩
   obtain ⟨y, hy⟩ : ∃ y, m[k]? = some y := ⟨_, List.getElem?_eq_getElem (by omega)⟩
   refine CS ?_; refine CQ ?_; refine CB ?_; refine CQ ?_; refine CD mixed ?_; refine G0 mV ?_; refine G0 mV ?_; refine G0 (g_ia_i (i := k) rfl rfl rfl (by omega) sl_31 (by assumption)) ?_; refine G0 (g_load_r rfl rfl ty_99) ?_; refine G0 mV ?_
   refine G0 mV ?_; refine G0 (g_ia_i (i := k) rfl rfl rfl (by omega) sl_31 (by assumption)) ?_; refine G0 (g_load_r rfl rfl ty_99) ?_
   refine G0 (oCl (refTx_ok _ _) rfl fn_116 ⟨(by first | exact arg_same rfl | exact arg_bsl rfl | exact arg_own rfl rfl | exact arg_nil rfl | exact arg_rptr rfl | exact arg_fn rfl rfl | exact arg_lit rfl), (by first | exact arg_same rfl | exact arg_bsl rfl | exact arg_own rfl rfl | exact arg_nil rfl | exact arg_rptr rfl | exact arg_fn rfl rfl | exact arg_lit rfl), trivial⟩) ?_
   refine G0 aV ?_; refine GK.nil ?_; refine CQR ?_; refine A0 mV ?_; refine A0 oN ?_; refine CN ?_
   refine aw_ifc (p := ¬ x = y) rfl (by simp) (fun ht28 => ?_) (fun ht28 => ?_)
   ·
    refine CQR ?_; refine A0 aV ?_; refine CN ?_
    exact aw_ret1 rfl rfl (ret_eq rfl (decide_eq_false (ne_of_at hx hy ht28)).symm)
   ·
    refine CSIR ?_; refine A0 mV ?_; refine A0 o_add ?_; refine A0 aV ?_; refine CN ?_
    exact Nx (k + 1) (⟨by omega, beq_all_succ hx hy hinv.2 (Classical.not_not.1 ht28)⟩) (by omega)
  ·
   refine CE ?_; refine CQR ?_; refine A0 aV ?_; refine CN ?_
   exact aw_ret1 rfl rfl (ret_eq rfl (decide_eq_true (by have h := hinv.2; rw [List.take_of_length_le (by omega), List.take_of_length_le (by omega)] at h; exact h)).symm)
theorem refB_ok (a b : Block) : Tells P 20 [.val blockT a, .val blockT b] (.val boolT (decide (a = b))) := by
 refine fn_of_aw Tryz.func20 rfl rfl rfl (fun ext w hext => ?_)
 refine CQR ?_; refine aw_box rfl rfl rfl rfl rfl ?_; refine aw_box rfl rfl rfl rfl rfl ?_; refine A0 aV ?_; refine CNQR ?_; refine A0 (oFp fd_33_1) ?_; refine A0 (oLb L_Block_l ty_30) ?_; refine A0 (oFp fd_33_1) ?_
 refine A0 (oLb L_Block_l ty_30) ?_; refine A0 (oCl (refIds_ok _ _) rfl fn_59 ⟨(arg_v rfl), (arg_v rfl), trivial⟩) ?_; refine A0 aV ?_; refine CNQR ?_; refine A0 (oFp fd_33_2) ?_; refine A0 (oLb L_Block_t ty_31) ?_; refine A0 (oFp fd_33_2) ?_
 refine A0 (oLb L_Block_t ty_31) ?_; refine A0 (oCl (refTxs_ok _ _) rfl fn_63 ⟨(arg_v rfl), (arg_v rfl), trivial⟩) ?_; refine A0 aV ?_; refine CNQR ?_; refine A0 mV ?_
 refine Sp (d := 17) (p := a.l = b.l) (fun g17 => ?_) (fun g17 => ?_)
 ·
  refine A0 mV ?_; refine A1 mV ?_; refine A0 oK ?_
  refine Sp (d := 20) (p := a.t = b.t) (fun g20 => ?_) (fun g20 => ?_)
  ·
   refine A0 mV ?_; refine A1 (oFp fd_33_0) ?_; refine A1 (oLb L_Block_h ty_29) ?_; refine A1 (oFp fd_33_0) ?_; refine A1 (oLb L_Block_h ty_29) ?_; refine A1 (g_eqlS rfl rfl rfl (eqt_29)) ?_; refine A0 oK ?_; refine A0 aV ?_; refine CN ?_
   exact aw_ret1 rfl rfl (ret_eq rfl (by rw [decide_eq_decide]; exact ⟨fun h => by cases a; cases b; simp_all, fun h => by rw [h]⟩))
  ·
   refine A0 mV ?_; refine A2 ?_; refine A2 ?_; refine A2 ?_; refine A2 ?_; refine A2 ?_; refine A0 oK ?_; refine A0 aV ?_; refine CN ?_
   exact aw_ret1 rfl rfl (ret_eq rfl (by symm; apply decide_eq_false; intro h; exact g20 (by rw [h])))
 ·
  refine A0 mV ?_; refine A2 ?_; refine A0 oK ?_; refine A0 mV ?_; refine A2 ?_; refine A2 ?_; refine A2 ?_; refine A2 ?_; refine A2 ?_; refine A0 oK ?_; refine A0 aV ?_; refine CN ?_
  exact aw_ret1 rfl rfl (ret_eq rfl (by symm; apply decide_eq_false; intro h; exact g17 (by rw [h])))
theorem refTips_ok (a b : Tip) : Tells P 19 [.val tipT a, .val tipT b] (.val boolT (decide (a = b))) := by
 refine fn_of_aw Tryz.func19 rfl rfl rfl (fun ext w hext => ?_)
 refine CQR ?_; refine aw_box rfl rfl rfl rfl rfl ?_; refine aw_box rfl rfl rfl rfl rfl ?_; refine A0 aV ?_; refine CNQR ?_; refine A0 (oFp fd_37_0) ?_; refine A0 (oLb L_Tip_b ty_33) ?_; refine A0 (oFp fd_37_0) ?_
 refine A0 (oLb L_Tip_b ty_33) ?_; refine A0 (oCl (refB_ok _ _) rfl fn_20 ⟨(arg_v rfl), (arg_v rfl), trivial⟩) ?_; refine A0 aV ?_; refine CNQR ?_; refine A0 (oFp fd_37_1) ?_; refine A0 (oLb L_Tip_p ty_34) ?_; refine A0 (oFp fd_37_1) ?_
 refine A0 (oLb L_Tip_p ty_34) ?_; refine A0 (oCl (refTotals_ok _ _) rfl fn_61 ⟨(arg_v rfl), (arg_v rfl), trivial⟩) ?_; refine A0 aV ?_; refine CNQR ?_; refine A0 (oFp fd_37_2) ?_; refine A0 (oLb L_Tip_c ty_35) ?_; refine A0 (oFp fd_37_2) ?_
 refine A0 (oLb L_Tip_c ty_35) ?_; refine A0 (oCl (rsame_ok _ _) rfl fn_62 ⟨(arg_v rfl), (arg_v rfl), trivial⟩) ?_; refine A0 aV ?_; refine CNQR ?_; refine A0 mV ?_
 refine Sp (d := 23) (p := a.b = b.b) (fun g23 => ?_) (fun g23 => ?_)
 ·
  refine A0 mV ?_; refine A1 mV ?_; refine A0 oK ?_
  refine Sp (d := 26) (p := a.p = b.p) (fun g26 => ?_) (fun g26 => ?_)
  ·
   refine A0 mV ?_; refine A1 mV ?_; refine A0 oK ?_; refine A0 aV ?_; refine CN ?_
   exact aw_ret1 rfl rfl (ret_eq rfl (by rw [decide_eq_decide]; exact ⟨fun h => by cases a; cases b; simp_all, fun h => by rw [h]⟩))
  ·
   refine A0 mV ?_; refine A2 ?_; refine A0 oK ?_; refine A0 aV ?_; refine CN ?_
   exact aw_ret1 rfl rfl (ret_eq rfl (by symm; apply decide_eq_false; intro h; exact g26 (by rw [h])))
 ·
  refine A0 mV ?_; refine A2 ?_; refine A0 oK ?_; refine A0 mV ?_; refine A2 ?_; refine A0 oK ?_; refine A0 aV ?_; refine CN ?_
  exact aw_ret1 rfl rfl (ret_eq rfl (by symm; apply decide_eq_false; intro h; exact g23 (by rw [h])))
end Go.Proofs.YtgoiacajjicjcaaGreat
set_option maxRecDepth 20000
namespace Go.Proofs.YtgoiacajjicjcaaGreat
set_option linter.unusedVariables false
set_option linter.unusedSimpArgs false
open Go.Ab Go.RowKit
theorem pow_split {r : Nat} (h : r ≤ 64) : 2 ^ r * 2 ^ (64 - r) = 18446744073709551616 := by
  rw [← Nat.pow_add, show r + (64 - r) = 64 by omega]
theorem shl_n {x : UInt64} {r : Nat} (h : r < 64) : (shl64 x r).toNat = x.toNat * 2 ^ r % 18446744073709551616 := by
  unfold shl64; rw [UInt64.toNat_ofNat', Nat.min_eq_left (by omega)]
theorem shr_n {x : UInt64} {r : Nat} (h : r < 64) : (shr64 x r).toNat = x.toNat / 2 ^ r := by
  unfold shr64
  have hx : x.toNat < 18446744073709551616 := x.toNat_lt
  rw [Nat.min_eq_left (by omega), UInt64.toNat_ofNat_of_lt' (by show _ < 18446744073709551616; have := Nat.div_le_self x.toNat (2 ^ r); omega)]
def upU (x y : UInt64) (r : Nat) : UInt64 := shl64 x r ||| shr64 (shr64 y 1) (63 - r)
def downU (x y : UInt64) (r : Nat) : UInt64 := shr64 x r ||| shl64 (shl64 y 1) (63 - r)
theorem or_sum {a b i : Nat} (h : b < 2 ^ i) : (a * 2 ^ i) ||| b = a * 2 ^ i + b := by
  rw [← Nat.shiftLeft_eq, Nat.shiftLeft_add_eq_or_of_lt h]
theorem upU_n {x y : UInt64} {r : Nat} (h : r < 64) : (upU x y r).toNat = x.toNat % 2 ^ (64 - r) * 2 ^ r + y.toNat / 2 ^ (64 - r) := by
  have hy : y.toNat < 18446744073709551616 := y.toNat_lt
  unfold upU
  rw [UInt64.toNat_or, shl_n h, shr_n (by omega), shr_n (by omega), Nat.div_div_eq_div_mul, ← Nat.pow_add, show 1 + (63 - r) = 64 - r by omega]
  have e : x.toNat * 2 ^ r % 18446744073709551616 = x.toNat % 2 ^ (64 - r) * 2 ^ r := by
    rw [← pow_split (r := r) (by omega), Nat.mul_comm (2 ^ r) (2 ^ (64 - r)), Nat.mul_mod_mul_right]
  rw [e, or_sum]
  rw [Nat.div_lt_iff_lt_mul (Nat.two_pow_pos _), pow_split (by omega)]; exact hy
theorem downU_n {x y : UInt64} {r : Nat} (h : r < 64) : (downU x y r).toNat = x.toNat / 2 ^ r + y.toNat % 2 ^ r * 2 ^ (64 - r) := by
  have hx : x.toNat < 18446744073709551616 := x.toNat_lt
  unfold downU
  rw [UInt64.toNat_or, shr_n h, shl_n (by omega), shl_n (by omega)]
  have e : y.toNat * 2 ^ 1 % 18446744073709551616 * 2 ^ (63 - r) % 18446744073709551616 = y.toNat % 2 ^ r * 2 ^ (64 - r) := by
    rw [Nat.mod_mul_mod, Nat.mul_assoc, ← Nat.pow_add, show 1 + (63 - r) = 64 - r by omega, ← pow_split (r := r) (by omega), Nat.mul_mod_mul_right]
  rw [e, Nat.or_comm, or_sum, Nat.add_comm]
  rw [Nat.div_lt_iff_lt_mul (Nat.two_pow_pos _), Nat.mul_comm, pow_split (by omega)]; exact hx
theorem up_small {a0 a1 a2 a3 : UInt64} {r : Nat} (h : r < 64) : nW [upU a0 0 r, upU a1 a0 r, upU a2 a1 r, upU a3 a2 r] = nW [a0, a1, a2, a3] * 2 ^ r % W256 := by
  have hs := pow_split (r := r) (by omega)
  unfold nW
  simp only [List.getD_cons_zero, List.getD_cons_succ]
  rw [upU_n h, upU_n h, upU_n h, upU_n h]
  have hz : (0 : UInt64).toNat = 0 := rfl
  rw [hz, Nat.zero_div]
  obtain ⟨p, hp⟩ : ∃ p, p = 2 ^ r := ⟨_, rfl⟩
  obtain ⟨s, hs'⟩ : ∃ s, s = 2 ^ (64 - r) := ⟨_, rfl⟩
  rw [← hp, ← hs'] at hs ⊢
  have key : ∀ x : UInt64, ∃ t c : Nat, x.toNat * p = t + 18446744073709551616 * c ∧ x.toNat % s * p = t ∧ x.toNat / s = c ∧ c < 18446744073709551616 := fun x => by
    have hx : x.toNat < 18446744073709551616 := x.toNat_lt
    refine ⟨_, _, ?_, rfl, rfl, ?_⟩
    · have e := Nat.mod_add_div x.toNat s
      conv => lhs; rw [← e]
      rw [Nat.add_mul, ← hs, Nat.mul_comm s (x.toNat / s), Nat.mul_assoc, Nat.mul_comm s p, Nat.mul_comm (x.toNat / s)]
    · exact Nat.lt_of_le_of_lt (Nat.div_le_self _ _) hx
  obtain ⟨t0, c0, e0, f0, g0, l0⟩ := key a0
  obtain ⟨t1, c1, e1, f1, g1, l1⟩ := key a1
  obtain ⟨t2, c2, e2, f2, g2, l2⟩ := key a2
  obtain ⟨t3, c3, e3, f3, g3, l3⟩ := key a3
  have b3 : t3 < 18446744073709551616 := by
    rw [← f3, ← hs, Nat.mul_comm p s]
    exact Nat.mul_lt_mul_of_pos_right (Nat.mod_lt _ (by rw [hs']; exact Nat.two_pow_pos _)) (by rw [hp]; exact Nat.two_pow_pos _)
  have b : ∀ {x : UInt64} {t : Nat}, x.toNat % s * p = t → t < 18446744073709551616 := fun {x t} f => by
    rw [← f, ← hs, Nat.mul_comm p s]
    exact Nat.mul_lt_mul_of_pos_right (Nat.mod_lt _ (by rw [hs']; exact Nat.two_pow_pos _)) (by rw [hp]; exact Nat.two_pow_pos _)
  have b0 := b f0
  have b1 := b f1
  have b2 := b f2
  have hd : ∀ {x : UInt64} {c : Nat}, x.toNat / s = c → c < p := fun {x c} f => by
    rw [← f, Nat.div_lt_iff_lt_mul (by rw [hs']; exact Nat.two_pow_pos _), hs]; exact x.toNat_lt
  have hm : ∀ {x : UInt64} {t : Nat}, x.toNat % s * p = t → t + p ≤ 18446744073709551616 := fun {x t} f => by
    rw [← f, ← hs, Nat.mul_comm p s]
    have h1 : x.toNat % s + 1 ≤ s := Nat.mod_lt _ (by rw [hs']; exact Nat.two_pow_pos _)
    have h2 := Nat.mul_le_mul_right p h1
    rw [Nat.add_mul, Nat.one_mul] at h2; exact h2
  have d0 := hd g0
  have d1 := hd g1
  have d2 := hd g2
  have m1 := hm f1
  have m2 := hm f2
  have m3 := hm f3
  rw [f0, f1, f2, f3, g0, g1, g2]
  have e : (a0.toNat + 18446744073709551616 * a1.toNat + 340282366920938463463374607431768211456 * a2.toNat + 6277101735386680763835789423207666416102355444464034512896 * a3.toNat) * p = a0.toNat * p + 18446744073709551616 * (a1.toNat * p) + 340282366920938463463374607431768211456 * (a2.toNat * p) + 6277101735386680763835789423207666416102355444464034512896 * (a3.toNat * p) := by
    rw [Nat.add_mul, Nat.add_mul, Nat.add_mul, Nat.mul_assoc, Nat.mul_assoc, Nat.mul_assoc]
  rw [e, e0, e1, e2, e3]
  unfold W256
  omega
theorem down_small {a0 a1 a2 a3 : UInt64} {r : Nat} (h : r < 64) : nW [downU a0 a1 r, downU a1 a2 r, downU a2 a3 r, downU a3 0 r] = nW [a0, a1, a2, a3] / 2 ^ r := by
  have hs := pow_split (r := r) (by omega)
  unfold nW
  simp only [List.getD_cons_zero, List.getD_cons_succ]
  rw [downU_n h, downU_n h, downU_n h, downU_n h]
  have hz : (0 : UInt64).toNat = 0 := rfl
  rw [hz, Nat.zero_mod, Nat.zero_mul]
  have hpos := Nat.two_pow_pos r
  obtain ⟨p, hp⟩ : ∃ p, p = 2 ^ r := ⟨_, rfl⟩
  obtain ⟨s, hs'⟩ : ∃ s, s = 2 ^ (64 - r) := ⟨_, rfl⟩
  rw [← hp, ← hs'] at hs ⊢
  rw [← hp] at hpos
  have key : ∀ x : UInt64, ∃ c d : Nat, x.toNat = p * c + d ∧ x.toNat / p = c ∧ x.toNat % p = d ∧ d < p := fun x => ⟨_, _, (Nat.div_add_mod _ _).symm, rfl, rfl, Nat.mod_lt _ hpos⟩
  obtain ⟨c0, d0, e0, f0, g0, l0⟩ := key a0
  obtain ⟨c1, d1, e1, f1, g1, l1⟩ := key a1
  obtain ⟨c2, d2, e2, f2, g2, l2⟩ := key a2
  obtain ⟨c3, d3, e3, f3, g3, l3⟩ := key a3
  rw [f0, f1, f2, f3, g1, g2, g3]
  symm
  have e : a0.toNat + 18446744073709551616 * a1.toNat + 340282366920938463463374607431768211456 * a2.toNat + 6277101735386680763835789423207666416102355444464034512896 * a3.toNat = d0 + p * (c0 + d1 * s + 18446744073709551616 * (c1 + d2 * s) + 340282366920938463463374607431768211456 * (c2 + d3 * s) + 6277101735386680763835789423207666416102355444464034512896 * (c3 + 0)) := by
    rw [e0, e1, e2, e3]
    simp only [Nat.mul_add, Nat.mul_left_comm p, hs]
    omega
  rw [e, Nat.add_mul_div_left _ _ hpos, Nat.div_eq_of_lt l0, Nat.zero_add]
theorem wide4 {a : Wide} (h : a.length = 4) : ∃ a0 a1 a2 a3, a = [a0, a1, a2, a3] := by
  match a, h with
  | [a0, a1, a2, a3], _ => exact ⟨a0, a1, a2, a3, rfl⟩
theorem upW_len {a : Wide} {n : Int} (h : a.length = 4) : (upW a n).length = 4 := by
  unfold upW; split
  · exact h
  · split
    · rfl
    · simp
theorem downW_len {a : Wide} {n : Int} (h : a.length = 4) : (downW a n).length = 4 := by
  unfold downW; split
  · exact h
  · split
    · rfl
    · simp
theorem nW_up {a : Wide} {n : Nat} (h : a.length = 4) (hn : n < 256) : nW (upW a n) = nW a * 2 ^ n % W256 := by
  obtain ⟨a0, a1, a2, a3, rfl⟩ := wide4 h
  obtain ⟨q, r, rfl, hr⟩ : ∃ q r, n = 64 * q + r ∧ r < 64 := ⟨n / 64, n % 64, by omega, by omega⟩
  have h1 : ((64 * q + r : Nat) : Int) / 64 = q := by omega
  have h2 : (((64 * q + r : Nat) : Int) % 64).toNat = r := by omega
  have hz := UInt64.toNat_lt a0
  have h3 : q < 4 := by omega
  have h4 : (63 - ((64 * q + r : Nat) : Int) % 64).toNat = 63 - r := by omega
  have e : ∀ b : Wide, b.length = 4 → (∀ i : Nat, i < 4 → atW [a0, a1, a2, a3] ((i : Int) - q) = b.getD i 0 ∧ atW [a0, a1, a2, a3] ((i : Int) - q - 1) = if i = 0 then 0 else b.getD (i - 1) 0) → nW b = nW [a0, a1, a2, a3] * 18446744073709551616 ^ q % W256 → nW (upW [a0, a1, a2, a3] ((64 * q + r : Nat) : Int)) = nW [a0, a1, a2, a3] * 2 ^ (64 * q + r) % W256 := fun b hb hat hnb => by
    obtain ⟨b0, b1, b2, b3, rfl⟩ := wide4 hb
    unfold upW
    rw [if_neg (by omega), if_neg (by omega)]
    have hF : (List.range 4).map (upF [a0, a1, a2, a3] ((64 * q + r : Nat) : Int)) = [upU b0 0 r, upU b1 b0 r, upU b2 b1 r, upU b3 b2 r] := by
      have hu : ∀ i, upF [a0, a1, a2, a3] ((64 * q + r : Nat) : Int) i = upU (atW [a0, a1, a2, a3] ((i : Int) - q)) (atW [a0, a1, a2, a3] ((i : Int) - q - 1)) r := fun i => by unfold upF upU; rw [h1, h2, h4]
      show [upF _ _ 0, upF _ _ 1, upF _ _ 2, upF _ _ 3] = _
      rw [hu, hu, hu, hu, (hat 0 (by decide)).1, (hat 0 (by decide)).2, (hat 1 (by decide)).1, (hat 1 (by decide)).2, (hat 2 (by decide)).1, (hat 2 (by decide)).2, (hat 3 (by decide)).1, (hat 3 (by decide)).2]
      rfl
    rw [hF, up_small hr, hnb, Nat.mod_mul_mod, Nat.pow_add, Nat.pow_mul, Nat.mul_assoc]
  have hb0 : a0.toNat < 18446744073709551616 := a0.toNat_lt
  have hb1 : a1.toNat < 18446744073709551616 := a1.toNat_lt
  have hb2 : a2.toNat < 18446744073709551616 := a2.toNat_lt
  have hb3 : a3.toNat < 18446744073709551616 := a3.toNat_lt
  have hq : q = 0 ∨ q = 1 ∨ q = 2 ∨ q = 3 := by omega
  rcases hq with rfl | rfl | rfl | rfl
  · refine e [a0, a1, a2, a3] rfl (fun i hi => ?_) ?_
    · match i, hi with
      | 0, _ => exact ⟨rfl, rfl⟩
      | 1, _ => exact ⟨rfl, rfl⟩
      | 2, _ => exact ⟨rfl, rfl⟩
      | 3, _ => exact ⟨rfl, rfl⟩
    · rw [Nat.pow_zero, Nat.mul_one, Nat.mod_eq_of_lt (nW_lt h)]
  · refine e [0, a0, a1, a2] rfl (fun i hi => ?_) ?_
    · match i, hi with
      | 0, _ => exact ⟨rfl, rfl⟩
      | 1, _ => exact ⟨rfl, rfl⟩
      | 2, _ => exact ⟨rfl, rfl⟩
      | 3, _ => exact ⟨rfl, rfl⟩
    · unfold nW W256; simp only [List.getD_cons_zero, List.getD_cons_succ]; have : (0 : UInt64).toNat = 0 := rfl; omega
  · refine e [0, 0, a0, a1] rfl (fun i hi => ?_) ?_
    · match i, hi with
      | 0, _ => exact ⟨rfl, rfl⟩
      | 1, _ => exact ⟨rfl, rfl⟩
      | 2, _ => exact ⟨rfl, rfl⟩
      | 3, _ => exact ⟨rfl, rfl⟩
    · unfold nW W256; simp only [List.getD_cons_zero, List.getD_cons_succ]; have : (0 : UInt64).toNat = 0 := rfl; omega
  · refine e [0, 0, 0, a0] rfl (fun i hi => ?_) ?_
    · match i, hi with
      | 0, _ => exact ⟨rfl, rfl⟩
      | 1, _ => exact ⟨rfl, rfl⟩
      | 2, _ => exact ⟨rfl, rfl⟩
      | 3, _ => exact ⟨rfl, rfl⟩
    · unfold nW W256; simp only [List.getD_cons_zero, List.getD_cons_succ]; have : (0 : UInt64).toNat = 0 := rfl; omega
theorem nW_down {a : Wide} {n : Nat} (h : a.length = 4) (hn : n < 256) : nW (downW a n) = nW a / 2 ^ n := by
  obtain ⟨a0, a1, a2, a3, rfl⟩ := wide4 h
  obtain ⟨q, r, rfl, hr⟩ : ∃ q r, n = 64 * q + r ∧ r < 64 := ⟨n / 64, n % 64, by omega, by omega⟩
  have h1 : ((64 * q + r : Nat) : Int) / 64 = q := by omega
  have h2 : (((64 * q + r : Nat) : Int) % 64).toNat = r := by omega
  have h3 : q < 4 := by omega
  have h4 : (63 - ((64 * q + r : Nat) : Int) % 64).toNat = 63 - r := by omega
  have e : ∀ b : Wide, b.length = 4 → (∀ i : Nat, i < 4 → atW [a0, a1, a2, a3] ((i : Int) + q) = b.getD i 0 ∧ atW [a0, a1, a2, a3] ((i : Int) + q + 1) = if i = 3 then 0 else b.getD (i + 1) 0) → nW b = nW [a0, a1, a2, a3] / 18446744073709551616 ^ q → nW (downW [a0, a1, a2, a3] ((64 * q + r : Nat) : Int)) = nW [a0, a1, a2, a3] / 2 ^ (64 * q + r) := fun b hb hat hnb => by
    obtain ⟨b0, b1, b2, b3, rfl⟩ := wide4 hb
    unfold downW
    rw [if_neg (by omega), if_neg (by omega)]
    have hF : (List.range 4).map (downF [a0, a1, a2, a3] ((64 * q + r : Nat) : Int)) = [downU b0 b1 r, downU b1 b2 r, downU b2 b3 r, downU b3 0 r] := by
      have hu : ∀ i, downF [a0, a1, a2, a3] ((64 * q + r : Nat) : Int) i = downU (atW [a0, a1, a2, a3] ((i : Int) + q)) (atW [a0, a1, a2, a3] ((i : Int) + q + 1)) r := fun i => by unfold downF downU; rw [h1, h2, h4]
      show [downF _ _ 0, downF _ _ 1, downF _ _ 2, downF _ _ 3] = _
      rw [hu, hu, hu, hu, (hat 0 (by decide)).1, (hat 0 (by decide)).2, (hat 1 (by decide)).1, (hat 1 (by decide)).2, (hat 2 (by decide)).1, (hat 2 (by decide)).2, (hat 3 (by decide)).1, (hat 3 (by decide)).2]
      rfl
    rw [hF, down_small hr, hnb, Nat.div_div_eq_div_mul, Nat.pow_add, Nat.pow_mul]
  have hb0 : a0.toNat < 18446744073709551616 := a0.toNat_lt
  have hb1 : a1.toNat < 18446744073709551616 := a1.toNat_lt
  have hb2 : a2.toNat < 18446744073709551616 := a2.toNat_lt
  have hb3 : a3.toNat < 18446744073709551616 := a3.toNat_lt
  have hq : q = 0 ∨ q = 1 ∨ q = 2 ∨ q = 3 := by omega
  rcases hq with rfl | rfl | rfl | rfl
  · refine e [a0, a1, a2, a3] rfl (fun i hi => ?_) (by rw [Nat.pow_zero, Nat.div_one])
    match i, hi with
      | 0, _ => exact ⟨rfl, rfl⟩
      | 1, _ => exact ⟨rfl, rfl⟩
      | 2, _ => exact ⟨rfl, rfl⟩
      | 3, _ => exact ⟨rfl, rfl⟩
  · refine e [a1, a2, a3, 0] rfl (fun i hi => ?_) ?_
    · match i, hi with
      | 0, _ => exact ⟨rfl, rfl⟩
      | 1, _ => exact ⟨rfl, rfl⟩
      | 2, _ => exact ⟨rfl, rfl⟩
      | 3, _ => exact ⟨rfl, rfl⟩
    · unfold nW; simp only [List.getD_cons_zero, List.getD_cons_succ]; have : (0 : UInt64).toNat = 0 := rfl; omega
  · refine e [a2, a3, 0, 0] rfl (fun i hi => ?_) ?_
    · match i, hi with
      | 0, _ => exact ⟨rfl, rfl⟩
      | 1, _ => exact ⟨rfl, rfl⟩
      | 2, _ => exact ⟨rfl, rfl⟩
      | 3, _ => exact ⟨rfl, rfl⟩
    · unfold nW; simp only [List.getD_cons_zero, List.getD_cons_succ]; have : (0 : UInt64).toNat = 0 := rfl; omega
  · refine e [a3, 0, 0, 0] rfl (fun i hi => ?_) ?_
    · match i, hi with
      | 0, _ => exact ⟨rfl, rfl⟩
      | 1, _ => exact ⟨rfl, rfl⟩
      | 2, _ => exact ⟨rfl, rfl⟩
      | 3, _ => exact ⟨rfl, rfl⟩
    · unfold nW; simp only [List.getD_cons_zero, List.getD_cons_succ]; have : (0 : UInt64).toNat = 0 := rfl; omega
theorem cmpW_n {a b : Wide} (ha : a.length = 4) (hb : b.length = 4) : cmpW a b = if nW a < nW b then -1 else if nW b < nW a then 1 else 0 := by
  obtain ⟨a0, a1, a2, a3, rfl⟩ := wide4 ha
  obtain ⟨b0, b1, b2, b3, rfl⟩ := wide4 hb
  have h0 : a0.toNat < 18446744073709551616 := a0.toNat_lt
  have h1 : a1.toNat < 18446744073709551616 := a1.toNat_lt
  have h2 : a2.toNat < 18446744073709551616 := a2.toNat_lt
  have h3 : a3.toNat < 18446744073709551616 := a3.toNat_lt
  have k0 : b0.toNat < 18446744073709551616 := b0.toNat_lt
  have k1 : b1.toNat < 18446744073709551616 := b1.toNat_lt
  have k2 : b2.toNat < 18446744073709551616 := b2.toNat_lt
  have k3 : b3.toNat < 18446744073709551616 := b3.toNat_lt
  show orL [cmpU a3 b3, cmpU a2 b2, cmpU a1 b1, cmpU a0 b0] = if a0.toNat + 18446744073709551616 * a1.toNat + 340282366920938463463374607431768211456 * a2.toNat + 6277101735386680763835789423207666416102355444464034512896 * a3.toNat < b0.toNat + 18446744073709551616 * b1.toNat + 340282366920938463463374607431768211456 * b2.toNat + 6277101735386680763835789423207666416102355444464034512896 * b3.toNat then -1 else if b0.toNat + 18446744073709551616 * b1.toNat + 340282366920938463463374607431768211456 * b2.toNat + 6277101735386680763835789423207666416102355444464034512896 * b3.toNat < a0.toNat + 18446744073709551616 * a1.toNat + 340282366920938463463374607431768211456 * a2.toNat + 6277101735386680763835789423207666416102355444464034512896 * a3.toNat then 1 else 0
  have c : ∀ x y : UInt64, cmpU x y = if x.toNat < y.toNat then -1 else if y.toNat < x.toNat then 1 else 0 := fun x y => by unfold cmpU; simp only [UInt64.lt_iff_toNat_lt]
  rw [c, c, c, c]
  by_cases d3 : a3.toNat = b3.toNat
  · by_cases d2 : a2.toNat = b2.toNat
    · by_cases d1 : a1.toNat = b1.toNat
      · rw [d3, d2, d1, if_neg (Nat.lt_irrefl _), if_neg (Nat.lt_irrefl _), if_neg (Nat.lt_irrefl _), if_neg (Nat.lt_irrefl _), if_neg (Nat.lt_irrefl _), if_neg (Nat.lt_irrefl _)]
        by_cases l : a0.toNat < b0.toNat
        · rw [if_pos l]; show (-1 : Int) = _; rw [if_pos (by omega)]
        · rw [if_neg l]
          by_cases l2 : b0.toNat < a0.toNat
          · rw [if_pos l2]; show (1 : Int) = _; rw [if_neg (by omega), if_pos (by omega)]
          · rw [if_neg l2]; show (0 : Int) = _; rw [if_neg (by omega), if_neg (by omega)]
      · rw [d3, d2, if_neg (Nat.lt_irrefl _), if_neg (Nat.lt_irrefl _), if_neg (Nat.lt_irrefl _), if_neg (Nat.lt_irrefl _)]
        by_cases l : a1.toNat < b1.toNat
        · rw [if_pos l]; show (-1 : Int) = _; rw [if_pos (by omega)]
        · rw [if_neg l, if_pos (show b1.toNat < a1.toNat by omega)]; show (1 : Int) = _; rw [if_neg (by omega), if_pos (by omega)]
    · rw [d3, if_neg (Nat.lt_irrefl _), if_neg (Nat.lt_irrefl _)]
      by_cases l : a2.toNat < b2.toNat
      · rw [if_pos l]; show (-1 : Int) = _; rw [if_pos (by omega)]
      · rw [if_neg l, if_pos (show b2.toNat < a2.toNat by omega)]; show (1 : Int) = _; rw [if_neg (by omega), if_pos (by omega)]
  · by_cases l : a3.toNat < b3.toNat
    · rw [if_pos l]; show (-1 : Int) = _; rw [if_pos (by omega)]
    · rw [if_neg l, if_pos (show b3.toNat < a3.toNat by omega)]; show (1 : Int) = _; rw [if_neg (by omega), if_pos (by omega)]
end Go.Proofs.YtgoiacajjicjcaaGreat
set_option maxRecDepth 20000
namespace Go.Proofs.YtgoiacajjicjcaaGreat
set_option linter.unusedVariables false
set_option linter.unusedSimpArgs false
open Go.Ab Go.RowKit
theorem subS_n (a b : UInt64) {c : UInt64} (h : c.toNat ≤ 1) : (subS a b c).toNat = (a.toNat + 18446744073709551616 - b.toNat - c.toNat) % 18446744073709551616 := by unfold subS; rw [UInt64.toNat_ofNat']
theorem subC_n (a b c : UInt64) : (subC a b c).toNat = if a.toNat < b.toNat + c.toNat then 1 else 0 := by unfold subC; split <;> rfl
theorem carry_sub (a0 a1 a2 a3 b0 b1 b2 b3 : UInt64) : carryN subS subC [a0, a1, a2, a3] [b0, b1, b2, b3] 4 = ([subS a0 b0 0, subS a1 b1 (subC a0 b0 0), subS a2 b2 (subC a1 b1 (subC a0 b0 0)), subS a3 b3 (subC a2 b2 (subC a1 b1 (subC a0 b0 0)))], subC a3 b3 (subC a2 b2 (subC a1 b1 (subC a0 b0 0)))) := rfl
theorem subW_len {a b : Wide} (ha : a.length = 4) (hb : b.length = 4) : (subW a b).length = 4 := by
  obtain ⟨a0, a1, a2, a3, rfl⟩ := wide4 ha
  obtain ⟨b0, b1, b2, b3, rfl⟩ := wide4 hb
  unfold subW; rw [carry_sub]; rfl
theorem nW_sub {a b : Wide} (ha : a.length = 4) (hb : b.length = 4) : nW (subW a b) = (nW a + W256 - nW b) % W256 ∧ (subOk a b = true ↔ nW b ≤ nW a) := by
  obtain ⟨a0, a1, a2, a3, rfl⟩ := wide4 ha
  obtain ⟨b0, b1, b2, b3, rfl⟩ := wide4 hb
  have h0 : a0.toNat < 18446744073709551616 := a0.toNat_lt
  have h1 : a1.toNat < 18446744073709551616 := a1.toNat_lt
  have h2 : a2.toNat < 18446744073709551616 := a2.toNat_lt
  have h3 : a3.toNat < 18446744073709551616 := a3.toNat_lt
  have k0 : b0.toNat < 18446744073709551616 := b0.toNat_lt
  have k1 : b1.toNat < 18446744073709551616 := b1.toNat_lt
  have k2 : b2.toNat < 18446744073709551616 := b2.toNat_lt
  have k3 : b3.toNat < 18446744073709551616 := b3.toNat_lt
  have z0 : (0 : UInt64).toNat = 0 := rfl
  have c1 := subC_n a0 b0 0
  have c2 := subC_n a1 b1 (subC a0 b0 0)
  have c3 := subC_n a2 b2 (subC a1 b1 (subC a0 b0 0))
  have c4 := subC_n a3 b3 (subC a2 b2 (subC a1 b1 (subC a0 b0 0)))
  have s0 := subS_n a0 b0 (show (0 : UInt64).toNat ≤ 1 by decide)
  have s1 := subS_n a1 b1 (subC_le a0 b0 0)
  have s2 := subS_n a2 b2 (subC_le a1 b1 (subC a0 b0 0))
  have s3 := subS_n a3 b3 (subC_le a2 b2 (subC a1 b1 (subC a0 b0 0)))
  unfold subW subOk
  rw [carry_sub]
  unfold nW W256
  simp only [List.getD_cons_zero, List.getD_cons_succ, decide_eq_true_eq]
  rw [z0] at c1 s0
  generalize subC a3 b3 (subC a2 b2 (subC a1 b1 (subC a0 b0 0))) = x4 at *
  generalize subS a3 b3 (subC a2 b2 (subC a1 b1 (subC a0 b0 0))) = y3 at *
  generalize subS a2 b2 (subC a1 b1 (subC a0 b0 0)) = y2 at *
  generalize subC a2 b2 (subC a1 b1 (subC a0 b0 0)) = x3 at *
  generalize subS a1 b1 (subC a0 b0 0) = y1 at *
  generalize subC a1 b1 (subC a0 b0 0) = x2 at *
  generalize subS a0 b0 0 = y0 at *
  generalize subC a0 b0 0 = x1 at *
  have e0 : y0.toNat + b0.toNat = a0.toNat + 18446744073709551616 * x1.toNat := by split at c1 <;> omega
  have e1 : y1.toNat + b1.toNat + x1.toNat = a1.toNat + 18446744073709551616 * x2.toNat := by split at c1 <;> split at c2 <;> omega
  have e2 : y2.toNat + b2.toNat + x2.toNat = a2.toNat + 18446744073709551616 * x3.toNat := by split at c2 <;> split at c3 <;> omega
  have e3 : y3.toNat + b3.toNat + x3.toNat = a3.toNat + 18446744073709551616 * x4.toNat := by split at c3 <;> split at c4 <;> omega
  have l0 : y0.toNat < 18446744073709551616 := y0.toNat_lt
  have l1 : y1.toNat < 18446744073709551616 := y1.toNat_lt
  have l2 : y2.toNat < 18446744073709551616 := y2.toNat_lt
  have l3 : y3.toNat < 18446744073709551616 := y3.toNat_lt
  have l4 : x4.toNat ≤ 1 := by split at c4 <;> omega
  clear c1 c2 c3 c4 s0 s1 s2 s3
  constructor
  · omega
  · constructor <;> intro h <;> omega
theorem limb_n {a : Wide} {q : Nat} (h : a.length = 4) (hq : q < 4) : (a.getD q 0).toNat = nW a / 18446744073709551616 ^ q % 18446744073709551616 := by
  obtain ⟨a0, a1, a2, a3, rfl⟩ := wide4 h
  have h0 : a0.toNat < 18446744073709551616 := a0.toNat_lt
  have h1 : a1.toNat < 18446744073709551616 := a1.toNat_lt
  have h2 : a2.toNat < 18446744073709551616 := a2.toNat_lt
  have h3 : a3.toNat < 18446744073709551616 := a3.toNat_lt
  unfold nW
  simp only [List.getD_cons_zero, List.getD_cons_succ]
  match q, hq with
  | 0, _ => simp only [List.getD_cons_zero]; omega
  | 1, _ => simp only [List.getD_cons_zero, List.getD_cons_succ]; omega
  | 2, _ => simp only [List.getD_cons_zero, List.getD_cons_succ]; omega
  | 3, _ => simp only [List.getD_cons_zero, List.getD_cons_succ]; omega
theorem set_n {a : Wide} {q : Nat} {v : UInt64} (h : a.length = 4) (hq : q < 4) : nW (a.set q v) + (a.getD q 0).toNat * 18446744073709551616 ^ q = nW a + v.toNat * 18446744073709551616 ^ q := by
  obtain ⟨a0, a1, a2, a3, rfl⟩ := wide4 h
  unfold nW
  match q, hq with
  | 0, _ => simp only [List.set_cons_zero, List.getD_cons_zero, List.getD_cons_succ]; omega
  | 1, _ => simp only [List.set_cons_zero, List.set_cons_succ, List.getD_cons_zero, List.getD_cons_succ]; omega
  | 2, _ => simp only [List.set_cons_zero, List.set_cons_succ, List.getD_cons_zero, List.getD_cons_succ]; omega
  | 3, _ => simp only [List.set_cons_zero, List.set_cons_succ, List.getD_cons_zero, List.getD_cons_succ]; omega
theorem orBit_n {a : Wide} {n K : Nat} (h : a.length = 4) (hn : n < 256) (hd : nW a = K * 2 ^ (n + 1)) : nW (orBit a n) = nW a + 2 ^ n := by
  obtain ⟨q, r, rfl, hr⟩ : ∃ q r, n = 64 * q + r ∧ r < 64 := ⟨n / 64, n % 64, by omega, by omega⟩
  have hq : q < 4 := by omega
  have e1 : (64 * q + r) / 64 = q := by omega
  have e2 : (64 * q + r) % 64 = r := by omega
  unfold orBit
  rw [e1, e2]
  have hs := set_n (v := a.getD q default ||| shl64 1 r) h hq
  have hl := limb_n h hq
  have ep : 2 ^ (64 * q + r + 1) = 18446744073709551616 ^ q * 2 ^ (r + 1) := by rw [Nat.add_assoc, Nat.pow_add, Nat.pow_mul]
  have epn : 2 ^ (64 * q + r) = 18446744073709551616 ^ q * 2 ^ r := by rw [Nat.pow_add, Nat.pow_mul]
  have hb : 0 < 18446744073709551616 ^ q := Nat.pow_pos (by decide)
  have hl2 : (a.getD q 0).toNat = K % 2 ^ (63 - r) * 2 ^ (r + 1) := by
    rw [hl, hd, ep, Nat.mul_left_comm, Nat.mul_div_cancel_left _ hb, ← pow_split (r := r + 1) (by omega), show 64 - (r + 1) = 63 - r by omega, Nat.mul_comm (2 ^ (r + 1)) (2 ^ (63 - r)), Nat.mul_mod_mul_right]
  have hv : (a.getD q default ||| shl64 1 r).toNat = (a.getD q 0).toNat + 2 ^ r := by
    have h1 : (shl64 1 r).toNat = 2 ^ r := by
      rw [shl_n hr]
      show 1 * 2 ^ r % _ = _
      rw [Nat.one_mul, Nat.mod_eq_of_lt]
      exact Nat.pow_lt_pow_right (by decide) hr
    rw [UInt64.toNat_or, h1]
    show (a.getD q 0).toNat ||| 2 ^ r = _
    rw [hl2, or_sum (Nat.pow_lt_pow_right (by decide) (by omega))]
  rw [hv, Nat.add_mul, Nat.mul_comm (2 ^ r), ← epn] at hs
  omega
theorem bitLen_n (n : Nat) : n < 2 ^ bitLen n ∧ (0 < n → 2 ^ (bitLen n - 1) ≤ n) := by
  unfold bitLen
  split
  · rename_i h; subst h; exact ⟨by decide, fun h => absurd h (by decide)⟩
  · rename_i h
    exact ⟨Nat.lt_log2_self, fun _ => by rw [Nat.add_sub_cancel]; exact Nat.log2_self_le h⟩
theorem longW_n {a : Wide} (h : a.length = 4) : nW a < 2 ^ longW a ∧ (0 < nW a → 1 ≤ longW a ∧ 2 ^ (longW a - 1) ≤ nW a) := by
  obtain ⟨a0, a1, a2, a3, rfl⟩ := wide4 h
  have h0 : a0.toNat < 18446744073709551616 := a0.toNat_lt
  have h1 : a1.toNat < 18446744073709551616 := a1.toNat_lt
  have h2 : a2.toNat < 18446744073709551616 := a2.toNat_lt
  have h3 : a3.toNat < 18446744073709551616 := a3.toNat_lt
  have key : ∀ (x k R : Nat) , 0 < x → R < 18446744073709551616 ^ k → R + 18446744073709551616 ^ k * x < 2 ^ (k * 64 + bitLen x) ∧ 1 ≤ k * 64 + bitLen x ∧ 2 ^ (k * 64 + bitLen x - 1) ≤ R + 18446744073709551616 ^ k * x := fun x k R hx hR => by
    obtain ⟨b1, b2⟩ := bitLen_n x
    have b2 := b2 hx
    have b3 : 1 ≤ bitLen x := bitLen_pos hx
    have e : 2 ^ (k * 64 + bitLen x) = 18446744073709551616 ^ k * 2 ^ bitLen x := by rw [Nat.mul_comm k 64, Nat.pow_add, Nat.pow_mul]
    have e' : 2 ^ (k * 64 + bitLen x - 1) = 18446744073709551616 ^ k * 2 ^ (bitLen x - 1) := by rw [Nat.add_sub_assoc b3, Nat.mul_comm k 64, Nat.pow_add, Nat.pow_mul]
    refine ⟨?_, by omega, ?_⟩
    · rw [e]
      have := Nat.mul_le_mul_left (18446744073709551616 ^ k) (show x + 1 ≤ 2 ^ bitLen x from b1)
      rw [Nat.mul_add, Nat.mul_one] at this; omega
    · rw [e']
      have := Nat.mul_le_mul_left (18446744073709551616 ^ k) b2
      omega
  unfold longW
  simp only [longN, List.getD_cons_succ, List.getD_cons_zero]
  unfold nW
  simp only [List.getD_cons_succ, List.getD_cons_zero]
  by_cases c3 : 0 < a3.toNat
  · rw [if_pos c3]
    obtain ⟨x, y, z⟩ := key a3.toNat 3 (a0.toNat + 18446744073709551616 * a1.toNat + 340282366920938463463374607431768211456 * a2.toNat) c3 (by omega)
    exact ⟨x, fun _ => ⟨y, z⟩⟩
  rw [if_neg c3]
  have z3 : a3.toNat = 0 := by omega
  rw [z3]
  by_cases c2 : 0 < a2.toNat
  · rw [if_pos c2]
    obtain ⟨x, y, z⟩ := key a2.toNat 2 (a0.toNat + 18446744073709551616 * a1.toNat) c2 (by omega)
    exact ⟨x, fun _ => ⟨y, z⟩⟩
  rw [if_neg c2]
  have z2 : a2.toNat = 0 := by omega
  rw [z2]
  by_cases c1 : 0 < a1.toNat
  · rw [if_pos c1]
    obtain ⟨x, y, z⟩ := key a1.toNat 1 a0.toNat c1 (by omega)
    rw [Nat.pow_one] at x z
    exact ⟨x, fun _ => ⟨y, z⟩⟩
  rw [if_neg c1]
  have z1 : a1.toNat = 0 := by omega
  rw [z1]
  by_cases c0 : 0 < a0.toNat
  · rw [if_pos c0]
    obtain ⟨x, y, z⟩ := key a0.toNat 0 0 c0 (by decide)
    exact ⟨by simpa using x, fun _ => ⟨y, by simpa using z⟩⟩
  rw [if_neg c0]
  have z0 : a0.toNat = 0 := by omega
  rw [z0]
  exact ⟨by decide, fun h => absurd h (by decide)⟩
theorem divN_n {b : Wide} (hb : b.length = 4) {A : Nat} : ∀ (n : Nat) (x : Wide × Wide), x.1.length = 4 → x.2.length = 4 → nW b * 2 ^ n ≤ 2 * W256 → n ≤ 256 → A = nW x.2 * nW b + nW x.1 → nW x.1 < nW b * 2 ^ n → (∃ K, nW x.2 = K * 2 ^ n) → (∀ k, k < n → nW b * 2 ^ k < W256) →
    (divN b n x).1.length = 4 ∧ (divN b n x).2.length = 4 ∧ A = nW (divN b n x).2 * nW b + nW (divN b n x).1 ∧ nW (divN b n x).1 < nW b
  | 0, x, h1, h2, _, _, h3, h4, _, _ => ⟨h1, h2, h3, by rw [Nat.pow_zero, Nat.mul_one] at h4; exact h4⟩
  | n + 1, x, h1, h2, h5, h6, h3, h4, ⟨K, hK⟩, h8 => by
    have hup := nW_up (a := b) (n := n) hb (by omega)
    have hlt := h8 n (by omega)
    rw [Nat.mod_eq_of_lt hlt] at hup
    have hul := upW_len (n := (n : Int)) hb
    obtain ⟨s1, s2⟩ := nW_sub h1 hul
    have hx1 := nW_lt h1
    have ep : 2 ^ (n + 1) = 2 * 2 ^ n := by rw [Nat.pow_succ, Nat.mul_comm]
    have eb : nW b * 2 ^ (n + 1) = 2 * (nW b * 2 ^ n) := by rw [ep, Nat.mul_left_comm]
    rw [divN]
    unfold divStep
    by_cases c : subOk x.1 (upW b n) = true
    · rw [if_pos c]
      have hle := s2.1 c
      rw [hup] at hle s1
      have e1 : nW (subW x.1 (upW b n)) = nW x.1 - nW b * 2 ^ n := by rw [s1, show nW x.1 + W256 - nW b * 2 ^ n = (nW x.1 - nW b * 2 ^ n) + W256 by omega, Nat.add_mod_right, Nat.mod_eq_of_lt (by omega)]
      have e2 := orBit_n h2 (show n < 256 by omega) hK
      refine divN_n hb n (subW x.1 (upW b n), orBit x.2 n) (show (subW x.1 (upW b n)).length = 4 from subW_len h1 hul) (by show (orBit x.2 n).length = 4; unfold orBit; rw [List.length_set]; exact h2) (by omega) (by omega) ?_ ?_ ⟨2 * K + 1, ?_⟩ (fun k hk => h8 k (by omega))
      · show A = nW (orBit x.2 n) * nW b + nW (subW x.1 (upW b n))
        rw [e1, e2, Nat.add_mul, Nat.mul_comm (2 ^ n)]; omega
      · show nW (subW x.1 (upW b n)) < _
        rw [e1]; omega
      · show nW (orBit x.2 n) = _
        rw [e2, hK, ep, Nat.add_mul, Nat.one_mul, Nat.mul_comm 2 K, Nat.mul_assoc]
    · rw [if_neg c]
      have hgt : nW x.1 < nW b * 2 ^ n := by
        rw [← hup]; exact Nat.lt_of_not_le fun hh => c (s2.2 hh)
      exact divN_n hb n x h1 h2 (by omega) (by omega) h3 hgt ⟨K * 2, by rw [hK, ep, Nat.mul_assoc]⟩ (fun k hk => h8 k (by omega))
theorem nW_zero : nW zWide = 0 := rfl
theorem nW_pos {b : Wide} (hb : b.length = 4) (h : b ≠ zWide) : 0 < nW b := by
  refine Nat.pos_of_ne_zero fun e => h (nW_inj hb rfl (by rw [e]; rfl))
theorem nW_div {a b : Wide} (ha : a.length = 4) (hb : b.length = 4) (h : b ≠ zWide) : (divW a b).length = 4 ∧ (remW a b).length = 4 ∧ nW (divW a b) = nW a / nW b ∧ nW (remW a b) = nW a % nW b := by
  have hp := nW_pos hb h
  obtain ⟨la, _⟩ := longW_n ha
  obtain ⟨lb, lb2⟩ := longW_n hb
  obtain ⟨lb3, lb4⟩ := lb2 hp
  have wa := longW_le a
  have pw : 2 ^ 256 = W256 := by decide
  have hn : longW a + 1 - longW b ≤ 256 := by omega
  have hover : ∀ k, k < longW a + 1 - longW b → nW b * 2 ^ k < W256 := fun k hk => by
    have h1 : nW b * 2 ^ k < 2 ^ longW b * 2 ^ k := Nat.mul_lt_mul_of_pos_right lb (Nat.two_pow_pos k)
    rw [← Nat.pow_add] at h1
    have h2 : 2 ^ (longW b + k) ≤ 2 ^ 256 := Nat.pow_le_pow_right (by decide) (by omega)
    rw [pw] at h2; omega
  have hstart : nW a < nW b * 2 ^ (longW a + 1 - longW b) := by
    have h1 : 2 ^ (longW b - 1) * 2 ^ (longW a + 1 - longW b) ≤ nW b * 2 ^ (longW a + 1 - longW b) := Nat.mul_le_mul_right _ lb4
    rw [← Nat.pow_add] at h1
    have h2 : 2 ^ longW a ≤ 2 ^ (longW b - 1 + (longW a + 1 - longW b)) := Nat.pow_le_pow_right (by decide) (by omega)
    omega
  obtain ⟨N, hN⟩ : ∃ N, N = longW a + 1 - longW b := ⟨_, rfl⟩
  unfold divW remW divP
  rw [if_neg h]
  rw [← hN] at hn hover hstart ⊢
  show (divN b N (a, zWide)).2.length = 4 ∧ (divN b N (a, zWide)).1.length = 4 ∧ nW (divN b N (a, zWide)).2 = _ ∧ nW (divN b N (a, zWide)).1 = _
  have hbound : nW b * 2 ^ N ≤ 2 * W256 := by
    cases N with
    | zero => rw [Nat.pow_zero, Nat.mul_one]; have := nW_lt hb; omega
    | succ n => have := hover n (by omega); rw [Nat.pow_succ, ← Nat.mul_assoc]; omega
  obtain ⟨g1, g2, g3, g4⟩ := divN_n hb (A := nW a) N (a, zWide) ha rfl hbound hn (by show nW a = nW zWide * nW b + nW a; rw [nW_zero, Nat.zero_mul, Nat.zero_add]) hstart ⟨0, by rw [Nat.zero_mul]; rfl⟩ hover
  refine ⟨g2, g1, ?_, ?_⟩
  · conv => rhs; rw [g3]
    rw [Nat.add_comm, Nat.add_mul_div_right _ _ hp, Nat.div_eq_of_lt g4, Nat.zero_add]
  · conv => rhs; rw [g3]
    rw [Nat.add_comm, Nat.add_mul_mod_self_right, Nat.mod_eq_of_lt g4]
end Go.Proofs.YtgoiacajjicjcaaGreat
set_option maxRecDepth 20000
namespace Go.Proofs.YtgoiacajjicjcaaGreat
set_option linter.unusedVariables false
set_option linter.unusedSimpArgs false
open Go.Ab Go.RowKit
def rcmp (a b : Wide) : Nat → Int
  | 0 => 0
  | k + 1 => if cmpU (a.getD k default) (b.getD k default) = 0 then rcmp a b k else cmpU (a.getD k default) (b.getD k default)
theorem rcmp_all (a b : Wide) : cmpW a b = rcmp a b 4 := rfl
theorem rcmp_lt {a b : Wide} {k : Nat} (hk : 0 < k) (h : a.getD (k - 1) default < b.getD (k - 1) default) : rcmp a b k = -1 := by
  obtain ⟨j, rfl⟩ : ∃ j, k = j + 1 := ⟨k - 1, by omega⟩
  rw [Nat.add_sub_cancel] at h
  rw [rcmp]
  have e : cmpU (a.getD j default) (b.getD j default) = -1 := by unfold cmpU; rw [if_pos h]
  rw [e]; rfl
theorem rcmp_gt {a b : Wide} {k : Nat} (hk : 0 < k) (h1 : ¬ a.getD (k - 1) default < b.getD (k - 1) default) (h : b.getD (k - 1) default < a.getD (k - 1) default) : rcmp a b k = 1 := by
  obtain ⟨j, rfl⟩ : ∃ j, k = j + 1 := ⟨k - 1, by omega⟩
  rw [Nat.add_sub_cancel] at h h1
  rw [rcmp]
  have e : cmpU (a.getD j default) (b.getD j default) = 1 := by unfold cmpU; rw [if_neg h1, if_pos h]
  rw [e]; rfl
theorem rcmp_eq {a b : Wide} {k : Nat} (hk : 0 < k) (h1 : ¬ a.getD (k - 1) default < b.getD (k - 1) default) (h : ¬ b.getD (k - 1) default < a.getD (k - 1) default) : rcmp a b k = rcmp a b (k - 1) := by
  obtain ⟨j, rfl⟩ : ∃ j, k = j + 1 := ⟨k - 1, by omega⟩
  rw [Nat.add_sub_cancel] at h h1 ⊢
  rw [rcmp]
  have e : cmpU (a.getD j default) (b.getD j default) = 0 := by unfold cmpU; rw [if_neg h1, if_neg h]
  rw [e, if_pos rfl]
def radF (a b : Wide) (i : Nat) : UInt64 := addS (a.getD i default) (b.getD i default) (carryN addS addC a b i).2
theorem radF_all {a b : Wide} (ha : a.length = 4) (hb : b.length = 4) : (List.range 4).map (radF a b) = addW a b := by
  obtain ⟨a0, a1, a2, a3, rfl⟩ := wide4 ha
  obtain ⟨b0, b1, b2, b3, rfl⟩ := wide4 hb
  rfl
theorem carry2_succ {a b : Wide} {k : Nat} (ha : a.length = 4) (hb : b.length = 4) (hk : k < 4) : (carryN addS addC a b (k + 1)).2 = addC (a.getD k default) (b.getD k default) (carryN addS addC a b k).2 := by
  obtain ⟨a0, a1, a2, a3, rfl⟩ := wide4 ha
  obtain ⟨b0, b1, b2, b3, rfl⟩ := wide4 hb
  match k, hk with
  | 0, _ => rfl
  | 1, _ => rfl
  | 2, _ => rfl
  | 3, _ => rfl
theorem addS_eq (x y c : UInt64) : addS x y c = x + y + c := by
  apply UInt64.toNat_inj.1
  rw [addS_n, UInt64.toNat_add, UInt64.toNat_add]; omega
theorem add_over {x y c : UInt64} (hc : c.toNat ≤ 1) : addC x y c = if x + y < x ∨ x + y + c < x + y then 1 else 0 := by
  have hx : x.toNat < 18446744073709551616 := x.toNat_lt
  have hy : y.toNat < 18446744073709551616 := y.toNat_lt
  apply UInt64.toNat_inj.1
  rw [addC_n _ _ hc]
  simp only [UInt64.lt_iff_toNat_lt, UInt64.toNat_add]
  split
  · show _ = 1; omega
  · show _ = 0; omega
theorem rofW_ok (n : UInt64) : Tells P 90 [.val u64T n] (.val wideT (ofW n)) := by
 refine fn_of_aw Tryz.func90 rfl rfl rfl (fun ext w hext => ?_)
 refine CQR ?_; refine aw_alloc ze_26 rfl rfl rfl rfl ?_; refine CNQR ?_; refine A0 mV ?_; refine A0 (g_buildA (T := u64T) (xs := [_, _, _, _]) rfl ar_26 ze_26 ⟨rfl, rfl, rfl, rfl, rfl, rfl, rfl, rfl, trivial⟩ rfl) ?_
 refine aw_store_b rfl rfl rfl rfl rfl (Lens.self _) ty_26 rfl ?_; refine CN ?_
 exact aw_retc1 rfl rfl rfl rfl ty_26 (rfl)
theorem rcmpW_ok (a b : Wide) : Tells P 197 [.val wideT a, .val wideT b] (.val i64T (cmpW a b)) := by
 refine fn_of_aw Tryz.func197 rfl rfl rfl (fun ext w hext => ?_)
 refine aw_fact (d := 0) rfl fact_wide (fun ha => ?_)
 refine aw_fact (d := 1) rfl fact_wide (fun hb => ?_)
 refine CQR ?_; refine aw_box rfl rfl rfl rfl rfl ?_; refine aw_box rfl rfl rfl rfl rfl ?_; refine A0 aV ?_; refine CNQQR ?_; refine A0 aV ?_; refine CNB ?_
 refine Lp (ι := Nat) 2 (fun (k : Nat) => (((Fr.none).set 2 (.ptr 0 0)).set 3 (.ptr 1 0)).set 5 (.val i64T ((k : Int) - 1))) (fun (k : Nat) => ((Hp.none).set 0 (.box 26 wideT a)).set 1 (.box 26 wideT b)) (fun (k : Nat) => k ≤ 4 ∧ cmpW a b = rcmp a b k) (fun (k : Nat) => k) (4) (⟨Nat.le_refl _, rcmp_all a b⟩) ?_
 intro k hinv
 refine CQQR ?_; refine A0 mV ?_; refine A0 o_geq ?_; refine CN ?_
 refine Cf (p := 0 < k) (fun ht7 => ?_) (fun ht7 => ?_)
 ·
  refine CS ?_; refine CQ ?_; refine CB ?_; refine CQ ?_; refine CQ ?_; refine CD mixed ?_; refine G0 mV ?_; refine G0 (g_ia_b0 (i := k - 1) rfl rfl rfl (by first | omega | rfl) ar_26 (by omega)) ?_
  refine G0 (g_load_b rfl rfl rfl (Lens.elem (i := k - 1) (by omega) u64T) ty_24) ?_; refine G0 mV ?_; refine G0 (g_ia_b0 (i := k - 1) rfl rfl rfl (by first | omega | rfl) ar_26 (by omega)) ?_
  refine G0 (g_load_b rfl rfl rfl (Lens.elem (i := k - 1) (by omega) u64T) ty_24) ?_; refine G0 o_lss ?_; refine GK.nil ?_
  refine aw_ifc (p := a.getD (k - 1) default < b.getD (k - 1) default) rfl (by simp [IntL.toI, UInt64.lt_iff_toNat_lt]) (fun ht16 => ?_) (fun ht16 => ?_)
  ·
   refine CQR ?_; refine A0 aV ?_; refine CN ?_
   exact aw_ret1 rfl rfl (ret_eq rfl (by rw [hinv.2, rcmp_lt ht7 ht16]))
  ·
   refine CS ?_; refine CQ ?_; refine CD mixed ?_; refine G0 mV ?_; refine G0 (g_ia_b0 (i := k - 1) rfl rfl rfl (by first | omega | rfl) ar_26 (by omega)) ?_; refine G0 (g_load_b rfl rfl rfl (Lens.elem (i := k - 1) (by omega) u64T) ty_24) ?_
   refine G0 mV ?_; refine G0 (g_ia_b0 (i := k - 1) rfl rfl rfl (by first | omega | rfl) ar_26 (by omega)) ?_; refine G0 (g_load_b rfl rfl rfl (Lens.elem (i := k - 1) (by omega) u64T) ty_24) ?_; refine G0 o_gtr ?_; refine GK.nil ?_
   refine aw_ifc (p := b.getD (k - 1) default < a.getD (k - 1) default) rfl (by simp [IntL.toI, UInt64.lt_iff_toNat_lt]) (fun ht23 => ?_) (fun ht23 => ?_)
   ·
    refine CQR ?_; refine A0 aV ?_; refine CN ?_
    exact aw_ret1 rfl rfl (ret_eq rfl (by rw [hinv.2, rcmp_gt ht7 ht16 ht23]))
   ·
    refine CSIR ?_; refine A0 mV ?_; refine A0 o_sub ?_; refine A0 aV ?_; refine CN ?_; refine aw_reval (d := 5) (y := ((k - 1 : Nat) : Int) - 1) rfl (by omega) ?_
    exact Nx (k - 1) (⟨by omega, by rw [hinv.2, rcmp_eq ht7 ht16 ht23]⟩) (by omega)
 ·
  obtain rfl : k = 0 := (by omega)
  refine CE ?_; refine CQR ?_; refine A0 aV ?_; refine CN ?_
  exact aw_ret1 rfl rfl (ret_eq rfl (by rw [hinv.2]; rfl))
theorem raddW_ok (a b : Wide) : Tells P 138 [.val wideT a, .val wideT b] (.tup2 (.val wideT (addW a b)) (.val boolT (addOk a b))) := by
 refine fn_of_aw Tryz.func138 rfl rfl rfl (fun ext w hext => ?_)
 refine aw_fact (d := 0) rfl fact_wide (fun ha => ?_)
 refine aw_fact (d := 1) rfl fact_wide (fun hb => ?_)
 refine CQR ?_; refine aw_box rfl rfl rfl rfl rfl ?_; refine aw_box rfl rfl rfl rfl rfl ?_; refine aw_alloc ze_26 rfl rfl rfl rfl ?_; refine A0 aV ?_; refine CNQR ?_; refine aw_alloc ze_26 rfl rfl rfl rfl ?_; refine CNQR ?_; refine A0 aV ?_
 refine CNQQR ?_; refine A0 aV ?_; refine CNB ?_
 refine Lp (ι := Nat) 4 (fun (k : Nat) => ((((((Fr.none).set 2 (.ptr 0 0)).set 3 (.ptr 1 0)).set 4 (.ptr 2 0)).set 6 (.ptr 3 0)).set 7 (.val u64T (carryN addS addC a b k).2)).set 8 (.val i64T (k : Int))) (fun (k : Nat) => ((((Hp.none).set 0 (.box 26 wideT a)).set 1 (.box 26 wideT b)).set 2 (.box 26 wideT zWide)).set 3 (.box 26 wideT (setN (radF a b) zWide k))) (fun (k : Nat) => k ≤ 4 ∧ (carryN addS addC a b k).2.toNat ≤ 1) (fun (k : Nat) => 4 - k) (0) (⟨Nat.zero_le _, Nat.zero_le 1⟩) ?_
 intro k hinv
 refine CQQR ?_; refine A0 mV ?_; refine A0 o_lss ?_; refine CN ?_
 refine Cf (p := k < 4) (fun ht12 => ?_) (fun ht12 => ?_)
 ·
  have hc2 := (carry2_succ ha hb ht12).trans (add_over hinv.2)
  refine CS ?_; refine CQ ?_; refine CB ?_; refine CQ ?_; refine CD mixed ?_; refine G0 mV ?_; refine G0 (g_ia_b0 (i := k) rfl rfl rfl (by first | omega | rfl) ar_26 (by omega)) ?_
  refine G0 (g_load_b rfl rfl rfl (Lens.elem (i := k) (by omega) u64T) ty_24) ?_; refine G0 mV ?_; refine G0 (g_ia_b0 (i := k) rfl rfl rfl (by first | omega | rfl) ar_26 (by omega)) ?_
  refine G0 (g_load_b rfl rfl rfl (Lens.elem (i := k) (by omega) u64T) ty_24) ?_; refine G0 (g_add64 rfl rfl rfl) ?_; refine G0 aV ?_; refine GK.nil ?_; refine CQR ?_; refine A0 mV ?_; refine A0 mV ?_; refine A0 (g_add64 rfl rfl rfl) ?_
  refine A0 aV ?_; refine CNQR ?_; refine A0 aV ?_; refine CNQQR ?_; refine A0 mV ?_; refine A0 mV ?_; refine A0 (g_ia_b0 (i := k) rfl rfl rfl (by first | omega | rfl) ar_26 (by omega)) ?_
  refine A0 (g_load_b rfl rfl rfl (Lens.elem (i := k) (by omega) u64T) ty_24) ?_; refine A0 o_lss ?_; refine A0 mV ?_
  refine aw_splitp (d := 30) (p := a.getD k default + b.getD k default < a.getD k default) rfl (decide_eq_decide.2 (by rw [UInt64.lt_iff_toNat_lt]; exact Int.ofNat_lt)) (fun g30 => ?_) (fun g30 => ?_)
  ·
   refine A2 ?_; refine A2 ?_; refine A2 ?_; refine A0 oK ?_; refine CN ?_; refine Ct ?_; refine CR ?_; refine A0 aV ?_; refine CNR ?_; refine A0 mV ?_; refine A0 mV ?_
   refine A0 (g_ia_b0 (i := k) rfl rfl rfl (by first | omega | rfl) ar_26 (by omega)) ?_; refine aw_store_b rfl rfl rfl rfl rfl (Lens.elem (i := k) (by omega) u64T) ty_24 rfl ?_; refine CNIR ?_; refine A0 mV ?_; refine A0 o_add ?_
   refine A0 aV ?_; refine CN ?_; refine aw_reheap (n := 3) (y := setN (radF a b) zWide (k + 1)) rfl (by rw [← setN_succ]; unfold radF; rw [addS_eq]) ?_
   refine aw_reval (d := 7) (y := (carryN addS addC a b (k + 1)).2) rfl (by rw [hc2, if_pos (.inl g30)]; rfl) ?_
   exact Nx (k + 1) (⟨by omega, by rw [carry2_succ ha hb ht12]; exact addC_le _ _ hinv.2⟩) (by omega)
  ·
   refine A1 mV ?_; refine A1 mV ?_; refine A1 o_lss ?_; refine A0 oK ?_; refine CN ?_
   refine aw_ifc (p := a.getD k default + b.getD k default + (carryN addS addC a b k).2 < a.getD k default + b.getD k default) rfl (decide_eq_decide.2 (by rw [UInt64.lt_iff_toNat_lt]; exact Int.ofNat_lt)) (fun ht34 => ?_) (fun ht34 => ?_)
   ·
    refine CR ?_; refine A0 aV ?_; refine CNR ?_; refine A0 mV ?_; refine A0 mV ?_; refine A0 (g_ia_b0 (i := k) rfl rfl rfl (by first | omega | rfl) ar_26 (by omega)) ?_
    refine aw_store_b rfl rfl rfl rfl rfl (Lens.elem (i := k) (by omega) u64T) ty_24 rfl ?_; refine CNIR ?_; refine A0 mV ?_; refine A0 o_add ?_; refine A0 aV ?_; refine CN ?_
    refine aw_reheap (n := 3) (y := setN (radF a b) zWide (k + 1)) rfl (by rw [← setN_succ]; unfold radF; rw [addS_eq]) ?_; refine aw_reval (d := 7) (y := (carryN addS addC a b (k + 1)).2) rfl (by rw [hc2, if_pos (.inr ht34)]; rfl) ?_
    exact Nx (k + 1) (⟨by omega, by rw [carry2_succ ha hb ht12]; exact addC_le _ _ hinv.2⟩) (by omega)
   ·
    refine CS ?_; refine CR ?_; refine A0 mV ?_; refine A0 mV ?_; refine A0 (g_ia_b0 (i := k) rfl rfl rfl (by first | omega | rfl) ar_26 (by omega)) ?_; refine aw_store_b rfl rfl rfl rfl rfl (Lens.elem (i := k) (by omega) u64T) ty_24 rfl ?_
    refine CNIR ?_; refine A0 mV ?_; refine A0 o_add ?_; refine A0 aV ?_; refine CN ?_; refine aw_reheap (n := 3) (y := setN (radF a b) zWide (k + 1)) rfl (by rw [← setN_succ]; unfold radF; rw [addS_eq]) ?_
    refine aw_reval (d := 7) (y := (carryN addS addC a b (k + 1)).2) rfl (by rw [hc2, if_neg (fun h => h.elim g30 ht34)]; rfl) ?_
    exact Nx (k + 1) (⟨by omega, by rw [carry2_succ ha hb ht12]; exact addC_le _ _ hinv.2⟩) (by omega)
 ·
  obtain rfl : k = 4 := (by omega)
  refine CE ?_; refine CQR ?_; refine A0 (oLs rfl rfl rfl ty_26) ?_; refine A0 mV ?_; refine A0 o_eql ?_; refine aw_store_b rfl rfl rfl rfl rfl (Lens.self _) ty_26 rfl ?_; refine A0 aV ?_; refine CN ?_
  exact aw_retr2 rfl rfl (rv_cell rfl rfl ty_26 ((setN_all (k := 4) rfl).trans (radF_all ha hb))) (rv_tmp (ret_eq rfl (by unfold addOk; rw [decide_eq_decide]; simp [IntL.toI])))
def maxU : UInt64 := UInt64.ofNat (Int.toNat 18446744073709551615)
def highU : UInt64 := UInt64.ofNat (Int.toNat 9223372036854775808)
theorem maxU_n : maxU.toNat = 18446744073709551615 := by unfold maxU; rw [show Int.toNat 18446744073709551615 = 18446744073709551615 from rfl]; exact UInt64.toNat_ofNat_of_lt' (by decide)
theorem highU_n : highU.toNat = 9223372036854775808 := by unfold highU; rw [show Int.toNat 9223372036854775808 = 9223372036854775808 from rfl]; exact UInt64.toNat_ofNat_of_lt' (by decide)
def compF (b : Wide) (i : Nat) : UInt64 := maxU - b.getD i default
def compW (b : Wide) : Wide := (List.range 4).map (compF b)
theorem compW_n {b : Wide} (hb : b.length = 4) : (compW b).length = 4 ∧ nW (compW b) = W256 - 1 - nW b := by
  obtain ⟨b0, b1, b2, b3, rfl⟩ := wide4 hb
  have e : ∀ x : UInt64, (maxU - x).toNat = 18446744073709551615 - x.toNat := fun x => by
    have hx : x.toNat < 18446744073709551616 := x.toNat_lt
    rw [UInt64.toNat_sub_of_le _ _ (by rw [UInt64.le_iff_toNat_le, maxU_n]; omega), maxU_n]
  refine ⟨rfl, ?_⟩
  show nW [maxU - b0, maxU - b1, maxU - b2, maxU - b3] = _
  have k0 : b0.toNat < 18446744073709551616 := b0.toNat_lt
  have k1 : b1.toNat < 18446744073709551616 := b1.toNat_lt
  have k2 : b2.toNat < 18446744073709551616 := b2.toNat_lt
  have k3 : b3.toNat < 18446744073709551616 := b3.toNat_lt
  unfold nW W256
  simp only [List.getD_cons_zero, List.getD_cons_succ, e]
  omega
theorem rsub_eq {a b : Wide} (ha : a.length = 4) (hb : b.length = 4) : addW (addW a (compW b)) (ofW 1) = subW a b := by
  obtain ⟨c1, c2⟩ := compW_n hb
  refine nW_inj (addW_len (addW_len ha c1) rfl) (subW_len ha hb) ?_
  rw [nW_add (addW_len ha c1) rfl, nW_add ha c1, c2, (nW_sub ha hb).1]
  have h1 := nW_lt ha
  have h2 := nW_lt hb
  have h3 : nW (ofW 1) = 1 := rfl
  rw [h3]; unfold W256 at *; omega
theorem rsub_ok {a b : Wide} (ha : a.length = 4) (hb : b.length = 4) : decide (0 ≤ cmpW a b) = subOk a b := by
  rw [Bool.eq_iff_iff, decide_eq_true_iff, (nW_sub ha hb).2, cmpW_n ha hb]
  split
  · omega
  · split <;> omega
def hafF (a : Wide) (i : Nat) : UInt64 := a.getD i default / 2 + (if i = 3 then 0 else a.getD (i + 1) default % 2 * highU)
def hafN (a : Wide) (j : Nat) : Wide := (List.range j).foldl (fun l i => l.set (3 - i) (hafF a (3 - i))) zWide
theorem hafN_succ {a : Wide} {j : Nat} : (hafN a j).set (3 - j) (hafF a (3 - j)) = hafN a (j + 1) := (fold_succ (f := fun (l : List UInt64) i => l.set (3 - i) (hafF a (3 - i)))).symm
theorem haf_all {a : Wide} (ha : a.length = 4) : hafN a 4 = downW a 1 := by
  obtain ⟨a0, a1, a2, a3, rfl⟩ := wide4 ha
  refine nW_inj rfl (downW_len rfl) ?_
  have h := nW_down (a := [a0, a1, a2, a3]) (n := 1) rfl (by decide)
  rw [show ((1 : Nat) : Int) = 1 from rfl] at h
  rw [h]
  show nW [a0 / 2 + a1 % 2 * highU, a1 / 2 + a2 % 2 * highU, a2 / 2 + a3 % 2 * highU, a3 / 2 + 0] = _
  have h0 : a0.toNat < 18446744073709551616 := a0.toNat_lt
  have h1 : a1.toNat < 18446744073709551616 := a1.toNat_lt
  have h2 : a2.toNat < 18446744073709551616 := a2.toNat_lt
  have h3 : a3.toNat < 18446744073709551616 := a3.toNat_lt
  have t2 : (2 : UInt64).toNat = 2 := rfl
  have t9 := highU_n
  have t0 : (0 : UInt64).toNat = 0 := rfl
  unfold nW
  simp only [List.getD_cons_zero, List.getD_cons_succ, UInt64.toNat_add, UInt64.toNat_mul, UInt64.toNat_div, UInt64.toNat_mod, t2, t9, t0]
  omega
theorem down_step {a : Wide} {k : Nat} (ha : a.length = 4) (hk : k + 1 < 256) : downW (downW a k) 1 = downW a ((k : Int) + 1) := by
  refine nW_inj (downW_len (downW_len ha)) (downW_len ha) ?_
  have h1 := nW_down (n := k) ha (by omega)
  have h2 := nW_down (n := k + 1) ha hk
  have h3 := nW_down (n := 1) (downW_len (n := (k : Int)) ha) (by decide)
  rw [show ((1 : Nat) : Int) = 1 from rfl, h1, Nat.div_div_eq_div_mul, ← Nat.pow_succ] at h3
  rw [show ((k + 1 : Nat) : Int) = (k : Int) + 1 by omega] at h2
  rw [h3, h2]
theorem down_zero {a : Wide} (ha : a.length = 4) : downW a 0 = a := by
  refine nW_inj (downW_len ha) ha ?_
  have := nW_down (n := 0) ha (by decide)
  rw [show ((0 : Nat) : Int) = 0 from rfl] at this
  rw [this, Nat.pow_zero, Nat.div_one]
theorem up_zero {a : Wide} (ha : a.length = 4) : upW a 0 = a := by
  refine nW_inj (upW_len ha) ha ?_
  have := nW_up (n := 0) ha (by decide)
  rw [show ((0 : Nat) : Int) = 0 from rfl] at this
  rw [this, Nat.pow_zero, Nat.mul_one, Nat.mod_eq_of_lt (nW_lt ha)]
theorem down_end {a : Wide} {n : Int} {k : Nat} (ha : a.length = 4) (h : k = 0 ∨ (k : Int) ≤ n) (h2 : ¬ (k : Int) < n) : downW a k = downW a n := by
  by_cases c : n < 0
  · have hk : k = 0 := by omega
    subst hk
    rw [show ((0 : Nat) : Int) = 0 from rfl, down_zero ha]
    unfold downW; rw [if_pos c]
  · rw [show (k : Int) = n by omega]
theorem up_end {a : Wide} {n : Int} {k : Nat} (ha : a.length = 4) (h : k = 0 ∨ (k : Int) ≤ n) (h2 : ¬ (k : Int) < n) : upW a k = upW a n := by
  by_cases c : n < 0
  · have hk : k = 0 := by omega
    subst hk
    rw [show ((0 : Nat) : Int) = 0 from rfl, up_zero ha]
    unfold upW; rw [if_pos c]
  · rw [show (k : Int) = n by omega]
theorem up_step {a : Wide} {k : Nat} (ha : a.length = 4) (hk : k + 1 < 256) : addW (upW a k) (upW a k) = upW a ((k : Int) + 1) := by
  refine nW_inj (addW_len (upW_len ha) (upW_len ha)) (upW_len ha) ?_
  have h1 := nW_up (n := k) ha (by omega)
  have h2 := nW_up (n := k + 1) ha hk
  rw [show ((k + 1 : Nat) : Int) = (k : Int) + 1 by omega] at h2
  rw [nW_add (upW_len ha) (upW_len ha), h1, h2, Nat.pow_succ, ← Nat.mul_assoc]
  unfold W256; omega
theorem rhalf_ok (a : Wide) : Tells P 218 [.val wideT a] (.val wideT (downW a 1)) := by
 refine fn_of_aw Tryz.func218 rfl rfl rfl (fun ext w hext => ?_)
 refine aw_fact (d := 0) rfl fact_wide (fun ha => ?_)
 refine CQR ?_; refine aw_box rfl rfl rfl rfl rfl ?_; refine aw_alloc ze_26 rfl rfl rfl rfl ?_; refine CNQR ?_; refine aw_alloc ze_26 rfl rfl rfl rfl ?_; refine CNQR ?_; refine A0 aV ?_; refine CNQQR ?_; refine A0 aV ?_; refine CNB ?_
 refine Lp (ι := Nat) 3 (fun (k : Nat) => (((((Fr.none).set 1 (.ptr 0 0)).set 2 (.ptr 1 0)).set 3 (.ptr 2 0)).set 4 (.val u64T (if k = 4 then 0 else a.getD k default % 2 * highU))).set 5 (.val i64T ((k : Int) - 1))) (fun (k : Nat) => (((Hp.none).set 0 (.box 26 wideT a)).set 1 (.box 26 wideT zWide)).set 2 (.box 26 wideT (hafN a (4 - k)))) (fun (k : Nat) => k ≤ 4) (fun (k : Nat) => k) (4) (Nat.le_refl _) ?_
 intro k hinv
 refine CQQR ?_; refine A0 mV ?_; refine A0 o_geq ?_; refine CN ?_
 refine Cf (p := 0 < k) (fun ht7 => ?_) (fun ht7 => ?_)
 ·
  refine CSQBQR ?_; refine A0 mV ?_; refine A0 mV ?_; refine A0 (g_ia_b0 (i := k - 1) rfl rfl rfl (by first | omega | rfl) ar_26 (by omega)) ?_; refine A0 (g_load_b rfl rfl rfl (Lens.elem (i := k - 1) (by omega) u64T) ty_24) ?_
  refine A0 (g_quo64 rfl rfl rfl (by decide)) ?_; refine A0 mV ?_; refine A0 (g_add64 rfl rfl rfl) ?_; refine A0 (g_ia_b0 (i := k - 1) rfl rfl rfl (by first | omega | rfl) ar_26 (by omega)) ?_
  refine aw_store_b rfl rfl rfl rfl rfl (Lens.elem (i := k - 1) (by omega) u64T) ty_24 rfl ?_; refine CNR ?_; refine A0 mV ?_; refine A0 (g_ia_b0 (i := k - 1) rfl rfl rfl (by first | omega | rfl) ar_26 (by omega)) ?_
  refine A0 (g_load_b rfl rfl rfl (Lens.elem (i := k - 1) (by omega) u64T) ty_24) ?_; refine A0 (g_rem64 rfl rfl rfl (by decide)) ?_; refine A0 (g_mul64 rfl rfl rfl) ?_; refine A0 aV ?_; refine CNIR ?_; refine A0 mV ?_; refine A0 o_sub ?_
  refine A0 aV ?_; refine CN ?_
  refine aw_reheap (n := 2) (y := hafN a (4 - (k - 1))) rfl (by rw [show 4 - (k - 1) = 4 - k + 1 by omega, ← hafN_succ, show 3 - (4 - k) = k - 1 by omega]; unfold hafF; congr 2; rw [show k - 1 + 1 = k by omega]; split <;> split <;> first | rfl | omega) ?_
  refine aw_reval (d := 4) (y := (if k - 1 = 4 then 0 else a.getD (k - 1) default % 2 * highU)) rfl (by rw [if_neg (by omega)]; rfl) ?_; refine aw_reval (d := 5) (y := ((k - 1 : Nat) : Int) - 1) rfl (by omega) ?_
  exact Nx (k - 1) (by omega) (by omega)
 ·
  obtain rfl : k = 0 := (by omega)
  refine CE ?_; refine CQR ?_; refine A0 (oLs rfl rfl rfl ty_26) ?_; refine aw_store_b rfl rfl rfl rfl rfl (Lens.self _) ty_26 rfl ?_; refine CN ?_
  exact aw_retc1 rfl rfl rfl rfl ty_26 (haf_all ha)
theorem rdownW_ok (a : Wide) (n : Int) : Tells P 199 [.val wideT a, .val i64T n] (.val wideT (downW a n)) := by
 refine fn_of_aw Tryz.func199 rfl rfl rfl (fun ext w hext => ?_)
 refine aw_fact (d := 1) rfl fact_int (fun hin1 => ?_)
 refine aw_fact (d := 0) rfl fact_wide (fun ha => ?_)
 refine CQR ?_; refine aw_box rfl rfl rfl rfl rfl ?_; refine aw_alloc ze_26 rfl rfl rfl rfl ?_; refine CNQQR ?_; refine A0 mV ?_; refine A0 o_geq ?_; refine CN ?_
 refine Cf (p := 256 ≤ n) (fun ht7 => ?_) (fun ht7 => ?_)
 ·
  refine CQR ?_; refine A0 (g_buildZ rfl ar_26 ze_26 rfl) ?_; refine aw_store_b rfl rfl rfl rfl rfl (Lens.self _) ty_26 rfl ?_; refine CN ?_
  exact aw_retc1 rfl rfl rfl rfl ty_26 (by unfold downW; rw [if_neg (by omega), if_pos ht7])
 ·
  refine CSQQR ?_; refine A0 aV ?_; refine CNB ?_; refine aw_reheap (n := 0) (y := downW a ((0 : Nat) : Int)) rfl (down_zero ha).symm ?_
  refine Lp (ι := Nat) 2 (fun (k : Nat) => ((((Fr.none).set 1 (.val i64T n)).set 2 (.ptr 0 0)).set 4 (.ptr 1 0)).set 5 (.val i64T (k : Int))) (fun (k : Nat) => ((Hp.none).set 0 (.box 26 wideT (downW a (k : Int)))).set 1 (.box 26 wideT zWide)) (fun (k : Nat) => k = 0 ∨ (k : Int) ≤ n) (fun (k : Nat) => n.toNat - k) (0) (.inl rfl) ?_
  intro k hinv
  refine CQQR ?_; refine A0 mV ?_; refine A0 mV ?_; refine A0 o_lss ?_; refine CN ?_
  refine Cf (p := (k : Int) < n) (fun ht11 => ?_) (fun ht11 => ?_)
  ·
   refine CS ?_; refine CQ ?_; refine CB ?_; refine CR ?_; refine A0 (oLs rfl rfl rfl ty_26) ?_; refine A0 (oCl (rhalf_ok (downW a k)) rfl fn_218 ⟨(arg_v rfl), trivial⟩) ?_; refine aw_store_b rfl rfl rfl rfl rfl (Lens.self _) ty_26 rfl ?_
   refine CNIR ?_; refine A0 mV ?_; refine A0 o_add ?_; refine A0 aV ?_; refine CN ?_; refine aw_reheap (n := 0) (y := downW a ((k + 1 : Nat) : Int)) rfl (by rw [down_step ha (by omega)]; congr 1) ?_
   exact Nx (k + 1) (.inr (by omega)) (by omega)
  ·
   refine CE ?_; refine CQR ?_; refine A0 (oLs rfl rfl rfl ty_26) ?_; refine aw_store_b rfl rfl rfl rfl rfl (Lens.self _) ty_26 rfl ?_; refine CN ?_
   exact aw_retc1 rfl rfl rfl rfl ty_26 (down_end ha hinv ht11)
theorem rupW_ok (a : Wide) (n : Int) : Tells P 89 [.val wideT a, .val i64T n] (.val wideT (upW a n)) := by
 refine fn_of_aw Tryz.func89 rfl rfl rfl (fun ext w hext => ?_)
 refine aw_fact (d := 1) rfl fact_int (fun hin1 => ?_)
 refine aw_fact (d := 0) rfl fact_wide (fun ha => ?_)
 refine CQR ?_; refine aw_box rfl rfl rfl rfl rfl ?_; refine aw_alloc ze_26 rfl rfl rfl rfl ?_; refine CNQQR ?_; refine A0 mV ?_; refine A0 o_geq ?_; refine CN ?_
 refine Cf (p := 256 ≤ n) (fun ht9 => ?_) (fun ht9 => ?_)
 ·
  refine CQR ?_; refine A0 (g_buildZ rfl ar_26 ze_26 rfl) ?_; refine aw_store_b rfl rfl rfl rfl rfl (Lens.self _) ty_26 rfl ?_; refine CN ?_
  exact aw_retc1 rfl rfl rfl rfl ty_26 (by unfold upW; rw [if_neg (by omega), if_pos ht9])
 ·
  refine CSQQR ?_; refine A0 aV ?_; refine CNB ?_; refine aw_reheap (n := 0) (y := upW a ((0 : Nat) : Int)) rfl (up_zero ha).symm ?_
  refine Lp (ι := Nat) 2 (fun (k : Nat) => ((((Fr.none).set 1 (.val i64T n)).set 2 (.ptr 0 0)).set 4 (.ptr 1 0)).set 5 (.val i64T (k : Int))) (fun (k : Nat) => ((Hp.none).set 0 (.box 26 wideT (upW a (k : Int)))).set 1 (.box 26 wideT zWide)) (fun (k : Nat) => k = 0 ∨ (k : Int) ≤ n) (fun (k : Nat) => n.toNat - k) (0) (.inl rfl) ?_
  intro k hinv
  refine CQQR ?_; refine A0 mV ?_; refine A0 mV ?_; refine A0 o_lss ?_; refine CN ?_
  refine Cf (p := (k : Int) < n) (fun ht13 => ?_) (fun ht13 => ?_)
  ·
   refine CSQBQR ?_; refine A0 (oLs rfl rfl rfl ty_26) ?_; refine A0 (oLs rfl rfl rfl ty_26) ?_; refine A0 (oCl (raddW_ok (upW a k) (upW a k)) rfl fn_138 ⟨(arg_v rfl), (arg_v rfl), trivial⟩) ?_; refine A0 mX ?_
   refine A0 (by first | exact g_x20 rfl rfl | exact g_x30 rfl rfl) ?_; refine A0 (by first | exact g_x21 rfl rfl | exact g_x31 rfl rfl) ?_; refine aw_alloc ze_26 rfl rfl rfl rfl ?_
   refine aw_store_b rfl rfl rfl rfl rfl (Lens.self _) ty_26 rfl ?_; refine A0 aV ?_; refine CNR ?_; refine A0 (oLs rfl rfl rfl ty_26) ?_; refine aw_store_b rfl rfl rfl rfl rfl (Lens.self _) ty_26 rfl ?_; refine CNIR ?_; refine A0 mV ?_
   refine A0 o_add ?_; refine A0 aV ?_; refine CN ?_; refine aw_reheap (n := 0) (y := upW a ((k + 1 : Nat) : Int)) rfl (by rw [up_step ha (by omega)]; congr 1) ?_
   exact Nx (k + 1) (.inr (by omega)) (by omega)
  ·
   refine CE ?_; refine CQR ?_; refine A0 (oLs rfl rfl rfl ty_26) ?_; refine aw_store_b rfl rfl rfl rfl rfl (Lens.self _) ty_26 rfl ?_; refine CN ?_
   exact aw_retc1 rfl rfl rfl rfl ty_26 (up_end ha hinv ht13)
end Go.Proofs.YtgoiacajjicjcaaGreat
set_option maxRecDepth 20000
namespace Go.Proofs.YtgoiacajjicjcaaGreat
set_option linter.unusedVariables false
set_option linter.unusedSimpArgs false
open Go.Ab Go.RowKit
def powN : Nat → UInt32
  | 0 => 1
  | n + 1 => 2 * powN n
theorem powN_nat : ∀ n, n < 32 → (powN n).toNat = 2 ^ n
  | 0, _ => rfl
  | n + 1, h => by
    have ih := powN_nat n (by omega)
    have h2 : 2 ^ n ≤ 2 ^ 30 := Nat.pow_le_pow_right (by decide) (by omega)
    rw [powN, UInt32.toNat_mul, ih, Nat.pow_succ]
    have e : (2 : UInt32).toNat = 2 := rfl
    rw [e]
    omega
theorem turn_n : ∀ n : Nat, n < 32 → 0 < n → (u64OfI (IntKind.i64.wrap (0 - (n : Int))) &&& 31).toNat = 32 - n ∧ (32 - (u64OfI (IntKind.i64.wrap (0 - (n : Int))) &&& 31)).toNat = n := by decide +kernel
theorem or_add {a b k : Nat} (h : b < 2 ^ k) : a * 2 ^ k ||| b = a * 2 ^ k + b := by
  rw [Nat.mul_comm]
  exact (Nat.two_pow_add_eq_or_of_lt h a).symm
theorem turn_rr (x : UInt32) {n : Nat} (h0 : 0 < n) (h : n < 32) : x / powN n + x * powN (32 - n) = rr x n := by
  have hx : x.toNat < 2 ^ 32 := x.toNat_lt
  obtain ⟨e1, e2⟩ := turn_n n h h0
  apply UInt32.toNat_inj.1
  unfold rr rotl
  rw [e1, e2, UInt32.toNat_add, UInt32.toNat_div, UInt32.toNat_mul, powN_nat n h, powN_nat (32 - n) (by omega), UInt32.toNat_or]
  unfold shl32 shr32
  rw [UInt32.toNat_ofNat', Nat.min_eq_left (by omega), UInt32.toNat_ofNat_of_lt' (Nat.lt_of_le_of_lt (Nat.div_le_self _ _) hx), Nat.min_eq_left (by omega)]
  have hp : 2 ^ 32 = 2 ^ n * 2 ^ (32 - n) := by rw [← Nat.pow_add]; congr 1; omega
  have hm : x.toNat * 2 ^ (32 - n) % 2 ^ 32 = x.toNat % 2 ^ n * 2 ^ (32 - n) := by rw [hp, Nat.mul_mod_mul_right]
  have hd : x.toNat / 2 ^ n < 2 ^ (32 - n) := by rw [Nat.div_lt_iff_lt_mul (Nat.two_pow_pos n), Nat.mul_comm, ← hp]; exact hx
  rw [hm, or_add hd, Nat.add_comm]
  refine Nat.mod_eq_of_lt ?_
  have hl := Nat.mod_lt x.toNat (Nat.two_pow_pos n)
  have : x.toNat % 2 ^ n * 2 ^ (32 - n) + 2 ^ (32 - n) ≤ 2 ^ n * 2 ^ (32 - n) := by
    rw [← Nat.succ_mul]
    exact Nat.mul_le_mul_right _ hl
  omega
theorem maj_eq (a b c : UInt32) : (a &&& b) ||| (a &&& c) ||| (b &&& c) = (a &&& b) ^^^ (a &&& c) ^^^ (b &&& c) := by
  apply UInt32.toBitVec_inj.1
  simp only [UInt32.toBitVec_or, UInt32.toBitVec_and, UInt32.toBitVec_xor]
  ext i hi
  simp only [BitVec.getElem_or, BitVec.getElem_and, BitVec.getElem_xor]
  cases a.toBitVec[i] <;> cases b.toBitVec[i] <;> cases c.toBitVec[i] <;> rfl
theorem not_eq (a : UInt32) : 4294967295 - a = ~~~ a := by
  apply UInt32.toNat_inj.1
  have ha : a.toNat < 4294967296 := a.toNat_lt
  rw [UInt32.toNat_sub, UInt32.toNat_not]
  have e : (4294967295 : UInt32).toNat = 4294967295 := rfl
  rw [e]
  have : UInt32.size = 4294967296 := rfl
  omega
theorem u32_of8 (x : UInt8) : (u32OfI (IntL.toI u8T x)).toNat = x.toNat := by
  have hx : x.toNat < 256 := x.toNat_lt
  unfold u32OfI
  show (UInt32.ofNat ((x.toNat : Int) % 4294967296).toNat).toNat = _
  rw [show ((x.toNat : Int) % 4294967296).toNat = x.toNat by omega, UInt32.toNat_ofNat_of_lt' (by show _ < 4294967296; omega)]
theorem be_eq (x0 x1 x2 x3 : UInt8) : 16777216 * u32OfI (IntL.toI u8T x0) + 65536 * u32OfI (IntL.toI u8T x1) + 256 * u32OfI (IntL.toI u8T x2) + u32OfI (IntL.toI u8T x3) = beWord x0 x1 x2 x3 := by
  have h0 : x0.toNat < 256 := x0.toNat_lt
  have h1 : x1.toNat < 256 := x1.toNat_lt
  have h2 : x2.toNat < 256 := x2.toNat_lt
  have h3 : x3.toNat < 256 := x3.toNat_lt
  apply UInt32.toNat_inj.1
  unfold beWord shl32
  simp only [UInt32.toNat_or, UInt32.toNat_add, UInt32.toNat_mul, u32_of8]
  rw [UInt32.toNat_ofNat_of_lt' (show x0.toNat * 2 ^ min 24 32 < 2 ^ 32 by show x0.toNat * 16777216 < 4294967296; omega), UInt32.toNat_ofNat_of_lt' (show x1.toNat * 2 ^ min 16 32 < 2 ^ 32 by show x1.toNat * 65536 < 4294967296; omega), UInt32.toNat_ofNat_of_lt' (show x2.toNat * 2 ^ min 8 32 < 2 ^ 32 by show x2.toNat * 256 < 4294967296; omega)]
  have e1 : x0.toNat * 2 ^ min 24 32 ||| x1.toNat * 2 ^ min 16 32 = (x0.toNat * 256 + x1.toNat) * 2 ^ 16 := by
    rw [show x0.toNat * 2 ^ min 24 32 = x0.toNat * 2 ^ 24 from rfl, or_add (k := 24) (by show x1.toNat * 65536 < 16777216; omega)]
    show x0.toNat * 16777216 + x1.toNat * 65536 = (x0.toNat * 256 + x1.toNat) * 65536
    omega
  rw [e1, or_add (k := 16) (by show x2.toNat * 256 < 65536; omega)]
  have e2 : (x0.toNat * 256 + x1.toNat) * 2 ^ 16 + x2.toNat * 2 ^ min 8 32 = ((x0.toNat * 256 + x1.toNat) * 256 + x2.toNat) * 2 ^ 8 := by
    show (x0.toNat * 256 + x1.toNat) * 65536 + x2.toNat * 256 = ((x0.toNat * 256 + x1.toNat) * 256 + x2.toNat) * 256
    omega
  rw [e2, or_add (k := 8) (by show x3.toNat < 256; omega)]
  have c1 : (16777216 : UInt32).toNat = 16777216 := rfl
  have c2 : (65536 : UInt32).toNat = 65536 := rfl
  have c3 : (256 : UInt32).toNat = 256 := rfl
  rw [c1, c2, c3]
  omega
theorem div8 (x : UInt32) : x / 8 = shr32 x 3 := by
  apply UInt32.toNat_inj.1
  have hx : x.toNat < 4294967296 := x.toNat_lt
  unfold shr32
  rw [UInt32.toNat_div, UInt32.toNat_ofNat_of_lt' (Nat.lt_of_le_of_lt (Nat.div_le_self _ _) hx)]
  rfl
theorem div1024 (x : UInt32) : x / 1024 = shr32 x 10 := by
  apply UInt32.toNat_inj.1
  have hx : x.toNat < 4294967296 := x.toNat_lt
  unfold shr32
  rw [UInt32.toNat_div, UInt32.toNat_ofNat_of_lt' (Nat.lt_of_le_of_lt (Nat.div_le_self _ _) hx)]
  rfl
theorem schedN_len {b : List UInt8} : ∀ k, (schedN b k).length = 64
  | 0 => by simp [schedN]
  | k + 1 => by
    have e : schedN b (k + 1) = schedStep b (schedN b k) k := fold_succ
    rw [e]; unfold schedStep
    have := schedN_len (b := b) k
    split <;> rw [List.length_set] <;> exact this
theorem take_set {α : Type} {l : List α} {k : Nat} {x : α} (hk : k < l.length) : (l.set k x).take (k + 1) = l.take k ++ [x] := by
  rw [List.take_add_one, List.take_set_of_le (Nat.le_refl k), List.getElem?_set_self hk]; rfl
theorem words_lo {b : List UInt8} {k : Nat} {x0 x1 x2 x3 : UInt8} (hk : k < 16) (h0 : b[4 * k]? = some x0) (h1 : b[4 * k + 1]? = some x1) (h2 : b[4 * k + 2]? = some x2) (h3 : b[4 * k + 3]? = some x3) : (schedN b k).take k ++ [16777216 * u32OfI (IntL.toI u8T x0) + 65536 * u32OfI (IntL.toI u8T x1) + 256 * u32OfI (IntL.toI u8T x2) + u32OfI (IntL.toI u8T x3)] = (schedN b (k + 1)).take (k + 1) := by
  rw [be_eq, ← sched_lo hk h0 h1 h2 h3, take_set (by rw [schedN_len]; omega)]
theorem take_getD {l : List UInt32} {k j : Nat} {x : UInt32} (h : (l.take k)[j]? = some x) : l.getD j default = x := by
  have hj : j < k := by
    have := (List.getElem?_eq_some_iff.1 h).1
    rw [List.length_take] at this; omega
  rw [List.getElem?_take_of_lt hj] at h
  rw [List.getD_eq_getElem?_getD, h]; rfl
theorem words_hi {b : List UInt8} {k : Nat} {u v x y : UInt32} (hk : ¬ k < 16) (hk2 : k < 64) (hu : ((schedN b k).take k)[k - 16]? = some u) (hv : ((schedN b k).take k)[k - 7]? = some v) (hx : ((schedN b k).take k)[k - 15]? = some x) (hy : ((schedN b k).take k)[k - 2]? = some y) :
    (schedN b k).take k ++ [u + (rr x 7 ^^^ rr x 18 ^^^ x / 8) + v + (rr y 17 ^^^ rr y 19 ^^^ y / 1024)] = (schedN b (k + 1)).take (k + 1) := by
  rw [← sched_hi hk, take_set (by rw [schedN_len]; omega), take_getD hu, take_getD hv, take_getD hx, take_getD hy, div8, div1024]
  unfold schedWord
  rw [UInt32.add_assoc u _ v, UInt32.add_comm _ v, ← UInt32.add_assoc]
theorem eight {l : List UInt32} (h : l.length = 8) : ∃ a b c d e f g i, l = [a, b, c, d, e, f, g, i] := by
  match l, h with
  | [a, b, c, d, e, f, g, i], _ => exact ⟨a, b, c, d, e, f, g, i, rfl⟩
theorem round_ref {w h : List UInt32} {k : Nat} {a b c d e f g i kk ww : UInt32} (hv : roundN w h k = [a, b, c, d, e, f, g, i]) (hk : shaK[k]? = some kk) (hw : w[k]? = some ww) :
    [i + (rr e 6 ^^^ rr e 11 ^^^ rr e 25) + ((e &&& f) ^^^ ((4294967295 - e) &&& g)) + kk + ww + (rr a 2 ^^^ rr a 13 ^^^ rr a 22) + ((a &&& b) ||| (a &&& c) ||| (b &&& c)), a, b, c, d + (i + (rr e 6 ^^^ rr e 11 ^^^ rr e 25) + ((e &&& f) ^^^ ((4294967295 - e) &&& g)) + kk + ww), e, f, g] = roundN w h (k + 1) := by
  rw [← round_succ, hv, maj_eq, not_eq, UInt32.add_assoc _ _ ((a &&& b) ^^^ (a &&& c) ^^^ (b &&& c))]
  unfold roundStep roundX roundY
  simp only [List.getD_eq_getElem?_getD (l := shaK), List.getD_eq_getElem?_getD (l := w), hk, hw, Option.getD_some]
  rfl
theorem sumN_comm {v s : List UInt32} (hv : v.length = 8) (hs : s.length = 8) : sumN v s 8 = sumN s v 8 := by
  obtain ⟨a, b, c, d, e, f, g, i, rfl⟩ := eight hv
  obtain ⟨a', b', c', d', e', f', g', i', rfl⟩ := eight hs
  show [a' + a, b' + b, c' + c, d' + d, e' + e, f' + f, g' + g, i' + i] = [a + a', b + b', c + c', d + d', e + e', f + f', g + g', i + i']
  simp only [UInt32.add_comm]
theorem sum_succ2 {v s : List UInt32} {k : Nat} {x y : UInt32} (h : v[k]? = some x) (hy : (sumN v s k)[k]? = some y) : (sumN v s k).set k (y + x) = sumN v s (k + 1) := by
  rw [← sum_succ h, List.getD_eq_getElem?_getD, hy]; rfl
theorem rpow_ok (n : Int) (hn : n < 100) : Tells P 220 [.val i64T n] (.val u32T (powN n.toNat)) := by
 refine fn_of_aw Tryz.func220 rfl rfl rfl (fun ext w hext => ?_)
 refine aw_fact (d := 0) rfl fact_int (fun hin0 => ?_)
 refine CQR ?_; refine A0 aV ?_; refine CNQR ?_; refine A0 aV ?_; refine CNQQR ?_; refine A0 aV ?_; refine CNB ?_
 refine Lp (ι := Nat) 0 (fun (k : Nat) => (((Fr.none).set 0 (.val i64T n)).set 3 (.val u32T (powN k))).set 4 (.val i64T (k : Int))) (fun (k : Nat) => Hp.none) (fun (k : Nat) => k ≤ n.toNat) (fun (k : Nat) => n.toNat - k) (0) (Nat.zero_le _) ?_
 intro k hinv
 refine CQQR ?_; refine A0 mV ?_; refine A0 mV ?_; refine A0 o_lss ?_; refine CN ?_
 refine Cf (p := k < n.toNat) (fun ht7 => ?_) (fun ht7 => ?_)
 ·
  refine CS ?_; refine CQ ?_; refine CB ?_; refine CR ?_; refine A0 mV ?_; refine A0 (g_mul32 rfl rfl rfl) ?_; refine A0 aV ?_; refine CNIR ?_; refine A0 mV ?_; refine A0 o_add ?_; refine A0 aV ?_; refine CN ?_
  exact Nx (k + 1) (by omega) (by omega)
 ·
  obtain rfl : k = n.toNat := (by omega)
  refine CE ?_; refine CQR ?_; refine A0 mV ?_; refine A0 aV ?_; refine CN ?_
  exact aw_ret1 rfl rfl (ret_eq rfl rfl)
theorem rturn_ok (x : UInt32) (n : Nat) (h0 : 0 < n) (h : n < 32) : Tells P 208 [.val u32T x, .val i64T (n : Int)] (.val u32T (rr x (n : Int))) := by
 refine fn_of_aw Tryz.func208 rfl rfl rfl (fun ext w hext => ?_)
 refine aw_fact (d := 1) rfl fact_int (fun hin1 => ?_)
 refine CQR ?_; refine A0 aV ?_; refine CNQ ?_; refine CD mixed ?_; refine G0 mV ?_; refine G0 mV ?_; refine G0 (oCl (rpow_ok (n : Int) (by omega)) rfl fn_220 ⟨(arg_v rfl), trivial⟩) ?_
 refine G0 (g_quo32 rfl rfl rfl (by rw [Int.toNat_natCast, powN_nat _ h]; exact Nat.ne_of_gt (Nat.two_pow_pos n))) ?_; refine G0 mV ?_; refine G0 mV ?_; refine G0 o_sub ?_
 refine G0 (oCl (rpow_ok (32 - (n : Int)) (by omega)) rfl fn_220 ⟨(arg_v rfl), trivial⟩) ?_; refine G0 (g_mul32 rfl rfl rfl) ?_; refine G0 (g_add32 rfl rfl rfl) ?_; refine G0 aV ?_; refine GK.nil ?_
 exact aw_ret1 rfl rfl (ret_eq rfl (by rw [show (32 - (n : Int)).toNat = 32 - n by omega, Int.toNat_natCast]; exact turn_rr x h0 h))
theorem rnumbers_ok : Tells P 207 [] (.val (sl u32T) shaK) := by
 refine fn_of_aw Tryz.func207 rfl rfl rfl (fun ext w hext => ?_)
 refine CQR ?_; refine A0 aL ?_; refine CNQR ?_
 refine A0 (g_bslice (T := u32T) (xs := [_, _, _, _, _, _, _, _, _, _, _, _, _, _, _, _, _, _, _, _, _, _, _, _, _, _, _, _, _, _, _, _, _, _, _, _, _, _, _, _, _, _, _, _, _, _, _, _, _, _, _, _, _, _, _, _, _, _, _, _, _, _, _, _]) rfl sl_197 row_197 ⟨rfl, rfl, rfl, rfl, rfl, rfl, rfl, rfl, rfl, rfl, rfl, rfl, rfl, rfl, rfl, rfl, rfl, rfl, rfl, rfl, rfl, rfl, rfl, rfl, rfl, rfl, rfl, rfl, rfl, rfl, rfl, rfl, rfl, rfl, rfl, rfl, rfl, rfl, rfl, rfl, rfl, rfl, rfl, rfl, rfl, rfl, rfl, rfl, rfl, rfl, rfl, rfl, rfl, rfl, rfl, rfl, rfl, rfl, rfl, rfl, rfl, rfl, rfl, rfl, rfl, rfl, rfl, rfl, rfl, rfl, rfl, rfl, rfl, rfl, rfl, rfl, rfl, rfl, rfl, rfl, rfl, rfl, rfl, rfl, rfl, rfl, rfl, rfl, rfl, rfl, rfl, rfl, rfl, rfl, rfl, rfl, rfl, rfl, rfl, rfl, rfl, rfl, rfl, rfl, rfl, rfl, rfl, rfl, rfl, rfl, rfl, rfl, rfl, rfl, rfl, rfl, rfl, rfl, rfl, rfl, rfl, rfl, rfl, rfl, rfl, rfl, rfl, rfl, trivial⟩ rfl rfl) ?_
 refine A0 aV ?_; refine CN ?_
 exact aw_ret1 rfl rfl (ret_eq rfl rfl)
theorem rfirst_ok : Tells P 177 [] (.val (sl u32T) shaH) := by
 refine fn_of_aw Tryz.func177 rfl rfl rfl (fun ext w hext => ?_)
 refine CQR ?_; refine A0 aL ?_; refine CNQR ?_; refine A0 (g_bslice (T := u32T) (xs := [_, _, _, _, _, _, _, _]) rfl sl_197 row_197 ⟨rfl, rfl, rfl, rfl, rfl, rfl, rfl, rfl, rfl, rfl, rfl, rfl, rfl, rfl, rfl, rfl, trivial⟩ rfl rfl) ?_
 refine A0 aV ?_; refine CN ?_
 exact aw_ret1 rfl rfl (ret_eq rfl rfl)
theorem rwords_ok (b : List UInt8) (hb : b.length = 64) : Tells P 179 [.val (bsl u8T) b] (.fresh 27 u32T (schedN b 64)) := by
 refine fn_of_aw Tryz.func179 rfl rfl rfl (fun ext w hext => ?_)
 refine aw_fact (d := 0) rfl fact_sl (fun hsl0 => ?_)
 refine CQR ?_; refine A0 aL ?_; refine CNQR ?_; refine A0 aL ?_; refine CNQQR ?_; refine A0 aV ?_; refine CNB ?_; refine aw_nilrow (T := u32T) (d := 3) 27 rfl ?_
 refine Lp (ι := Nat) 1 (fun (k : Nat) => (((Fr.none).set 0 (.val (bsl u8T) b)).set 3 (.own 0)).set 4 (.val i64T (k : Int))) (fun (k : Nat) => (Hp.none).set 0 (.row 27 u32T ((schedN b k).take k))) (fun (k : Nat) => k ≤ 16) (fun (k : Nat) => 16 - k) (0) (Nat.zero_le _) ?_
 intro k hinv
 refine CQQR ?_; refine A0 mV ?_; refine A0 o_lss ?_; refine CN ?_
 refine Cf (p := k < 16) (fun ht9 => ?_) (fun ht9 => ?_)
 ·
  obtain ⟨x0, hx0⟩ : ∃ x, b[4 * k]? = some x := ⟨_, List.getElem?_eq_getElem (by omega)⟩
  obtain ⟨x1, hx1⟩ : ∃ x, b[4 * k + 1]? = some x := ⟨_, List.getElem?_eq_getElem (by omega)⟩
  obtain ⟨x2, hx2⟩ : ∃ x, b[4 * k + 2]? = some x := ⟨_, List.getElem?_eq_getElem (by omega)⟩
  obtain ⟨x3, hx3⟩ : ∃ x, b[4 * k + 3]? = some x := ⟨_, List.getElem?_eq_getElem (by omega)⟩
  refine CS ?_; refine CQ ?_; refine CB ?_
  refine aw_drawx [some 1, some 1, some 1, some 1, some 1, some 1, some 1, some 1, some 1, some 1, some 1, some 1, some 1, some 1, some 1, some 1, some 1, some 1, some 1, some 1, some 1, some 1, some 1, some 1, some 1, some 1, some 1, some 1, some 1, some 1, some 1, some 1, some 1, some 1, some 1, none, some 1] mixed (by decide +kernel) ?_
  refine X0 mO ?_; refine X0 mV ?_; refine X0 mV ?_; refine X0 o_mul ?_; refine X0 (g_ia_i (i := 4 * k) rfl rfl rfl (by omega) sl_102 (by assumption)) ?_; refine X0 (g_load_r rfl rfl ty_5) ?_; refine X0 (g_cv32 rfl (ui_27) (us_5) rfl) ?_
  refine X0 (g_mul32 rfl rfl rfl) ?_; refine X0 mV ?_; refine X0 mV ?_; refine X0 o_mul ?_; refine X0 o_add ?_; refine X0 (g_ia_i (i := 4 * k + 1) rfl rfl rfl (by omega) sl_102 (by assumption)) ?_; refine X0 (g_load_r rfl rfl ty_5) ?_
  refine X0 (g_cv32 rfl (ui_27) (us_5) rfl) ?_; refine X0 (g_mul32 rfl rfl rfl) ?_; refine X0 (g_add32 rfl rfl rfl) ?_; refine X0 mV ?_; refine X0 mV ?_; refine X0 o_mul ?_; refine X0 o_add ?_
  refine X0 (g_ia_i (i := 4 * k + 2) rfl rfl rfl (by omega) sl_102 (by assumption)) ?_; refine X0 (g_load_r rfl rfl ty_5) ?_; refine X0 (g_cv32 rfl (ui_27) (us_5) rfl) ?_; refine X0 (g_mul32 rfl rfl rfl) ?_; refine X0 (g_add32 rfl rfl rfl) ?_
  refine X0 mV ?_; refine X0 mV ?_; refine X0 o_mul ?_; refine X0 o_add ?_; refine X0 (g_ia_i (i := 4 * k + 3) rfl rfl rfl (by omega) sl_102 (by assumption)) ?_; refine X0 (g_load_r rfl rfl ty_5) ?_; refine X0 (g_cv32 rfl (ui_27) (us_5) rfl) ?_
  refine X0 (g_add32 rfl rfl rfl) ?_; refine X0 (g_bslice (T := u32T) (xs := [_]) rfl sl_197 row_197 ⟨rfl, rfl, trivial⟩ rfl rfl) ?_
  refine XK.e (fun fr' hfr kk H => by exact aw_append rfl rfl rfl rfl ((hfr 12 (by decide +kernel)).trans rfl) rfl ((hfr 46 (by decide +kernel)).trans rfl) row_197 (by (try simp only [List.length_append, List.length_cons, List.length_nil, List.length_take, schedN_len]); omega) (aw_nil H)) ?_
  refine X0 aO ?_; refine XK.nil' ?_; refine CI ?_; refine CR ?_; refine A0 mV ?_; refine A0 o_add ?_; refine A0 aV ?_; refine CN ?_; refine aw_ren 1 0 2 rfl rfl rfl rfl rfl rfl ?_; refine aw_rerow (n := 0) rfl (words_lo ht9 hx0 hx1 hx2 hx3) ?_
  exact Nx (k + 1) (by omega) (by omega)
 ·
  obtain rfl : k = 16 := (by omega)
  refine CE ?_; refine CQQR ?_; refine A0 aV ?_; refine CNB ?_
  refine Lp (ι := Nat) 1 (fun (k : Nat) => ((Fr.none).set 3 (.own 0)).set 5 (.val i64T (k : Int))) (fun (k : Nat) => (Hp.none).set 0 (.row 27 u32T ((schedN b k).take k))) (fun (k : Nat) => 16 ≤ k ∧ k ≤ 64) (fun (k : Nat) => 64 - k) (16) (⟨Nat.le_refl _, by decide⟩) ?_
  intro k hinv
  refine CQQR ?_; refine A0 mV ?_; refine A0 o_lss ?_; refine CN ?_
  refine Cf (p := k < 64) (fun ht49 => ?_) (fun ht49 => ?_)
  ·
   obtain ⟨u, hu⟩ : ∃ x, ((schedN b k).take k)[k - 16]? = some x := ⟨_, List.getElem?_eq_getElem (by rw [List.length_take, schedN_len]; omega)⟩
   obtain ⟨v, hv⟩ : ∃ x, ((schedN b k).take k)[k - 7]? = some x := ⟨_, List.getElem?_eq_getElem (by rw [List.length_take, schedN_len]; omega)⟩
   obtain ⟨x, hx⟩ : ∃ x, ((schedN b k).take k)[k - 15]? = some x := ⟨_, List.getElem?_eq_getElem (by rw [List.length_take, schedN_len]; omega)⟩
   obtain ⟨y, hy⟩ : ∃ x, ((schedN b k).take k)[k - 2]? = some x := ⟨_, List.getElem?_eq_getElem (by rw [List.length_take, schedN_len]; omega)⟩
   have hl : ((schedN b k).take k).length = k := by rw [List.length_take, schedN_len]; omega
   refine CS ?_; refine CQ ?_; refine CB ?_; refine CQ ?_; refine CD mixed ?_; refine G0 mO ?_; refine G0 mV ?_; refine G0 o_sub ?_
   refine G0 (g_ia_o (i := k - 15) rfl rfl rfl rfl (by first | omega | rfl) sl_197 (by first | assumption | omega | (simp; omega))) ?_; refine G0 (g_load_e rfl rfl rfl rfl (by assumption) (Lens.self _) ty_27) ?_
   refine G0 (oCl (rturn_ok x 7 (by decide) (by decide)) rfl fn_208 ⟨(arg_v rfl), (arg_v rfl), trivial⟩) ?_; refine G0 mO ?_; refine G0 mV ?_; refine G0 o_sub ?_
   refine G0 (g_ia_o (i := k - 15) rfl rfl rfl rfl (by first | omega | rfl) sl_197 (by first | assumption | omega | (simp; omega))) ?_; refine G0 (g_load_e rfl rfl rfl rfl (by assumption) (Lens.self _) ty_27) ?_
   refine G0 (oCl (rturn_ok x 18 (by decide) (by decide)) rfl fn_208 ⟨(arg_v rfl), (arg_v rfl), trivial⟩) ?_; refine G0 (g_xor32 rfl rfl rfl) ?_; refine G0 mO ?_; refine G0 mV ?_; refine G0 o_sub ?_
   refine G0 (g_ia_o (i := k - 15) rfl rfl rfl rfl (by first | omega | rfl) sl_197 (by first | assumption | omega | (simp; omega))) ?_; refine G0 (g_load_e rfl rfl rfl rfl (by assumption) (Lens.self _) ty_27) ?_
   refine G0 (g_quo32 rfl rfl rfl (by decide)) ?_; refine G0 (g_xor32 rfl rfl rfl) ?_; refine G0 aV ?_; refine GK.nil ?_; refine CQ ?_; refine CD mixed ?_; refine G0 mO ?_; refine G0 mV ?_; refine G0 o_sub ?_
   refine G0 (g_ia_o (i := k - 2) rfl rfl rfl rfl (by first | omega | rfl) sl_197 (by first | assumption | omega | (simp; omega))) ?_; refine G0 (g_load_e rfl rfl rfl rfl (by assumption) (Lens.self _) ty_27) ?_
   refine G0 (oCl (rturn_ok y 17 (by decide) (by decide)) rfl fn_208 ⟨(arg_v rfl), (arg_v rfl), trivial⟩) ?_; refine G0 mO ?_; refine G0 mV ?_; refine G0 o_sub ?_
   refine G0 (g_ia_o (i := k - 2) rfl rfl rfl rfl (by first | omega | rfl) sl_197 (by first | assumption | omega | (simp; omega))) ?_; refine G0 (g_load_e rfl rfl rfl rfl (by assumption) (Lens.self _) ty_27) ?_
   refine G0 (oCl (rturn_ok y 19 (by decide) (by decide)) rfl fn_208 ⟨(arg_v rfl), (arg_v rfl), trivial⟩) ?_; refine G0 (g_xor32 rfl rfl rfl) ?_; refine G0 mO ?_; refine G0 mV ?_; refine G0 o_sub ?_
   refine G0 (g_ia_o (i := k - 2) rfl rfl rfl rfl (by first | omega | rfl) sl_197 (by first | assumption | omega | (simp; omega))) ?_; refine G0 (g_load_e rfl rfl rfl rfl (by assumption) (Lens.self _) ty_27) ?_
   refine G0 (g_quo32 rfl rfl rfl (by decide)) ?_; refine G0 (g_xor32 rfl rfl rfl) ?_; refine G0 aV ?_; refine GK.nil ?_
   refine aw_drawx [some 1, some 1, some 1, some 1, some 1, some 1, some 1, some 1, some 1, some 1, some 1, some 1, some 1, some 1, some 1, some 1, some 1, none, some 1] mixed (by decide +kernel) ?_; refine X0 mO ?_; refine X0 mO ?_
   refine X0 mV ?_; refine X0 o_sub ?_; refine X0 (g_ia_o (i := k - 16) rfl rfl rfl rfl (by first | omega | rfl) sl_197 (by first | assumption | omega | (simp; omega))) ?_
   refine X0 (g_load_e rfl rfl rfl rfl (by assumption) (Lens.self _) ty_27) ?_; refine X0 mV ?_; refine X0 (g_add32 rfl rfl rfl) ?_; refine X0 mO ?_; refine X0 mV ?_; refine X0 o_sub ?_
   refine X0 (g_ia_o (i := k - 7) rfl rfl rfl rfl (by first | omega | rfl) sl_197 (by first | assumption | omega | (simp; omega))) ?_; refine X0 (g_load_e rfl rfl rfl rfl (by assumption) (Lens.self _) ty_27) ?_
   refine X0 (g_add32 rfl rfl rfl) ?_; refine X0 mV ?_; refine X0 (g_add32 rfl rfl rfl) ?_; refine X0 (g_bslice (T := u32T) (xs := [_]) rfl sl_197 row_197 ⟨rfl, rfl, trivial⟩ rfl rfl) ?_
   refine XK.e (fun fr' hfr kk H => by exact aw_append rfl rfl rfl rfl ((hfr 92 (by decide +kernel)).trans rfl) rfl ((hfr 108 (by decide +kernel)).trans rfl) row_197 (by (try simp only [List.length_append, List.length_cons, List.length_nil, List.length_take, schedN_len]); omega) (aw_nil H)) ?_
   refine X0 aO ?_; refine XK.nil' ?_; refine CI ?_; refine CR ?_; refine A0 mV ?_; refine A0 o_add ?_; refine A0 aV ?_; refine CN ?_; refine aw_ren 1 0 2 rfl rfl rfl rfl rfl rfl ?_
   refine aw_rerow (n := 0) rfl (words_hi (by omega) ht49 hu hv hx hy) ?_
   exact Nx (k + 1) (⟨by omega, by omega⟩) (by omega)
  ·
   obtain rfl : k = 64 := (by omega)
   refine CE ?_; refine CQR ?_; refine A0 mO ?_; refine A0 aO ?_; refine CN ?_
   exact aw_ret1 rfl rfl (ret_fresh_eq rfl rfl (List.take_of_length_le (by rw [schedN_len]; exact Nat.le_refl _)))
theorem rrounds_ok (hs ws : List UInt32) (hh : hs.length = 8) (hw : ws.length = 64) : Tells P 178 [.val (bsl u32T) hs, .val (bsl u32T) ws] (.fresh 27 u32T (sumN (roundN ws hs 64) hs 8)) := by
 refine fn_of_aw Tryz.func178 rfl rfl rfl (fun ext w hext => ?_)
 refine aw_fact (d := 0) rfl fact_sl (fun hsl0 => ?_)
 refine aw_fact (d := 1) rfl fact_sl (fun hsl1 => ?_)
 refine CQR ?_; refine A0 aL ?_; refine CNQR ?_; refine A0 (oCl (rnumbers_ok) rfl fn_207 trivial) ?_; refine A0 aV ?_; refine CNQR ?_; refine A0 mV ?_; refine aw_append0 rfl rfl rfl rfl rfl rfl row_197 (by omega) ?_; refine A0 aO ?_
 refine CNQQR ?_; refine A0 aV ?_; refine CNB ?_
 refine Lp (ι := Nat) 1 (fun (k : Nat) => (((((Fr.none).set 0 (.val (bsl u32T) hs)).set 1 (.val (bsl u32T) ws)).set 5 (.val (sl u32T) shaK)).set 6 (.own 0)).set 7 (.val i64T (k : Int))) (fun (k : Nat) => (Hp.none).set 0 (.row 27 u32T (roundN ws hs k))) (fun (k : Nat) => k ≤ 64) (fun (k : Nat) => 64 - k) (0) (Nat.zero_le _) ?_
 intro k hinv
 refine CQQR ?_; refine A0 mV ?_; refine A0 o_lss ?_; refine CN ?_
 refine Cf (p := k < 64) (fun ht18 => ?_) (fun ht18 => ?_)
 ·
  obtain ⟨kk, hkk⟩ : ∃ x, shaK[k]? = some x := ⟨_, List.getElem?_eq_getElem (by show k < 64; omega)⟩
  obtain ⟨ww, hww⟩ : ∃ x, ws[k]? = some x := ⟨_, List.getElem?_eq_getElem (by omega)⟩
  obtain ⟨a, b, c, d, e, f, g, i, hv⟩ := eight (roundN_len (w := ws) hh k)
  refine aw_rerow (n := 0) rfl hv ?_
  have h0 : ([a, b, c, d, e, f, g, i] : List UInt32)[0]? = some a := rfl
  have h1 : ([a, b, c, d, e, f, g, i] : List UInt32)[1]? = some b := rfl
  have h2 : ([a, b, c, d, e, f, g, i] : List UInt32)[2]? = some c := rfl
  have h3 : ([a, b, c, d, e, f, g, i] : List UInt32)[3]? = some d := rfl
  have h4 : ([a, b, c, d, e, f, g, i] : List UInt32)[4]? = some e := rfl
  have h5 : ([a, b, c, d, e, f, g, i] : List UInt32)[5]? = some f := rfl
  have h6 : ([a, b, c, d, e, f, g, i] : List UInt32)[6]? = some g := rfl
  have h7 : ([a, b, c, d, e, f, g, i] : List UInt32)[7]? = some i := rfl
  have b0 : 0 < ([a, b, c, d, e, f, g, i] : List UInt32).length := by simp
  have b1 : 1 < ([a, b, c, d, e, f, g, i] : List UInt32).length := by simp
  have b2 : 2 < ([a, b, c, d, e, f, g, i] : List UInt32).length := by simp
  have b3 : 3 < ([a, b, c, d, e, f, g, i] : List UInt32).length := by simp
  have b4 : 4 < ([a, b, c, d, e, f, g, i] : List UInt32).length := by simp
  have b5 : 5 < ([a, b, c, d, e, f, g, i] : List UInt32).length := by simp
  have b6 : 6 < ([a, b, c, d, e, f, g, i] : List UInt32).length := by simp
  have b7 : 7 < ([a, b, c, d, e, f, g, i] : List UInt32).length := by simp
  refine CS ?_; refine CQ ?_; refine CB ?_; refine CQ ?_; refine CD mixed ?_; refine G0 mO ?_; refine G0 (g_ia_o (i := 4) rfl rfl rfl rfl (by first | omega | rfl) sl_197 (by first | assumption | omega | (simp; omega))) ?_
  refine G0 (g_load_e rfl rfl rfl rfl (by assumption) (Lens.self _) ty_27) ?_; refine G0 (oCl (rturn_ok e 6 (by decide) (by decide)) rfl fn_208 ⟨(arg_v rfl), (arg_v rfl), trivial⟩) ?_; refine G0 mO ?_
  refine G0 (g_ia_o (i := 4) rfl rfl rfl rfl (by first | omega | rfl) sl_197 (by first | assumption | omega | (simp; omega))) ?_; refine G0 (g_load_e rfl rfl rfl rfl (by assumption) (Lens.self _) ty_27) ?_
  refine G0 (oCl (rturn_ok e 11 (by decide) (by decide)) rfl fn_208 ⟨(arg_v rfl), (arg_v rfl), trivial⟩) ?_; refine G0 (g_xor32 rfl rfl rfl) ?_; refine G0 mO ?_
  refine G0 (g_ia_o (i := 4) rfl rfl rfl rfl (by first | omega | rfl) sl_197 (by first | assumption | omega | (simp; omega))) ?_; refine G0 (g_load_e rfl rfl rfl rfl (by assumption) (Lens.self _) ty_27) ?_
  refine G0 (oCl (rturn_ok e 25 (by decide) (by decide)) rfl fn_208 ⟨(arg_v rfl), (arg_v rfl), trivial⟩) ?_; refine G0 (g_xor32 rfl rfl rfl) ?_; refine G0 aV ?_; refine GK.nil ?_; refine CQ ?_; refine CD mixed ?_; refine G0 mO ?_
  refine G0 (g_ia_o (i := 4) rfl rfl rfl rfl (by first | omega | rfl) sl_197 (by first | assumption | omega | (simp; omega))) ?_; refine G0 (g_load_e rfl rfl rfl rfl (by assumption) (Lens.self _) ty_27) ?_; refine G0 mO ?_
  refine G0 (g_ia_o (i := 5) rfl rfl rfl rfl (by first | omega | rfl) sl_197 (by first | assumption | omega | (simp; omega))) ?_; refine G0 (g_load_e rfl rfl rfl rfl (by assumption) (Lens.self _) ty_27) ?_; refine G0 (g_and32 rfl rfl rfl) ?_
  refine G0 mO ?_; refine G0 (g_ia_o (i := 4) rfl rfl rfl rfl (by first | omega | rfl) sl_197 (by first | assumption | omega | (simp; omega))) ?_; refine G0 (g_load_e rfl rfl rfl rfl (by assumption) (Lens.self _) ty_27) ?_
  refine G0 (g_sub32 rfl rfl rfl) ?_; refine G0 mO ?_; refine G0 (g_ia_o (i := 6) rfl rfl rfl rfl (by first | omega | rfl) sl_197 (by first | assumption | omega | (simp; omega))) ?_
  refine G0 (g_load_e rfl rfl rfl rfl (by assumption) (Lens.self _) ty_27) ?_; refine G0 (g_and32 rfl rfl rfl) ?_; refine G0 (g_xor32 rfl rfl rfl) ?_; refine G0 aV ?_; refine GK.nil ?_; refine CQ ?_; refine CD mixed ?_; refine G0 mO ?_
  refine G0 (g_ia_o (i := 7) rfl rfl rfl rfl (by first | omega | rfl) sl_197 (by first | assumption | omega | (simp; omega))) ?_; refine G0 (g_load_e rfl rfl rfl rfl (by assumption) (Lens.self _) ty_27) ?_; refine G0 mV ?_
  refine G0 (g_add32 rfl rfl rfl) ?_; refine G0 mV ?_; refine G0 (g_add32 rfl rfl rfl) ?_; refine G0 mV ?_; refine G0 mV ?_; refine G0 (g_ia_i (i := k) rfl rfl rfl (by omega) sl_197 (by assumption)) ?_; refine G0 (g_load_r rfl rfl ty_27) ?_
  refine G0 (g_add32 rfl rfl rfl) ?_; refine G0 mV ?_; refine G0 mV ?_; refine G0 (g_ia_i (i := k) rfl rfl rfl (by omega) sl_197 (by assumption)) ?_; refine G0 (g_load_r rfl rfl ty_27) ?_; refine G0 (g_add32 rfl rfl rfl) ?_; refine G0 aV ?_
  refine GK.nil ?_; refine CQ ?_; refine CD mixed ?_; refine G0 mO ?_; refine G0 (g_ia_o (i := 0) rfl rfl rfl rfl (by first | omega | rfl) sl_197 (by first | assumption | omega | (simp; omega))) ?_
  refine G0 (g_load_e rfl rfl rfl rfl (by assumption) (Lens.self _) ty_27) ?_; refine G0 (oCl (rturn_ok a 2 (by decide) (by decide)) rfl fn_208 ⟨(arg_v rfl), (arg_v rfl), trivial⟩) ?_; refine G0 mO ?_
  refine G0 (g_ia_o (i := 0) rfl rfl rfl rfl (by first | omega | rfl) sl_197 (by first | assumption | omega | (simp; omega))) ?_; refine G0 (g_load_e rfl rfl rfl rfl (by assumption) (Lens.self _) ty_27) ?_
  refine G0 (oCl (rturn_ok a 13 (by decide) (by decide)) rfl fn_208 ⟨(arg_v rfl), (arg_v rfl), trivial⟩) ?_; refine G0 (g_xor32 rfl rfl rfl) ?_; refine G0 mO ?_
  refine G0 (g_ia_o (i := 0) rfl rfl rfl rfl (by first | omega | rfl) sl_197 (by first | assumption | omega | (simp; omega))) ?_; refine G0 (g_load_e rfl rfl rfl rfl (by assumption) (Lens.self _) ty_27) ?_
  refine G0 (oCl (rturn_ok a 22 (by decide) (by decide)) rfl fn_208 ⟨(arg_v rfl), (arg_v rfl), trivial⟩) ?_; refine G0 (g_xor32 rfl rfl rfl) ?_; refine G0 aV ?_; refine GK.nil ?_; refine CQ ?_; refine CD mixed ?_; refine G0 mO ?_
  refine G0 (g_ia_o (i := 0) rfl rfl rfl rfl (by first | omega | rfl) sl_197 (by first | assumption | omega | (simp; omega))) ?_; refine G0 (g_load_e rfl rfl rfl rfl (by assumption) (Lens.self _) ty_27) ?_; refine G0 mO ?_
  refine G0 (g_ia_o (i := 1) rfl rfl rfl rfl (by first | omega | rfl) sl_197 (by first | assumption | omega | (simp; omega))) ?_; refine G0 (g_load_e rfl rfl rfl rfl (by assumption) (Lens.self _) ty_27) ?_; refine G0 (g_and32 rfl rfl rfl) ?_
  refine G0 mO ?_; refine G0 (g_ia_o (i := 0) rfl rfl rfl rfl (by first | omega | rfl) sl_197 (by first | assumption | omega | (simp; omega))) ?_; refine G0 (g_load_e rfl rfl rfl rfl (by assumption) (Lens.self _) ty_27) ?_; refine G0 mO ?_
  refine G0 (g_ia_o (i := 2) rfl rfl rfl rfl (by first | omega | rfl) sl_197 (by first | assumption | omega | (simp; omega))) ?_; refine G0 (g_load_e rfl rfl rfl rfl (by assumption) (Lens.self _) ty_27) ?_; refine G0 (g_and32 rfl rfl rfl) ?_
  refine G0 (g_or32 rfl rfl rfl) ?_; refine G0 mO ?_; refine G0 (g_ia_o (i := 1) rfl rfl rfl rfl (by first | omega | rfl) sl_197 (by first | assumption | omega | (simp; omega))) ?_
  refine G0 (g_load_e rfl rfl rfl rfl (by assumption) (Lens.self _) ty_27) ?_; refine G0 mO ?_; refine G0 (g_ia_o (i := 2) rfl rfl rfl rfl (by first | omega | rfl) sl_197 (by first | assumption | omega | (simp; omega))) ?_
  refine G0 (g_load_e rfl rfl rfl rfl (by assumption) (Lens.self _) ty_27) ?_; refine G0 (g_and32 rfl rfl rfl) ?_; refine G0 (g_or32 rfl rfl rfl) ?_; refine G0 aV ?_; refine GK.nil ?_
  refine aw_drawx [some 1, some 1, some 1, some 1, some 1, some 1, some 1, some 1, some 1, some 1, some 1, some 1, some 1, some 1, some 1, some 1, some 1, some 1, some 1, some 1, some 1, some 1, some 1, some 1, some 1, some 1, some 1, some 1, none, some 1] mixed (by decide +kernel) ?_
  refine X0 mV ?_; refine X0 mV ?_; refine X0 (g_add32 rfl rfl rfl) ?_; refine X0 mV ?_; refine X0 (g_add32 rfl rfl rfl) ?_; refine X0 mO ?_
  refine X0 (g_ia_o (i := 0) rfl rfl rfl rfl (by first | omega | rfl) sl_197 (by first | assumption | omega | (simp; omega))) ?_; refine X0 (g_load_e rfl rfl rfl rfl (by assumption) (Lens.self _) ty_27) ?_; refine X0 mO ?_
  refine X0 (g_ia_o (i := 1) rfl rfl rfl rfl (by first | omega | rfl) sl_197 (by first | assumption | omega | (simp; omega))) ?_; refine X0 (g_load_e rfl rfl rfl rfl (by assumption) (Lens.self _) ty_27) ?_; refine X0 mO ?_
  refine X0 (g_ia_o (i := 2) rfl rfl rfl rfl (by first | omega | rfl) sl_197 (by first | assumption | omega | (simp; omega))) ?_; refine X0 (g_load_e rfl rfl rfl rfl (by assumption) (Lens.self _) ty_27) ?_; refine X0 mO ?_
  refine X0 (g_ia_o (i := 3) rfl rfl rfl rfl (by first | omega | rfl) sl_197 (by first | assumption | omega | (simp; omega))) ?_; refine X0 (g_load_e rfl rfl rfl rfl (by assumption) (Lens.self _) ty_27) ?_; refine X0 mV ?_
  refine X0 (g_add32 rfl rfl rfl) ?_; refine X0 mO ?_; refine X0 (g_ia_o (i := 4) rfl rfl rfl rfl (by first | omega | rfl) sl_197 (by first | assumption | omega | (simp; omega))) ?_
  refine X0 (g_load_e rfl rfl rfl rfl (by assumption) (Lens.self _) ty_27) ?_; refine X0 mO ?_; refine X0 (g_ia_o (i := 5) rfl rfl rfl rfl (by first | omega | rfl) sl_197 (by first | assumption | omega | (simp; omega))) ?_
  refine X0 (g_load_e rfl rfl rfl rfl (by assumption) (Lens.self _) ty_27) ?_; refine X0 mO ?_; refine X0 (g_ia_o (i := 6) rfl rfl rfl rfl (by first | omega | rfl) sl_197 (by first | assumption | omega | (simp; omega))) ?_
  refine X0 (g_load_e rfl rfl rfl rfl (by assumption) (Lens.self _) ty_27) ?_
  refine XK.e (fun fr' hfr kk H => by exact aw_bslice (T := u32T) (xs := [_, _, _, _, _, _, _, _]) rfl rfl rfl rfl sl_197 row_197 ⟨rfl, ((hfr 109 (by decide +kernel)).trans rfl), rfl, ((hfr 112 (by decide +kernel)).trans rfl), rfl, ((hfr 115 (by decide +kernel)).trans rfl), rfl, ((hfr 118 (by decide +kernel)).trans rfl), rfl, ((hfr 123 (by decide +kernel)).trans rfl), rfl, ((hfr 126 (by decide +kernel)).trans rfl), rfl, ((hfr 129 (by decide +kernel)).trans rfl), rfl, ((hfr 132 (by decide +kernel)).trans rfl), trivial⟩ rfl rfl (aw_nil H)) ?_
  refine X0 aO ?_; refine XK.nil' ?_; refine CI ?_; refine CR ?_; refine A0 mV ?_; refine A0 o_add ?_; refine A0 aV ?_; refine CN ?_; refine aw_drop 0 ?_; refine aw_ren 1 0 2 rfl rfl rfl rfl rfl rfl ?_
  refine aw_rerow (n := 0) rfl (round_ref hv hkk hww) ?_
  exact Nx (k + 1) (by omega) (by omega)
 ·
  obtain rfl : k = 64 := (by omega)
  refine CE ?_; refine CQQR ?_; refine A0 aV ?_; refine CNB ?_; refine aw_rerow (n := 0) (y := sumN hs (roundN ws hs 64) 0) rfl (by simp [sumN]) ?_
  refine Lp (ι := Nat) 1 (fun (k : Nat) => (((Fr.none).set 0 (.val (bsl u32T) hs)).set 6 (.own 0)).set 13 (.val i64T (k : Int))) (fun (k : Nat) => (Hp.none).set 0 (.row 27 u32T (sumN hs (roundN ws hs 64) k))) (fun (k : Nat) => k ≤ 8) (fun (k : Nat) => 8 - k) (0) (Nat.zero_le _) ?_
  intro k hinv
  refine CQQR ?_; refine A0 mV ?_; refine A0 o_lss ?_; refine CN ?_
  refine Cf (p := k < 8) (fun ht135 => ?_) (fun ht135 => ?_)
  ·
   have hsl : (sumN hs (roundN ws hs 64) k).length = 8 := by rw [sumN_len, roundN_len hh]
   obtain ⟨y, hy⟩ : ∃ x, (sumN hs (roundN ws hs 64) k)[k]? = some x := ⟨_, List.getElem?_eq_getElem (by omega)⟩
   obtain ⟨x, hx⟩ : ∃ x, hs[k]? = some x := ⟨_, List.getElem?_eq_getElem (by omega)⟩
   refine CS ?_; refine CQ ?_; refine CB ?_; refine aw_drawx [some 1, some 1, some 1, some 1, some 1, some 1, some 1, some 1, some 1, some 1, some 1, some 1, none] mixed (by decide +kernel) ?_; refine X0 mO ?_; refine X0 mV ?_; refine X0 mO ?_
   refine X0 mV ?_; refine X0 (g_ia_o (i := k) rfl rfl rfl rfl (by first | omega | rfl) sl_197 (by first | assumption | omega | (simp; omega))) ?_; refine X0 (g_load_e rfl rfl rfl rfl (by assumption) (Lens.self _) ty_27) ?_; refine X0 mV ?_
   refine X0 mV ?_; refine X0 (g_ia_i (i := k) rfl rfl rfl (by omega) sl_197 (by assumption)) ?_; refine X0 (g_load_r rfl rfl ty_27) ?_; refine X0 (g_add32 rfl rfl rfl) ?_
   refine X0 (g_ia_o (i := k) rfl rfl rfl rfl (by first | omega | rfl) sl_197 (by first | assumption | omega | (simp; omega))) ?_
   refine XK.e (x := .idk) (fun fr' hfr kk H => by exact aw_store_e rfl rfl rfl ((hfr 149 (by decide +kernel)).trans rfl) rfl rfl (by assumption) (Lens.self _) ty_27 ((hfr 148 (by decide +kernel)).trans rfl) (aw_nil H)) ?_; refine XK.nil' ?_
   refine CI ?_; refine CR ?_; refine A0 mV ?_; refine A0 o_add ?_; refine A0 aV ?_; refine CN ?_; refine aw_rerow (n := 0) rfl (sum_succ2 hx hy) ?_
   exact Nx (k + 1) (by omega) (by omega)
  ·
   obtain rfl : k = 8 := (by omega)
   refine CE ?_; refine CQR ?_; refine A0 mO ?_; refine A0 aO ?_; refine CN ?_
   exact aw_ret1 rfl rfl (ret_fresh_eq rfl rfl (sumN_comm hh (roundN_len hh _)))
end Go.Proofs.YtgoiacajjicjcaaGreat
set_option maxRecDepth 20000
namespace Go.Proofs.YtgoiacajjicjcaaGreat
set_option linter.unusedVariables false
set_option linter.unusedSimpArgs false
open Go.Ab Go.RowKit
theorem low8 (x : UInt64) : u8OfI (IntL.toI u64T (x % 256)) = u8OfI (IntL.toI u64T x) := by
  unfold u8OfI
  show UInt8.ofNat (((x % 256).toNat : Int) % 256).toNat = UInt8.ofNat ((x.toNat : Int) % 256).toNat
  rw [UInt64.toNat_mod]
  congr 1
  have : (256 : UInt64).toNat = 256 := rfl
  rw [this]; omega
theorem low8w (x : UInt32) : u8OfI (IntL.toI u32T (x % 256)) = u8OfI (IntL.toI u32T x) := by
  unfold u8OfI
  show UInt8.ofNat (((x % 256).toNat : Int) % 256).toNat = UInt8.ofNat ((x.toNat : Int) % 256).toNat
  rw [UInt32.toNat_mod]
  congr 1
  have : (256 : UInt32).toNat = 256 := rfl
  rw [this]; omega
theorem shr64_nat (x : UInt64) {m : Nat} (h : m ≤ 64) : (shr64 x m).toNat = x.toNat / 2 ^ m := by
  have hx : x.toNat < 18446744073709551616 := x.toNat_lt
  unfold shr64
  rw [UInt64.toNat_ofNat_of_lt' (Nat.lt_of_le_of_lt (Nat.div_le_self _ _) hx), Nat.min_eq_left h]
theorem shr_zero (x : UInt64) : x = shr64 x (8 * 0) := by
  apply UInt64.toNat_inj.1
  rw [shr64_nat x (by decide)]; simp
theorem shr_step {x : UInt64} {k : Nat} (h : k < 8) : shr64 x (8 * k) / 256 = shr64 x (8 * (k + 1)) := by
  apply UInt64.toNat_inj.1
  rw [UInt64.toNat_div, shr64_nat x (by omega), shr64_nat x (by omega), Nat.mul_add, Nat.pow_add, ← Nat.div_div_eq_div_mul]
  rfl
def byN (k : Nat) : UInt64 := shr64 72057594037927936 (8 * k)
theorem byN_nat : ∀ k : Nat, k < 8 → (byN k).toNat = 2 ^ (8 * (7 - k)) := by decide +kernel
theorem byN_ne {k : Nat} (h : k < 8) : (byN k).toNat ≠ 0 := by
  rw [byN_nat k h]
  exact Nat.ne_of_gt (Nat.two_pow_pos _)
theorem div_by {x : UInt64} {k : Nat} (h : k < 8) : u8OfI (IntL.toI u64T (x / byN k % 256)) = u8OfI (IntL.toI u64T (shr64 x (8 * (8 - 1 - k)))) := by
  rw [low8]
  congr 2
  apply UInt64.toNat_inj.1
  rw [UInt64.toNat_div, byN_nat k h, shr64_nat x (by omega)]
theorem mul8 (n : Int) : u64OfI (IntL.toI i64T (8 * n)) = 8 * u64OfI (IntL.toI i64T n) := by
  apply UInt64.toNat_inj.1
  unfold u64OfI
  show (UInt64.ofNat ((8 * n) % 18446744073709551616).toNat).toNat = (8 * UInt64.ofNat (n % 18446744073709551616).toNat).toNat
  rw [UInt64.toNat_mul, UInt64.toNat_ofNat_of_lt' (by show _ < 18446744073709551616; omega), UInt64.toNat_ofNat_of_lt' (by show _ < 18446744073709551616; omega)]
  show _ = 8 * _ % 18446744073709551616
  omega
theorem numBytes_take {x : UInt64} {k : Nat} (h : k < 8) : (numBytes x 8).take k ++ [u8OfI (IntL.toI u64T (x / byN k % 256))] = (numBytes x 8).take (k + 1) := by
  rw [List.take_add_one, div_by h]
  unfold numBytes
  rw [List.getElem?_map, List.getElem?_range h]; rfl
theorem flat_take {α : Type} {k : Nat} (ls : List (List α)) : (ls.take k).flatten.length ≤ ls.flatten.length := by
  conv => rhs; rw [← List.take_append_drop k ls, List.flatten_append, List.length_append]
  omega
theorem flat_succ {α : Type} {k : Nat} {ls : List (List α)} {x : List α} (h : ls[k]? = some x) : (ls.take (k + 1)).flatten = (ls.take k).flatten ++ x := by
  rw [List.take_add_one, h, List.flatten_append]; simp
theorem shr32_of {v : UInt32} {m : Nat} {c : UInt32} (h : m ≤ 32) (hc : c.toNat = 2 ^ m) : v / c = shr32 v m := by
  have hx : v.toNat < 4294967296 := v.toNat_lt
  apply UInt32.toNat_inj.1
  unfold shr32
  rw [UInt32.toNat_div, hc, UInt32.toNat_ofNat_of_lt' (Nat.lt_of_le_of_lt (Nat.div_le_self _ _) hx), Nat.min_eq_left h]
theorem shr32_zero (v : UInt32) : v = shr32 v 0 := by
  have hx : v.toNat < 4294967296 := v.toNat_lt
  apply UInt32.toNat_inj.1
  unfold shr32
  rw [UInt32.toNat_ofNat_of_lt' (Nat.lt_of_le_of_lt (Nat.div_le_self _ _) hx)]; simp
theorem out_byte {V : List UInt32} {k j : Nat} {v : UInt32} (hv : V[k]? = some v) (hj : j < 4) : shaByte V (4 * k + j) = u8OfI (IntL.toI u32T (shr32 v (24 - 8 * j))) := by
  unfold shaByte
  rw [show (4 * k + j) / 4 = k by omega, show (4 * k + j) % 4 = j by omega, List.getD_eq_getElem?_getD, hv]; rfl
theorem out4 {V : List UInt32} {k : Nat} {v : UInt32} (hv : V[k]? = some v) : ((((shaOut V (4 * k)).set (4 * k) (u8OfI (IntL.toI u32T (v / 16777216)))).set (4 * k + 1) (u8OfI (IntL.toI u32T (v / 65536 % 256)))).set (4 * k + 2) (u8OfI (IntL.toI u32T (v / 256 % 256)))).set (4 * k + 3) (u8OfI (IntL.toI u32T (v % 256))) = shaOut V (4 * (k + 1)) := by
  rw [low8w, low8w, low8w, shr32_of (m := 24) (by decide) rfl, shr32_of (m := 16) (by decide) rfl, shr32_of (m := 8) (by decide) rfl]
  have e0 := out_byte hv (j := 0) (by decide)
  have e1 := out_byte hv (j := 1) (by decide)
  have e2 := out_byte hv (j := 2) (by decide)
  have e3 := out_byte hv (j := 3) (by decide)
  have z : u8OfI (IntL.toI u32T v) = u8OfI (IntL.toI u32T (shr32 v 0)) := by rw [← shr32_zero v]
  have s0 : (shaOut V (4 * k)).set (4 * k) (u8OfI (IntL.toI u32T (shr32 v 24))) = shaOut V (4 * k + 1) := shaOut_succ e0.symm
  have s1 : (shaOut V (4 * k + 1)).set (4 * k + 1) (u8OfI (IntL.toI u32T (shr32 v 16))) = shaOut V (4 * k + 2) := shaOut_succ e1.symm
  have s2 : (shaOut V (4 * k + 2)).set (4 * k + 2) (u8OfI (IntL.toI u32T (shr32 v 8))) = shaOut V (4 * k + 3) := shaOut_succ e2.symm
  have s3 : (shaOut V (4 * k + 3)).set (4 * k + 3) (u8OfI (IntL.toI u32T (shr32 v 0))) = shaOut V (4 * k + 4) := shaOut_succ e3.symm
  rw [z, s0, s1, s2, s3]; rfl
theorem rbin_ok (n : UInt64) (size : Nat) (hs : size ≤ 8) : Tells P 159 [.val u64T n, .val i64T (size : Int)] (.fresh 5 u8T (numBytes n size)) := by
 refine fn_of_aw Tryz.func159 rfl rfl rfl (fun ext w hext => ?_)
 refine aw_fact (d := 1) rfl fact_int (fun hin1 => ?_)
 refine CQR ?_; refine A0 aL ?_; refine CNQQR ?_; refine A0 mV ?_; refine A0 o_lss ?_; refine aw_isf (d := 8) rfl (decide_eq_false (by show ¬ ((size : Int) < 0); omega)) ?_; refine A0 mV ?_; refine A1 mV ?_; refine A1 o_gtr ?_
 refine aw_isf (d := 11) rfl (decide_eq_false (by show ¬ ((8 : Int) < (size : Int)); omega)) ?_; refine A0 oK ?_; refine CN ?_; refine Cg ?_; refine CSQR ?_; refine A0 mV ?_
 refine aw_mks (T := u8T) (n := size) rfl rfl rfl rfl rfl rfl (by first | omega | rfl) (by first | omega | rfl) row_102 ze_5 ⟨by omega, by omega, (show (size) * 1 ≤ 16777216 by omega)⟩ ?_; refine A0 aO ?_; refine CNQQR ?_; refine A0 mV ?_
 refine A0 o_sub ?_; refine A0 aV ?_; refine CNB ?_; refine aw_reval (d := 6) (y := (size : Int) - 1 - ((0 : Nat) : Int)) rfl (by omega) ?_; refine aw_reval (d := 0) (y := shr64 n (8 * 0)) rfl (shr_zero n) ?_
 refine Lp (ι := Nat × List UInt8) 1 (fun (i : Nat × List UInt8) => match i with | (k, l) => (((Fr.none).set 0 (.val u64T (shr64 n (8 * k)))).set 5 (.own 0)).set 6 (.val i64T ((size : Int) - 1 - (k : Int)))) (fun (i : Nat × List UInt8) => match i with | (k, l) => (Hp.none).set 0 (.row 5 u8T l)) (fun (i : Nat × List UInt8) => match i with | (k, l) => k ≤ size ∧ l.length = size ∧ ∀ j, size - k ≤ j → j < size → l[j]? = (numBytes n size)[j]?) (fun (i : Nat × List UInt8) => match i with | (k, l) => size - k) ((0, List.replicate size 0)) (⟨Nat.zero_le _, by simp, fun j h1 h2 => by omega⟩) ?_
 intro ⟨k, l⟩ hinv
 dsimp only at hinv
 refine CQQR ?_; refine A0 mV ?_; refine A0 o_geq ?_; refine CN ?_
 refine Cf (p := k < size) (fun ht18 => ?_) (fun ht18 => ?_)
 ·
  obtain ⟨x, hx⟩ : ∃ x, l[size - 1 - k]? = some x := ⟨_, List.getElem?_eq_getElem (by omega)⟩
  refine CSQBQR ?_; refine A0 mO ?_; refine A0 mV ?_; refine A0 mV ?_; refine A0 (g_rem64 rfl rfl rfl (by decide)) ?_; refine A0 (g_cv8 rfl (ui_5) (us_24) rfl) ?_
  refine A0 (g_ia_o (i := size - 1 - k) rfl rfl rfl rfl (by first | omega | rfl) sl_102 (by first | assumption | omega | (simp; omega))) ?_; refine aw_store_e rfl rfl rfl rfl rfl rfl (by assumption) (Lens.self _) ty_5 rfl ?_; refine CNR ?_
  refine A0 mV ?_; refine A0 (g_quo64 rfl rfl rfl (by decide)) ?_; refine A0 aV ?_; refine CNIR ?_; refine A0 mV ?_; refine A0 o_sub ?_; refine A0 aV ?_; refine CN ?_
  refine aw_reval (d := 0) (y := shr64 n (8 * (k + 1))) rfl (shr_step (by omega)) ?_; refine aw_reval (d := 6) (y := (size : Int) - 1 - ((k + 1 : Nat) : Int)) rfl (by omega) ?_
  refine aw_rerow (n := 0) (y := l.set (size - 1 - k) (u8OfI (IntL.toI u64T (shr64 n (8 * k))))) rfl (congrArg (fun z => l.set (size - 1 - k) z) (low8 _)) ?_
  exact Nx ((k + 1, l.set (size - 1 - k) (u8OfI (IntL.toI u64T (shr64 n (8 * k)))))) (⟨by omega, by simp; exact hinv.2.1, numBytes_step ht18 hinv.2.1 hinv.2.2⟩) (by show _ < size - k; simp only []; omega)
 ·
  refine CE ?_; refine CQR ?_; refine A0 mO ?_; refine A0 aO ?_; refine CN ?_
  exact aw_ret1 rfl rfl (ret_fresh_eq rfl rfl (numBytes_all hinv.2.1 (by rw [show k = size by omega] at hinv; exact hinv.2.2)))
theorem rpad_ok (b : List UInt8) (hb : b.length ≤ 70368744177664) : Tells P 176 [.val (bsl u8T) b] (.fresh 5 u8T (padOf b)) := by
 have hz : padZ b.length = (64 - (b.length + 9) % 64) % 64 := rfl
 refine fn_of_aw Tryz.func176 rfl rfl rfl (fun ext w hext => ?_)
 refine aw_fact (d := 0) rfl fact_sl (fun hsl0 => ?_)
 refine CQR ?_; refine A0 aL ?_; refine CNQR ?_; refine A0 mV ?_
 refine aw_append0 rfl rfl rfl rfl rfl rfl row_102 (by (try simp only [List.length_append, List.length_cons, List.length_nil, List.length_replicate, List.length_take, numBytes_len]); omega) ?_; refine A0 aO ?_; refine CNQR ?_; refine A0 mO ?_
 refine A0 (g_bslice (T := u8T) (xs := [_]) rfl sl_102 row_102 ⟨rfl, rfl, trivial⟩ rfl rfl) ?_
 refine aw_append rfl rfl rfl rfl rfl rfl rfl row_102 (by (try simp only [List.length_append, List.length_cons, List.length_nil, List.length_replicate, List.length_take, numBytes_len]); omega) ?_; refine A0 aO ?_; refine CNQ ?_; refine CB ?_
 refine aw_rerow (n := 1) (y := b ++ 128 :: List.replicate 0 0) rfl (by simp) ?_
 refine Lp (ι := Nat) 2 (fun (j : Nat) => ((Fr.none).set 0 (.val (bsl u8T) b)).set 3 (.own 1)) (fun (j : Nat) => (Hp.none).set 1 (.row 5 u8T (b ++ 128 :: List.replicate j 0))) (fun (j : Nat) => j ≤ padZ b.length) (fun (j : Nat) => padZ b.length - j) (0) (Nat.zero_le _) ?_
 intro j hinv
 refine CQQR ?_; refine A0 mO ?_; refine A0 (g_len_o rfl rfl rfl isl_102) ?_; refine A0 (g_rem rfl rfl rfl (by first | omega | assumption) (by first | decide | omega) rfl) ?_; refine A0 o_neq ?_; refine CN ?_
 refine aw_ifc (p := j < padZ b.length) rfl (by simp [IntL.toI]; rw [← decide_not, decide_eq_decide]; omega) (fun ht15 => ?_) (fun ht15 => ?_)
 ·
  refine CS ?_; refine CB ?_; refine CR ?_; refine A0 mO ?_; refine A0 (g_bslice (T := u8T) (xs := [_]) rfl sl_102 row_102 ⟨rfl, rfl, trivial⟩ rfl rfl) ?_
  refine aw_append rfl rfl rfl rfl rfl rfl rfl row_102 (by (try simp only [List.length_append, List.length_cons, List.length_nil, List.length_replicate, List.length_take, numBytes_len]); omega) ?_; refine A0 aO ?_; refine CN ?_; refine CI ?_
  refine aw_ren 2 1 3 rfl rfl rfl rfl rfl rfl ?_; refine aw_rerow (n := 1) (y := b ++ 128 :: List.replicate (j + 1) 0) rfl (by rw [List.replicate_succ']; simp) ?_
  exact Nx (j + 1) (by omega) (by omega)
 ·
  obtain rfl : j = padZ b.length := (by omega)
  refine CE ?_; refine CQR ?_; refine A0 mV ?_; refine A0 (g_len rfl rfl isl_102) ?_; refine A0 o_mul ?_; refine A0 (g_cv64 rfl (ui_24) (us_3) rfl) ?_
  refine aw_reval (d := 22) (y := (8 * u64OfI (IntL.toI i64T (b.length : Int)))) rfl (mul8 _) ?_; refine A0 aV ?_; refine CNQR ?_; refine A0 aV ?_; refine CNQQR ?_; refine A0 aV ?_; refine CNB ?_
  refine aw_rerow (n := 1) (y := (b ++ 128 :: List.replicate (padZ b.length) 0) ++ (numBytes (8 * u64OfI (IntL.toI i64T (b.length : Int))) 8).take 0) rfl (by simp) ?_; refine aw_reval (d := 5) (y := byN 0) rfl (shr_zero _) ?_
  refine Lp (ι := Nat) 2 (fun (k : Nat) => ((((Fr.none).set 3 (.own 1)).set 4 (.val u64T (8 * u64OfI (IntL.toI i64T (b.length : Int))))).set 5 (.val u64T (byN k))).set 6 (.val i64T (k : Int))) (fun (k : Nat) => (Hp.none).set 1 (.row 5 u8T ((b ++ 128 :: List.replicate (padZ b.length) 0) ++ (numBytes (8 * u64OfI (IntL.toI i64T (b.length : Int))) 8).take k))) (fun (k : Nat) => k ≤ 8) (fun (k : Nat) => 8 - k) (0) (Nat.zero_le _) ?_
  intro k hinv
  refine CQQR ?_; refine A0 mV ?_; refine A0 o_lss ?_; refine CN ?_
  refine Cf (p := k < 8) (fun ht24 => ?_) (fun ht24 => ?_)
  ·
   refine CSQBQR ?_; refine A0 mO ?_; refine A0 mV ?_; refine A0 mV ?_; refine A0 (g_quo64 rfl rfl rfl (by first | decide | exact byN_ne ht24)) ?_; refine A0 (g_rem64 rfl rfl rfl (by first | decide | exact byN_ne ht24)) ?_
   refine A0 (g_cv8 rfl (ui_5) (us_24) rfl) ?_; refine A0 (g_bslice (T := u8T) (xs := [_]) rfl sl_102 row_102 ⟨rfl, rfl, trivial⟩ rfl rfl) ?_
   refine aw_append rfl rfl rfl rfl rfl rfl rfl row_102 (by (try simp only [List.length_append, List.length_cons, List.length_nil, List.length_replicate, List.length_take, numBytes_len]); omega) ?_; refine A0 aO ?_; refine CNR ?_
   refine A0 mV ?_; refine A0 (g_quo64 rfl rfl rfl (by first | decide | exact byN_ne ht24)) ?_; refine A0 aV ?_; refine CNIR ?_; refine A0 mV ?_; refine A0 o_add ?_; refine A0 aV ?_; refine CN ?_; refine aw_ren 2 1 3 rfl rfl rfl rfl rfl rfl ?_
   refine aw_rerow (n := 1) (y := (b ++ 128 :: List.replicate (padZ b.length) 0) ++ (numBytes (8 * u64OfI (IntL.toI i64T (b.length : Int))) 8).take (k + 1)) rfl (by rw [List.append_assoc]; exact congrArg _ (numBytes_take ht24)) ?_
   refine aw_reval (d := 5) (y := byN (k + 1)) rfl (shr_step ht24) ?_
   exact Nx (k + 1) (by omega) (by omega)
  ·
   obtain rfl : k = 8 := (by omega)
   refine CE ?_; refine CQR ?_; refine A0 mO ?_; refine A0 aO ?_; refine CN ?_
   exact aw_ret1 rfl rfl (ret_fresh_eq rfl rfl (by rw [List.take_of_length_le (by rw [numBytes_len]; exact Nat.le_refl _)]; rfl))
theorem rsumB_ok (b : List UInt8) (hb : b.length ≤ 70368744177664) : Tells P 139 [.val (bsl u8T) b] (.val idT (shaSum b)) := by
 obtain ⟨m, hm⟩ : ∃ m, m = (b.length + padZ b.length + 9) / 64 := ⟨_, rfl⟩
 have hz2 : padZ b.length < 64 := by unfold padZ; omega
 have hpl : (padOf b).length = 64 * m := by rw [padOf_len, hm]
 have hmb : m ≤ 2000000000000 := by omega
 refine fn_of_aw Tryz.func139 rfl rfl rfl (fun ext w hext => ?_)
 refine aw_fact (d := 0) rfl fact_sl (fun hsl0 => ?_)
 refine CQR ?_; refine aw_alloc ze_23 rfl rfl rfl rfl ?_; refine CNQR ?_; refine A0 mV ?_; refine A0 (oCl (tells_pub (rpad_ok b hb)) rfl fn_176 ⟨(arg_v rfl), trivial⟩) ?_; refine A0 aV ?_; refine CNQR ?_
 refine A0 (oCl (rfirst_ok) rfl fn_177 trivial) ?_; refine A0 aV ?_; refine CNQQR ?_; refine A0 aV ?_; refine CNB ?_
 refine Lp (ι := Nat) 1 (fun (k : Nat) => ((((Fr.none).set 2 (.ptr 0 0)).set 3 (.val (sl u8T) (padOf b))).set 4 (.val (sl u32T) (shaN (padOf b) k))).set 5 (.val i64T ((64 * k : Nat) : Int))) (fun (k : Nat) => (Hp.none).set 0 (.box 23 idT zId)) (fun (k : Nat) => k ≤ m) (fun (k : Nat) => m - k) (0) (Nat.zero_le _) ?_
 intro k hinv
 refine CQQR ?_; refine A0 mV ?_; refine A0 mV ?_; refine A0 (g_len rfl rfl isl_102) ?_; refine A0 o_lss ?_; refine CN ?_
 refine Cf (p := 64 * k < (padOf b).length) (fun ht14 => ?_) (fun ht14 => ?_)
 ·
  refine CS ?_; refine CQ ?_; refine CB ?_; refine CR ?_; refine A0 mV ?_; refine A0 mV ?_; refine A0 mV ?_; refine A0 mV ?_; refine A0 o_add ?_; refine A0 (g_sl_lh rfl rfl rfl rfl sl_102 (by first | assumption | omega | (simp; omega))) ?_
  refine aw_reval (d := 22) (y := ((padOf b).take (64 * k + 64)).drop (64 * k)) rfl (by congr 1) ?_
  refine A0 (oCl (tells_pub (rwords_ok (((padOf b).take (64 * k + 64)).drop (64 * k)) (by rw [List.length_drop, List.length_take]; omega))) rfl fn_179 ⟨(arg_v rfl), trivial⟩) ?_
  refine A0 (oCl (tells_pub (rrounds_ok (shaN (padOf b) k) (schedN (((padOf b).take (64 * k + 64)).drop (64 * k)) 64) (shaN_len _ k) (schedN_len 64))) rfl fn_178 ⟨(arg_v rfl), (arg_v rfl), trivial⟩) ?_; refine A0 aV ?_; refine CNIR ?_
  refine A0 mV ?_; refine A0 o_add ?_; refine A0 aV ?_; refine CN ?_; refine aw_reval (d := 4) (y := shaN (padOf b) (k + 1)) rfl shaN_succ ?_; refine aw_reval (d := 5) (y := ((64 * (k + 1) : Nat) : Int)) rfl (by omega) ?_
  exact Nx (k + 1) (by omega) (by omega)
 ·
  obtain rfl : m = k := (by omega)
  refine CE ?_; refine CQR ?_; refine aw_alloc ze_23 rfl rfl rfl rfl ?_; refine CNQQR ?_; refine A0 aV ?_; refine CNB ?_
  refine Lp (ι := Nat) 2 (fun (k : Nat) => ((((Fr.none).set 2 (.ptr 0 0)).set 4 (.val (sl u32T) (shaN (padOf b) m))).set 6 (.ptr 1 0)).set 7 (.val i64T (k : Int))) (fun (k : Nat) => ((Hp.none).set 0 (.box 23 idT zId)).set 1 (.box 23 idT (shaOut (shaN (padOf b) m) (4 * k)))) (fun (k : Nat) => k ≤ 8) (fun (k : Nat) => 8 - k) (0) (Nat.zero_le _) ?_
  intro k hinv
  refine CQQR ?_; refine A0 mV ?_; refine A0 o_lss ?_; refine CN ?_
  refine Cf (p := k < 8) (fun ht26 => ?_) (fun ht26 => ?_)
  ·
   obtain ⟨v, hv⟩ : ∃ x, (shaN (padOf b) m)[k]? = some x := ⟨_, List.getElem?_eq_getElem (by rw [shaN_len]; exact ht26)⟩
   refine CSQBQR ?_; refine A0 mV ?_; refine A0 o_mul ?_; refine A0 mV ?_; refine A0 mV ?_; refine A0 (g_ia_i (i := k) rfl rfl rfl (by omega) sl_197 (by assumption)) ?_; refine A0 (g_load_r rfl rfl ty_27) ?_
   refine A0 (g_quo32 rfl rfl rfl (by decide)) ?_; refine A0 (g_cv8 rfl (ui_5) (us_27) rfl) ?_; refine A0 (g_ia_b0 (i := 4 * k) rfl rfl rfl (by first | omega | rfl) ar_23 (by omega)) ?_
   refine aw_store_b rfl rfl rfl rfl rfl (Lens.elem (i := 4 * k) (by omega) u8T) ty_5 rfl ?_; refine CNQR ?_; refine A0 mV ?_; refine A0 o_mul ?_; refine A0 o_add ?_; refine A0 mV ?_; refine A0 mV ?_
   refine A0 (g_ia_i (i := k) rfl rfl rfl (by omega) sl_197 (by assumption)) ?_; refine A0 (g_load_r rfl rfl ty_27) ?_; refine A0 (g_quo32 rfl rfl rfl (by decide)) ?_; refine A0 (g_rem32 rfl rfl rfl (by decide)) ?_
   refine A0 (g_cv8 rfl (ui_5) (us_27) rfl) ?_; refine A0 (g_ia_b0 (i := 4 * k + 1) rfl rfl rfl (by first | omega | rfl) ar_23 (by omega)) ?_; refine aw_store_b rfl rfl rfl rfl rfl (Lens.elem (i := 4 * k + 1) (by omega) u8T) ty_5 rfl ?_
   refine CNQR ?_; refine A0 mV ?_; refine A0 o_mul ?_; refine A0 o_add ?_; refine A0 mV ?_; refine A0 mV ?_; refine A0 (g_ia_i (i := k) rfl rfl rfl (by omega) sl_197 (by assumption)) ?_; refine A0 (g_load_r rfl rfl ty_27) ?_
   refine A0 (g_quo32 rfl rfl rfl (by decide)) ?_; refine A0 (g_rem32 rfl rfl rfl (by decide)) ?_; refine A0 (g_cv8 rfl (ui_5) (us_27) rfl) ?_; refine A0 (g_ia_b0 (i := 4 * k + 2) rfl rfl rfl (by first | omega | rfl) ar_23 (by omega)) ?_
   refine aw_store_b rfl rfl rfl rfl rfl (Lens.elem (i := 4 * k + 2) (by omega) u8T) ty_5 rfl ?_; refine CNR ?_; refine A0 mV ?_; refine A0 o_mul ?_; refine A0 o_add ?_; refine A0 mV ?_; refine A0 mV ?_
   refine A0 (g_ia_i (i := k) rfl rfl rfl (by omega) sl_197 (by assumption)) ?_; refine A0 (g_load_r rfl rfl ty_27) ?_; refine A0 (g_rem32 rfl rfl rfl (by decide)) ?_; refine A0 (g_cv8 rfl (ui_5) (us_27) rfl) ?_
   refine A0 (g_ia_b0 (i := 4 * k + 3) rfl rfl rfl (by first | omega | rfl) ar_23 (by omega)) ?_; refine aw_store_b rfl rfl rfl rfl rfl (Lens.elem (i := 4 * k + 3) (by omega) u8T) ty_5 rfl ?_; refine CNIR ?_; refine A0 mV ?_; refine A0 o_add ?_
   refine A0 aV ?_; refine CN ?_; refine aw_reheap (n := 1) (y := shaOut (shaN (padOf b) m) (4 * (k + 1))) rfl (out4 hv) ?_
   exact Nx (k + 1) (by omega) (by omega)
  ·
   obtain rfl : k = 8 := (by omega)
   refine CE ?_; refine CQR ?_; refine A0 (oLs rfl rfl rfl ty_23) ?_; refine aw_store_b rfl rfl rfl rfl rfl (Lens.self _) ty_23 rfl ?_; refine CN ?_
   exact aw_retc1 rfl rfl rfl rfl ty_23 (by rw [shaOut_all]; unfold shaSum shaWords; rw [hpl, Nat.mul_div_cancel_left m (by decide)])
theorem rof_ok (ls : List (List UInt8)) (hl : ls.flatten.length ≤ 70368744177664) : Tells P 120 [.val (bsl (bsl u8T)) ls] (.val idT (shaSum ls.flatten)) := by
 refine fn_of_aw Tryz.func120 rfl rfl rfl (fun ext w hext => ?_)
 refine aw_fact (d := 0) rfl fact_sl (fun hsl0 => ?_)
 refine CQR ?_; refine aw_alloc ze_23 rfl rfl rfl rfl ?_; refine CNQR ?_; refine A0 aL ?_; refine CNQQR ?_; refine A0 aV ?_; refine CNB ?_; refine aw_nilrow (T := u8T) (d := 3) 5 rfl ?_
 refine Lp (ι := Nat) 2 (fun (k : Nat) => ((((Fr.none).set 0 (.val (bsl (bsl u8T)) ls)).set 2 (.ptr 0 0)).set 3 (.own 1)).set 4 (.val i64T (k : Int))) (fun (k : Nat) => ((Hp.none).set 0 (.box 23 idT zId)).set 1 (.row 5 u8T (ls.take k).flatten)) (fun (k : Nat) => k ≤ ls.length) (fun (k : Nat) => ls.length - k) (0) (Nat.zero_le _) ?_
 intro k hinv
 refine CQQR ?_; refine A0 mV ?_; refine A0 mV ?_; refine A0 (g_len rfl rfl isl_150) ?_; refine A0 o_lss ?_; refine CN ?_
 refine Cf (p := k < ls.length) (fun ht8 => ?_) (fun ht8 => ?_)
 ·
  obtain ⟨x, hx⟩ : ∃ x, ls[k]? = some x := ⟨_, List.getElem?_eq_getElem ht8⟩
  have hfl := flat_take (k := k + 1) ls
  have hfs := flat_succ hx
  rw [hfs, List.length_append] at hfl
  refine CS ?_; refine CQ ?_; refine CB ?_; refine CR ?_; refine A0 mO ?_; refine A0 mV ?_; refine A0 mV ?_; refine A0 (g_ia_i (i := k) rfl rfl rfl (by omega) sl_150 (by assumption)) ?_; refine A0 (g_load_r rfl rfl ty_102) ?_
  refine aw_append rfl rfl rfl rfl rfl rfl rfl row_102 (by omega) ?_; refine A0 aO ?_; refine CNIR ?_; refine A0 mV ?_; refine A0 o_add ?_; refine A0 aV ?_; refine CN ?_; refine aw_ren 2 1 3 rfl rfl rfl rfl rfl rfl ?_
  refine aw_rerow (n := 1) (y := (ls.take (k + 1)).flatten) rfl hfs.symm ?_
  exact Nx (k + 1) (by omega) (by omega)
 ·
  refine aw_rerow (n := 1) (y := ls.flatten) rfl (by rw [List.take_of_length_le (by omega)]) ?_; refine CE ?_; refine CQR ?_; refine A0 mO ?_; refine A0 (oCl (rsumB_ok ls.flatten hl) rfl fn_139 ⟨(arg_own rfl rfl), trivial⟩) ?_
  refine aw_store_b rfl rfl rfl rfl rfl (Lens.self _) ty_23 rfl ?_; refine CN ?_
  exact aw_retc1 rfl rfl rfl rfl ty_23 (rfl)
theorem rput_ok (t : Tx) : Tells P 155 [.val txT t] (.tup2 (.fresh 5 u8T (if mayTx t = true then putTx t else [])) (.val boolT (mayTx t))) := by
 refine fn_of_aw Tryz.func155 rfl rfl rfl (fun ext w hext => ?_)
 refine aw_fact (d := 0) rfl fact_tx (fun h32 => ?_)
 refine CQR ?_; refine aw_box rfl rfl rfl rfl rfl ?_; refine A0 aL ?_; refine A0 aV ?_; refine CNQR ?_; refine A0 (oLs rfl rfl rfl ty_99) ?_; refine A0 (oCl (rmayTx_ok _) rfl fn_106 ⟨(arg_v rfl), trivial⟩) ?_; refine A0 aV ?_; refine CNQQR ?_
 refine A0 mV ?_; refine A0 oN ?_; refine CN ?_
 refine aw_ifc (p := ¬ mayTx t = true) rfl (by simp) (fun ht11 => ?_) (fun ht11 => ?_)
 ·
  refine CQR ?_; refine A0 aL ?_; refine A0 aV ?_; refine CN ?_
  exact aw_ret2 rfl rfl (by rw [if_neg ht11]; exact ret_fresh_nil rfl) (ret_eq rfl (by simpa using ht11))
 ·
  have hmay := Classical.not_not.1 ht11
  obtain ⟨hmi, hm0, hmo⟩ := mayTx_lens hmay
  refine CSQR ?_; refine A0 (oFp fd_99_0) ?_; refine A0 (oLb L_Tx_ins ty_96) ?_; refine A0 (g_len rfl rfl isl_96) ?_; refine A0 (g_cv8 rfl (ui_5) (us_3) rfl) ?_
  refine aw_bslice (T := u8T) (xs := [_]) rfl rfl rfl rfl sl_102 row_102 ⟨rfl, rfl, trivial⟩ rfl rfl ?_; refine A0 aO ?_; refine CNQQR ?_; refine A0 aV ?_; refine CNB ?_
  refine Lp (ι := Nat) 2 (fun (k : Nat) => (((Fr.none).set 1 (.ptr 0 0)).set 5 (.own 1)).set 6 (.val i64T (k : Int))) (fun (k : Nat) => ((Hp.none).set 0 (.box 99 txT t)).set 1 (.row 5 u8T (putIns t k))) (fun (k : Nat) => k ≤ t.ins.length ∧ (putIns t k).length = 33 * k + 1) (fun (k : Nat) => t.ins.length - k) (0) (⟨Nat.zero_le _, by simp [putIns]⟩) ?_
  intro k hinv
  obtain ⟨hk, hpl⟩ := hinv
  have hinv := And.intro hk hpl
  refine CQQR ?_; refine A0 mV ?_; refine A0 (oFp fd_99_0) ?_; refine A0 (oLb L_Tx_ins ty_96) ?_; refine A0 (g_len rfl rfl isl_96) ?_; refine A0 o_lss ?_; refine CN ?_
  refine Cf (p := k < t.ins.length) (fun ht21 => ?_) (fun ht21 => ?_)
  ·
   obtain ⟨x, hx⟩ : ∃ x, t.ins[k]? = some x := ⟨_, List.getElem?_eq_getElem ht21⟩
   have hx32 := h32 x (List.mem_of_getElem? hx)
   refine CSQBQR ?_; refine A0 mO ?_; refine A0 (oFp fd_99_0) ?_; refine A0 (oLb L_Tx_ins ty_96) ?_; refine A0 mV ?_; refine A0 (g_ia_i (i := k) rfl rfl rfl (by omega) sl_96 (by assumption)) ?_; refine A0 (oFr fd_119_0 L_In_tx) ?_
   refine A0 (g_slice_r rfl rfl ar_23 rfl rfl) ?_; refine aw_append rfl rfl rfl rfl rfl rfl rfl row_102 (by show (_ + x.tx.length) * 1 ≤ _ ∧ _ + x.tx.length ≤ _; omega) ?_; refine A0 aO ?_; refine CNR ?_; refine A0 mO ?_
   refine A0 (oFp fd_99_0) ?_; refine A0 (oLb L_Tx_ins ty_96) ?_; refine A0 mV ?_; refine A0 (g_ia_i (i := k) rfl rfl rfl (by omega) sl_96 (by assumption)) ?_; refine A0 (oFr fd_119_1 L_In_i) ?_; refine A0 (g_load_r rfl rfl ty_3) ?_
   refine A0 (g_cv8 rfl (ui_5) (us_3) rfl) ?_; refine A0 (g_bslice (T := u8T) (xs := [_]) rfl sl_102 row_102 ⟨rfl, rfl, trivial⟩ rfl rfl) ?_
   refine aw_append rfl rfl rfl rfl rfl rfl rfl row_102 (by simp only [List.length_append, List.length_cons, List.length_nil, hx32]; omega) ?_; refine A0 aO ?_; refine CNIR ?_; refine A0 mV ?_; refine A0 o_add ?_; refine A0 aV ?_; refine CN ?_
   refine aw_ren 3 1 4 rfl rfl rfl rfl rfl rfl ?_; refine aw_rerow (n := 1) rfl (putIns_step hx).symm ?_
   exact Nx (k + 1) (⟨by omega, by rw [putIns_step hx]; simp only [List.length_append, List.length_cons, List.length_nil, hx32]; omega⟩) (by omega)
  ·
   obtain rfl : k = t.ins.length := (by omega)
   obtain ⟨hli, _⟩ := hinv
   refine CE ?_; refine CQR ?_; refine A0 mO ?_; refine A0 (oFp fd_99_1) ?_; refine A0 (oLb L_Tx_outs ty_97) ?_; refine A0 (g_len rfl rfl isl_97) ?_; refine A0 (g_cv8 rfl (ui_5) (us_3) rfl) ?_
   refine A0 (g_bslice (T := u8T) (xs := [_]) rfl sl_102 row_102 ⟨rfl, rfl, trivial⟩ rfl rfl) ?_; refine aw_append rfl rfl rfl rfl rfl rfl rfl row_102 (by simp only [List.length_append, List.length_cons, List.length_nil]; omega) ?_
   refine A0 aO ?_; refine CNQQR ?_; refine A0 aV ?_; refine CNB ?_; refine aw_ren 2 1 3 rfl rfl rfl rfl rfl rfl ?_; refine aw_rerow (y := putOuts t 0) (n := 1) rfl (by simp [putOuts]) ?_
   refine Lp (ι := Nat) 2 (fun (k : Nat) => (((Fr.none).set 1 (.ptr 0 0)).set 5 (.own 1)).set 7 (.val i64T (k : Int))) (fun (k : Nat) => ((Hp.none).set 0 (.box 99 txT t)).set 1 (.row 5 u8T (putOuts t k))) (fun (k : Nat) => k ≤ t.outs.length ∧ (putOuts t k).length = 7 * k + 2 + 33 * t.ins.length) (fun (k : Nat) => t.outs.length - k) (0) (⟨Nat.zero_le _, by simp [putOuts, hpl]; omega⟩) ?_
   intro k hinv
   refine CQQR ?_; refine A0 mV ?_; refine A0 (oFp fd_99_1) ?_; refine A0 (oLb L_Tx_outs ty_97) ?_; refine A0 (g_len rfl rfl isl_97) ?_; refine A0 o_lss ?_; refine CN ?_
   refine Cf (p := k < t.outs.length) (fun ht53 => ?_) (fun ht53 => ?_)
   ·
    obtain ⟨x, hx⟩ : ∃ x, t.outs[k]? = some x := ⟨_, List.getElem?_eq_getElem ht53⟩
    refine CSQBQR ?_; refine A0 mO ?_; refine A0 (oFp fd_99_1) ?_; refine A0 (oLb L_Tx_outs ty_97) ?_; refine A0 mV ?_; refine A0 (g_ia_i (i := k) rfl rfl rfl (by omega) sl_97 (by assumption)) ?_; refine A0 (oFr fd_121_0 L_Out_v) ?_
    refine A0 (g_load_r rfl rfl ty_3) ?_; refine A0 (g_cv64 rfl (ui_24) (us_3) rfl) ?_; refine A0 (oCl (tells_pub (rbin_ok _ 6 (by decide))) rfl fn_159 ⟨(arg_v rfl), (arg_v rfl), trivial⟩) ?_
    refine aw_append rfl rfl rfl rfl rfl rfl rfl row_102 (by simp only [List.length_append, List.length_cons, List.length_nil, numBytes_len]; omega) ?_; refine A0 aO ?_; refine CNR ?_; refine A0 mO ?_; refine A0 (oFp fd_99_1) ?_
    refine A0 (oLb L_Tx_outs ty_97) ?_; refine A0 mV ?_; refine A0 (g_ia_i (i := k) rfl rfl rfl (by omega) sl_97 (by assumption)) ?_; refine A0 (oFr fd_121_1 L_Out_to) ?_; refine A0 (g_load_r rfl rfl ty_3) ?_
    refine A0 (g_cv8 rfl (ui_5) (us_3) rfl) ?_; refine A0 (g_bslice (T := u8T) (xs := [_]) rfl sl_102 row_102 ⟨rfl, rfl, trivial⟩ rfl rfl) ?_
    refine aw_append rfl rfl rfl rfl rfl rfl rfl row_102 (by simp only [List.length_append, List.length_cons, List.length_nil, numBytes_len]; omega) ?_; refine A0 aO ?_; refine CNIR ?_; refine A0 mV ?_; refine A0 o_add ?_; refine A0 aV ?_
    refine CN ?_; refine aw_ren 3 1 4 rfl rfl rfl rfl rfl rfl ?_; refine aw_rerow (n := 1) rfl (putOuts_step hx).symm ?_
    exact Nx (k + 1) (⟨by omega, by rw [putOuts_step hx]; simp only [List.length_append, List.length_cons, List.length_nil, numBytes_len]; omega⟩) (by omega)
   ·
    refine CE ?_; refine CQR ?_; refine A0 mO ?_; refine A0 aO ?_; refine A0 aV ?_; refine CN ?_
    exact aw_ret2 rfl rfl (ret_fresh_eq rfl rfl (by rw [if_pos hmay, show k = t.outs.length by omega]; rfl)) (ret_eq rfl hmay.symm)
theorem rid_ok (t : Tx) : Tells P 108 [.val txT t] (.val idT (idOf t)) := by
 refine fn_of_aw Tryz.func108 rfl rfl rfl (fun ext w hext => ?_)
 refine aw_fact (d := 0) rfl fact_tx (fun h32 => ?_)
 refine CQR ?_; refine aw_box rfl rfl rfl rfl rfl ?_; refine aw_alloc ze_23 rfl rfl rfl rfl ?_; refine CNQR ?_; refine A0 (oLs rfl rfl rfl ty_99) ?_; refine A0 (oCl (tells_pub2 (rput_ok t)) rfl fn_155 ⟨(arg_v rfl), trivial⟩) ?_
 refine A0 mX ?_; refine A0 (by first | exact g_x20 rfl rfl | exact g_x30 rfl rfl) ?_; refine A0 (by first | exact g_x21 rfl rfl | exact g_x31 rfl rfl) ?_; refine A0 aV ?_; refine A0 aV ?_; refine CNQQR ?_; refine A0 mV ?_; refine A0 oN ?_
 refine CN ?_
 refine aw_ifc (p := ¬ mayTx t = true) rfl (by simp) (fun ht11 => ?_) (fun ht11 => ?_)
 ·
  refine CQR ?_; refine A0 (g_buildZ rfl ar_23 ze_23 rfl) ?_; refine aw_store_b rfl rfl rfl rfl rfl (Lens.self _) ty_23 rfl ?_; refine CN ?_
  exact aw_retc1 rfl rfl rfl rfl ty_23 (by unfold idOf; rw [if_neg ht11])
 ·
  refine aw_reval (d := 3) rfl (if_pos (Classical.not_not.1 ht11)) ?_; refine CSQR ?_; refine A0 (g_bslice (T := u8T) (xs := [_]) rfl sl_102 row_102 ⟨rfl, rfl, trivial⟩ rfl rfl) ?_; refine A0 mV ?_
  refine A0 (g_bslice (T := (sl u8T)) (xs := [_, _]) rfl sl_150 row_150 ⟨rfl, rfl, rfl, rfl, trivial⟩ rfl rfl) ?_
  refine A0 (oCl (rof_ok [[6], putTx t] (by have := putTx_len (Classical.not_not.1 ht11) h32; simp; omega)) rfl fn_120 ⟨(arg_v rfl), trivial⟩) ?_; refine aw_store_b rfl rfl rfl rfl rfl (Lens.self _) ty_23 rfl ?_; refine CN ?_
  exact aw_retc1 rfl rfl rfl rfl ty_23 (by unfold idOf; rw [if_pos (Classical.not_not.1 ht11)]; simp)
end Go.Proofs.YtgoiacajjicjcaaGreat
