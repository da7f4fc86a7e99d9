/- Parts of the proof: the layer that reads Go values as data, and what the functions of the program tell. -/
import Derived.Test.YtgoiacajjicjcaaGreatK4
set_option maxRecDepth 20000
namespace Go.Proofs.YtgoiacajjicjcaaGreat
set_option linter.unusedVariables false
set_option linter.unusedSimpArgs false
open Go.Ab Go.RowKit
def pushE (t : Tip) (b : Block) : Int :=
  if 48 ≤ b.h.height then 3 else if ¬ behindH b.h = behindH (nextH t b.t b.h.nonce) then 5 else
  if ¬ b.h.links = (nextH t b.t b.h.nonce).links ∨ ¬ b.l = linksT t then 6 else if ¬ b.h = nextH t b.t b.h.nonce then 7 else
  if ¬ headMay b.h = true then 4 else (applyOf t.c b.t).2
def pushT (t : Tip) (b : Block) : Tip := if pushE t b = 0 then ⟨b, mmrAppend t.p (leafH b.h), (applyOf t.c b.t).1⟩ else t
def mineBE (t : Tip) (l : List Tx) (nonce : UInt64) (tries : Int) : Int :=
  if 48 ≤ (nextH t l nonce).height then 3 else if ¬ (applyOf t.c l).2 = 0 then (applyOf t.c l).2 else if (mineOf (nextH t l nonce) tries).isSome = true then 0 else 4
def mineB (t : Tip) (l : List Tx) (nonce : UInt64) (tries : Int) : Block :=
  if mineBE t l nonce tries = 0 then ⟨(mineOf (nextH t l nonce) tries).getD (nextH t l nonce), linksT t, l⟩ else zBlock
theorem ask_two {x : Trial} : firstE [some 45, some 46] x = if 48 ≤ x.b.h.height then 3 else (applyOf x.t.c x.b.t).2 := by
  show (if sizeE x = 0 then (if coinsE x = 0 then 0 else coinsE x) else sizeE x) = _
  unfold sizeE coinsE
  by_cases h : 48 ≤ x.b.h.height
  · rw [if_pos h, if_pos h, if_neg (by decide)]
  · rw [if_neg h, if_neg h, if_pos rfl]; split <;> simp_all
theorem ite_stop {p : Prop} [Decidable p] {e r : Int} (he : e ≠ 0) : (if (if p then e else 0) = 0 then r else (if p then e else 0)) = if p then e else r := by
  by_cases h : p
  · rw [if_pos h, if_pos h, if_neg he]
  · rw [if_neg h, if_neg h, if_pos rfl]
theorem ask_all {t : Tip} {b : Block} {c : List Coin} : firstE [some 45, some 53, some 54, some 55, some 56, some 46] ⟨t, b, nextH t b.t b.h.nonce, c⟩ = pushE t b := by
  obtain ⟨x, hx⟩ : ∃ x : Trial, x = ⟨t, b, nextH t b.t b.h.nonce, c⟩ := ⟨_, rfl⟩
  have e : pushE t b = pushE x.t x.b := by rw [hx]
  have hw : x.want = nextH x.t x.b.t x.b.h.nonce := by rw [hx]
  rw [e, ← hx]
  show (if sizeE x = 0 then (if prevE x = 0 then (if linkE x = 0 then (if rootE x = 0 then (if workE x = 0 then (if coinsE x = 0 then 0 else coinsE x) else workE x) else rootE x) else linkE x) else prevE x) else sizeE x) = _
  have hc : (if coinsE x = 0 then 0 else coinsE x) = coinsE x := by split <;> simp_all
  rw [hc]
  unfold sizeE prevE linkE rootE workE coinsE pushE
  rw [ite_stop (by decide), ite_stop (by decide), ite_stop (by decide), ite_stop (by decide), ite_stop (by decide), hw]
theorem ask_allX {t : Tip} {b : Block} {c : List Coin} (h : pushE t b = 0) : (firstX [some 45, some 53, some 54, some 55, some 56, some 46] ⟨t, b, nextH t b.t b.h.nonce, c⟩).c = (applyOf t.c b.t).1 := by
  obtain ⟨x, hx⟩ : ∃ x : Trial, x = ⟨t, b, nextH t b.t b.h.nonce, c⟩ := ⟨_, rfl⟩
  have hw : x.want = nextH x.t x.b.t x.b.h.nonce := by rw [hx]
  have h : pushE x.t x.b = 0 := by rw [hx]; exact h
  have e : (applyOf t.c b.t).1 = (applyOf x.t.c x.b.t).1 := by rw [hx]
  rw [e, ← hx]
  show (if sizeE x = 0 then (if prevE x = 0 then (if linkE x = 0 then (if rootE x = 0 then (if workE x = 0 then (if coinsE x = 0 then coinsX x else coinsX x) else x) else x) else x) else x) else x).c = _
  unfold pushE at h
  rw [← hw] at h
  by_cases h1 : 48 ≤ x.b.h.height
  · rw [if_pos h1] at h; exact absurd h (by decide)
  rw [if_neg h1] at h
  by_cases h2 : ¬ behindH x.b.h = behindH x.want
  · rw [if_pos h2] at h; exact absurd h (by decide)
  rw [if_neg h2] at h
  by_cases h3 : ¬ x.b.h.links = x.want.links ∨ ¬ x.b.l = linksT x.t
  · rw [if_pos h3] at h; exact absurd h (by decide)
  rw [if_neg h3] at h
  by_cases h4 : ¬ x.b.h = x.want
  · rw [if_pos h4] at h; exact absurd h (by decide)
  rw [if_neg h4] at h
  by_cases h5 : ¬ headMay x.b.h = true
  · rw [if_pos h5] at h; exact absurd h (by decide)
  rw [if_neg h5] at h
  unfold sizeE prevE linkE rootE workE coinsE
  rw [if_neg h1, if_neg h2, if_neg h3, if_neg h4, if_neg h5, if_pos rfl, if_pos rfl, if_pos rfl, if_pos rfl, if_pos rfl, if_pos h]
  rfl
theorem asks_all : ∀ f ∈ ([some 45, some 53, some 54, some 55, some 56, some 46] : List (Option Nat)), Asks f := by intro f hf; simp at hf; unfold Asks; exact hf
theorem asks_two : ∀ f ∈ ([some 45, some 46] : List (Option Nat)), Asks f := by intro f hf; simp at hf; unfold Asks; rcases hf with h | h <;> simp [h]
theorem mineBE_err {t : Tip} {l : List Tx} {nonce : UInt64} {tries : Int} (h : ¬ (if 48 ≤ (nextH t l nonce).height then 3 else (applyOf t.c l).2) = 0) : mineBE t l nonce tries = (if 48 ≤ (nextH t l nonce).height then 3 else (applyOf t.c l).2) := by
  unfold mineBE
  split
  · rfl
  · rename_i h1; rw [if_neg h1] at h; rw [if_pos h]
theorem mineBE_work {t : Tip} {l : List Tx} {nonce : UInt64} {tries : Int} (h : (if 48 ≤ (nextH t l nonce).height then 3 else (applyOf t.c l).2) = 0) (h2 : ¬ (mineOf (nextH t l nonce) tries).isSome = true) : mineBE t l nonce tries = 4 := by
  unfold mineBE
  split
  · rename_i h1; rw [if_pos h1] at h; exact absurd h (by decide)
  · rename_i h1; rw [if_neg h1] at h; simp only [h, h2, not_true_eq_false, if_false]
theorem mineBE_ok {t : Tip} {l : List Tx} {nonce : UInt64} {tries : Int} (h : (if 48 ≤ (nextH t l nonce).height then 3 else (applyOf t.c l).2) = 0) (h2 : (mineOf (nextH t l nonce) tries).isSome = true) : mineBE t l nonce tries = 0 := by
  unfold mineBE
  split
  · rename_i h1; rw [if_pos h1] at h; exact absurd h (by decide)
  · rename_i h1; rw [if_neg h1] at h; simp only [h, h2, not_true_eq_false, if_false]
theorem push_ok (t : Tip) (b : Block) (ht : smallTip t) (hb : smallB b) : Tells P 17 [.val tipT t, .val blockT b] (.tup2 (.val tipT (pushT t b)) (.val i64T (pushE t b))) := by
 have hbt := hb.2.1
 have htp := ht.2.1
 refine fn_of_aw Tryz.func17 rfl rfl rfl (fun ext w hext => ?_)
 refine CQR ?_; refine aw_box rfl rfl rfl rfl rfl ?_; refine aw_box rfl rfl rfl rfl rfl ?_; refine aw_alloc ze_37 rfl rfl rfl rfl ?_; refine A0 aV ?_; refine CNQ ?_
 refine aw_drawx [some 1, some 1, some 1, some 1, some 1, some 1, some 1, some 1, some 1, some 1, none, some 1] mixed (by decide +kernel) ?_; refine X0 (oLs rfl rfl rfl ty_37) ?_; refine X0 (oLs rfl rfl rfl ty_33) ?_
 refine X0 (oLs rfl rfl rfl ty_37) ?_; refine X0 (oFp fd_33_2) ?_; refine X0 (oLb L_Block_t ty_31) ?_; refine X0 (oFp fd_33_0) ?_; refine X0 (oFp fd_29_7) ?_; refine X0 (oLb (L_Block_h.comp L_Head_nonce) ty_24) ?_
 refine X0 (oCl (nextH_ok t b.t b.h.nonce (by omega) (by omega)) rfl fn_22 ⟨(arg_v rfl), (arg_v rfl), (arg_v rfl), trivial⟩) ?_
 refine X0 (g_build rfl ze_77 bd_77 (.cons fd_77_0 L_Trial_t ty_37 rfl (.cons fd_77_1 L_Trial_b ty_33 rfl (.cons fd_77_2 L_Trial_want ty_29 rfl .nil))) rfl) ?_
 refine XK.e (fun fr' hfr kk H => by exact aw_box rfl rfl rfl rfl ((hfr 18 (by decide +kernel)).trans rfl) (aw_nil H)) ?_; refine X0 aP ?_; refine XK.nil' ?_; refine CQR ?_
 refine A0 (g_buildF (xs := [_, _, _, _, _, _]) rfl ar_87 ze_87 ⟨rfl, ⟨_, rfl, rfl⟩, rfl, ⟨_, rfl, rfl⟩, rfl, ⟨_, rfl, rfl⟩, rfl, ⟨_, rfl, rfl⟩, rfl, ⟨_, rfl, rfl⟩, rfl, ⟨_, rfl, rfl⟩, trivial⟩ rfl) ?_; refine aw_alloc ze_87 rfl rfl rfl rfl ?_
 refine aw_store_b rfl rfl rfl rfl rfl (Lens.self _) ty_87 rfl ?_; refine CNQ ?_; refine CQ ?_; refine aw_freeze (d := 7) rfl rfl (Lens.self _) ?_; refine CR ?_; refine A0 mP ?_; refine A0 (g_slice_r rfl rfl ar_87 rfl rfl) ?_
 refine aw_callu (first_ok ⟨t, b, nextH t b.t b.h.nonce, []⟩ [some 45, some 53, some 54, some 55, some 56, some 46] ⟨ht, by show b.t.length ≤ 1000; omega⟩ asks_all) rfl fn_44 rfl trivial trivial rfl ⟨(by first | exact argm_own rfl | exact argm_ptr rfl | exact argm_same rfl | exact argm_bsl rfl | exact argm_lit rfl | exact argm_clo rfl | exact argm_row rfl rfl (by decide)), (by first | exact argm_own rfl | exact argm_ptr rfl | exact argm_same rfl | exact argm_bsl rfl | exact argm_lit rfl | exact argm_clo rfl | exact argm_row rfl rfl (by decide)), trivial⟩ rfl rfl rfl ?_
 refine aw_reval (d := 23) rfl ask_all ?_; refine A0 aV ?_; refine CNQR ?_; refine A0 mV ?_; refine A0 o_neq ?_; refine CN ?_
 refine aw_ifc (p := ¬ pushE t b = 0) rfl (by simp [IntL.toI]) (fun ht25 => ?_) (fun ht25 => ?_)
 ·
  refine CQR ?_; refine A0 (oLs rfl rfl rfl ty_37) ?_; refine A0 (oCl (own_ok t ht) rfl fn_57 ⟨(arg_v rfl), trivial⟩) ?_; refine A0 mV ?_; refine aw_store_b rfl rfl rfl rfl rfl (Lens.self _) ty_37 rfl ?_; refine A0 aV ?_; refine CN ?_
  exact aw_retr2 rfl rfl (rv_cell rfl rfl ty_37 (by unfold pushT; rw [if_neg ht25])) (rv_tmp (ret_eq rfl (rfl)))
 ·
  refine CS ?_; refine CQ ?_; refine aw_drawx [some 1, some 1, some 1, some 1, some 1, some 1, some 1, some 1, some 1, some 1, some 1, some 1, some 1, none, some 1] mixed (by decide +kernel) ?_; refine X0 (oLs rfl rfl rfl ty_33) ?_
  refine X0 (oCl (copied_ok b hb) rfl fn_58 ⟨(arg_v rfl), trivial⟩) ?_; refine X0 (oFp fd_37_1) ?_; refine X0 (oLb L_Tip_p ty_34) ?_; refine X0 (oFp fd_33_0) ?_; refine X0 (oLb L_Block_h ty_29) ?_
  refine X0 (oCl (leafH_ok _) rfl fn_37 ⟨(arg_v rfl), trivial⟩) ?_; refine X0 (oCl (tells_pub (mmrAppend_ok t.p (leafH b.h) (by omega))) rfl fn_36 ⟨(arg_v rfl), (arg_v rfl), trivial⟩) ?_; refine X0 mP ?_; refine X0 (g_nc rfl rfl) ?_
  refine X0 (oFp fd_77_3) ?_; refine X0 (oLb L_Trial_c ty_35) ?_; refine X0 (g_build rfl ze_37 bd_37 (.cons fd_37_0 L_Tip_b ty_33 rfl (.cons fd_37_1 L_Tip_p ty_34 rfl (.cons fd_37_2 L_Tip_c ty_35 rfl .nil))) rfl) ?_
  refine XK.e (x := .idk) (fun fr' hfr kk H => by exact aw_store_b rfl rfl rfl ((hfr 4 (by decide +kernel)).trans rfl) rfl (Lens.self _) ty_37 ((hfr 41 (by decide +kernel)).trans rfl) (aw_nil H)) ?_; refine X0 aV ?_; refine XK.nil' ?_
  exact aw_retr2 rfl rfl (rv_cell rfl rfl ty_37 (by unfold pushT; rw [if_pos (Classical.not_not.1 ht25), ask_allX (Classical.not_not.1 ht25)])) (rv_tmp (ret_eq rfl ((Classical.not_not.1 ht25).symm)))
theorem mineB_ok (t : Tip) (l : List Tx) (nonce : UInt64) (tries : Int) (ht : smallTip t) (hl : smallL l) : Tells P 15 [.val tipT t, .val (sl txT) l, .val u64T nonce, .val i64T tries] (.tup2 (.val blockT (mineB t l nonce tries)) (.val i64T (mineBE t l nonce tries))) := by
 have hbt := hl.1
 have htp := ht.2.1
 refine fn_of_aw Tryz.func15 rfl rfl rfl (fun ext w hext => ?_)
 refine aw_fact (d := 1) rfl fact_sl (fun hsl1 => ?_)
 refine aw_fact (d := 3) rfl fact_int (fun hin3 => ?_)
 refine CQR ?_; refine aw_box rfl rfl rfl rfl rfl ?_; refine aw_alloc ze_33 rfl rfl rfl rfl ?_; refine A0 aV ?_; refine CNQR ?_; refine A0 (oLs rfl rfl rfl ty_37) ?_; refine A0 mV ?_; refine A0 mV ?_
 refine A0 (oCl (nextH_ok t l nonce (by omega) (by omega)) rfl fn_22 ⟨(arg_v rfl), (arg_v rfl), (arg_v rfl), trivial⟩) ?_; refine aw_alloc ze_29 rfl rfl rfl rfl ?_; refine aw_store_b rfl rfl rfl rfl rfl (Lens.self _) ty_29 rfl ?_
 refine CNQR ?_; refine A0 (oLs rfl rfl rfl ty_37) ?_; refine A0 (oLs rfl rfl rfl ty_29) ?_; refine A0 mV ?_; refine A0 (g_build rfl ze_33 bd_33 (.cons fd_33_0 L_Block_h ty_29 rfl (.cons fd_33_2 L_Block_t ty_31 rfl .nil)) rfl) ?_
 refine A0 (oLs rfl rfl rfl ty_29) ?_; refine A0 (g_build rfl ze_77 bd_77 (.cons fd_77_0 L_Trial_t ty_37 rfl (.cons fd_77_1 L_Trial_b ty_33 rfl (.cons fd_77_2 L_Trial_want ty_29 rfl .nil))) rfl) ?_; refine aw_box rfl rfl rfl rfl rfl ?_
 refine A0 aP ?_; refine CNQQR ?_; refine A0 mP ?_; refine A0 (g_bslF (xs := [_, _]) rfl sl_88 row_88 ⟨rfl, ⟨_, rfl, rfl⟩, rfl, ⟨_, rfl, rfl⟩, trivial⟩ rfl rfl) ?_
 refine aw_callu (first_ok ⟨t, ⟨nextH t l nonce, [], l⟩, nextH t l nonce, []⟩ [some 45, some 46] ⟨ht, by show l.length ≤ 1000; omega⟩ asks_two) rfl fn_44 rfl trivial trivial rfl ⟨(by first | exact argm_own rfl | exact argm_ptr rfl | exact argm_same rfl | exact argm_bsl rfl | exact argm_lit rfl | exact argm_clo rfl | exact argm_row rfl rfl (by decide)), (by first | exact argm_own rfl | exact argm_ptr rfl | exact argm_same rfl | exact argm_bsl rfl | exact argm_lit rfl | exact argm_clo rfl | exact argm_row rfl rfl (by decide)), trivial⟩ rfl rfl rfl ?_
 refine aw_reval (d := 27) rfl ask_two ?_; refine A0 aV ?_; refine CNQR ?_; refine A0 mV ?_; refine A0 o_neq ?_; refine CN ?_
 refine aw_ifc (p := ¬ (if 48 ≤ (nextH t l nonce).height then 3 else (applyOf t.c l).2) = 0) rfl (by simp [IntL.toI]) (fun ht29 => ?_) (fun ht29 => ?_)
 ·
  have hE : mineBE t l nonce tries = (if 48 ≤ (nextH t l nonce).height then 3 else (applyOf t.c l).2) := mineBE_err ht29
  refine CQR ?_; refine A0 (g_build rfl ze_33 bd_33 .nil rfl) ?_; refine A0 mV ?_; refine aw_store_b rfl rfl rfl rfl rfl (Lens.self _) ty_33 rfl ?_; refine A0 aV ?_; refine CN ?_
  exact aw_retr2 rfl rfl (rv_cell rfl rfl ty_33 (by unfold mineB; rw [hE, if_neg ht29])) (rv_tmp (ret_eq rfl (hE.symm)))
 ·
  refine CSQR ?_; refine A0 (oLs rfl rfl rfl ty_29) ?_; refine A0 mV ?_; refine A0 (oCl (mine_ok (nextH t l nonce) tries) rfl fn_47 ⟨(arg_v rfl), (arg_v rfl), trivial⟩) ?_; refine A0 mX ?_
  refine A0 (by first | exact g_x20 rfl rfl | exact g_x30 rfl rfl) ?_; refine A0 (by first | exact g_x21 rfl rfl | exact g_x31 rfl rfl) ?_; refine aw_store_b rfl rfl rfl rfl rfl (Lens.self _) ty_29 rfl ?_; refine A0 aV ?_; refine CNQQR ?_
  refine A0 mV ?_; refine A0 oN ?_; refine CN ?_
  refine aw_ifc (p := ¬ (mineOf (nextH t l nonce) tries).isSome = true) rfl (by cases (mineOf (nextH t l nonce) tries).isSome <;> rfl) (fun ht39 => ?_) (fun ht39 => ?_)
  ·
   have hE : mineBE t l nonce tries = 4 := mineBE_work (Classical.not_not.1 ht29) ht39
   refine CQR ?_; refine A0 (g_build rfl ze_33 bd_33 .nil rfl) ?_; refine aw_store_b rfl rfl rfl rfl rfl (Lens.self _) ty_33 rfl ?_; refine A0 aV ?_; refine CN ?_
   exact aw_retr2 rfl rfl (rv_cell rfl rfl ty_33 (by unfold mineB; rw [hE]; rfl)) (rv_tmp (ret_eq rfl (hE.symm)))
  ·
   have hE : mineBE t l nonce tries = 0 := mineBE_ok (Classical.not_not.1 ht29) (Classical.not_not.1 ht39)
   refine CS ?_; refine CQ ?_; refine aw_drawx [some 1, some 1, some 1, some 1, some 1, some 1, none, some 1] mixed (by decide +kernel) ?_; refine X0 (oLs rfl rfl rfl ty_29) ?_; refine X0 (oLs rfl rfl rfl ty_37) ?_
   refine X0 (oCl (tells_pub (linksT_ok t)) rfl fn_48 ⟨(arg_v rfl), trivial⟩) ?_; refine X0 mV ?_; refine X0 (oCl (tells_pub (txs_ok l hl)) rfl fn_49 ⟨(arg_v rfl), trivial⟩) ?_
   refine X0 (g_build rfl ze_33 bd_33 (.cons fd_33_0 L_Block_h ty_29 rfl (.cons fd_33_1 L_Block_l ty_30 rfl (.cons fd_33_2 L_Block_t ty_31 rfl .nil))) rfl) ?_
   refine XK.e (x := .idk) (fun fr' hfr kk H => by exact aw_store_b rfl rfl rfl ((hfr 8 (by decide +kernel)).trans rfl) rfl (Lens.self _) ty_33 ((hfr 46 (by decide +kernel)).trans rfl) (aw_nil H)) ?_; refine X0 aV ?_; refine XK.nil' ?_
   exact aw_retr2 rfl rfl (rv_cell rfl rfl ty_33 (by unfold mineB; rw [hE, if_pos rfl])) (rv_tmp (ret_eq rfl (hE.symm)))
end Go.Proofs.YtgoiacajjicjcaaGreat
set_option maxRecDepth 20000
namespace Go.Proofs.YtgoiacajjicjcaaGreat
set_option linter.unusedVariables false
set_option linter.unusedSimpArgs false
open Go.Ab Go.RowKit
def few (t : Tx) : Bool := decide (t.ins.length ≤ 6 ∧ t.outs.length ≤ 6)
theorem few_ok (t : Tx) : Tells P 75 [.val txT t] (.val boolT (few t)) := by
 refine fn_of_aw Tryz.func75 rfl rfl rfl (fun ext w hext => ?_)
 refine CQR ?_; refine aw_box rfl rfl rfl rfl rfl ?_; refine A0 aV ?_; refine CNQR ?_; refine A0 (oFp fd_99_0) ?_; refine A0 (oLb L_Tx_ins ty_96) ?_; refine A0 (g_len rfl rfl isl_96) ?_; refine A0 o_leq ?_
 refine Sp (d := 6) (p := t.ins.length ≤ 6) (fun g6 => ?_) (fun g6 => ?_)
 ·
  refine A0 mV ?_; refine A1 (oFp fd_99_1) ?_; refine A1 (oLb L_Tx_outs ty_97) ?_; refine A1 (g_len rfl rfl isl_97) ?_; refine A1 o_leq ?_; refine A0 oK ?_; refine A0 aV ?_; refine CN ?_
  exact aw_ret1 rfl rfl (ret_eq rfl (by unfold few; symm; first | (rw [decide_eq_decide]; simp only [IntL.toI, id_eq]; omega) | (apply decide_eq_false; omega) | (simp [g6]; done) | (simp [g6]; omega)))
 ·
  refine A0 mV ?_; refine A2 ?_; refine A2 ?_; refine A2 ?_; refine A2 ?_; refine A0 oK ?_; refine A0 aV ?_; refine CN ?_
  exact aw_ret1 rfl rfl (ret_eq rfl (by unfold few; symm; first | (rw [decide_eq_decide]; simp only [IntL.toI, id_eq]; omega) | (apply decide_eq_false; omega) | (simp [g6]; done) | (simp [g6]; omega)))
theorem fewAll_ok (l : List Tx) (m : Int) : Tells P 28 [.val (bsl txT) l, .val i64T m] (.val boolT (l.all few && decide ((l.length : Int) ≤ m))) := by
 refine fn_of_aw Tryz.func28 rfl rfl rfl (fun ext w hext => ?_)
 refine aw_fact (d := 0) rfl fact_sl (fun hsl0 => ?_)
 refine aw_fact (d := 1) rfl fact_int (fun hin1 => ?_)
 refine CQR ?_; refine A0 aV ?_; refine CNQQR ?_; refine A0 aV ?_; refine CNB ?_
 refine Lp (ι := Nat) 0 (fun (k : Nat) => (((Fr.none).set 0 (.val (bsl txT) l)).set 1 (.val i64T m)).set 5 (.val i64T (k : Int))) (fun (k : Nat) => Hp.none) (fun (k : Nat) => k ≤ l.length ∧ (l.take k).all few = true) (fun (k : Nat) => l.length - k) (0) (⟨Nat.zero_le _, rfl⟩) ?_
 intro k hinv
 refine CQQR ?_; refine A0 mV ?_; refine A0 mV ?_; refine A0 (g_len rfl rfl isl_31) ?_; refine A0 o_lss ?_; refine CN ?_
 refine Cf (p := k < l.length) (fun ht10 => ?_) (fun ht10 => ?_)
 ·
  obtain ⟨t, ht⟩ : ∃ t, l[k]? = some t := ⟨_, List.getElem?_eq_getElem ht10⟩
  refine CSQBQR ?_; refine A0 mV ?_; refine A0 mV ?_; refine A0 (g_ia_n rfl rfl rfl sl_31 (by assumption)) ?_; refine A0 (g_load_r rfl rfl ty_99) ?_
  refine A0 (oCl (few_ok _) rfl fn_75 ⟨(by first | exact arg_same rfl | exact arg_bsl rfl | exact arg_own rfl rfl | exact arg_nil rfl | exact arg_rptr rfl | exact arg_fn rfl rfl | exact arg_lit rfl), trivial⟩) ?_; refine A0 aV ?_
  refine CNQR ?_; refine A0 mV ?_; refine A0 oN ?_; refine CN ?_
  refine aw_ifc (p := ¬ few t = true) rfl (by simp) (fun ht19 => ?_) (fun ht19 => ?_)
  ·
   refine CQR ?_; refine A0 aV ?_; refine CN ?_
   exact aw_ret1 rfl rfl (ret_eq rfl (by symm; rw [Bool.and_eq_false_iff]; left; rw [List.all_eq_false]; exact ⟨t, List.mem_of_getElem? ht, ht19⟩))
  ·
   refine CSIR ?_; refine A0 mV ?_; refine A0 o_add ?_; refine A0 aV ?_; refine CN ?_
   exact Nx (k + 1) (⟨by omega, by rw [List.take_add_one, ht, List.all_append, hinv.2]; simp [Classical.not_not.1 ht19]⟩) (by omega)
 ·
  refine CE ?_; refine CQR ?_; refine A0 mV ?_; refine A0 (g_len rfl rfl isl_31) ?_; refine A0 mV ?_; refine A0 o_leq ?_; refine A0 aV ?_; refine CN ?_
  exact aw_ret1 rfl rfl (ret_eq rfl (by rw [List.take_of_length_le (by omega)] at hinv; rw [hinv.2, Bool.true_and]; rfl))
end Go.Proofs.YtgoiacajjicjcaaGreat
set_option maxRecDepth 20000
namespace Go.Proofs.YtgoiacajjicjcaaGreat
set_option linter.unusedVariables false
set_option linter.unusedSimpArgs false
open Go.Ab Go.RowKit
def s2 : Ab.Id := [219, 193, 180, 201, 0, 255, 228, 141, 87, 91, 93, 165, 198, 56, 4, 1, 37, 246, 93, 176, 254, 62, 36, 73, 75, 118, 234, 152, 100, 87, 217, 134]
def s4 : Ab.Id := [229, 45, 156, 80, 140, 80, 35, 71, 52, 77, 140, 7, 173, 145, 203, 214, 6, 138, 252, 117, 255, 98, 146, 240, 98, 160, 156, 163, 129, 200, 158, 113]
def id0 : Ab.Id := [204, 117, 100, 156, 217, 35, 11, 173, 35, 93, 199, 149, 159, 68, 227, 45, 148, 39, 20, 174, 85, 27, 122, 223, 187, 132, 2, 33, 173, 199, 16, 195]
def lk0 : Ab.Id := [191, 122, 202, 251, 39, 175, 213, 3, 220, 82, 240, 192, 217, 1, 99, 0, 242, 60, 209, 156, 152, 127, 176, 94, 46, 148, 67, 11, 109, 16, 112, 47]
def easyH : Head := ⟨0, zId, s2, s2, s4, zWide, 545259519, 0⟩
def easyN (n : UInt64) : Head := ⟨1, id0, lk0, s2, id0, [2, 0, 0, 0], 545259519, n⟩
theorem sum_s2 : shaSum [2] = s2 := by kernel_rfl
theorem sum_s4 : shaSum [4] = s4 := by kernel_rfl
theorem root_nil : rootOf [] = s2 := by rw [rootOf, if_pos (show ([] : List Ab.Id).length = 0 from rfl), sum_s2]
theorem root_one (x : Ab.Id) : rootOf [x] = x := by rw [rootOf, if_neg (show ¬ [x].length = 0 by simp), dif_pos (show [x].length ≤ 1 by simp)]; rfl
theorem easy_first : firstH 545259519 = easyH := by
  have e1 : linkRoot [] = s2 := root_nil
  have e2 : txRoot [] = s2 := root_nil
  have e3 : (mmrRoot []).h = s4 := sum_s4
  unfold firstH; rw [e1, e2, e3]; rfl
theorem easy_id : headId easyH = id0 := by kernel_rfl
theorem easy_work : headWork easyH = [2, 0, 0, 0] := by kernel_rfl
theorem easy_ok : tgtOk 545259519 = true := by kernel_rfl
theorem easy_lk : leafOf id0 = lk0 := by kernel_rfl
theorem easy_may0 : headMay (easyN 0) = false := by kernel_rfl
theorem easy_may1 : headMay (easyN 1) = true := by kernel_rfl
end Go.Proofs.YtgoiacajjicjcaaGreat
set_option maxRecDepth 20000
namespace Go.Proofs.YtgoiacajjicjcaaGreat
set_option linter.unusedVariables false
set_option linter.unusedSimpArgs false
open Go.Ab Go.RowKit
def leaf0 : Total := leafT id0 [2, 0, 0, 0]
def easyTip : Tip := ⟨⟨easyH, [], []⟩, [leaf0], []⟩
def easyB : Block := ⟨easyN 1, [id0], []⟩
def leaf1 : Total := leafH (easyN 1)
def easyTip2 : Tip := ⟨easyB, mmrAppend [leaf0] leaf1, []⟩
theorem easy_leaf : leafH easyH = leaf0 := by unfold leafH leaf0; rw [easy_id, easy_work]
theorem easy_tip : firstTip 545259519 = easyTip := by unfold firstTip; rw [if_pos easy_ok, easy_first, easy_leaf]; rfl
theorem easy_links : linksT easyTip = [id0] := by
  show linkNext [] (headId easyH) (headLevel easyH) = _
  rw [easy_id]; unfold linkNext; rw [if_neg (show ¬ 32 < ([] : List Ab.Id).length by decide), if_pos (show ([] : List Ab.Id).length = 0 from rfl)]
theorem easy_next (n : UInt64) : nextH easyTip [] n = easyN n := by
  have e1 : linkRoot [id0] = lk0 := (root_one _).trans easy_lk
  have e2 : txRoot [] = s2 := root_nil
  unfold nextH
  rw [easy_links, e1, e2]
  show (⟨_, headId easyH, _, _, _, _, _, _⟩ : Head) = _
  rw [easy_id]; rfl
theorem easy_mine : mineOf (easyN 0) 200 = some (easyN 1) := by
  unfold mineOf
  rw [mineFrom_step (by decide) (by rw [easy_may0]; decide)]
  exact mineFrom_yes (by decide) easy_may1
theorem apply_nil : applyOf [] [] = ([], 0) := by kernel_rfl
theorem easy_mineE : mineBE easyTip [] 0 200 = 0 := by
  unfold mineBE
  rw [easy_next, if_neg (by decide), show (applyOf easyTip.c []).2 = 0 from congrArg (·.2) apply_nil, if_neg (by decide), easy_mine]; rfl
theorem easy_mineB : mineB easyTip [] 0 200 = easyB := by
  unfold mineB
  rw [easy_mineE, if_pos rfl, easy_next, easy_mine, easy_links]; rfl
theorem easy_pushE : pushE easyTip easyB = 0 := by
  unfold pushE
  have e : nextH easyTip easyB.t easyB.h.nonce = easyB.h := easy_next 1
  rw [e, if_neg (by decide), if_neg (by simp), if_neg (by rw [easy_links]; simp [easyB]), if_neg (by simp), if_neg (by rw [show headMay easyB.h = true from easy_may1]; simp)]
  exact congrArg (·.2) apply_nil
theorem easy_pushT : pushT easyTip easyB = easyTip2 := by
  unfold pushT
  rw [easy_pushE, if_pos rfl, show (applyOf easyTip.c easyB.t).1 = [] from congrArg (·.1) apply_nil]; rfl
theorem small_easy : smallTip easyTip := by refine ⟨⟨by decide, by decide, fun t ht => by cases ht⟩, by decide, by decide⟩
theorem small_easyB : smallB easyB := by refine ⟨by decide, by decide, fun t ht => by cases ht⟩
def fewB (b : Block) : Bool := (b.t.all few && decide ((b.t.length : Int) ≤ 6)) && decide (b.l.length ≤ 40)
def fewTip (t : Tip) : Bool := (t.b.t.all few && decide ((t.b.t.length : Int) ≤ 6)) && decide (t.b.l.length ≤ 40 ∧ t.p.length ≤ 70 ∧ t.c.length ≤ 60)
theorem few_small {l : List Tx} (h : (l.all few && decide ((l.length : Int) ≤ 6)) = true) : smallL l := by
  rw [Bool.and_eq_true, decide_eq_true_eq] at h
  refine ⟨by omega, fun t ht => ?_⟩
  have := List.all_eq_true.1 h.1 t ht
  unfold few at this
  rw [decide_eq_true_eq] at this
  exact ⟨by omega, by omega⟩
theorem fewB_small {b : Block} (h : fewB b = true) : smallB b := by
  unfold fewB at h
  rw [Bool.and_eq_true, decide_eq_true_eq] at h
  exact ⟨by omega, few_small h.1⟩
theorem fewTip_small {t : Tip} (h : fewTip t = true) : smallTip t := by
  unfold fewTip at h
  rw [Bool.and_eq_true, decide_eq_true_eq] at h
  exact ⟨⟨by omega, few_small h.1⟩, by omega, by omega⟩
theorem fewTip_ok (t : Tip) : Tells P 11 [.val tipT t] (.val boolT (fewTip t)) := by
 refine fn_of_aw Tryz.func11 rfl rfl rfl (fun ext w hext => ?_)
 refine CQR ?_; refine aw_box rfl rfl rfl rfl rfl ?_; refine A0 aV ?_; refine CNQR ?_; refine A0 (oFp fd_37_0) ?_; refine A0 (oFp fd_33_2) ?_; refine A0 (oLb (L_Tip_b.comp L_Block_t) ty_31) ?_
 refine A0 (oCl (fewAll_ok _ _) rfl fn_28 ⟨(arg_v rfl), (arg_v rfl), trivial⟩) ?_; refine A0 aV ?_; refine CNQR ?_; refine A0 mV ?_
 refine aw_splitp (d := 8) (p := (t.b.t.all few && decide ((t.b.t.length : Int) ≤ 6)) = true) rfl (Bool.decide_eq_true.symm) (fun g8 => ?_) (fun g8 => ?_)
 ·
  refine A0 mV ?_; refine A1 (oFp fd_37_0) ?_; refine A1 (oFp fd_33_1) ?_; refine A1 (oLb (L_Tip_b.comp L_Block_l) ty_30) ?_; refine A1 (g_len rfl rfl isl_30) ?_; refine A1 o_leq ?_
  refine Sp (d := 14) (p := t.b.l.length ≤ 40) (fun g14 => ?_) (fun g14 => ?_)
  ·
   refine A0 oK ?_; refine A0 mV ?_; refine A1 (oFp fd_37_1) ?_; refine A1 (oLb L_Tip_p ty_34) ?_; refine A1 (g_len rfl rfl isl_34) ?_; refine A1 o_leq ?_
   refine Sp (d := 20) (p := t.p.length ≤ 70) (fun g20 => ?_) (fun g20 => ?_)
   ·
    refine A0 oK ?_; refine A0 mV ?_; refine A1 (oFp fd_37_2) ?_; refine A1 (oLb L_Tip_c ty_35) ?_; refine A1 (g_len rfl rfl isl_35) ?_; refine A1 o_leq ?_
    refine Sp (d := 26) (p := t.c.length ≤ 60) (fun g26 => ?_) (fun g26 => ?_)
    ·
     refine A0 oK ?_; refine A0 aV ?_; refine CN ?_
     exact aw_ret1 rfl rfl (ret_eq rfl (by unfold fewTip; symm; first | (rw [g8, Bool.true_and]; first | (apply decide_eq_true; omega) | (apply decide_eq_false; omega)) | (rw [show (t.b.t.all few && decide ((t.b.t.length : Int) ≤ 6)) = false by simpa using g8]; rfl)))
    ·
     refine A0 oK ?_; refine A0 aV ?_; refine CN ?_
     exact aw_ret1 rfl rfl (ret_eq rfl (by unfold fewTip; symm; first | (rw [g8, Bool.true_and]; first | (apply decide_eq_true; omega) | (apply decide_eq_false; omega)) | (rw [show (t.b.t.all few && decide ((t.b.t.length : Int) ≤ 6)) = false by simpa using g8]; rfl)))
   ·
    refine A0 oK ?_; refine A0 mV ?_; refine A2 ?_; refine A2 ?_; refine A2 ?_; refine A2 ?_; refine A0 oK ?_; refine A0 aV ?_; refine CN ?_
    exact aw_ret1 rfl rfl (ret_eq rfl (by unfold fewTip; symm; first | (rw [g8, Bool.true_and]; first | (apply decide_eq_true; omega) | (apply decide_eq_false; omega)) | (rw [show (t.b.t.all few && decide ((t.b.t.length : Int) ≤ 6)) = false by simpa using g8]; rfl)))
  ·
   refine A0 oK ?_; refine A0 mV ?_; refine A2 ?_; refine A2 ?_; refine A2 ?_; refine A2 ?_; refine A0 oK ?_; refine A0 mV ?_; refine A2 ?_; refine A2 ?_; refine A2 ?_; refine A2 ?_; refine A0 oK ?_; refine A0 aV ?_; refine CN ?_
   exact aw_ret1 rfl rfl (ret_eq rfl (by unfold fewTip; symm; first | (rw [g8, Bool.true_and]; first | (apply decide_eq_true; omega) | (apply decide_eq_false; omega)) | (rw [show (t.b.t.all few && decide ((t.b.t.length : Int) ≤ 6)) = false by simpa using g8]; rfl)))
 ·
  refine A0 mV ?_; refine A2 ?_; refine A2 ?_; refine A2 ?_; refine A2 ?_; refine A2 ?_; refine A0 oK ?_; refine A0 mV ?_; refine A2 ?_; refine A2 ?_; refine A2 ?_; refine A2 ?_; refine A0 oK ?_; refine A0 mV ?_; refine A2 ?_; refine A2 ?_
  refine A2 ?_; refine A2 ?_; refine A0 oK ?_; refine A0 aV ?_; refine CN ?_
  exact aw_ret1 rfl rfl (ret_eq rfl (by unfold fewTip; symm; first | (rw [g8, Bool.true_and]; first | (apply decide_eq_true; omega) | (apply decide_eq_false; omega)) | (rw [show (t.b.t.all few && decide ((t.b.t.length : Int) ≤ 6)) = false by simpa using g8]; rfl)))
theorem fewB_ok (b : Block) : Tells P 12 [.val blockT b] (.val boolT (fewB b)) := by
 refine fn_of_aw Tryz.func12 rfl rfl rfl (fun ext w hext => ?_)
 refine CQR ?_; refine aw_box rfl rfl rfl rfl rfl ?_; refine A0 aV ?_; refine CNQR ?_; refine A0 (oFp fd_33_2) ?_; refine A0 (oLb L_Block_t ty_31) ?_; refine A0 (oCl (fewAll_ok _ _) rfl fn_28 ⟨(arg_v rfl), (arg_v rfl), trivial⟩) ?_
 refine A0 aV ?_; refine CNQR ?_; refine A0 mV ?_
 refine aw_splitp (d := 7) (p := (b.t.all few && decide ((b.t.length : Int) ≤ 6)) = true) rfl (Bool.decide_eq_true.symm) (fun g7 => ?_) (fun g7 => ?_)
 ·
  refine A0 mV ?_; refine A1 (oFp fd_33_1) ?_; refine A1 (oLb L_Block_l ty_30) ?_; refine A1 (g_len rfl rfl isl_30) ?_; refine A1 o_leq ?_
  refine Sp (d := 12) (p := b.l.length ≤ 40) (fun g12 => ?_) (fun g12 => ?_)
  ·
   refine A0 oK ?_; refine A0 aV ?_; refine CN ?_
   exact aw_ret1 rfl rfl (ret_eq rfl (by unfold fewB; symm; first | (rw [g7, Bool.true_and]; first | (apply decide_eq_true; omega) | (apply decide_eq_false; omega)) | (rw [show (b.t.all few && decide ((b.t.length : Int) ≤ 6)) = false by simpa using g7]; rfl)))
  ·
   refine A0 oK ?_; refine A0 aV ?_; refine CN ?_
   exact aw_ret1 rfl rfl (ret_eq rfl (by unfold fewB; symm; first | (rw [g7, Bool.true_and]; first | (apply decide_eq_true; omega) | (apply decide_eq_false; omega)) | (rw [show (b.t.all few && decide ((b.t.length : Int) ≤ 6)) = false by simpa using g7]; rfl)))
 ·
  refine A0 mV ?_; refine A2 ?_; refine A2 ?_; refine A2 ?_; refine A2 ?_; refine A0 oK ?_; refine A0 aV ?_; refine CN ?_
  exact aw_ret1 rfl rfl (ret_eq rfl (by unfold fewB; symm; first | (rw [g7, Bool.true_and]; first | (apply decide_eq_true; omega) | (apply decide_eq_false; omega)) | (rw [show (b.t.all few && decide ((b.t.length : Int) ≤ 6)) = false by simpa using g7]; rfl)))
theorem awake11_ok : Tells P 10 [] (.val boolT true) := by
 refine fn_of_aw Tryz.func10 rfl rfl rfl (fun ext w hext => ?_)
 have hw0 : ([id0] : List Ab.Id)[0]? = some id0 := rfl
 refine CQR ?_; refine A0 aV ?_; refine CNQR ?_; refine A0 (oCl (firstTip_ok 545259519) rfl fn_13 ⟨(arg_v rfl), trivial⟩) ?_; refine A0 mX ?_; refine A0 (by first | exact g_x20 rfl rfl | exact g_x30 rfl rfl) ?_
 refine aw_reval (d := 9) (y := easyTip) rfl easy_tip ?_; refine A0 (by first | exact g_x21 rfl rfl | exact g_x31 rfl rfl) ?_; refine aw_reval (d := 10) (y := true) rfl easy_ok ?_; refine aw_alloc ze_37 rfl rfl rfl rfl ?_
 refine aw_store_b rfl rfl rfl rfl rfl (Lens.self _) ty_37 rfl ?_; refine A0 aV ?_; refine CNQR ?_; refine A0 (oLs rfl rfl rfl ty_37) ?_
 refine A0 (oCl (mineB_ok easyTip [] 0 200 small_easy ⟨by decide, fun t ht => by cases ht⟩) rfl fn_15 ⟨(arg_v rfl), (by first | exact arg_same rfl | exact arg_bsl rfl | exact arg_own rfl rfl | exact arg_nil rfl | exact arg_rptr rfl | exact arg_fn rfl rfl | exact arg_lit rfl), (arg_v rfl), (arg_v rfl), trivial⟩) ?_
 refine A0 mX ?_; refine A0 (by first | exact g_x20 rfl rfl | exact g_x30 rfl rfl) ?_; refine aw_reval (d := 14) (y := easyB) rfl easy_mineB ?_; refine A0 (by first | exact g_x21 rfl rfl | exact g_x31 rfl rfl) ?_
 refine aw_reval (d := 15) (y := (0 : Int)) rfl easy_mineE ?_; refine aw_alloc ze_33 rfl rfl rfl rfl ?_; refine aw_store_b rfl rfl rfl rfl rfl (Lens.self _) ty_33 rfl ?_; refine A0 aV ?_; refine CNQR ?_; refine A0 (oLs rfl rfl rfl ty_37) ?_
 refine A0 (oLs rfl rfl rfl ty_33) ?_; refine A0 (oCl (push_ok easyTip easyB small_easy small_easyB) rfl fn_17 ⟨(arg_v rfl), (arg_v rfl), trivial⟩) ?_; refine A0 mX ?_; refine A0 (by first | exact g_x20 rfl rfl | exact g_x30 rfl rfl) ?_
 refine aw_reval (d := 20) (y := easyTip2) rfl easy_pushT ?_; refine A0 (by first | exact g_x21 rfl rfl | exact g_x31 rfl rfl) ?_; refine aw_reval (d := 21) (y := (0 : Int)) rfl easy_pushE ?_; refine aw_alloc ze_37 rfl rfl rfl rfl ?_
 refine aw_store_b rfl rfl rfl rfl rfl (Lens.self _) ty_37 rfl ?_; refine A0 aV ?_; refine CNQ ?_; refine CD mixed ?_; refine G0 mV ?_; refine G0 mV ?_; refine GK_ist (d := 23) rfl (rfl) ?_; refine G1 mV ?_; refine G1 o_eql ?_; refine G0 oK ?_
 refine G0 mV ?_; refine GK_ist (d := 27) rfl (rfl) ?_; refine G1 mV ?_; refine G1 o_eql ?_; refine G0 oK ?_; refine G0 mV ?_; refine GK_ist (d := 31) rfl (rfl) ?_; refine G1 (oFp fd_37_0) ?_; refine G1 (oFp fd_33_0) ?_
 refine G1 (oFp fd_29_0) ?_; refine G1 (oLb ((L_Tip_b.comp L_Block_h).comp L_Head_height) ty_3) ?_; refine G1 o_eql ?_; refine G0 oK ?_; refine G0 mV ?_; refine GK_ist (d := 38) rfl (rfl) ?_; refine G1 (oFp fd_37_0) ?_
 refine G1 (oFp fd_33_1) ?_; refine G1 (oLb (L_Tip_b.comp L_Block_l) ty_30) ?_; refine G1 (g_len rfl rfl isl_30) ?_; refine G1 o_eql ?_; refine G0 oK ?_; refine G0 mV ?_; refine GK_ist (d := 45) rfl (rfl) ?_; refine G1 (oFp fd_37_0) ?_
 refine G1 (oFp fd_33_1) ?_; refine G1 (oLb (L_Tip_b.comp L_Block_l) ty_30) ?_; refine G1 (g_ia_i (i := 0) rfl rfl rfl (by omega) sl_30 (by assumption)) ?_; refine G1 (g_load_r rfl rfl ty_23) ?_; refine G1 (oFp fd_37_0) ?_
 refine G1 (oFp fd_33_0) ?_; refine G1 (oLb (L_Tip_b.comp L_Block_h) ty_29) ?_; refine G1 (oCl (headId_ok easyH) rfl fn_26 ⟨(arg_v rfl), trivial⟩) ?_; refine G1 (g_eqlS rfl rfl rfl (eqt_23)) ?_; refine G0 oK ?_; refine G0 mV ?_
 refine GK_ist (d := 57) rfl (by rw [easy_id]; simp) ?_; refine G1 (oFp fd_37_0) ?_; refine G1 (oFp fd_33_0) ?_; refine G1 (oFp fd_29_5) ?_; refine G1 (oLb ((L_Tip_b.comp L_Block_h).comp L_Head_work) ty_26) ?_
 refine G1 (oCl (ofW_ok 2) rfl fn_32 ⟨(arg_v rfl), trivial⟩) ?_; refine G1 (g_eqlS rfl rfl rfl (eqt_26)) ?_; refine G0 oK ?_; refine G0 mV ?_; refine GK_ist (d := 65) rfl (rfl) ?_; refine G1 (oFp fd_37_0) ?_; refine G1 (oFp fd_33_0) ?_
 refine G1 (oLb (L_Tip_b.comp L_Block_h) ty_29) ?_; refine G1 (oCl (headId_ok easyH) rfl fn_26 ⟨(arg_v rfl), trivial⟩) ?_; refine G1 (g_buildZ rfl ar_23 ze_23 rfl) ?_; refine G1 (g_neqS rfl rfl rfl (eqt_23)) ?_; refine G0 oK ?_
 refine G0 mV ?_; refine GK_ist (d := 73) rfl (by rw [easy_id]; kernel_rfl) ?_; refine G1 (oLs rfl rfl rfl ty_33) ?_; refine G1 (oFp fd_37_0) ?_; refine G1 (oLb L_Tip_b ty_33) ?_
 refine G1 (oCl (sameB_ok easyB easyB) rfl fn_21 ⟨(arg_v rfl), (arg_v rfl), trivial⟩) ?_; refine GK_ist (d := 77) rfl (by simp) ?_; refine G0 oK ?_; refine G0 aV ?_; refine GK.nil ?_
 exact aw_ret1 rfl rfl (ret_eq rfl rfl)
end Go.Proofs.YtgoiacajjicjcaaGreat
set_option maxRecDepth 20000
namespace Go.Proofs.YtgoiacajjicjcaaGreat
set_option linter.unusedVariables false
set_option linter.unusedSimpArgs false
open Go.Ab Go.RowKit
theorem eq_u32 {x y : UInt32} : decide (IntL.toI u32T x = IntL.toI u32T y) = decide (x = y) := by rw [decide_eq_decide]; show ((x.toNat : Nat) : Int) = ((y.toNat : Nat) : Int) ↔ _; rw [Int.ofNat_inj, UInt32.toNat_inj]
theorem pushR_len : ∀ (r : List Total) (x : Total), (pushR r x).length ≤ r.length + 1
  | [], _ => Nat.le_refl _
  | y :: r, x => by
    rw [pushR]
    split
    · have := pushR_len r (joinT y x); rw [List.length_cons]; omega
    · rw [List.length_cons]; omega
theorem mmrAppend_len {p : List Total} {x : Total} : (mmrAppend p x).length ≤ p.length + 1 := by
  unfold mmrAppend
  have := pushR_len p.reverse x
  rw [List.length_reverse] at this ⊢; exact this
theorem apply_may {p : List Coin} {l : List Tx} (h : (applyOf p l).2 = 0) : mayCoins p = true := by
  refine Classical.byContradiction fun hn => ?_
  unfold applyOf at h
  rw [if_pos hn] at h
  exact absurd h (show ¬ (1 : Int) = 0 by decide)
theorem push_iff {t : Tip} {b : Block} : pushE t b = 0 ↔ b.h.height < 48 ∧ b.h = nextH t b.t b.h.nonce ∧ b.l = linksT t ∧ headMay b.h = true ∧ (applyOf t.c b.t).2 = 0 := by
  constructor
  · intro h
    unfold pushE at h
    by_cases h1 : 48 ≤ b.h.height
    · rw [if_pos h1] at h; exact absurd h (by decide)
    rw [if_neg h1] at h
    by_cases h2 : ¬ behindH b.h = behindH (nextH t b.t b.h.nonce)
    · rw [if_pos h2] at h; exact absurd h (by decide)
    rw [if_neg h2] at h
    by_cases h3 : ¬ b.h.links = (nextH t b.t b.h.nonce).links ∨ ¬ b.l = linksT t
    · rw [if_pos h3] at h; exact absurd h (by decide)
    rw [if_neg h3] at h
    by_cases h4 : ¬ b.h = nextH t b.t b.h.nonce
    · rw [if_pos h4] at h; exact absurd h (by decide)
    rw [if_neg h4] at h
    by_cases h5 : ¬ headMay b.h = true
    · rw [if_pos h5] at h; exact absurd h (by decide)
    rw [if_neg h5] at h
    exact ⟨by omega, Classical.not_not.1 h4, Classical.not_not.1 fun hc => h3 (.inr hc), Classical.not_not.1 h5, h⟩
  · rintro ⟨h1, h2, h3, h4, h5⟩
    unfold pushE
    rw [if_neg (by omega), if_neg (Classical.not_not.2 (congrArg behindH h2)), if_neg (fun h => h.elim (fun h => h (congrArg (·.links) h2)) fun h => h h3), if_neg (Classical.not_not.2 h2), if_neg (Classical.not_not.2 h4)]
    exact h5
theorem push_small {t : Tip} {b : Block} (ht : fewTip t = true) (hb : smallB b) : smallTip (pushT t b) := by
  have hs := fewTip_small ht
  unfold pushT
  split
  · rename_i h
    obtain ⟨_, _, _, _, h5⟩ := push_iff.1 h
    refine ⟨hb, ?_, ?_⟩
    · have := mmrAppend_len (p := t.p) (x := leafH b.h)
      unfold fewTip at ht
      rw [Bool.and_eq_true, decide_eq_true_eq] at ht
      show (mmrAppend t.p (leafH b.h)).length ≤ 1000
      omega
    · have := mayCoins_len (applyOf_tot (l := b.t) (apply_may h5)).1
      show (applyOf t.c b.t).1.length ≤ 1000
      omega
  · exact hs
end Go.Proofs.YtgoiacajjicjcaaGreat
set_option maxRecDepth 20000
namespace Go.Proofs.YtgoiacajjicjcaaGreat
set_option linter.unusedVariables false
set_option linter.unusedSimpArgs false
open Go.Ab Go.RowKit
theorem refIds_ok (l m : List Ab.Id) : Tells P 59 [.val (bsl idT) l, .val (bsl idT) m] (.val boolT (decide (l = m))) := by
 refine fn_of_aw Tryz.func59 rfl rfl rfl (fun ext w hext => ?_)
 refine aw_fact (d := 0) rfl fact_sl (fun hsl0 => ?_)
 refine aw_fact (d := 1) rfl fact_sl (fun hsl1 => ?_)
 refine CQR ?_; refine A0 aV ?_; refine CNQQR ?_; refine A0 mV ?_; refine A0 (g_len rfl rfl isl_30) ?_; refine A0 mV ?_; refine A0 (g_len rfl rfl isl_30) ?_; refine A0 o_neq ?_; refine CN ?_
 refine aw_ifc (p := ¬ l.length = m.length) rfl (by simp [IntL.toI]; omega) (fun ht10 => ?_) (fun ht10 => ?_)
 ·
  refine CQR ?_; refine A0 aV ?_; refine CN ?_
  exact aw_ret1 rfl rfl (ret_eq rfl (decide_eq_false (fun e => ht10 (by rw [e]))).symm)
 ·
  refine CSQQR ?_; refine A0 aV ?_; refine CNB ?_
  refine Lp (ι := Nat) 0 (fun (k : Nat) => (((Fr.none).set 0 (.val (bsl idT) l)).set 1 (.val (bsl idT) m)).set 5 (.val i64T (k : Int))) (fun (k : Nat) => Hp.none) (fun (k : Nat) => k ≤ l.length ∧ l.take k = m.take k) (fun (k : Nat) => l.length - k) (0) (⟨Nat.zero_le _, rfl⟩) ?_
  intro k hinv
  refine CQQR ?_; refine A0 mV ?_; refine A0 mV ?_; refine A0 (g_len rfl rfl isl_30) ?_; refine A0 o_lss ?_; refine CN ?_
  refine Cf (p := k < l.length) (fun ht14 => ?_) (fun ht14 => ?_)
  ·
   obtain ⟨x, hx⟩ : ∃ x, l[k]? = some x := ⟨_, List.getElem?_eq_getElem ht14⟩
   obtain ⟨y, hy⟩ : ∃ y, m[k]? = some y := ⟨_, List.getElem?_eq_getElem (by omega)⟩
   refine CS ?_; refine CQ ?_; refine CB ?_; refine CQ ?_; refine CD mixed ?_; refine G0 mV ?_; refine G0 mV ?_; refine G0 (g_ia_i (i := k) rfl rfl rfl (by omega) sl_30 (by assumption)) ?_; refine G0 (g_load_r rfl rfl ty_23) ?_; refine G0 mV ?_
   refine G0 mV ?_; refine G0 (g_ia_i (i := k) rfl rfl rfl (by omega) sl_30 (by assumption)) ?_; refine G0 (g_load_r rfl rfl ty_23) ?_; refine G0 (g_neqS rfl rfl rfl (eqt_23)) ?_; refine GK.nil ?_
   refine aw_ifc (p := ¬ x = y) rfl (by simp) (fun ht25 => ?_) (fun ht25 => ?_)
   ·
    refine CQR ?_; refine A0 aV ?_; refine CN ?_
    exact aw_ret1 rfl rfl (ret_eq rfl (decide_eq_false (ne_of_at hx hy ht25)).symm)
   ·
    refine CSIR ?_; refine A0 mV ?_; refine A0 o_add ?_; refine A0 aV ?_; refine CN ?_
    exact Nx (k + 1) (⟨by omega, beq_all_succ hx hy hinv.2 (Classical.not_not.1 ht25)⟩) (by omega)
  ·
   refine CE ?_; refine CQR ?_; refine A0 aV ?_; refine CN ?_
   exact aw_ret1 rfl rfl (ret_eq rfl (decide_eq_true (by have h := hinv.2; rw [List.take_of_length_le (by omega), List.take_of_length_le (by omega)] at h; exact h)).symm)
theorem refTotals_ok (l m : List Total) : Tells P 61 [.val (bsl totalT) l, .val (bsl totalT) m] (.val boolT (decide (l = m))) := by
 refine fn_of_aw Tryz.func61 rfl rfl rfl (fun ext w hext => ?_)
 refine aw_fact (d := 0) rfl fact_sl (fun hsl0 => ?_)
 refine aw_fact (d := 1) rfl fact_sl (fun hsl1 => ?_)
 refine CQR ?_; refine A0 aV ?_; refine CNQQR ?_; refine A0 mV ?_; refine A0 (g_len rfl rfl isl_34) ?_; refine A0 mV ?_; refine A0 (g_len rfl rfl isl_34) ?_; refine A0 o_neq ?_; refine CN ?_
 refine aw_ifc (p := ¬ l.length = m.length) rfl (by simp [IntL.toI]; omega) (fun ht10 => ?_) (fun ht10 => ?_)
 ·
  refine CQR ?_; refine A0 aV ?_; refine CN ?_
  exact aw_ret1 rfl rfl (ret_eq rfl (decide_eq_false (fun e => ht10 (by rw [e]))).symm)
 ·
  refine CSQQR ?_; refine A0 aV ?_; refine CNB ?_
  refine Lp (ι := Nat) 0 (fun (k : Nat) => (((Fr.none).set 0 (.val (bsl totalT) l)).set 1 (.val (bsl totalT) m)).set 5 (.val i64T (k : Int))) (fun (k : Nat) => Hp.none) (fun (k : Nat) => k ≤ l.length ∧ l.take k = m.take k) (fun (k : Nat) => l.length - k) (0) (⟨Nat.zero_le _, rfl⟩) ?_
  intro k hinv
  refine CQQR ?_; refine A0 mV ?_; refine A0 mV ?_; refine A0 (g_len rfl rfl isl_34) ?_; refine A0 o_lss ?_; refine CN ?_
  refine Cf (p := k < l.length) (fun ht14 => ?_) (fun ht14 => ?_)
  ·
   obtain ⟨x, hx⟩ : ∃ x, l[k]? = some x := ⟨_, List.getElem?_eq_getElem ht14⟩
   obtain ⟨y, hy⟩ : ∃ y, m[k]? = some y := ⟨_, List.getElem?_eq_getElem (by omega)⟩
   refine CS ?_; refine CQ ?_; refine CB ?_; refine CQ ?_; refine CD mixed ?_; refine G0 mV ?_; refine G0 mV ?_; refine G0 (g_ia_i (i := k) rfl rfl rfl (by omega) sl_34 (by assumption)) ?_; refine G0 (g_load_r rfl rfl ty_54) ?_; refine G0 mV ?_
   refine G0 mV ?_; refine G0 (g_ia_i (i := k) rfl rfl rfl (by omega) sl_34 (by assumption)) ?_; refine G0 (g_load_r rfl rfl ty_54) ?_; refine G0 (g_neqS rfl rfl rfl (eqt_54)) ?_; refine GK.nil ?_
   refine aw_ifc (p := ¬ x = y) rfl (by simp) (fun ht25 => ?_) (fun ht25 => ?_)
   ·
    refine CQR ?_; refine A0 aV ?_; refine CN ?_
    exact aw_ret1 rfl rfl (ret_eq rfl (decide_eq_false (ne_of_at hx hy ht25)).symm)
   ·
    refine CSIR ?_; refine A0 mV ?_; refine A0 o_add ?_; refine A0 aV ?_; refine CN ?_
    exact Nx (k + 1) (⟨by omega, beq_all_succ hx hy hinv.2 (Classical.not_not.1 ht25)⟩) (by omega)
  ·
   refine CE ?_; refine CQR ?_; refine A0 aV ?_; refine CN ?_
   exact aw_ret1 rfl rfl (ret_eq rfl (decide_eq_true (by have h := hinv.2; rw [List.take_of_length_le (by omega), List.take_of_length_le (by omega)] at h; exact h)).symm)
theorem rsame_ok (l m : List Coin) : Tells P 62 [.val (bsl coinT) l, .val (bsl coinT) m] (.val boolT (decide (l = m))) := by
 refine fn_of_aw Tryz.func62 rfl rfl rfl (fun ext w hext => ?_)
 refine aw_fact (d := 0) rfl fact_sl (fun hsl0 => ?_)
 refine aw_fact (d := 1) rfl fact_sl (fun hsl1 => ?_)
 refine CQR ?_; refine A0 aV ?_; refine CNQQR ?_; refine A0 mV ?_; refine A0 (g_len rfl rfl isl_35) ?_; refine A0 mV ?_; refine A0 (g_len rfl rfl isl_35) ?_; refine A0 o_neq ?_; refine CN ?_
 refine aw_ifc (p := ¬ l.length = m.length) rfl (by simp [IntL.toI]; omega) (fun ht10 => ?_) (fun ht10 => ?_)
 ·
  refine CQR ?_; refine A0 aV ?_; refine CN ?_
  exact aw_ret1 rfl rfl (ret_eq rfl (decide_eq_false (fun e => ht10 (by rw [e]))).symm)
 ·
  refine CSQQR ?_; refine A0 aV ?_; refine CNB ?_
  refine Lp (ι := Nat) 0 (fun (k : Nat) => (((Fr.none).set 0 (.val (bsl coinT) l)).set 1 (.val (bsl coinT) m)).set 5 (.val i64T (k : Int))) (fun (k : Nat) => Hp.none) (fun (k : Nat) => k ≤ l.length ∧ l.take k = m.take k) (fun (k : Nat) => l.length - k) (0) (⟨Nat.zero_le _, rfl⟩) ?_
  intro k hinv
  refine CQQR ?_; refine A0 mV ?_; refine A0 mV ?_; refine A0 (g_len rfl rfl isl_35) ?_; refine A0 o_lss ?_; refine CN ?_
  refine Cf (p := k < l.length) (fun ht14 => ?_) (fun ht14 => ?_)
  ·
   obtain ⟨x, hx⟩ : ∃ x, l[k]? = some x := ⟨_, List.getElem?_eq_getElem ht14⟩
   obtain ⟨y, hy⟩ : ∃ y, m[k]? = some y := ⟨_, List.getElem?_eq_getElem (by omega)⟩
   refine CS ?_; refine CQ ?_; refine CB ?_; refine CQ ?_; refine CD mixed ?_; refine G0 mV ?_; refine G0 mV ?_; refine G0 (g_ia_i (i := k) rfl rfl rfl (by omega) sl_35 (by assumption)) ?_; refine G0 (g_load_r rfl rfl ty_123) ?_; refine G0 mV ?_
   refine G0 mV ?_; refine G0 (g_ia_i (i := k) rfl rfl rfl (by omega) sl_35 (by assumption)) ?_; refine G0 (g_load_r rfl rfl ty_123) ?_; refine G0 (g_neqS rfl rfl rfl (eqt_123)) ?_; refine GK.nil ?_
   refine aw_ifc (p := ¬ x = y) rfl (by simp) (fun ht25 => ?_) (fun ht25 => ?_)
   ·
    refine CQR ?_; refine A0 aV ?_; refine CN ?_
    exact aw_ret1 rfl rfl (ret_eq rfl (decide_eq_false (ne_of_at hx hy ht25)).symm)
   ·
    refine CSIR ?_; refine A0 mV ?_; refine A0 o_add ?_; refine A0 aV ?_; refine CN ?_
    exact Nx (k + 1) (⟨by omega, beq_all_succ hx hy hinv.2 (Classical.not_not.1 ht25)⟩) (by omega)
  ·
   refine CE ?_; refine CQR ?_; refine A0 aV ?_; refine CN ?_
   exact aw_ret1 rfl rfl (ret_eq rfl (decide_eq_true (by have h := hinv.2; rw [List.take_of_length_le (by omega), List.take_of_length_le (by omega)] at h; exact h)).symm)
theorem refTx_ok (a b : Tx) : Tells P 116 [.val txT a, .val txT b] (.val boolT (decide (a = b))) := by
 refine fn_of_aw Tryz.func116 rfl rfl rfl (fun ext w hext => ?_)
 refine aw_fact (d := 0) rfl fact_txl (fun htl => ?_)
 refine CQR ?_; refine aw_box rfl rfl rfl rfl rfl ?_; refine aw_box rfl rfl rfl rfl rfl ?_; refine A0 aV ?_; refine CNQQR ?_; refine A0 (oFp fd_99_0) ?_; refine A0 (oLb L_Tx_ins ty_96) ?_; refine A0 (g_len rfl rfl isl_96) ?_
 refine A0 (oFp fd_99_0) ?_; refine A0 (oLb L_Tx_ins ty_96) ?_; refine A0 (g_len rfl rfl isl_96) ?_; refine A0 o_neq ?_
 refine aw_splitp (d := 13) (p := ¬ a.ins.length = b.ins.length) rfl (by simp [IntL.toI]; omega) (fun g13 => ?_) (fun g13 => ?_)
 ·
  refine A0 mV ?_; refine A2 ?_; refine A2 ?_; refine A2 ?_; refine A2 ?_; refine A2 ?_; refine A2 ?_; refine A2 ?_; refine A0 oK ?_; refine CN ?_; refine Ct ?_; refine CQR ?_; refine A0 aV ?_; refine CN ?_
  exact aw_ret1 rfl rfl (ret_eq rfl (decide_eq_false (fun e => g13 (by rw [e]))).symm)
 ·
  refine A0 mV ?_; refine A1 (oFp fd_99_1) ?_; refine A1 (oLb L_Tx_outs ty_97) ?_; refine A1 (g_len rfl rfl isl_97) ?_; refine A1 (oFp fd_99_1) ?_; refine A1 (oLb L_Tx_outs ty_97) ?_; refine A1 (g_len rfl rfl isl_97) ?_; refine A1 o_neq ?_
  refine A0 oK ?_; refine CN ?_
  refine aw_ifc (p := ¬ a.outs.length = b.outs.length) rfl (by simp [IntL.toI]; omega) (fun ht22 => ?_) (fun ht22 => ?_)
  ·
   refine CQR ?_; refine A0 aV ?_; refine CN ?_
   exact aw_ret1 rfl rfl (ret_eq rfl (decide_eq_false (fun e => ht22 (by rw [e]))).symm)
  ·
   refine CSQQR ?_; refine A0 aV ?_; refine CNB ?_
   refine Lp (ι := Nat) 2 (fun (k : Nat) => (((Fr.none).set 2 (.ptr 0 0)).set 3 (.ptr 1 0)).set 5 (.val i64T (k : Int))) (fun (k : Nat) => ((Hp.none).set 0 (.box 99 txT a)).set 1 (.box 99 txT b)) (fun (k : Nat) => k ≤ a.ins.length ∧ a.ins.take k = b.ins.take k) (fun (k : Nat) => a.ins.length - k) (0) (⟨Nat.zero_le _, rfl⟩) ?_
   intro k hinv
   refine CQQR ?_; refine A0 mV ?_; refine A0 (oFp fd_99_0) ?_; refine A0 (oLb L_Tx_ins ty_96) ?_; refine A0 (g_len rfl rfl isl_96) ?_; refine A0 o_lss ?_; refine CN ?_
   refine Cf (p := k < a.ins.length) (fun ht27 => ?_) (fun ht27 => ?_)
   ·
    obtain ⟨x, hx⟩ : ∃ x, a.ins[k]? = some x := ⟨_, List.getElem?_eq_getElem ht27⟩
    obtain ⟨y, hy⟩ : ∃ y, b.ins[k]? = some y := ⟨_, List.getElem?_eq_getElem (by omega)⟩
    refine CS ?_; refine CQ ?_; refine CB ?_; refine CQ ?_; refine CD mixed ?_; refine G0 (oFp fd_99_0) ?_; refine G0 (oLb L_Tx_ins ty_96) ?_; refine G0 mV ?_; refine G0 (g_ia_i (i := k) rfl rfl rfl (by omega) sl_96 (by assumption)) ?_
    refine G0 (g_load_r rfl rfl ty_119) ?_; refine G0 (oFp fd_99_0) ?_; refine G0 (oLb L_Tx_ins ty_96) ?_; refine G0 mV ?_; refine G0 (g_ia_i (i := k) rfl rfl rfl (by omega) sl_96 (by assumption)) ?_; refine G0 (g_load_r rfl rfl ty_119) ?_
    refine G0 (g_neqS rfl rfl rfl (eqt_119)) ?_; refine GK.nil ?_
    refine aw_ifc (p := ¬ x = y) rfl (by simp) (fun ht40 => ?_) (fun ht40 => ?_)
    ·
     refine CQR ?_; refine A0 aV ?_; refine CN ?_
     exact aw_ret1 rfl rfl (ret_eq rfl (decide_eq_false (fun e => ne_of_at hx hy ht40 (by rw [e]))).symm)
    ·
     refine CSIR ?_; refine A0 mV ?_; refine A0 o_add ?_; refine A0 aV ?_; refine CN ?_
     exact Nx (k + 1) (⟨by omega, beq_all_succ hx hy hinv.2 (Classical.not_not.1 ht40)⟩) (by omega)
   ·
    have hins : a.ins = b.ins := by have h := hinv.2; rw [List.take_of_length_le (by omega), List.take_of_length_le (by omega)] at h; exact h
    refine CE ?_; refine CQQR ?_; refine A0 aV ?_; refine CNB ?_
    refine Lp (ι := Nat) 2 (fun (k : Nat) => (((Fr.none).set 2 (.ptr 0 0)).set 3 (.ptr 1 0)).set 6 (.val i64T (k : Int))) (fun (k : Nat) => ((Hp.none).set 0 (.box 99 txT a)).set 1 (.box 99 txT b)) (fun (k : Nat) => k ≤ a.outs.length ∧ a.outs.take k = b.outs.take k) (fun (k : Nat) => a.outs.length - k) (0) (⟨Nat.zero_le _, rfl⟩) ?_
    intro k hinv
    refine CQQR ?_; refine A0 mV ?_; refine A0 (oFp fd_99_1) ?_; refine A0 (oLb L_Tx_outs ty_97) ?_; refine A0 (g_len rfl rfl isl_97) ?_; refine A0 o_lss ?_; refine CN ?_
    refine Cf (p := k < a.outs.length) (fun ht45 => ?_) (fun ht45 => ?_)
    ·
     obtain ⟨x, hx⟩ : ∃ x, a.outs[k]? = some x := ⟨_, List.getElem?_eq_getElem ht45⟩
     obtain ⟨y, hy⟩ : ∃ y, b.outs[k]? = some y := ⟨_, List.getElem?_eq_getElem (by omega)⟩
     refine CS ?_; refine CQ ?_; refine CB ?_; refine CQ ?_; refine CD mixed ?_; refine G0 (oFp fd_99_1) ?_; refine G0 (oLb L_Tx_outs ty_97) ?_; refine G0 mV ?_; refine G0 (g_ia_i (i := k) rfl rfl rfl (by omega) sl_97 (by assumption)) ?_
     refine G0 (g_load_r rfl rfl ty_121) ?_; refine G0 (oFp fd_99_1) ?_; refine G0 (oLb L_Tx_outs ty_97) ?_; refine G0 mV ?_; refine G0 (g_ia_i (i := k) rfl rfl rfl (by omega) sl_97 (by assumption)) ?_; refine G0 (g_load_r rfl rfl ty_121) ?_
     refine G0 (g_neqS rfl rfl rfl (eqt_121)) ?_; refine GK.nil ?_
     refine aw_ifc (p := ¬ x = y) rfl (by simp) (fun ht58 => ?_) (fun ht58 => ?_)
     ·
      refine CQR ?_; refine A0 aV ?_; refine CN ?_
      exact aw_ret1 rfl rfl (ret_eq rfl (decide_eq_false (fun e => ne_of_at hx hy ht58 (by rw [e]))).symm)
     ·
      refine CSIR ?_; refine A0 mV ?_; refine A0 o_add ?_; refine A0 aV ?_; refine CN ?_
      exact Nx (k + 1) (⟨by omega, beq_all_succ hx hy hinv.2 (Classical.not_not.1 ht58)⟩) (by omega)
    ·
     refine CE ?_; refine CQR ?_; refine A0 aV ?_; refine CN ?_
     exact aw_ret1 rfl rfl (ret_eq rfl (decide_eq_true (by have h := hinv.2; rw [List.take_of_length_le (by omega), List.take_of_length_le (by omega)] at h; cases a; cases b; simp_all)).symm)
theorem refTxs_ok (l m : List Tx) : Tells P 63 [.val (bsl txT) l, .val (bsl txT) m] (.val boolT (decide (l = m))) := by
 refine fn_of_aw Tryz.func63 rfl rfl rfl (fun ext w hext => ?_)
 refine aw_fact (d := 0) rfl fact_sl (fun hsl0 => ?_)
 refine aw_fact (d := 1) rfl fact_sl (fun hsl1 => ?_)
 refine CQR ?_; refine A0 aV ?_; refine CNQQR ?_; refine A0 mV ?_; refine A0 (g_len rfl rfl isl_31) ?_; refine A0 mV ?_; refine A0 (g_len rfl rfl isl_31) ?_; refine A0 o_neq ?_; refine CN ?_
 refine aw_ifc (p := ¬ l.length = m.length) rfl (by simp [IntL.toI]; omega) (fun ht11 => ?_) (fun ht11 => ?_)
 ·
  refine CQR ?_; refine A0 aV ?_; refine CN ?_
  exact aw_ret1 rfl rfl (ret_eq rfl (decide_eq_false (fun e => ht11 (by rw [e]))).symm)
 ·
  refine CSQQR ?_; refine A0 aV ?_; refine CNB ?_
  refine Lp (ι := Nat) 0 (fun (k : Nat) => (((Fr.none).set 0 (.val (bsl txT) l)).set 1 (.val (bsl txT) m)).set 5 (.val i64T (k : Int))) (fun (k : Nat) => Hp.none) (fun (k : Nat) => k ≤ l.length ∧ l.take k = m.take k) (fun (k : Nat) => l.length - k) (0) (⟨Nat.zero_le _, rfl⟩) ?_
  intro k hinv
  refine CQQR ?_; refine A0 mV ?_; refine A0 mV ?_; refine A0 (g_len rfl rfl isl_31) ?_; refine A0 o_lss ?_; refine CN ?_
  refine Cf (p := k < l.length) (fun ht15 => ?_) (fun ht15 => ?_)
  ·
   obtain ⟨x, hx⟩ : ∃ x, l[k]? = some x := ⟨_, List.getElem?_eq_getElem ht15⟩
   obtain ⟨y, hy⟩ : ∃ y, m[k]? = some y := ⟨_, List.getElem?_eq_getElem (by omega)⟩
   refine CS ?_; refine CQ ?_; refine CB ?_; refine CQ ?_; refine CD mixed ?_; refine G0 mV ?_; refine G0 mV ?_; refine G0 (g_ia_i (i := k) rfl rfl rfl (by omega) sl_31 (by assumption)) ?_; refine G0 (g_load_r rfl rfl ty_99) ?_; refine G0 mV ?_
   refine G0 mV ?_; refine G0 (g_ia_i (i := k) rfl rfl rfl (by omega) sl_31 (by assumption)) ?_; refine G0 (g_load_r rfl rfl ty_99) ?_
   refine G0 (oCl (refTx_ok _ _) rfl fn_116 ⟨(by first | exact arg_same rfl | exact arg_bsl rfl | exact arg_own rfl rfl | exact arg_nil rfl | exact arg_rptr rfl | exact arg_fn rfl rfl | exact arg_lit rfl), (by first | exact arg_same rfl | exact arg_bsl rfl | exact arg_own rfl rfl | exact arg_nil rfl | exact arg_rptr rfl | exact arg_fn rfl rfl | exact arg_lit rfl), trivial⟩) ?_
   refine G0 aV ?_; refine GK.nil ?_; refine CQR ?_; refine A0 mV ?_; refine A0 oN ?_; refine CN ?_
   refine aw_ifc (p := ¬ x = y) rfl (by simp) (fun ht28 => ?_) (fun ht28 => ?_)
   ·
    refine CQR ?_; refine A0 aV ?_; refine CN ?_
    exact aw_ret1 rfl rfl (ret_eq rfl (decide_eq_false (ne_of_at hx hy ht28)).symm)
   ·
    refine CSIR ?_; refine A0 mV ?_; refine A0 o_add ?_; refine A0 aV ?_; refine CN ?_
    exact Nx (k + 1) (⟨by omega, beq_all_succ hx hy hinv.2 (Classical.not_not.1 ht28)⟩) (by omega)
  ·
   refine CE ?_; refine CQR ?_; refine A0 aV ?_; refine CN ?_
   exact aw_ret1 rfl rfl (ret_eq rfl (decide_eq_true (by have h := hinv.2; rw [List.take_of_length_le (by omega), List.take_of_length_le (by omega)] at h; exact h)).symm)
theorem refB_ok (a b : Block) : Tells P 20 [.val blockT a, .val blockT b] (.val boolT (decide (a = b))) := by
 refine fn_of_aw Tryz.func20 rfl rfl rfl (fun ext w hext => ?_)
 refine CQR ?_; refine aw_box rfl rfl rfl rfl rfl ?_; refine aw_box rfl rfl rfl rfl rfl ?_; refine A0 aV ?_; refine CNQR ?_; refine A0 (oFp fd_33_1) ?_; refine A0 (oLb L_Block_l ty_30) ?_; refine A0 (oFp fd_33_1) ?_
 refine A0 (oLb L_Block_l ty_30) ?_; refine A0 (oCl (refIds_ok _ _) rfl fn_59 ⟨(arg_v rfl), (arg_v rfl), trivial⟩) ?_; refine A0 aV ?_; refine CNQR ?_; refine A0 (oFp fd_33_2) ?_; refine A0 (oLb L_Block_t ty_31) ?_; refine A0 (oFp fd_33_2) ?_
 refine A0 (oLb L_Block_t ty_31) ?_; refine A0 (oCl (refTxs_ok _ _) rfl fn_63 ⟨(arg_v rfl), (arg_v rfl), trivial⟩) ?_; refine A0 aV ?_; refine CNQR ?_; refine A0 mV ?_
 refine Sp (d := 17) (p := a.l = b.l) (fun g17 => ?_) (fun g17 => ?_)
 ·
  refine A0 mV ?_; refine A1 mV ?_; refine A0 oK ?_
  refine Sp (d := 20) (p := a.t = b.t) (fun g20 => ?_) (fun g20 => ?_)
  ·
   refine A0 mV ?_; refine A1 (oFp fd_33_0) ?_; refine A1 (oLb L_Block_h ty_29) ?_; refine A1 (oFp fd_33_0) ?_; refine A1 (oLb L_Block_h ty_29) ?_; refine A1 (g_eqlS rfl rfl rfl (eqt_29)) ?_; refine A0 oK ?_; refine A0 aV ?_; refine CN ?_
   exact aw_ret1 rfl rfl (ret_eq rfl (by rw [decide_eq_decide]; exact ⟨fun h => by cases a; cases b; simp_all, fun h => by rw [h]⟩))
  ·
   refine A0 mV ?_; refine A2 ?_; refine A2 ?_; refine A2 ?_; refine A2 ?_; refine A2 ?_; refine A0 oK ?_; refine A0 aV ?_; refine CN ?_
   exact aw_ret1 rfl rfl (ret_eq rfl (by symm; apply decide_eq_false; intro h; exact g20 (by rw [h])))
 ·
  refine A0 mV ?_; refine A2 ?_; refine A0 oK ?_; refine A0 mV ?_; refine A2 ?_; refine A2 ?_; refine A2 ?_; refine A2 ?_; refine A2 ?_; refine A0 oK ?_; refine A0 aV ?_; refine CN ?_
  exact aw_ret1 rfl rfl (ret_eq rfl (by symm; apply decide_eq_false; intro h; exact g17 (by rw [h])))
theorem refTips_ok (a b : Tip) : Tells P 19 [.val tipT a, .val tipT b] (.val boolT (decide (a = b))) := by
 refine fn_of_aw Tryz.func19 rfl rfl rfl (fun ext w hext => ?_)
 refine CQR ?_; refine aw_box rfl rfl rfl rfl rfl ?_; refine aw_box rfl rfl rfl rfl rfl ?_; refine A0 aV ?_; refine CNQR ?_; refine A0 (oFp fd_37_0) ?_; refine A0 (oLb L_Tip_b ty_33) ?_; refine A0 (oFp fd_37_0) ?_
 refine A0 (oLb L_Tip_b ty_33) ?_; refine A0 (oCl (refB_ok _ _) rfl fn_20 ⟨(arg_v rfl), (arg_v rfl), trivial⟩) ?_; refine A0 aV ?_; refine CNQR ?_; refine A0 (oFp fd_37_1) ?_; refine A0 (oLb L_Tip_p ty_34) ?_; refine A0 (oFp fd_37_1) ?_
 refine A0 (oLb L_Tip_p ty_34) ?_; refine A0 (oCl (refTotals_ok _ _) rfl fn_61 ⟨(arg_v rfl), (arg_v rfl), trivial⟩) ?_; refine A0 aV ?_; refine CNQR ?_; refine A0 (oFp fd_37_2) ?_; refine A0 (oLb L_Tip_c ty_35) ?_; refine A0 (oFp fd_37_2) ?_
 refine A0 (oLb L_Tip_c ty_35) ?_; refine A0 (oCl (rsame_ok _ _) rfl fn_62 ⟨(arg_v rfl), (arg_v rfl), trivial⟩) ?_; refine A0 aV ?_; refine CNQR ?_; refine A0 mV ?_
 refine Sp (d := 23) (p := a.b = b.b) (fun g23 => ?_) (fun g23 => ?_)
 ·
  refine A0 mV ?_; refine A1 mV ?_; refine A0 oK ?_
  refine Sp (d := 26) (p := a.p = b.p) (fun g26 => ?_) (fun g26 => ?_)
  ·
   refine A0 mV ?_; refine A1 mV ?_; refine A0 oK ?_; refine A0 aV ?_; refine CN ?_
   exact aw_ret1 rfl rfl (ret_eq rfl (by rw [decide_eq_decide]; exact ⟨fun h => by cases a; cases b; simp_all, fun h => by rw [h]⟩))
  ·
   refine A0 mV ?_; refine A2 ?_; refine A0 oK ?_; refine A0 aV ?_; refine CN ?_
   exact aw_ret1 rfl rfl (ret_eq rfl (by symm; apply decide_eq_false; intro h; exact g26 (by rw [h])))
 ·
  refine A0 mV ?_; refine A2 ?_; refine A0 oK ?_; refine A0 mV ?_; refine A2 ?_; refine A0 oK ?_; refine A0 aV ?_; refine CN ?_
  exact aw_ret1 rfl rfl (ret_eq rfl (by symm; apply decide_eq_false; intro h; exact g23 (by rw [h])))
end Go.Proofs.YtgoiacajjicjcaaGreat
set_option maxRecDepth 20000
namespace Go.Proofs.YtgoiacajjicjcaaGreat
set_option linter.unusedVariables false
set_option linter.unusedSimpArgs false
open Go.Ab Go.RowKit
theorem apply_sum {p : List Coin} {l : List Tx} (hp : mayCoins p = true) : sumOf (applyOf p l).1 ≤ IntKind.i64.wrap (sumOf p + 50) := by
  have h := applyOf_tot (l := l) hp
  have hT := coins_tot (mayCoins_iff.1 hp).1 (mayCoins_iff.1 hp).2.2
  rw [sumOf_tot h.1, sumOf_tot hp, wrap_eq (by omega)]
  exact h.2.1
end Go.Proofs.YtgoiacajjicjcaaGreat
set_option maxRecDepth 20000
namespace Go.Proofs.YtgoiacajjicjcaaGreat
set_option linter.unusedVariables false
set_option linter.unusedSimpArgs false
open Go.Ab Go.RowKit
theorem mineFrom_spec : ∀ {n : Nat} {h g : Head}, mineFrom n h = some g → headMay g = true ∧ g = { h with nonce := g.nonce }
  | 0, _, _, h => by cases h
  | n + 1, h, g, e => by
    rw [mineFrom] at e
    split at e
    · injection e with e; subst e; exact ⟨by assumption, rfl⟩
    · obtain ⟨h1, h2⟩ := mineFrom_spec e; exact ⟨h1, h2⟩
theorem mined {t : Tip} {l : List Tx} {nonce : UInt64} {tries : Int} (h : mineBE t l nonce tries = 0) : (mineB t l nonce tries).h.height < 48 ∧ (mineB t l nonce tries).h = nextH t l (mineB t l nonce tries).h.nonce ∧ (mineB t l nonce tries).l = linksT t ∧ (mineB t l nonce tries).t = l ∧ headMay (mineB t l nonce tries).h = true ∧ (applyOf t.c l).2 = 0 := by
  have hb : mineB t l nonce tries = ⟨(mineOf (nextH t l nonce) tries).getD (nextH t l nonce), linksT t, l⟩ := by unfold mineB; rw [if_pos h]
  unfold mineBE at h
  by_cases h1 : 48 ≤ (nextH t l nonce).height
  · rw [if_pos h1] at h; exact absurd h (by decide)
  rw [if_neg h1] at h
  by_cases h2 : ¬ (applyOf t.c l).2 = 0
  · rw [if_pos h2] at h; exact absurd h h2
  rw [if_neg h2] at h
  by_cases h3 : (mineOf (nextH t l nonce) tries).isSome = true
  · obtain ⟨g, hg⟩ := Option.isSome_iff_exists.1 h3
    obtain ⟨h4, h5⟩ := mineFrom_spec hg
    rw [hb, hg]
    have e : g = nextH t l g.nonce := h5
    refine ⟨?_, e, rfl, rfl, h4, Classical.not_not.1 h2⟩
    show g.height < 48
    rw [e]
    show (nextH t l nonce).height < 48
    omega
  · rw [if_neg h3] at h; exact absurd h (by decide)
theorem mined_push {t : Tip} {l : List Tx} {nonce : UInt64} {tries : Int} (h : mineBE t l nonce tries = 0) : pushE t (mineB t l nonce tries) = 0 := by
  obtain ⟨h1, h2, h3, h4, h5, h6⟩ := mined h
  exact push_iff.2 ⟨h1, by rw [h4]; exact h2, h3, h5, by rw [h4]; exact h6⟩
theorem mined_again {t : Tip} {l : List Tx} {nonce : UInt64} {tries : Int} (h : mineBE t l nonce tries = 0) : mineBE t l (mineB t l nonce tries).h.nonce 1 = 0 ∧ mineB t l (mineB t l nonce tries).h.nonce 1 = mineB t l nonce tries := by
  obtain ⟨h1, h2, h3, h4, h5, h6⟩ := mined h
  obtain ⟨b, hb⟩ : ∃ b, b = mineB t l nonce tries := ⟨_, rfl⟩
  rw [← hb] at h1 h2 h3 h4 h5 ⊢
  have hm : mineOf (nextH t l b.h.nonce) 1 = some b.h := by
    rw [← h2]
    exact mineFrom_yes (by decide) h5
  have hE : mineBE t l b.h.nonce 1 = 0 := by
    unfold mineBE
    rw [if_neg (by rw [← h2]; omega), if_neg (Classical.not_not.2 h6), hm]; rfl
  refine ⟨hE, ?_⟩
  unfold mineB
  rw [if_pos hE, hm]
  show (⟨b.h, linksT t, l⟩ : Block) = b
  rw [← h3, ← h4]
theorem mined_may {t : Tip} {b : Block} (h : pushE t b = 0) : mayCoins t.c = true := by
  obtain ⟨_, _, _, _, h5⟩ := push_iff.1 h
  exact apply_may h5
theorem pushT_eq {t : Tip} {b : Block} (h : pushE t b = 0) : pushT t b = ⟨b, mmrAppend t.p (leafH b.h), (applyOf t.c b.t).1⟩ := by unfold pushT; rw [if_pos h]
theorem mined_sum {t : Tip} {b : Block} (h : pushE t b = 0) : sumOf (pushT t b).c ≤ IntKind.i64.wrap (sumOf t.c + 50) := by
  rw [pushT_eq h]
  exact apply_sum (mined_may h)
def GoodT (x : Total) : Prop := x.w.length = 4 ∧ -9223372036854775808 ≤ x.n ∧ x.n ≤ 9223372036854775807
theorem fact_totals {t : Tip} {ρ : Nat → Value} {B : Nat → Prop} {U N : Nat → Prop} {w : World} {v : Value} (h : (AV.val tipT t).rel ρ B U N w v) : ∀ x ∈ t.p, GoodT x := fun x hx => by
  obtain ⟨cs, ⟨_, _, _, _, _, _, _, ⟨ad, cap, _, _, _, h3⟩, _⟩, _⟩ := h
  obtain ⟨_, ds, _, _, hr, _⟩ := h3 (List.ne_nil_of_mem hx)
  obtain ⟨c, _, _, _, _, _, _, _, hw, hn⟩ := relAll_mem hr x hx
  exact ⟨hw.1, i64_in.1 hn.2⟩
theorem wrap_q (n : Int) : ∃ q, IntKind.i64.wrap n = n + 18446744073709551616 * q ∧ -9223372036854775808 ≤ IntKind.i64.wrap n ∧ IntKind.i64.wrap n ≤ 9223372036854775807 := by
  have h := i64_in.1 (wrap_in n)
  refine ⟨(IntKind.i64.wrap n - n) / 18446744073709551616, ?_, h⟩
  simp only [IntKind.wrap, IntKind.signed, IntKind.bits]
  simp
  split <;> omega
def nS (l : List Total) : Nat := (l.map fun x => nW x.w).sum
def iS (l : List Total) : Int := (l.map (·.n)).sum
theorem join_good {y x : Total} (hy : GoodT y) (hx : GoodT x) : GoodT (joinT y x) := ⟨addW_len hy.1 hx.1, (wrap_q _).choose_spec.2⟩
theorem join_sum {y x : Total} (hy : GoodT y) (hx : GoodT x) : nW (joinT y x).w = (nW y.w + nW x.w) % W256 ∧ ∃ q, (joinT y x).n = y.n + x.n + 18446744073709551616 * q := ⟨nW_add hy.1 hx.1, let ⟨q, h, _⟩ := wrap_q (y.n + x.n); ⟨q, h⟩⟩
theorem rootFrom_sum : ∀ {r : List Total} {x : Total}, (∀ y ∈ r, GoodT y) → GoodT x → GoodT (rootFrom r x) ∧ nW (rootFrom r x).w = (nS r + nW x.w) % W256 ∧ ∃ q, (rootFrom r x).n = iS r + x.n + 18446744073709551616 * q
  | [], x, _, hx => ⟨hx, by have := nW_lt hx.1; show nW x.w = (0 + nW x.w) % W256; unfold W256 at *; omega, 0, by show x.n = 0 + x.n + _; omega⟩
  | y :: r, x, hr, hx => by
    have hy := hr y (by simp)
    obtain ⟨h1, h2, q, h3⟩ := rootFrom_sum (r := r) (fun z hz => hr z (by simp [hz])) (join_good hy hx)
    obtain ⟨h4, q', h5⟩ := join_sum hy hx
    refine ⟨h1, ?_, q + q', ?_⟩
    · show nW (rootFrom r (joinT y x)).w = (nS (y :: r) + nW x.w) % W256
      have e : nS (y :: r) = nW y.w + nS r := by unfold nS; simp
      rw [h2, h4, e]; unfold W256; omega
    · show (rootFrom r (joinT y x)).n = iS (y :: r) + x.n + _
      have e : iS (y :: r) = y.n + iS r := by unfold iS; simp
      rw [h3, h5, e]; omega
theorem pushR_sum : ∀ {r : List Total} {x : Total}, (∀ y ∈ r, GoodT y) → GoodT x → (∀ y ∈ pushR r x, GoodT y) ∧ nS (pushR r x) % W256 = (nS r + nW x.w) % W256 ∧ ∃ q, iS (pushR r x) = iS r + x.n + 18446744073709551616 * q
  | [], x, _, hx => ⟨fun y hy => by simp [pushR] at hy; rw [hy]; exact hx, by simp [pushR, nS], 0, by simp [pushR, iS]⟩
  | y :: r, x, hr, hx => by
    have hy := hr y (by simp)
    have e : nS (y :: r) = nW y.w + nS r := by unfold nS; simp
    have e' : iS (y :: r) = y.n + iS r := by unfold iS; simp
    rw [pushR]
    split
    · obtain ⟨h1, h2, q, h3⟩ := pushR_sum (r := r) (fun z hz => hr z (by simp [hz])) (join_good hy hx)
      obtain ⟨h4, q', h5⟩ := join_sum hy hx
      refine ⟨h1, ?_, q + q', ?_⟩
      · rw [h2, h4, e]; unfold W256; omega
      · rw [h3, h5, e']; omega
    · refine ⟨fun z hz => ?_, ?_, 0, ?_⟩
      · rcases List.mem_cons.1 hz with h | h
        · rw [h]; exact hx
        · exact hr z h
      · have : nS (x :: y :: r) = nW x.w + (nW y.w + nS r) := by unfold nS; simp
        rw [this, e]; congr 1; omega
      · have : iS (x :: y :: r) = x.n + (y.n + iS r) := by unfold iS; simp
        rw [this, e']; omega
theorem rootR_sum {r : List Total} (hr : ∀ y ∈ r, GoodT y) : GoodT (mmrRoot r.reverse) ∧ nW (mmrRoot r.reverse).w = nS r % W256 ∧ ∃ q, (mmrRoot r.reverse).n = iS r + 18446744073709551616 * q := by
  unfold mmrRoot
  rw [List.reverse_reverse]
  cases r with
  | nil => exact ⟨⟨rfl, by decide, by decide⟩, rfl, 0, rfl⟩
  | cons x r =>
    obtain ⟨h1, h2, q, h3⟩ := rootFrom_sum (r := r) (fun z hz => hr z (by simp [hz])) (hr x (by simp))
    refine ⟨h1, ?_, q, ?_⟩
    · show nW (rootFrom r x).w = _
      rw [h2]; unfold nS; simp; congr 1; omega
    · show (rootFrom r x).n = _
      rw [h3]; unfold iS; simp; omega
theorem headWork_len (h : Head) : (headWork h).length = 4 := by
  unfold headWork
  split
  · unfold workW
    split
    · refine addW_len ?_ rfl
      unfold divW divP
      split
      · rfl
      · simp only []
        have : ∀ (b : Wide) (n : Nat) (x : Wide × Wide), x.2.length = 4 → (divN b n x).2.length = 4 := fun b n => by
          induction n with
          | zero => intro x hx; exact hx
          | succ n ih =>
            intro x hx
            rw [divN]
            refine ih _ ?_
            unfold divStep
            split
            · simp only [orBit, List.length_set]; exact hx
            · exact hx
        exact this _ _ _ rfl
    · rfl
  · rfl
theorem append_sum {p : List Total} {h : Head} (hp : ∀ x ∈ p, GoodT x) : (mmrRoot (mmrAppend p (leafH h))).w = addW (mmrRoot p).w (headWork h) ∧ (mmrRoot (mmrAppend p (leafH h))).n = IntKind.i64.wrap ((mmrRoot p).n + 1) := by
  have hr : ∀ x ∈ p.reverse, GoodT x := fun x hx => hp x (by simpa using hx)
  have hx : GoodT (leafH h) := ⟨headWork_len h, by show (-9223372036854775808 : Int) ≤ 1; decide, by show (1 : Int) ≤ 9223372036854775807; decide⟩
  obtain ⟨a1, a2, q1, a3⟩ := pushR_sum hr hx
  obtain ⟨b1, b2, q2, b3⟩ := rootR_sum a1
  obtain ⟨c1, c2, q3, c3⟩ := rootR_sum hr
  rw [List.reverse_reverse] at c1 c2 c3
  constructor
  · refine nW_inj b1.1 (addW_len c1.1 (headWork_len h)) ?_
    rw [nW_add c1.1 (headWork_len h), c2]
    show nW (mmrRoot (pushR p.reverse (leafH h)).reverse).w = _
    rw [b2, a2]
    show (nS p.reverse + nW (headWork h)) % W256 = _
    unfold W256; omega
  · show (mmrRoot (pushR p.reverse (leafH h)).reverse).n = _
    obtain ⟨q4, d1, d2⟩ := wrap_q ((mmrRoot p).n + 1)
    have e : (leafH h).n = 1 := rfl
    have := b1.2
    omega
theorem push_nonce {t : Tip} {b : Block} {n : UInt64} (h : pushE t b = 0) : (pushE t { b with h := { b.h with nonce := n } } = 0) ↔ headMay { b.h with nonce := n } = true := by
  obtain ⟨h1, h2, h3, h4, h5⟩ := push_iff.1 h
  rw [push_iff]
  refine ⟨fun h => h.2.2.2.1, fun h => ⟨h1, ?_, h3, h, h5⟩⟩
  show ({ b.h with nonce := n } : Head) = nextH t b.t n
  conv => lhs; rw [h2]
  rfl
theorem mined_height {t : Tip} {l : List Tx} {nonce : UInt64} {tries : Int} (h : mineBE t l nonce tries = 0) : (pushT t (mineB t l nonce tries)).b.h.height = IntKind.i64.wrap (t.b.h.height + 1) := by
  rw [pushT_eq (mined_push h)]
  exact congrArg (·.height) (mined h).2.1
theorem BlockMines_ok (t : Tip) (l : List Tx) (nonce : UInt64) (tries : Int) : Tells P 9 [.val tipT t, .val (sl txT) l, .val u64T nonce, .val i64T tries] (.val boolT true) := by
 refine fn_of_aw Tryz.func9 rfl rfl rfl (fun ext w hext => ?_)
 refine aw_fact (d := 1) rfl fact_sl (fun hsl1 => ?_)
 refine aw_fact (d := 3) rfl fact_int (fun hin3 => ?_)
 refine CQR ?_; refine aw_box rfl rfl rfl rfl rfl ?_; refine A0 aV ?_; refine CNQR ?_; refine A0 (oCl (awake11_ok) rfl fn_10 trivial) ?_; refine A0 aV ?_; refine CNQR ?_; refine A0 (oLs rfl rfl rfl ty_37) ?_
 refine A0 (oCl (fewTip_ok _) rfl fn_11 ⟨(arg_v rfl), trivial⟩) ?_; refine A0 aV ?_; refine CNQR ?_; refine A0 mV ?_; refine A0 (oCl (fewAll_ok _ _) rfl fn_28 ⟨(arg_v rfl), (arg_v rfl), trivial⟩) ?_; refine A0 aV ?_; refine CNQQR ?_
 refine A0 mV ?_; refine A0 oN ?_; refine aw_isf (d := 24) rfl (rfl) ?_; refine A0 mV ?_; refine A1 mV ?_; refine A1 oN ?_
 refine aw_splitp (d := 27) (p := ¬ fewTip t = true) rfl (by cases fewTip t <;> rfl) (fun g27 => ?_) (fun g27 => ?_)
 ·
  refine A0 oK ?_; refine A0 mV ?_; refine A2 ?_; refine A2 ?_; refine A0 oK ?_; refine A0 mV ?_; refine A2 ?_; refine A2 ?_; refine A0 oK ?_; refine CN ?_; refine Ct ?_; refine CQR ?_; refine A0 mV ?_; refine A0 aV ?_; refine CN ?_
  exact aw_ret1 rfl rfl (ret_eq rfl rfl)
 ·
  have hst := fewTip_small (Classical.not_not.1 g27)
  refine A0 oK ?_; refine A0 mV ?_; refine A1 mV ?_; refine A1 oN ?_
  refine aw_splitp (d := 31) (p := ¬ (l.all few && decide ((l.length : Int) ≤ 6)) = true) rfl (by cases (l.all few && decide ((l.length : Int) ≤ 6)) <;> rfl) (fun g31 => ?_) (fun g31 => ?_)
  ·
   refine A0 oK ?_; refine A0 mV ?_; refine A2 ?_; refine A2 ?_; refine A0 oK ?_; refine CN ?_; refine Ct ?_; refine CQR ?_; refine A0 mV ?_; refine A0 aV ?_; refine CN ?_
   exact aw_ret1 rfl rfl (ret_eq rfl rfl)
  ·
   have hsl := few_small (Classical.not_not.1 g31)
   refine A0 oK ?_; refine A0 mV ?_; refine A1 mV ?_; refine A1 o_gtr ?_
   refine Sp (d := 35) (p := 20 < tries) (fun g35 => ?_) (fun g35 => ?_)
   ·
    refine A0 oK ?_; refine CN ?_; refine Ct ?_; refine CQR ?_; refine A0 mV ?_; refine A0 aV ?_; refine CN ?_
    exact aw_ret1 rfl rfl (ret_eq rfl rfl)
   ·
    refine A0 oK ?_; refine CN ?_; refine Cg ?_; refine CSQR ?_; refine A0 (oLs rfl rfl rfl ty_37) ?_; refine A0 mV ?_; refine A0 mV ?_; refine A0 mV ?_
    refine A0 (oCl (mineB_ok t l nonce tries hst hsl) rfl fn_15 ⟨(arg_v rfl), (arg_v rfl), (arg_v rfl), (arg_v rfl), trivial⟩) ?_; refine A0 mX ?_; refine A0 (by first | exact g_x20 rfl rfl | exact g_x30 rfl rfl) ?_
    refine A0 (by first | exact g_x21 rfl rfl | exact g_x31 rfl rfl) ?_; refine aw_alloc ze_33 rfl rfl rfl rfl ?_; refine aw_store_b rfl rfl rfl rfl rfl (Lens.self _) ty_33 rfl ?_; refine A0 aV ?_; refine CNQQR ?_; refine A0 mV ?_
    refine A0 o_neq ?_; refine CN ?_
    refine aw_ifc (p := ¬ mineBE t l nonce tries = 0) rfl (by simp [IntL.toI]) (fun ht47 => ?_) (fun ht47 => ?_)
    ·
     refine CQR ?_; refine A0 (oLs rfl rfl rfl ty_33) ?_; refine A0 (g_build rfl ze_33 bd_33 .nil rfl) ?_; refine A0 (oCl (sameB_ok _ _) rfl fn_21 ⟨(arg_v rfl), (arg_v rfl), trivial⟩) ?_
     refine aw_ist (d := 50) rfl (by unfold mineB; rw [if_neg ht47]; rfl) ?_; refine A0 aV ?_; refine CN ?_
     exact aw_ret1 rfl rfl (ret_eq rfl rfl)
    ·
     have hE := Classical.not_not.1 ht47
     have hb1 : smallB (mineB t l nonce tries) := by obtain ⟨_, _, h3, h4, _⟩ := mined hE; exact ⟨by rw [h3]; have := linkNext_len (l := t.b.l) (id := headId t.b.h) (level := headLevel t.b.h); unfold linksT; omega, by rw [h4]; exact hsl⟩
     refine CSQR ?_; refine A0 (oLs rfl rfl rfl ty_37) ?_; refine A0 (oLs rfl rfl rfl ty_33) ?_; refine A0 (oCl (push_ok t (mineB t l nonce tries) hst hb1) rfl fn_17 ⟨(arg_v rfl), (arg_v rfl), trivial⟩) ?_; refine A0 mX ?_
     refine A0 (by first | exact g_x20 rfl rfl | exact g_x30 rfl rfl) ?_; refine A0 (by first | exact g_x21 rfl rfl | exact g_x31 rfl rfl) ?_; refine aw_alloc ze_37 rfl rfl rfl rfl ?_
     refine aw_store_b rfl rfl rfl rfl rfl (Lens.self _) ty_37 rfl ?_; refine A0 aV ?_; refine CNQR ?_; refine A0 (oLs rfl rfl rfl ty_37) ?_; refine A0 mV ?_; refine A0 (oFp fd_33_0) ?_; refine A0 (oFp fd_29_7) ?_
     refine A0 (oLb (L_Block_h.comp L_Head_nonce) ty_24) ?_; refine A0 (oCl (mineB_ok t l (mineB t l nonce tries).h.nonce 1 hst hsl) rfl fn_15 ⟨(arg_v rfl), (arg_v rfl), (arg_v rfl), (arg_v rfl), trivial⟩) ?_; refine A0 mX ?_
     refine A0 (by first | exact g_x20 rfl rfl | exact g_x30 rfl rfl) ?_; refine A0 (by first | exact g_x21 rfl rfl | exact g_x31 rfl rfl) ?_; refine aw_alloc ze_33 rfl rfl rfl rfl ?_
     refine aw_store_b rfl rfl rfl rfl rfl (Lens.self _) ty_33 rfl ?_; refine A0 aV ?_; refine CNQ ?_; refine CD mixed ?_; refine G0 mV ?_; refine G0 o_eql ?_; refine GK_ist (d := 67) rfl (by simpa [IntL.toI] using mined_push hE) ?_
     refine G0 mV ?_; refine G1 (oFp fd_37_0) ?_; refine G1 (oFp fd_33_0) ?_; refine G1 (oFp fd_29_0) ?_; refine G1 (oLb ((L_Tip_b.comp L_Block_h).comp L_Head_height) ty_3) ?_; refine G1 (oFp fd_37_0) ?_; refine G1 (oFp fd_33_0) ?_
     refine G1 (oFp fd_29_0) ?_; refine G1 (oLb ((L_Tip_b.comp L_Block_h).comp L_Head_height) ty_3) ?_; refine G1 o_add ?_; refine G1 o_eql ?_; refine GK_ist (d := 78) rfl (decide_eq_true (mined_height hE)) ?_; refine G0 oK ?_; refine G0 mV ?_
     refine G1 (oFp fd_37_0) ?_; refine G1 (oLb L_Tip_b ty_33) ?_; refine G1 (oLs rfl rfl rfl ty_33) ?_; refine G1 (oCl (sameB_ok _ _) rfl fn_21 ⟨(arg_v rfl), (arg_v rfl), trivial⟩) ?_
     refine GK_ist (d := 84) rfl (by rw [pushT_eq (mined_push hE)]; simp) ?_; refine G0 oK ?_; refine G0 mV ?_; refine G1 mV ?_; refine G1 o_eql ?_; refine GK_ist (d := 88) rfl (by simpa [IntL.toI] using (mined_again hE).1) ?_; refine G0 oK ?_
     refine G0 mV ?_; refine G1 (oLs rfl rfl rfl ty_33) ?_; refine G1 (oLs rfl rfl rfl ty_33) ?_; refine G1 (oCl (sameB_ok _ _) rfl fn_21 ⟨(arg_v rfl), (arg_v rfl), trivial⟩) ?_; refine GK_ist (d := 93) rfl (by simpa using (mined_again hE).2) ?_
     refine G0 oK ?_; refine G0 mV ?_; refine G1 (oFp fd_37_2) ?_; refine G1 (oLb L_Tip_c ty_35) ?_; refine G1 (oCl (psum_ok (pushT t (mineB t l nonce tries)).c) rfl fn_31 ⟨(arg_v rfl), trivial⟩) ?_; refine G1 (oFp fd_37_2) ?_
     refine G1 (oLb L_Tip_c ty_35) ?_; refine G1 (oCl (psum_ok t.c) rfl fn_31 ⟨(arg_v rfl), trivial⟩) ?_; refine G1 o_add ?_; refine G1 o_leq ?_; refine GK_ist (d := 103) rfl (decide_eq_true (mined_sum (mined_push hE))) ?_; refine G0 oK ?_
     refine G0 aV ?_; refine GK.nil ?_
     exact aw_ret1 rfl rfl (ret_eq rfl rfl)
theorem BlockPushes_ok (t : Tip) (b : Block) (n : UInt64) : Tells P 8 [.val tipT t, .val blockT b, .val u64T n] (.val boolT true) := by
 refine fn_of_aw Tryz.func8 rfl rfl rfl (fun ext w hext => ?_)
 refine aw_fact (d := 0) rfl fact_totals (fun hgt => ?_)
 refine CQR ?_; refine aw_box rfl rfl rfl rfl rfl ?_; refine aw_box rfl rfl rfl rfl rfl ?_; refine A0 aV ?_; refine CNQR ?_; refine A0 (oCl (awake11_ok) rfl fn_10 trivial) ?_; refine A0 aV ?_; refine CNQR ?_
 refine A0 (oLs rfl rfl rfl ty_37) ?_; refine A0 (oCl (fewTip_ok _) rfl fn_11 ⟨(arg_v rfl), trivial⟩) ?_; refine A0 aV ?_; refine CNQR ?_; refine A0 (oLs rfl rfl rfl ty_33) ?_; refine A0 (oCl (fewB_ok _) rfl fn_12 ⟨(arg_v rfl), trivial⟩) ?_
 refine A0 aV ?_; refine CNQQR ?_; refine A0 mV ?_; refine A0 oN ?_; refine aw_isf (d := 27) rfl (rfl) ?_; refine A0 mV ?_; refine A1 mV ?_; refine A1 oN ?_
 refine aw_splitp (d := 30) (p := ¬ fewTip t = true) rfl (by cases fewTip t <;> rfl) (fun g30 => ?_) (fun g30 => ?_)
 ·
  refine A0 oK ?_; refine A0 mV ?_; refine A2 ?_; refine A2 ?_; refine A0 oK ?_; refine CN ?_; refine Ct ?_; refine CQR ?_; refine A0 mV ?_; refine A0 aV ?_; refine CN ?_
  exact aw_ret1 rfl rfl (ret_eq rfl rfl)
 ·
  have hst := fewTip_small (Classical.not_not.1 g30)
  refine A0 oK ?_; refine A0 mV ?_; refine A1 mV ?_; refine A1 oN ?_
  refine aw_splitp (d := 34) (p := ¬ fewB b = true) rfl (by cases fewB b <;> rfl) (fun g34 => ?_) (fun g34 => ?_)
  ·
   refine A0 oK ?_; refine CN ?_; refine Ct ?_; refine CQR ?_; refine A0 mV ?_; refine A0 aV ?_; refine CN ?_
   exact aw_ret1 rfl rfl (ret_eq rfl rfl)
  ·
   have hsb := fewB_small (Classical.not_not.1 g34)
   refine A0 oK ?_; refine CN ?_; refine Cg ?_; refine CSQR ?_; refine A0 (oLs rfl rfl rfl ty_37) ?_; refine A0 (oLs rfl rfl rfl ty_33) ?_; refine A0 (oCl (push_ok t b hst hsb) rfl fn_17 ⟨(arg_v rfl), (arg_v rfl), trivial⟩) ?_; refine A0 mX ?_
   refine A0 (by first | exact g_x20 rfl rfl | exact g_x30 rfl rfl) ?_; refine A0 (by first | exact g_x21 rfl rfl | exact g_x31 rfl rfl) ?_; refine aw_alloc ze_37 rfl rfl rfl rfl ?_
   refine aw_store_b rfl rfl rfl rfl rfl (Lens.self _) ty_37 rfl ?_; refine A0 aV ?_; refine CNQQR ?_; refine A0 mV ?_; refine A0 o_neq ?_; refine CN ?_
   refine aw_ifc (p := ¬ pushE t b = 0) rfl (by simp [IntL.toI]) (fun ht44 => ?_) (fun ht44 => ?_)
   ·
    have hT : pushT t b = t := by unfold pushT; rw [if_neg ht44]
    refine CQR ?_; refine A0 (oLs rfl rfl rfl ty_37) ?_; refine A0 (oLs rfl rfl rfl ty_37) ?_; refine A0 (oCl (refTips_ok (pushT t b) t) rfl fn_19 ⟨(arg_v rfl), (arg_v rfl), trivial⟩) ?_; refine A0 aV ?_; refine CNQR ?_; refine A0 mV ?_
    refine A0 aV ?_; refine CN ?_
    exact aw_ret1 rfl rfl (ret_eq rfl (by rw [hT]; simp))
   ·
    have hE := Classical.not_not.1 ht44
    have hbh := (push_iff.1 hE).2.1
    have hpu := push_small (Classical.not_not.1 g30) hsb
    refine CSQR ?_; refine A0 (oLs rfl rfl rfl ty_33) ?_; refine aw_alloc ze_33 rfl rfl rfl rfl ?_; refine aw_store_b rfl rfl rfl rfl rfl (Lens.self _) ty_33 rfl ?_; refine CNQR ?_; refine A0 mV ?_; refine A0 (oFp fd_33_0) ?_
    refine A0 (oFp fd_29_7) ?_; refine aw_store_b rfl rfl rfl rfl rfl (L_Block_h.comp L_Head_nonce) ty_24 rfl ?_; refine CNQR ?_; refine A0 (oLs rfl rfl rfl ty_37) ?_; refine A0 (oLs rfl rfl rfl ty_33) ?_
    refine A0 (oCl (push_ok t { b with h := { b.h with nonce := n } } hst (by exact hsb)) rfl fn_17 ⟨(arg_v rfl), (arg_v rfl), trivial⟩) ?_; refine A0 mX ?_; refine A0 (by first | exact g_x20 rfl rfl | exact g_x30 rfl rfl) ?_
    refine A0 (by first | exact g_x21 rfl rfl | exact g_x31 rfl rfl) ?_; refine aw_alloc ze_37 rfl rfl rfl rfl ?_; refine aw_store_b rfl rfl rfl rfl rfl (Lens.self _) ty_37 rfl ?_; refine A0 aV ?_; refine CNQR ?_; refine A0 (oFp fd_37_1) ?_
    refine A0 (oLb L_Tip_p ty_34) ?_; refine A0 (oCl (mmrRoot_ok t.p (by have := hst.2.1; omega)) rfl fn_24 ⟨(arg_v rfl), trivial⟩) ?_; refine aw_alloc ze_54 rfl rfl rfl rfl ?_; refine aw_store_b rfl rfl rfl rfl rfl (Lens.self _) ty_54 rfl ?_
    refine CNQR ?_; refine A0 (oFp fd_37_1) ?_; refine A0 (oLb L_Tip_p ty_34) ?_; refine A0 (oCl (mmrRoot_ok (pushT t b).p (by have := hpu.2.1; omega)) rfl fn_24 ⟨(arg_v rfl), trivial⟩) ?_; refine aw_alloc ze_54 rfl rfl rfl rfl ?_
    refine aw_store_b rfl rfl rfl rfl rfl (Lens.self _) ty_54 rfl ?_; refine CNQ ?_; refine CD mixed ?_; refine G0 (oFp fd_33_1) ?_; refine G0 (oLb L_Block_l ty_30) ?_; refine G0 (oFp fd_33_0) ?_; refine G0 (oFp fd_29_1) ?_
    refine G0 (oLb (L_Block_h.comp L_Head_prev) ty_23) ?_; refine G0 (oFp fd_37_0) ?_; refine G0 (oFp fd_33_0) ?_; refine G0 (oLb (L_Tip_b.comp L_Block_h) ty_29) ?_; refine G0 (oCl (headId_ok _) rfl fn_26 ⟨(arg_v rfl), trivial⟩) ?_
    refine G0 (oCl (leads_ok _ _ _) rfl fn_29 ⟨(arg_v rfl), (arg_v rfl), (arg_v rfl), trivial⟩) ?_; refine G0 aV ?_; refine GK.nil ?_; refine CQ ?_
    refine aw_drawx [some 1000001, some 1000001, some 1000001, some 1000001, some 1000001, some 1000001, some 1000001, some 1000001, some 1000001, none, none, some 1] mixed (by decide +kernel) ?_
    refine XK.ga (fun _ => g_fa_p rfl rfl fd_54_1 rfl) rfl rfl rfl ?_; refine XK.gf (t := 76) rfl rfl (fun _ he => g_load_b rfl rfl he L_Total_w ty_26) ⟨rfl, trivial⟩ rfl rfl rfl ?_
    refine XK.ga (fun _ => g_fa_p rfl rfl fd_33_0 rfl) rfl rfl rfl ?_; refine XK.gf (t := 78) rfl rfl (fun _ he => g_load_b rfl rfl he L_Block_h ty_29) ⟨rfl, trivial⟩ rfl rfl rfl ?_
    refine XK.ga (fun _ => g_call (headWork_ok _) rfl fn_27 ⟨(arg_v rfl), trivial⟩ rfl) rfl rfl rfl ?_; refine XK.ga (fun _ => g_call (addW_ok _ _) rfl fn_30 ⟨(arg_v rfl), (arg_v rfl), trivial⟩ rfl) rfl rfl rfl ?_
    refine XK.ga (fun _ => by first | exact g_mv (.inl rfl) rfl | exact g_mp (.inl rfl) rfl | exact g_mo (.inl rfl) rfl | exact g_ml (.inl rfl) rfl | exact g_mc (.inl rfl) rfl | exact g_mr (.inl rfl) rfl | exact g_mf1 (.inl rfl) rfl | exact g_mf2 (.inl rfl) rfl | exact g_mw (.inl rfl) rfl | exact g_me (.inl rfl) rfl | exact g_ms (.inl rfl) rfl | exact g_mt2 (.inl rfl) rfl | exact g_mt3 (.inl rfl) rfl | exact g_mi (.inl rfl) rfl) rfl rfl rfl ?_
    refine XK.ga (fun _ => by first | exact g_x20 rfl rfl | exact g_x30 rfl rfl) rfl rfl rfl ?_; refine XK.ga (fun _ => by first | exact g_x21 rfl rfl | exact g_x31 rfl rfl) rfl rfl rfl ?_
    refine XK.e (fun fr' hfr kk H => by exact aw_alloc ze_26 rfl rfl rfl rfl (aw_nil H)) ?_
    refine XK.e (x := .idk) (fun fr' hfr kk H => by exact aw_store_b rfl rfl rfl ((hfr 19 (by decide +kernel)).trans rfl) rfl (Lens.self _) ty_26 ((hfr 82 (by decide +kernel)).trans rfl) (aw_nil H)) ?_; refine X0 aV ?_
    refine XK.nilp ⟨⟨rfl, rfl, trivial⟩, ⟨rfl, rfl, trivial⟩, trivial⟩ ?_; refine CQ ?_; refine CD mixed ?_; refine G0 mV ?_; refine GK_ist (d := 84) rfl (by rw [show b.h.prev = headId t.b.h from congrArg (·.prev) hbh]; simp) ?_; refine G0 mV ?_
    refine G1 (oFp fd_33_0) ?_; refine G1 (oFp fd_29_1) ?_; refine G1 (oLb (L_Block_h.comp L_Head_prev) ty_23) ?_; refine G1 (oFp fd_37_0) ?_; refine G1 (oFp fd_33_0) ?_; refine G1 (oLb (L_Tip_b.comp L_Block_h) ty_29) ?_
    refine G1 (oCl (headId_ok _) rfl fn_26 ⟨(arg_v rfl), trivial⟩) ?_; refine G1 (g_eqlS rfl rfl rfl (eqt_23)) ?_; refine GK_ist (d := 93) rfl (decide_eq_true (congrArg (·.prev) hbh)) ?_; refine G0 oK ?_; refine G0 mV ?_
    refine G1 (oFp fd_33_0) ?_; refine G1 (oFp fd_29_5) ?_; refine G1 (oLb (L_Block_h.comp L_Head_work) ty_26) ?_; refine G1 (oFp fd_54_1) ?_; refine G1 (oLb L_Total_w ty_26) ?_; refine G1 (g_eqlS rfl rfl rfl (eqt_26)) ?_
    refine GK_ist (d := 101) rfl (decide_eq_true (congrArg (·.work) hbh)) ?_; refine G0 oK ?_; refine G0 mV ?_; refine G1 (oFp fd_33_0) ?_; refine G1 (oFp fd_29_4) ?_; refine G1 (oLb (L_Block_h.comp L_Head_past) ty_23) ?_
    refine G1 (oFp fd_54_0) ?_; refine G1 (oLb L_Total_h ty_23) ?_; refine G1 (g_eqlS rfl rfl rfl (eqt_23)) ?_; refine GK_ist (d := 109) rfl (decide_eq_true (congrArg (·.past) hbh)) ?_; refine G0 oK ?_; refine G0 mV ?_; refine G1 (oFp fd_54_1) ?_
    refine G1 (oLb L_Total_w ty_26) ?_; refine G1 (oLs rfl rfl rfl ty_26) ?_; refine G1 (g_eqlS rfl rfl rfl (eqt_26)) ?_; refine GK_ist (d := 115) rfl (by rw [pushT_eq hE]; exact decide_eq_true (append_sum hgt).1) ?_; refine G0 oK ?_
    refine G0 mV ?_; refine G1 (oFp fd_54_2) ?_; refine G1 (oLb L_Total_n ty_3) ?_; refine G1 (oFp fd_54_2) ?_; refine G1 (oLb L_Total_n ty_3) ?_; refine G1 o_add ?_; refine G1 o_eql ?_
    refine GK_ist (d := 123) rfl (by rw [pushT_eq hE]; exact decide_eq_true (append_sum hgt).2) ?_; refine G0 oK ?_; refine G0 mV ?_; refine G1 mV ?_; refine G1 o_eql ?_; refine G1 (oFp fd_33_0) ?_; refine G1 (oLb L_Block_h ty_29) ?_
    refine G1 (oCl (headMay_ok _) rfl fn_25 ⟨(arg_v rfl), trivial⟩) ?_; refine G1 (g_eqlB rfl rfl rfl ub_4) ?_
    refine GK_ist (d := 131) rfl (by have hh := push_nonce (n := n) hE; simp [IntL.toI]; rw [Bool.eq_iff_iff, decide_eq_true_iff]; exact hh) ?_; refine G0 oK ?_; refine G0 aV ?_; refine GK.nil ?_
    exact aw_ret1 rfl rfl (ret_eq rfl rfl)
end Go.Proofs.YtgoiacajjicjcaaGreat
