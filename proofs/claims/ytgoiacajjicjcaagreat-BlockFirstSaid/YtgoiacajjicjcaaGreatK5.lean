/- Parts of the proof: the layer that reads Go values as data, and what the functions of the program tell. -/
import Derived.Test.YtgoiacajjicjcaaGreatK4
set_option maxRecDepth 20000
namespace Go.Proofs.YtgoiacajjicjcaaGreat
set_option linter.unusedVariables false
set_option linter.unusedSimpArgs false
open Go.Ab Go.RowKit
def leaf0 : Total := leafT id0 [2, 0, 0, 0]
def easyTip : Tip := ⟨⟨easyH, [], []⟩, [leaf0], []⟩
def easyB : Block := ⟨easyN 1, [id0], []⟩
def leaf1 : Total := leafH (easyN 1)
def easyTip2 : Tip := ⟨easyB, mmrAppend [leaf0] leaf1, []⟩
theorem easy_leaf : leafH easyH = leaf0 := by unfold leafH leaf0; rw [easy_id, easy_work]
theorem easy_tip : firstTip 545259519 = easyTip := by unfold firstTip; rw [if_pos easy_ok, easy_first, easy_leaf]; rfl
theorem easy_links : linksT easyTip = [id0] := by
  show linkNext [] (headId easyH) (headLevel easyH) = _
  rw [easy_id]; unfold linkNext; rw [if_neg (show ¬ 32 < ([] : List Ab.Id).length by decide), if_pos (show ([] : List Ab.Id).length = 0 from rfl)]
theorem easy_next (n : UInt64) : nextH easyTip [] n = easyN n := by
  have e1 : linkRoot [id0] = lk0 := (root_one _).trans easy_lk
  have e2 : txRoot [] = s2 := root_nil
  unfold nextH
  rw [easy_links, e1, e2]
  show (⟨_, headId easyH, _, _, _, _, _, _⟩ : Head) = _
  rw [easy_id]; rfl
theorem easy_mine : mineOf (easyN 0) 200 = some (easyN 1) := by
  unfold mineOf
  rw [mineFrom_step (by decide) (by rw [easy_may0]; decide)]
  exact mineFrom_yes (by decide) easy_may1
theorem apply_nil : applyOf [] [] = ([], 0) := by kernel_rfl
theorem easy_mineE : mineBE easyTip [] 0 200 = 0 := by
  unfold mineBE
  rw [easy_next, if_neg (by decide), show (applyOf easyTip.c []).2 = 0 from congrArg (·.2) apply_nil, if_neg (by decide), easy_mine]; rfl
theorem easy_mineB : mineB easyTip [] 0 200 = easyB := by
  unfold mineB
  rw [easy_mineE, if_pos rfl, easy_next, easy_mine, easy_links]; rfl
theorem easy_pushE : pushE easyTip easyB = 0 := by
  unfold pushE
  have e : nextH easyTip easyB.t easyB.h.nonce = easyB.h := easy_next 1
  rw [e, if_neg (by decide), if_neg (by simp), if_neg (by rw [easy_links]; simp [easyB]), if_neg (by simp), if_neg (by rw [show headMay easyB.h = true from easy_may1]; simp)]
  exact congrArg (·.2) apply_nil
theorem easy_pushT : pushT easyTip easyB = easyTip2 := by
  unfold pushT
  rw [easy_pushE, if_pos rfl, show (applyOf easyTip.c easyB.t).1 = [] from congrArg (·.1) apply_nil]; rfl
theorem small_easy : smallTip easyTip := by refine ⟨⟨by decide, by decide, fun t ht => by cases ht⟩, by decide, by decide⟩
theorem small_easyB : smallB easyB := by refine ⟨by decide, by decide, fun t ht => by cases ht⟩
def fewB (b : Block) : Bool := (b.t.all few && decide ((b.t.length : Int) ≤ 6)) && decide (b.l.length ≤ 40)
def fewTip (t : Tip) : Bool := (t.b.t.all few && decide ((t.b.t.length : Int) ≤ 6)) && decide (t.b.l.length ≤ 40 ∧ t.p.length ≤ 70 ∧ t.c.length ≤ 60)
theorem few_small {l : List Tx} (h : (l.all few && decide ((l.length : Int) ≤ 6)) = true) : smallL l := by
  rw [Bool.and_eq_true, decide_eq_true_eq] at h
  refine ⟨by omega, fun t ht => ?_⟩
  have := List.all_eq_true.1 h.1 t ht
  unfold few at this
  rw [decide_eq_true_eq] at this
  exact ⟨by omega, by omega⟩
theorem fewB_small {b : Block} (h : fewB b = true) : smallB b := by
  unfold fewB at h
  rw [Bool.and_eq_true, decide_eq_true_eq] at h
  exact ⟨by omega, few_small h.1⟩
theorem fewTip_small {t : Tip} (h : fewTip t = true) : smallTip t := by
  unfold fewTip at h
  rw [Bool.and_eq_true, decide_eq_true_eq] at h
  exact ⟨⟨by omega, few_small h.1⟩, by omega, by omega⟩
theorem fewTip_ok (t : Tip) : Tells P 11 [.val tipT t] (.val boolT (fewTip t)) := by
 refine fn_of_aw Tryz.func11 rfl rfl rfl (fun ext w hext => ?_)
 refine CQR ?_; refine aw_box rfl rfl rfl rfl rfl ?_; refine A0 aV ?_; refine CNQR ?_; refine A0 (oFp fd_37_0) ?_; refine A0 (oFp fd_33_2) ?_; refine A0 (oLb (L_Tip_b.comp L_Block_t) ty_31) ?_
 refine A0 (oCl (fewAll_ok _ _) rfl fn_28 ⟨(arg_v rfl), (arg_v rfl), trivial⟩) ?_; refine A0 aV ?_; refine CNQR ?_; refine A0 mV ?_
 refine aw_splitp (d := 8) (p := (t.b.t.all few && decide ((t.b.t.length : Int) ≤ 6)) = true) rfl (Bool.decide_eq_true.symm) (fun g8 => ?_) (fun g8 => ?_)
 ·
  refine A0 mV ?_; refine A1 (oFp fd_37_0) ?_; refine A1 (oFp fd_33_1) ?_; refine A1 (oLb (L_Tip_b.comp L_Block_l) ty_30) ?_; refine A1 (g_len rfl rfl isl_30) ?_; refine A1 o_leq ?_
  refine Sp (d := 14) (p := t.b.l.length ≤ 40) (fun g14 => ?_) (fun g14 => ?_)
  ·
   refine A0 oK ?_; refine A0 mV ?_; refine A1 (oFp fd_37_1) ?_; refine A1 (oLb L_Tip_p ty_34) ?_; refine A1 (g_len rfl rfl isl_34) ?_; refine A1 o_leq ?_
   refine Sp (d := 20) (p := t.p.length ≤ 70) (fun g20 => ?_) (fun g20 => ?_)
   ·
    refine A0 oK ?_; refine A0 mV ?_; refine A1 (oFp fd_37_2) ?_; refine A1 (oLb L_Tip_c ty_35) ?_; refine A1 (g_len rfl rfl isl_35) ?_; refine A1 o_leq ?_
    refine Sp (d := 26) (p := t.c.length ≤ 60) (fun g26 => ?_) (fun g26 => ?_)
    ·
     refine A0 oK ?_; refine A0 aV ?_; refine CN ?_
     exact aw_ret1 rfl rfl (ret_eq rfl (by unfold fewTip; symm; first | (rw [g8, Bool.true_and]; first | (apply decide_eq_true; omega) | (apply decide_eq_false; omega)) | (rw [show (t.b.t.all few && decide ((t.b.t.length : Int) ≤ 6)) = false by simpa using g8]; rfl)))
    ·
     refine A0 oK ?_; refine A0 aV ?_; refine CN ?_
     exact aw_ret1 rfl rfl (ret_eq rfl (by unfold fewTip; symm; first | (rw [g8, Bool.true_and]; first | (apply decide_eq_true; omega) | (apply decide_eq_false; omega)) | (rw [show (t.b.t.all few && decide ((t.b.t.length : Int) ≤ 6)) = false by simpa using g8]; rfl)))
   ·
    refine A0 oK ?_; refine A0 mV ?_; refine A2 ?_; refine A2 ?_; refine A2 ?_; refine A2 ?_; refine A0 oK ?_; refine A0 aV ?_; refine CN ?_
    exact aw_ret1 rfl rfl (ret_eq rfl (by unfold fewTip; symm; first | (rw [g8, Bool.true_and]; first | (apply decide_eq_true; omega) | (apply decide_eq_false; omega)) | (rw [show (t.b.t.all few && decide ((t.b.t.length : Int) ≤ 6)) = false by simpa using g8]; rfl)))
  ·
   refine A0 oK ?_; refine A0 mV ?_; refine A2 ?_; refine A2 ?_; refine A2 ?_; refine A2 ?_; refine A0 oK ?_; refine A0 mV ?_; refine A2 ?_; refine A2 ?_; refine A2 ?_; refine A2 ?_; refine A0 oK ?_; refine A0 aV ?_; refine CN ?_
   exact aw_ret1 rfl rfl (ret_eq rfl (by unfold fewTip; symm; first | (rw [g8, Bool.true_and]; first | (apply decide_eq_true; omega) | (apply decide_eq_false; omega)) | (rw [show (t.b.t.all few && decide ((t.b.t.length : Int) ≤ 6)) = false by simpa using g8]; rfl)))
 ·
  refine A0 mV ?_; refine A2 ?_; refine A2 ?_; refine A2 ?_; refine A2 ?_; refine A2 ?_; refine A0 oK ?_; refine A0 mV ?_; refine A2 ?_; refine A2 ?_; refine A2 ?_; refine A2 ?_; refine A0 oK ?_; refine A0 mV ?_; refine A2 ?_; refine A2 ?_
  refine A2 ?_; refine A2 ?_; refine A0 oK ?_; refine A0 aV ?_; refine CN ?_
  exact aw_ret1 rfl rfl (ret_eq rfl (by unfold fewTip; symm; first | (rw [g8, Bool.true_and]; first | (apply decide_eq_true; omega) | (apply decide_eq_false; omega)) | (rw [show (t.b.t.all few && decide ((t.b.t.length : Int) ≤ 6)) = false by simpa using g8]; rfl)))
theorem fewB_ok (b : Block) : Tells P 12 [.val blockT b] (.val boolT (fewB b)) := by
 refine fn_of_aw Tryz.func12 rfl rfl rfl (fun ext w hext => ?_)
 refine CQR ?_; refine aw_box rfl rfl rfl rfl rfl ?_; refine A0 aV ?_; refine CNQR ?_; refine A0 (oFp fd_33_2) ?_; refine A0 (oLb L_Block_t ty_31) ?_; refine A0 (oCl (fewAll_ok _ _) rfl fn_28 ⟨(arg_v rfl), (arg_v rfl), trivial⟩) ?_
 refine A0 aV ?_; refine CNQR ?_; refine A0 mV ?_
 refine aw_splitp (d := 7) (p := (b.t.all few && decide ((b.t.length : Int) ≤ 6)) = true) rfl (Bool.decide_eq_true.symm) (fun g7 => ?_) (fun g7 => ?_)
 ·
  refine A0 mV ?_; refine A1 (oFp fd_33_1) ?_; refine A1 (oLb L_Block_l ty_30) ?_; refine A1 (g_len rfl rfl isl_30) ?_; refine A1 o_leq ?_
  refine Sp (d := 12) (p := b.l.length ≤ 40) (fun g12 => ?_) (fun g12 => ?_)
  ·
   refine A0 oK ?_; refine A0 aV ?_; refine CN ?_
   exact aw_ret1 rfl rfl (ret_eq rfl (by unfold fewB; symm; first | (rw [g7, Bool.true_and]; first | (apply decide_eq_true; omega) | (apply decide_eq_false; omega)) | (rw [show (b.t.all few && decide ((b.t.length : Int) ≤ 6)) = false by simpa using g7]; rfl)))
  ·
   refine A0 oK ?_; refine A0 aV ?_; refine CN ?_
   exact aw_ret1 rfl rfl (ret_eq rfl (by unfold fewB; symm; first | (rw [g7, Bool.true_and]; first | (apply decide_eq_true; omega) | (apply decide_eq_false; omega)) | (rw [show (b.t.all few && decide ((b.t.length : Int) ≤ 6)) = false by simpa using g7]; rfl)))
 ·
  refine A0 mV ?_; refine A2 ?_; refine A2 ?_; refine A2 ?_; refine A2 ?_; refine A0 oK ?_; refine A0 aV ?_; refine CN ?_
  exact aw_ret1 rfl rfl (ret_eq rfl (by unfold fewB; symm; first | (rw [g7, Bool.true_and]; first | (apply decide_eq_true; omega) | (apply decide_eq_false; omega)) | (rw [show (b.t.all few && decide ((b.t.length : Int) ≤ 6)) = false by simpa using g7]; rfl)))
theorem awake11_ok : Tells P 10 [] (.val boolT true) := by
 refine fn_of_aw Tryz.func10 rfl rfl rfl (fun ext w hext => ?_)
 have hw0 : ([id0] : List Ab.Id)[0]? = some id0 := rfl
 refine CQR ?_; refine A0 aV ?_; refine CNQR ?_; refine A0 (oCl (firstTip_ok 545259519) rfl fn_13 ⟨(arg_v rfl), trivial⟩) ?_; refine A0 mX ?_; refine A0 (by first | exact g_x20 rfl rfl | exact g_x30 rfl rfl) ?_
 refine aw_reval (d := 9) (y := easyTip) rfl easy_tip ?_; refine A0 (by first | exact g_x21 rfl rfl | exact g_x31 rfl rfl) ?_; refine aw_reval (d := 10) (y := true) rfl easy_ok ?_; refine aw_alloc ze_37 rfl rfl rfl rfl ?_
 refine aw_store_b rfl rfl rfl rfl rfl (Lens.self _) ty_37 rfl ?_; refine A0 aV ?_; refine CNQR ?_; refine A0 (oLs rfl rfl rfl ty_37) ?_
 refine A0 (oCl (mineB_ok easyTip [] 0 200 small_easy ⟨by decide, fun t ht => by cases ht⟩) rfl fn_15 ⟨(arg_v rfl), (by first | exact arg_same rfl | exact arg_bsl rfl | exact arg_own rfl rfl | exact arg_nil rfl | exact arg_rptr rfl | exact arg_fn rfl rfl | exact arg_lit rfl), (arg_v rfl), (arg_v rfl), trivial⟩) ?_
 refine A0 mX ?_; refine A0 (by first | exact g_x20 rfl rfl | exact g_x30 rfl rfl) ?_; refine aw_reval (d := 14) (y := easyB) rfl easy_mineB ?_; refine A0 (by first | exact g_x21 rfl rfl | exact g_x31 rfl rfl) ?_
 refine aw_reval (d := 15) (y := (0 : Int)) rfl easy_mineE ?_; refine aw_alloc ze_33 rfl rfl rfl rfl ?_; refine aw_store_b rfl rfl rfl rfl rfl (Lens.self _) ty_33 rfl ?_; refine A0 aV ?_; refine CNQR ?_; refine A0 (oLs rfl rfl rfl ty_37) ?_
 refine A0 (oLs rfl rfl rfl ty_33) ?_; refine A0 (oCl (push_ok easyTip easyB small_easy small_easyB) rfl fn_17 ⟨(arg_v rfl), (arg_v rfl), trivial⟩) ?_; refine A0 mX ?_; refine A0 (by first | exact g_x20 rfl rfl | exact g_x30 rfl rfl) ?_
 refine aw_reval (d := 20) (y := easyTip2) rfl easy_pushT ?_; refine A0 (by first | exact g_x21 rfl rfl | exact g_x31 rfl rfl) ?_; refine aw_reval (d := 21) (y := (0 : Int)) rfl easy_pushE ?_; refine aw_alloc ze_37 rfl rfl rfl rfl ?_
 refine aw_store_b rfl rfl rfl rfl rfl (Lens.self _) ty_37 rfl ?_; refine A0 aV ?_; refine CNQ ?_; refine CD mixed ?_; refine G0 mV ?_; refine G0 mV ?_; refine GK_ist (d := 23) rfl (rfl) ?_; refine G1 mV ?_; refine G1 o_eql ?_; refine G0 oK ?_
 refine G0 mV ?_; refine GK_ist (d := 27) rfl (rfl) ?_; refine G1 mV ?_; refine G1 o_eql ?_; refine G0 oK ?_; refine G0 mV ?_; refine GK_ist (d := 31) rfl (rfl) ?_; refine G1 (oFp fd_37_0) ?_; refine G1 (oFp fd_33_0) ?_
 refine G1 (oFp fd_29_0) ?_; refine G1 (oLb ((L_Tip_b.comp L_Block_h).comp L_Head_height) ty_3) ?_; refine G1 o_eql ?_; refine G0 oK ?_; refine G0 mV ?_; refine GK_ist (d := 38) rfl (rfl) ?_; refine G1 (oFp fd_37_0) ?_
 refine G1 (oFp fd_33_1) ?_; refine G1 (oLb (L_Tip_b.comp L_Block_l) ty_30) ?_; refine G1 (g_len rfl rfl isl_30) ?_; refine G1 o_eql ?_; refine G0 oK ?_; refine G0 mV ?_; refine GK_ist (d := 45) rfl (rfl) ?_; refine G1 (oFp fd_37_0) ?_
 refine G1 (oFp fd_33_1) ?_; refine G1 (oLb (L_Tip_b.comp L_Block_l) ty_30) ?_; refine G1 (g_ia_i (i := 0) rfl rfl rfl (by omega) sl_30 (by assumption)) ?_; refine G1 (g_load_r rfl rfl ty_23) ?_; refine G1 (oFp fd_37_0) ?_
 refine G1 (oFp fd_33_0) ?_; refine G1 (oLb (L_Tip_b.comp L_Block_h) ty_29) ?_; refine G1 (oCl (headId_ok easyH) rfl fn_26 ⟨(arg_v rfl), trivial⟩) ?_; refine G1 (g_eqlS rfl rfl rfl (eqt_23)) ?_; refine G0 oK ?_; refine G0 mV ?_
 refine GK_ist (d := 57) rfl (by rw [easy_id]; simp) ?_; refine G1 (oFp fd_37_0) ?_; refine G1 (oFp fd_33_0) ?_; refine G1 (oFp fd_29_5) ?_; refine G1 (oLb ((L_Tip_b.comp L_Block_h).comp L_Head_work) ty_26) ?_
 refine G1 (oCl (ofW_ok 2) rfl fn_32 ⟨(arg_v rfl), trivial⟩) ?_; refine G1 (g_eqlS rfl rfl rfl (eqt_26)) ?_; refine G0 oK ?_; refine G0 mV ?_; refine GK_ist (d := 65) rfl (rfl) ?_; refine G1 (oFp fd_37_0) ?_; refine G1 (oFp fd_33_0) ?_
 refine G1 (oLb (L_Tip_b.comp L_Block_h) ty_29) ?_; refine G1 (oCl (headId_ok easyH) rfl fn_26 ⟨(arg_v rfl), trivial⟩) ?_; refine G1 (g_buildZ rfl ar_23 ze_23 rfl) ?_; refine G1 (g_neqS rfl rfl rfl (eqt_23)) ?_; refine G0 oK ?_
 refine G0 mV ?_; refine GK_ist (d := 73) rfl (by rw [easy_id]; kernel_rfl) ?_; refine G1 (oLs rfl rfl rfl ty_33) ?_; refine G1 (oFp fd_37_0) ?_; refine G1 (oLb L_Tip_b ty_33) ?_
 refine G1 (oCl (sameB_ok easyB easyB) rfl fn_21 ⟨(arg_v rfl), (arg_v rfl), trivial⟩) ?_; refine GK_ist (d := 77) rfl (by simp) ?_; refine G0 oK ?_; refine G0 aV ?_; refine GK.nil ?_
 exact aw_ret1 rfl rfl (ret_eq rfl rfl)
end Go.Proofs.YtgoiacajjicjcaaGreat
set_option maxRecDepth 20000
namespace Go.Proofs.YtgoiacajjicjcaaGreat
set_option linter.unusedVariables false
set_option linter.unusedSimpArgs false
open Go.Ab Go.RowKit
theorem eq_u32 {x y : UInt32} : decide (IntL.toI u32T x = IntL.toI u32T y) = decide (x = y) := by rw [decide_eq_decide]; show ((x.toNat : Nat) : Int) = ((y.toNat : Nat) : Int) ↔ _; rw [Int.ofNat_inj, UInt32.toNat_inj]
theorem pushR_len : ∀ (r : List Total) (x : Total), (pushR r x).length ≤ r.length + 1
  | [], _ => Nat.le_refl _
  | y :: r, x => by
    rw [pushR]
    split
    · have := pushR_len r (joinT y x); rw [List.length_cons]; omega
    · rw [List.length_cons]; omega
theorem mmrAppend_len {p : List Total} {x : Total} : (mmrAppend p x).length ≤ p.length + 1 := by
  unfold mmrAppend
  have := pushR_len p.reverse x
  rw [List.length_reverse] at this ⊢; exact this
theorem apply_may {p : List Coin} {l : List Tx} (h : (applyOf p l).2 = 0) : mayCoins p = true := by
  refine Classical.byContradiction fun hn => ?_
  unfold applyOf at h
  rw [if_pos hn] at h
  exact absurd h (show ¬ (1 : Int) = 0 by decide)
theorem headMay_height {h : Head} (hm : headMay h = true) : 0 ≤ h.height ∧ h.height ≤ 1048576 ∧ tgtOk h.bits = true := by
  unfold headMay headLevel at hm
  by_cases c : tgtOk h.bits = true ∧ hOk h = true
  · refine ⟨?_, ?_, c.1⟩ <;> (have := c.2; unfold hOk at this; rw [decide_eq_true_eq] at this; omega)
  · rw [if_neg c] at hm; exact absurd hm (by decide)
theorem push_iff {t : Tip} {b : Block} : pushE t b = 0 ↔ b.h.height < 48 ∧ b.h = nextH t b.t b.h.nonce ∧ b.l = linksT t ∧ headMay b.h = true ∧ (applyOf t.c b.t).2 = 0 := by
  constructor
  · intro h
    unfold pushE at h
    by_cases h1 : 48 ≤ b.h.height
    · rw [if_pos h1] at h; exact absurd h (by decide)
    rw [if_neg h1] at h
    by_cases h2 : ¬ behindH b.h = behindH (nextH t b.t b.h.nonce)
    · rw [if_pos h2] at h; exact absurd h (by decide)
    rw [if_neg h2] at h
    by_cases h3 : ¬ b.h.links = (nextH t b.t b.h.nonce).links ∨ ¬ b.l = linksT t
    · rw [if_pos h3] at h; exact absurd h (by decide)
    rw [if_neg h3] at h
    by_cases h4 : ¬ b.h = nextH t b.t b.h.nonce
    · rw [if_pos h4] at h; exact absurd h (by decide)
    rw [if_neg h4] at h
    by_cases h5 : ¬ headMay b.h = true
    · rw [if_pos h5] at h; exact absurd h (by decide)
    rw [if_neg h5] at h
    exact ⟨by omega, Classical.not_not.1 h4, Classical.not_not.1 fun hc => h3 (.inr hc), Classical.not_not.1 h5, h⟩
  · rintro ⟨h1, h2, h3, h4, h5⟩
    unfold pushE
    rw [if_neg (by omega), if_neg (Classical.not_not.2 (congrArg behindH h2)), if_neg (fun h => h.elim (fun h => h (congrArg (·.links) h2)) fun h => h h3), if_neg (Classical.not_not.2 h2), if_neg (Classical.not_not.2 h4)]
    exact h5
theorem push_small {t : Tip} {b : Block} (ht : fewTip t = true) (hb : smallB b) : smallTip (pushT t b) := by
  have hs := fewTip_small ht
  unfold pushT
  split
  · rename_i h
    obtain ⟨_, _, _, _, h5⟩ := push_iff.1 h
    refine ⟨hb, ?_, ?_⟩
    · have := mmrAppend_len (p := t.p) (x := leafH b.h)
      unfold fewTip at ht
      rw [Bool.and_eq_true, decide_eq_true_eq] at ht
      show (mmrAppend t.p (leafH b.h)).length ≤ 1000
      omega
    · have := mayCoins_len (applyOf_tot (l := b.t) (apply_may h5)).1
      show (applyOf t.c b.t).1.length ≤ 1000
      omega
  · exact hs
theorem push_twice {t : Tip} {b : Block} (h : pushE t b = 0) : ¬ pushE (pushT t b) b = 0 := fun h2 => by
  obtain ⟨h1, _, _, hm, _⟩ := push_iff.1 h
  obtain ⟨_, e, _⟩ := push_iff.1 h2
  have e1 : b.h.height = IntKind.i64.wrap ((pushT t b).b.h.height + 1) := congrArg (·.height) e
  have e2 : (pushT t b).b.h = b.h := by unfold pushT; rw [if_pos h]
  have := headMay_height hm
  rw [e2, wrap_eq (by omega)] at e1
  omega
theorem push_bits {t : Tip} {b : Block} {bits : UInt32} (h : pushE t b = 0) (hb : ¬ bits = b.h.bits) : pushE t { b with h := { b.h with bits := bits } } = 5 := by
  obtain ⟨h1, h2, _⟩ := push_iff.1 h
  have e : b.h.bits = t.b.h.bits := congrArg (·.bits) h2
  unfold pushE
  rw [if_neg (by show ¬ 48 ≤ b.h.height; omega), if_pos (fun hc => hb ?_)]
  have : bits = t.b.h.bits := congrArg (·.bits) hc
  rw [this, e]
theorem push_other {t : Tip} {b : Block} {g : Head} (h : pushE t b = 0) (hn : g.nonce = b.h.nonce) (hg : ¬ g = b.h) : ¬ pushE t { b with h := g } = 0 := fun h2 => by
  obtain ⟨_, e, _⟩ := push_iff.1 h
  obtain ⟨_, e2, _⟩ := push_iff.1 h2
  have e2 : g = nextH t b.t g.nonce := e2
  rw [hn, ← e] at e2
  exact hg e2
theorem first_may {a : UInt32} (h : tgtOk a = true) : headMay (firstH a) = true := by
  unfold headMay headLevel
  rw [if_pos ⟨h, by rfl⟩, if_pos (by rfl)]; rfl
theorem first_eq {a b : UInt32} : (firstH a = firstH b) ↔ a = b := ⟨fun h => congrArg (·.bits) h, fun h => by rw [h]⟩
theorem firstTip_is {a : UInt32} (h : tgtOk a = true) : firstTip a = ⟨⟨firstH a, [], []⟩, [leafH (firstH a)], []⟩ := by unfold firstTip; rw [if_pos h]; rfl
theorem BlockTwice_ok (t : Tip) (b : Block) (bits : UInt32) : Tells P 7 [.val tipT t, .val blockT b, .val u32T bits] (.val boolT true) := by
 refine fn_of_aw Tryz.func7 rfl rfl rfl (fun ext w hext => ?_)
 refine CQR ?_; refine aw_box rfl rfl rfl rfl rfl ?_; refine aw_box rfl rfl rfl rfl rfl ?_; refine A0 aV ?_; refine CNQR ?_; refine A0 (oCl (awake11_ok) rfl fn_10 trivial) ?_; refine A0 aV ?_; refine CNQR ?_
 refine A0 (oLs rfl rfl rfl ty_37) ?_; refine A0 (oCl (fewTip_ok _) rfl fn_11 ⟨(arg_v rfl), trivial⟩) ?_; refine A0 aV ?_; refine CNQR ?_; refine A0 (oLs rfl rfl rfl ty_33) ?_; refine A0 (oCl (fewB_ok _) rfl fn_12 ⟨(arg_v rfl), trivial⟩) ?_
 refine A0 aV ?_; refine CNQQR ?_; refine A0 mV ?_; refine A0 oN ?_; refine aw_isf (d := 23) rfl (rfl) ?_; refine A0 mV ?_; refine A1 mV ?_; refine A1 oN ?_
 refine aw_splitp (d := 26) (p := ¬ fewTip t = true) rfl (by cases fewTip t <;> rfl) (fun g26 => ?_) (fun g26 => ?_)
 ·
  refine A0 oK ?_; refine A0 mV ?_; refine A2 ?_; refine A2 ?_; refine A0 oK ?_; refine CN ?_; refine Ct ?_; refine CQR ?_; refine A0 mV ?_; refine A0 aV ?_; refine CN ?_
  exact aw_ret1 rfl rfl (ret_eq rfl rfl)
 ·
  have hst := fewTip_small (Classical.not_not.1 g26)
  refine A0 oK ?_; refine A0 mV ?_; refine A1 mV ?_; refine A1 oN ?_
  refine aw_splitp (d := 30) (p := ¬ fewB b = true) rfl (by cases fewB b <;> rfl) (fun g30 => ?_) (fun g30 => ?_)
  ·
   refine A0 oK ?_; refine CN ?_; refine Ct ?_; refine CQR ?_; refine A0 mV ?_; refine A0 aV ?_; refine CN ?_
   exact aw_ret1 rfl rfl (ret_eq rfl rfl)
  ·
   have hsb := fewB_small (Classical.not_not.1 g30)
   have hpu := push_small (Classical.not_not.1 g26) hsb
   refine A0 oK ?_; refine CN ?_; refine Cg ?_; refine CSQR ?_; refine A0 (oLs rfl rfl rfl ty_37) ?_; refine A0 (oLs rfl rfl rfl ty_33) ?_; refine A0 (oCl (push_ok t b hst hsb) rfl fn_17 ⟨(arg_v rfl), (arg_v rfl), trivial⟩) ?_; refine A0 mX ?_
   refine A0 (by first | exact g_x20 rfl rfl | exact g_x30 rfl rfl) ?_; refine A0 (by first | exact g_x21 rfl rfl | exact g_x31 rfl rfl) ?_; refine aw_alloc ze_37 rfl rfl rfl rfl ?_
   refine aw_store_b rfl rfl rfl rfl rfl (Lens.self _) ty_37 rfl ?_; refine A0 aV ?_; refine CNQQR ?_; refine A0 mV ?_; refine A0 o_neq ?_; refine CN ?_
   refine aw_ifc (p := ¬ pushE t b = 0) rfl (by simp [IntL.toI]) (fun ht40 => ?_) (fun ht40 => ?_)
   ·
    refine CQR ?_; refine A0 aV ?_; refine CN ?_
    exact aw_ret1 rfl rfl (ret_eq rfl rfl)
   ·
    refine CSQR ?_; refine A0 (oLs rfl rfl rfl ty_37) ?_; refine A0 (oLs rfl rfl rfl ty_33) ?_; refine A0 (oCl (push_ok (pushT t b) b hpu hsb) rfl fn_17 ⟨(arg_v rfl), (arg_v rfl), trivial⟩) ?_; refine A0 mX ?_
    refine A0 (by first | exact g_x20 rfl rfl | exact g_x30 rfl rfl) ?_; refine A0 (by first | exact g_x21 rfl rfl | exact g_x31 rfl rfl) ?_; refine aw_alloc ze_37 rfl rfl rfl rfl ?_
    refine aw_store_b rfl rfl rfl rfl rfl (Lens.self _) ty_37 rfl ?_; refine A0 aV ?_; refine CNQR ?_; refine A0 (oLs rfl rfl rfl ty_33) ?_; refine aw_alloc ze_33 rfl rfl rfl rfl ?_
    refine aw_store_b rfl rfl rfl rfl rfl (Lens.self _) ty_33 rfl ?_; refine CNQR ?_; refine A0 mV ?_; refine A0 (oFp fd_33_0) ?_; refine A0 (oFp fd_29_6) ?_; refine aw_store_b rfl rfl rfl rfl rfl (L_Block_h.comp L_Head_bits) ty_27 rfl ?_
    refine CNQR ?_; refine A0 (oLs rfl rfl rfl ty_37) ?_; refine A0 (oLs rfl rfl rfl ty_33) ?_; refine A0 (oCl (push_ok t { b with h := { b.h with bits := bits } } hst hsb) rfl fn_17 ⟨(arg_v rfl), (arg_v rfl), trivial⟩) ?_; refine A0 mX ?_
    refine A0 (by first | exact g_x20 rfl rfl | exact g_x30 rfl rfl) ?_; refine A0 (by first | exact g_x21 rfl rfl | exact g_x31 rfl rfl) ?_; refine aw_alloc ze_37 rfl rfl rfl rfl ?_
    refine aw_store_b rfl rfl rfl rfl rfl (Lens.self _) ty_37 rfl ?_; refine A0 aV ?_; refine CNQR ?_; refine A0 mV ?_; refine A0 o_neq ?_; refine aw_ist (d := 58) rfl (by simpa [IntL.toI] using push_twice (Classical.not_not.1 ht40)) ?_
    refine A0 mV ?_; refine A1 mV ?_; refine A1 (oFp fd_33_0) ?_; refine A1 (oFp fd_29_6) ?_; refine A1 (oLb (L_Block_h.comp L_Head_bits) ty_27) ?_; refine A1 o_eql ?_
    refine aw_splitp (d := 64) (p := bits = b.h.bits) rfl (eq_u32) (fun g64 => ?_) (fun g64 => ?_)
    ·
     refine A1 mV ?_; refine A2 ?_; refine A2 ?_; refine A1 oK ?_; refine A0 oK ?_; refine A0 aV ?_; refine CN ?_
     exact aw_ret1 rfl rfl (ret_eq rfl rfl)
    ·
     refine A1 mV ?_; refine A1 mV ?_; refine A1 o_eql ?_; refine aw_ist (d := 67) rfl (decide_eq_true (push_bits (Classical.not_not.1 ht40) g64)) ?_; refine A1 oK ?_; refine A0 oK ?_; refine A0 aV ?_; refine CN ?_
     exact aw_ret1 rfl rfl (ret_eq rfl rfl)
theorem BlockOther_ok (t : Tip) (b : Block) (h : Head) (part : Int) : Tells P 4 [.val tipT t, .val blockT b, .val headT h, .val i64T part] (.val boolT true) := by
 refine fn_of_aw Tryz.func4 rfl rfl rfl (fun ext w hext => ?_)
 refine aw_fact (d := 3) rfl fact_int (fun hin3 => ?_)
 refine CQR ?_; refine aw_box rfl rfl rfl rfl rfl ?_; refine aw_box rfl rfl rfl rfl rfl ?_; refine aw_box rfl rfl rfl rfl rfl ?_; refine A0 aV ?_; refine CNQR ?_; refine A0 (oCl (awake11_ok) rfl fn_10 trivial) ?_; refine A0 aV ?_
 refine CNQR ?_; refine A0 (oLs rfl rfl rfl ty_37) ?_; refine A0 (oCl (fewTip_ok _) rfl fn_11 ⟨(arg_v rfl), trivial⟩) ?_; refine A0 aV ?_; refine CNQR ?_; refine A0 (oLs rfl rfl rfl ty_33) ?_
 refine A0 (oCl (fewB_ok _) rfl fn_12 ⟨(arg_v rfl), trivial⟩) ?_; refine A0 aV ?_; refine CNQQR ?_; refine A0 mV ?_; refine A0 oN ?_; refine aw_isf (d := 23) rfl (rfl) ?_; refine A0 mV ?_; refine A1 mV ?_; refine A1 oN ?_
 refine aw_splitp (d := 26) (p := ¬ fewTip t = true) rfl (by cases fewTip t <;> rfl) (fun g26 => ?_) (fun g26 => ?_)
 ·
  refine A0 oK ?_; refine A0 mV ?_; refine A2 ?_; refine A2 ?_; refine A0 oK ?_; refine CN ?_; refine Ct ?_; refine CQR ?_; refine A0 mV ?_; refine A0 aV ?_; refine CN ?_
  exact aw_ret1 rfl rfl (ret_eq rfl rfl)
 ·
  have hst := fewTip_small (Classical.not_not.1 g26)
  refine A0 oK ?_; refine A0 mV ?_; refine A1 mV ?_; refine A1 oN ?_
  refine aw_splitp (d := 30) (p := ¬ fewB b = true) rfl (by cases fewB b <;> rfl) (fun g30 => ?_) (fun g30 => ?_)
  ·
   refine A0 oK ?_; refine CN ?_; refine Ct ?_; refine CQR ?_; refine A0 mV ?_; refine A0 aV ?_; refine CN ?_
   exact aw_ret1 rfl rfl (ret_eq rfl rfl)
  ·
   have hsb := fewB_small (Classical.not_not.1 g30)
   refine A0 oK ?_; refine CN ?_; refine Cg ?_; refine CSQR ?_; refine A0 (oLs rfl rfl rfl ty_37) ?_; refine A0 (oLs rfl rfl rfl ty_33) ?_; refine A0 (oCl (push_ok t b hst hsb) rfl fn_17 ⟨(arg_v rfl), (arg_v rfl), trivial⟩) ?_; refine A0 mX ?_
   refine A0 (by first | exact g_x20 rfl rfl | exact g_x30 rfl rfl) ?_; refine A0 (by first | exact g_x21 rfl rfl | exact g_x31 rfl rfl) ?_; refine aw_alloc ze_37 rfl rfl rfl rfl ?_
   refine aw_store_b rfl rfl rfl rfl rfl (Lens.self _) ty_37 rfl ?_; refine A0 aV ?_; refine CNQR ?_; refine A0 (oLs rfl rfl rfl ty_33) ?_; refine aw_alloc ze_33 rfl rfl rfl rfl ?_
   refine aw_store_b rfl rfl rfl rfl rfl (Lens.self _) ty_33 rfl ?_; refine CNQQR ?_; refine A0 mV ?_; refine CNB ?_; refine CQR ?_; refine A0 o_eql ?_; refine A0 aV ?_; refine CN ?_
   refine aw_if rfl (fun ht45 => ?_) (fun ht45 => ?_)
   ·
    refine CR ?_; refine A0 (oFp fd_29_0) ?_; refine A0 (oLb L_Head_height ty_3) ?_; refine A0 (oFp fd_33_0) ?_; refine A0 (oFp fd_29_0) ?_; refine aw_store_b rfl rfl rfl rfl rfl (L_Block_h.comp L_Head_height) ty_3 rfl ?_; refine CNIQR ?_
    refine A0 (oLs rfl rfl rfl ty_37) ?_; refine A0 (oLs rfl rfl rfl ty_33) ?_; refine A0 (oCl (push_ok t _ hst (by exact hsb)) rfl fn_17 ⟨(arg_v rfl), (arg_v rfl), trivial⟩) ?_; refine A0 mX ?_
    refine A0 (by first | exact g_x20 rfl rfl | exact g_x30 rfl rfl) ?_; refine A0 (by first | exact g_x21 rfl rfl | exact g_x31 rfl rfl) ?_; refine aw_alloc ze_37 rfl rfl rfl rfl ?_
    refine aw_store_b rfl rfl rfl rfl rfl (Lens.self _) ty_37 rfl ?_; refine A0 aV ?_; refine CNQR ?_; refine A0 mV ?_; refine A0 o_neq ?_
    refine aw_splitp (d := 88) (p := ¬ pushE t b = 0) rfl (by simp [IntL.toI]) (fun g88 => ?_) (fun g88 => ?_)
    ·
     refine A0 mV ?_; refine A2 ?_; refine A2 ?_; refine A2 ?_; refine A2 ?_; refine A2 ?_; refine A0 oK ?_; refine A0 mV ?_; refine A2 ?_; refine A2 ?_; refine A0 oK ?_; refine A0 aV ?_; refine CN ?_
     exact aw_ret1 rfl rfl (ret_eq rfl rfl)
    ·
     refine A0 mV ?_; refine A1 (oFp fd_33_0) ?_; refine A1 (oLb L_Block_h ty_29) ?_; refine A1 (oFp fd_33_0) ?_; refine A1 (oLb L_Block_h ty_29) ?_; refine A1 (g_eqlS rfl rfl rfl (eqt_29)) ?_; refine A0 oK ?_; refine A0 mV ?_
     refine aw_split (d := 96) rfl (fun g96 => ?_) (fun g96 => ?_)
     ·
      refine A2 ?_; refine A2 ?_; refine A0 oK ?_; refine A0 aV ?_; refine CN ?_
      exact aw_ret1 rfl rfl (ret_eq rfl rfl)
     ·
      refine A1 mV ?_; refine A1 o_neq ?_; refine aw_ist (d := 98) rfl (by simpa [IntL.toI] using push_other (Classical.not_not.1 g88) (by rfl) (of_decide_eq_false g96)) ?_; refine A0 oK ?_; refine A0 aV ?_; refine CN ?_
      exact aw_ret1 rfl rfl (ret_eq rfl rfl)
   ·
    refine CQR ?_; refine A0 o_eql ?_; refine A0 aV ?_; refine CN ?_
    refine aw_if rfl (fun ht51 => ?_) (fun ht51 => ?_)
    ·
     refine CR ?_; refine A0 (oFp fd_29_1) ?_; refine A0 (oLb L_Head_prev ty_23) ?_; refine A0 (oFp fd_33_0) ?_; refine A0 (oFp fd_29_1) ?_; refine aw_store_b rfl rfl rfl rfl rfl (L_Block_h.comp L_Head_prev) ty_23 rfl ?_; refine CNIQR ?_
     refine A0 (oLs rfl rfl rfl ty_37) ?_; refine A0 (oLs rfl rfl rfl ty_33) ?_; refine A0 (oCl (push_ok t _ hst (by exact hsb)) rfl fn_17 ⟨(arg_v rfl), (arg_v rfl), trivial⟩) ?_; refine A0 mX ?_
     refine A0 (by first | exact g_x20 rfl rfl | exact g_x30 rfl rfl) ?_; refine A0 (by first | exact g_x21 rfl rfl | exact g_x31 rfl rfl) ?_; refine aw_alloc ze_37 rfl rfl rfl rfl ?_
     refine aw_store_b rfl rfl rfl rfl rfl (Lens.self _) ty_37 rfl ?_; refine A0 aV ?_; refine CNQR ?_; refine A0 mV ?_; refine A0 o_neq ?_
     refine aw_splitp (d := 88) (p := ¬ pushE t b = 0) rfl (by simp [IntL.toI]) (fun g88 => ?_) (fun g88 => ?_)
     ·
      refine A0 mV ?_; refine A2 ?_; refine A2 ?_; refine A2 ?_; refine A2 ?_; refine A2 ?_; refine A0 oK ?_; refine A0 mV ?_; refine A2 ?_; refine A2 ?_; refine A0 oK ?_; refine A0 aV ?_; refine CN ?_
      exact aw_ret1 rfl rfl (ret_eq rfl rfl)
     ·
      refine A0 mV ?_; refine A1 (oFp fd_33_0) ?_; refine A1 (oLb L_Block_h ty_29) ?_; refine A1 (oFp fd_33_0) ?_; refine A1 (oLb L_Block_h ty_29) ?_; refine A1 (g_eqlS rfl rfl rfl (eqt_29)) ?_; refine A0 oK ?_; refine A0 mV ?_
      refine aw_split (d := 96) rfl (fun g96 => ?_) (fun g96 => ?_)
      ·
       refine A2 ?_; refine A2 ?_; refine A0 oK ?_; refine A0 aV ?_; refine CN ?_
       exact aw_ret1 rfl rfl (ret_eq rfl rfl)
      ·
       refine A1 mV ?_; refine A1 o_neq ?_; refine aw_ist (d := 98) rfl (by simpa [IntL.toI] using push_other (Classical.not_not.1 g88) (by rfl) (of_decide_eq_false g96)) ?_; refine A0 oK ?_; refine A0 aV ?_; refine CN ?_
       exact aw_ret1 rfl rfl (ret_eq rfl rfl)
    ·
     refine CQR ?_; refine A0 o_eql ?_; refine A0 aV ?_; refine CN ?_
     refine aw_if rfl (fun ht57 => ?_) (fun ht57 => ?_)
     ·
      refine CR ?_; refine A0 (oFp fd_29_2) ?_; refine A0 (oLb L_Head_links ty_23) ?_; refine A0 (oFp fd_33_0) ?_; refine A0 (oFp fd_29_2) ?_; refine aw_store_b rfl rfl rfl rfl rfl (L_Block_h.comp L_Head_links) ty_23 rfl ?_; refine CNIQR ?_
      refine A0 (oLs rfl rfl rfl ty_37) ?_; refine A0 (oLs rfl rfl rfl ty_33) ?_; refine A0 (oCl (push_ok t _ hst (by exact hsb)) rfl fn_17 ⟨(arg_v rfl), (arg_v rfl), trivial⟩) ?_; refine A0 mX ?_
      refine A0 (by first | exact g_x20 rfl rfl | exact g_x30 rfl rfl) ?_; refine A0 (by first | exact g_x21 rfl rfl | exact g_x31 rfl rfl) ?_; refine aw_alloc ze_37 rfl rfl rfl rfl ?_
      refine aw_store_b rfl rfl rfl rfl rfl (Lens.self _) ty_37 rfl ?_; refine A0 aV ?_; refine CNQR ?_; refine A0 mV ?_; refine A0 o_neq ?_
      refine aw_splitp (d := 88) (p := ¬ pushE t b = 0) rfl (by simp [IntL.toI]) (fun g88 => ?_) (fun g88 => ?_)
      ·
       refine A0 mV ?_; refine A2 ?_; refine A2 ?_; refine A2 ?_; refine A2 ?_; refine A2 ?_; refine A0 oK ?_; refine A0 mV ?_; refine A2 ?_; refine A2 ?_; refine A0 oK ?_; refine A0 aV ?_; refine CN ?_
       exact aw_ret1 rfl rfl (ret_eq rfl rfl)
      ·
       refine A0 mV ?_; refine A1 (oFp fd_33_0) ?_; refine A1 (oLb L_Block_h ty_29) ?_; refine A1 (oFp fd_33_0) ?_; refine A1 (oLb L_Block_h ty_29) ?_; refine A1 (g_eqlS rfl rfl rfl (eqt_29)) ?_; refine A0 oK ?_; refine A0 mV ?_
       refine aw_split (d := 96) rfl (fun g96 => ?_) (fun g96 => ?_)
       ·
        refine A2 ?_; refine A2 ?_; refine A0 oK ?_; refine A0 aV ?_; refine CN ?_
        exact aw_ret1 rfl rfl (ret_eq rfl rfl)
       ·
        refine A1 mV ?_; refine A1 o_neq ?_; refine aw_ist (d := 98) rfl (by simpa [IntL.toI] using push_other (Classical.not_not.1 g88) (by rfl) (of_decide_eq_false g96)) ?_; refine A0 oK ?_; refine A0 aV ?_; refine CN ?_
        exact aw_ret1 rfl rfl (ret_eq rfl rfl)
     ·
      refine CQR ?_; refine A0 o_eql ?_; refine A0 aV ?_; refine CN ?_
      refine aw_if rfl (fun ht63 => ?_) (fun ht63 => ?_)
      ·
       refine CR ?_; refine A0 (oFp fd_29_3) ?_; refine A0 (oLb L_Head_txs ty_23) ?_; refine A0 (oFp fd_33_0) ?_; refine A0 (oFp fd_29_3) ?_; refine aw_store_b rfl rfl rfl rfl rfl (L_Block_h.comp L_Head_txs) ty_23 rfl ?_; refine CNIQR ?_
       refine A0 (oLs rfl rfl rfl ty_37) ?_; refine A0 (oLs rfl rfl rfl ty_33) ?_; refine A0 (oCl (push_ok t _ hst (by exact hsb)) rfl fn_17 ⟨(arg_v rfl), (arg_v rfl), trivial⟩) ?_; refine A0 mX ?_
       refine A0 (by first | exact g_x20 rfl rfl | exact g_x30 rfl rfl) ?_; refine A0 (by first | exact g_x21 rfl rfl | exact g_x31 rfl rfl) ?_; refine aw_alloc ze_37 rfl rfl rfl rfl ?_
       refine aw_store_b rfl rfl rfl rfl rfl (Lens.self _) ty_37 rfl ?_; refine A0 aV ?_; refine CNQR ?_; refine A0 mV ?_; refine A0 o_neq ?_
       refine aw_splitp (d := 88) (p := ¬ pushE t b = 0) rfl (by simp [IntL.toI]) (fun g88 => ?_) (fun g88 => ?_)
       ·
        refine A0 mV ?_; refine A2 ?_; refine A2 ?_; refine A2 ?_; refine A2 ?_; refine A2 ?_; refine A0 oK ?_; refine A0 mV ?_; refine A2 ?_; refine A2 ?_; refine A0 oK ?_; refine A0 aV ?_; refine CN ?_
        exact aw_ret1 rfl rfl (ret_eq rfl rfl)
       ·
        refine A0 mV ?_; refine A1 (oFp fd_33_0) ?_; refine A1 (oLb L_Block_h ty_29) ?_; refine A1 (oFp fd_33_0) ?_; refine A1 (oLb L_Block_h ty_29) ?_; refine A1 (g_eqlS rfl rfl rfl (eqt_29)) ?_; refine A0 oK ?_; refine A0 mV ?_
        refine aw_split (d := 96) rfl (fun g96 => ?_) (fun g96 => ?_)
        ·
         refine A2 ?_; refine A2 ?_; refine A0 oK ?_; refine A0 aV ?_; refine CN ?_
         exact aw_ret1 rfl rfl (ret_eq rfl rfl)
        ·
         refine A1 mV ?_; refine A1 o_neq ?_; refine aw_ist (d := 98) rfl (by simpa [IntL.toI] using push_other (Classical.not_not.1 g88) (by rfl) (of_decide_eq_false g96)) ?_; refine A0 oK ?_; refine A0 aV ?_; refine CN ?_
         exact aw_ret1 rfl rfl (ret_eq rfl rfl)
      ·
       refine CQR ?_; refine A0 o_eql ?_; refine A0 aV ?_; refine CN ?_
       refine aw_if rfl (fun ht69 => ?_) (fun ht69 => ?_)
       ·
        refine CR ?_; refine A0 (oFp fd_29_4) ?_; refine A0 (oLb L_Head_past ty_23) ?_; refine A0 (oFp fd_33_0) ?_; refine A0 (oFp fd_29_4) ?_; refine aw_store_b rfl rfl rfl rfl rfl (L_Block_h.comp L_Head_past) ty_23 rfl ?_; refine CNIQR ?_
        refine A0 (oLs rfl rfl rfl ty_37) ?_; refine A0 (oLs rfl rfl rfl ty_33) ?_; refine A0 (oCl (push_ok t _ hst (by exact hsb)) rfl fn_17 ⟨(arg_v rfl), (arg_v rfl), trivial⟩) ?_; refine A0 mX ?_
        refine A0 (by first | exact g_x20 rfl rfl | exact g_x30 rfl rfl) ?_; refine A0 (by first | exact g_x21 rfl rfl | exact g_x31 rfl rfl) ?_; refine aw_alloc ze_37 rfl rfl rfl rfl ?_
        refine aw_store_b rfl rfl rfl rfl rfl (Lens.self _) ty_37 rfl ?_; refine A0 aV ?_; refine CNQR ?_; refine A0 mV ?_; refine A0 o_neq ?_
        refine aw_splitp (d := 88) (p := ¬ pushE t b = 0) rfl (by simp [IntL.toI]) (fun g88 => ?_) (fun g88 => ?_)
        ·
         refine A0 mV ?_; refine A2 ?_; refine A2 ?_; refine A2 ?_; refine A2 ?_; refine A2 ?_; refine A0 oK ?_; refine A0 mV ?_; refine A2 ?_; refine A2 ?_; refine A0 oK ?_; refine A0 aV ?_; refine CN ?_
         exact aw_ret1 rfl rfl (ret_eq rfl rfl)
        ·
         refine A0 mV ?_; refine A1 (oFp fd_33_0) ?_; refine A1 (oLb L_Block_h ty_29) ?_; refine A1 (oFp fd_33_0) ?_; refine A1 (oLb L_Block_h ty_29) ?_; refine A1 (g_eqlS rfl rfl rfl (eqt_29)) ?_; refine A0 oK ?_; refine A0 mV ?_
         refine aw_split (d := 96) rfl (fun g96 => ?_) (fun g96 => ?_)
         ·
          refine A2 ?_; refine A2 ?_; refine A0 oK ?_; refine A0 aV ?_; refine CN ?_
          exact aw_ret1 rfl rfl (ret_eq rfl rfl)
         ·
          refine A1 mV ?_; refine A1 o_neq ?_; refine aw_ist (d := 98) rfl (by simpa [IntL.toI] using push_other (Classical.not_not.1 g88) (by rfl) (of_decide_eq_false g96)) ?_; refine A0 oK ?_; refine A0 aV ?_; refine CN ?_
          exact aw_ret1 rfl rfl (ret_eq rfl rfl)
       ·
        refine CQR ?_; refine A0 o_eql ?_; refine A0 aV ?_; refine CN ?_
        refine aw_if rfl (fun ht75 => ?_) (fun ht75 => ?_)
        ·
         refine CR ?_; refine A0 (oFp fd_29_5) ?_; refine A0 (oLb L_Head_work ty_26) ?_; refine A0 (oFp fd_33_0) ?_; refine A0 (oFp fd_29_5) ?_; refine aw_store_b rfl rfl rfl rfl rfl (L_Block_h.comp L_Head_work) ty_26 rfl ?_; refine CNIQR ?_
         refine A0 (oLs rfl rfl rfl ty_37) ?_; refine A0 (oLs rfl rfl rfl ty_33) ?_; refine A0 (oCl (push_ok t _ hst (by exact hsb)) rfl fn_17 ⟨(arg_v rfl), (arg_v rfl), trivial⟩) ?_; refine A0 mX ?_
         refine A0 (by first | exact g_x20 rfl rfl | exact g_x30 rfl rfl) ?_; refine A0 (by first | exact g_x21 rfl rfl | exact g_x31 rfl rfl) ?_; refine aw_alloc ze_37 rfl rfl rfl rfl ?_
         refine aw_store_b rfl rfl rfl rfl rfl (Lens.self _) ty_37 rfl ?_; refine A0 aV ?_; refine CNQR ?_; refine A0 mV ?_; refine A0 o_neq ?_
         refine aw_splitp (d := 88) (p := ¬ pushE t b = 0) rfl (by simp [IntL.toI]) (fun g88 => ?_) (fun g88 => ?_)
         ·
          refine A0 mV ?_; refine A2 ?_; refine A2 ?_; refine A2 ?_; refine A2 ?_; refine A2 ?_; refine A0 oK ?_; refine A0 mV ?_; refine A2 ?_; refine A2 ?_; refine A0 oK ?_; refine A0 aV ?_; refine CN ?_
          exact aw_ret1 rfl rfl (ret_eq rfl rfl)
         ·
          refine A0 mV ?_; refine A1 (oFp fd_33_0) ?_; refine A1 (oLb L_Block_h ty_29) ?_; refine A1 (oFp fd_33_0) ?_; refine A1 (oLb L_Block_h ty_29) ?_; refine A1 (g_eqlS rfl rfl rfl (eqt_29)) ?_; refine A0 oK ?_; refine A0 mV ?_
          refine aw_split (d := 96) rfl (fun g96 => ?_) (fun g96 => ?_)
          ·
           refine A2 ?_; refine A2 ?_; refine A0 oK ?_; refine A0 aV ?_; refine CN ?_
           exact aw_ret1 rfl rfl (ret_eq rfl rfl)
          ·
           refine A1 mV ?_; refine A1 o_neq ?_; refine aw_ist (d := 98) rfl (by simpa [IntL.toI] using push_other (Classical.not_not.1 g88) (by rfl) (of_decide_eq_false g96)) ?_; refine A0 oK ?_; refine A0 aV ?_; refine CN ?_
           exact aw_ret1 rfl rfl (ret_eq rfl rfl)
        ·
         refine CR ?_; refine A0 (oFp fd_29_6) ?_; refine A0 (oLb L_Head_bits ty_27) ?_; refine A0 (oFp fd_33_0) ?_; refine A0 (oFp fd_29_6) ?_; refine aw_store_b rfl rfl rfl rfl rfl (L_Block_h.comp L_Head_bits) ty_27 rfl ?_; refine CNIQR ?_
         refine A0 (oLs rfl rfl rfl ty_37) ?_; refine A0 (oLs rfl rfl rfl ty_33) ?_; refine A0 (oCl (push_ok t _ hst (by exact hsb)) rfl fn_17 ⟨(arg_v rfl), (arg_v rfl), trivial⟩) ?_; refine A0 mX ?_
         refine A0 (by first | exact g_x20 rfl rfl | exact g_x30 rfl rfl) ?_; refine A0 (by first | exact g_x21 rfl rfl | exact g_x31 rfl rfl) ?_; refine aw_alloc ze_37 rfl rfl rfl rfl ?_
         refine aw_store_b rfl rfl rfl rfl rfl (Lens.self _) ty_37 rfl ?_; refine A0 aV ?_; refine CNQR ?_; refine A0 mV ?_; refine A0 o_neq ?_
         refine aw_splitp (d := 88) (p := ¬ pushE t b = 0) rfl (by simp [IntL.toI]) (fun g88 => ?_) (fun g88 => ?_)
         ·
          refine A0 mV ?_; refine A2 ?_; refine A2 ?_; refine A2 ?_; refine A2 ?_; refine A2 ?_; refine A0 oK ?_; refine A0 mV ?_; refine A2 ?_; refine A2 ?_; refine A0 oK ?_; refine A0 aV ?_; refine CN ?_
          exact aw_ret1 rfl rfl (ret_eq rfl rfl)
         ·
          refine A0 mV ?_; refine A1 (oFp fd_33_0) ?_; refine A1 (oLb L_Block_h ty_29) ?_; refine A1 (oFp fd_33_0) ?_; refine A1 (oLb L_Block_h ty_29) ?_; refine A1 (g_eqlS rfl rfl rfl (eqt_29)) ?_; refine A0 oK ?_; refine A0 mV ?_
          refine aw_split (d := 96) rfl (fun g96 => ?_) (fun g96 => ?_)
          ·
           refine A2 ?_; refine A2 ?_; refine A0 oK ?_; refine A0 aV ?_; refine CN ?_
           exact aw_ret1 rfl rfl (ret_eq rfl rfl)
          ·
           refine A1 mV ?_; refine A1 o_neq ?_; refine aw_ist (d := 98) rfl (by simpa [IntL.toI] using push_other (Classical.not_not.1 g88) (by rfl) (of_decide_eq_false g96)) ?_; refine A0 oK ?_; refine A0 aV ?_; refine CN ?_
           exact aw_ret1 rfl rfl (ret_eq rfl rfl)
theorem BlockFirst_ok (a b : UInt32) : Tells P 5 [.val u32T a, .val u32T b] (.val boolT true) := by
 refine fn_of_aw Tryz.func5 rfl rfl rfl (fun ext w hext => ?_)
 refine CQR ?_; refine A0 aV ?_; refine CNQR ?_; refine A0 (oCl (awake11_ok) rfl fn_10 trivial) ?_; refine A0 aV ?_; refine CNQR ?_; refine A0 mV ?_; refine A0 (oCl (firstTip_ok _) rfl fn_13 ⟨(arg_v rfl), trivial⟩) ?_; refine A0 mX ?_
 refine A0 (by first | exact g_x20 rfl rfl | exact g_x30 rfl rfl) ?_; refine A0 (by first | exact g_x21 rfl rfl | exact g_x31 rfl rfl) ?_; refine aw_alloc ze_37 rfl rfl rfl rfl ?_
 refine aw_store_b rfl rfl rfl rfl rfl (Lens.self _) ty_37 rfl ?_; refine A0 aV ?_; refine CNQR ?_; refine A0 mV ?_; refine A0 (oCl (firstTip_ok _) rfl fn_13 ⟨(arg_v rfl), trivial⟩) ?_; refine A0 mX ?_
 refine A0 (by first | exact g_x20 rfl rfl | exact g_x30 rfl rfl) ?_; refine A0 (by first | exact g_x21 rfl rfl | exact g_x31 rfl rfl) ?_; refine aw_alloc ze_37 rfl rfl rfl rfl ?_
 refine aw_store_b rfl rfl rfl rfl rfl (Lens.self _) ty_37 rfl ?_; refine A0 aV ?_; refine CNQQR ?_; refine A0 mV ?_; refine A0 oN ?_; refine aw_isf (d := 23) rfl (rfl) ?_; refine A0 mV ?_; refine A1 mV ?_; refine A1 oN ?_
 refine aw_splitp (d := 26) (p := ¬ tgtOk a = true) rfl (by cases tgtOk a <;> rfl) (fun g26 => ?_) (fun g26 => ?_)
 ·
  refine A0 oK ?_; refine CN ?_; refine Ct ?_; refine CQR ?_; refine A0 mV ?_; refine A0 mV ?_; refine aw_ist (d := 29) rfl (rfl) ?_; refine A1 (oFp fd_37_1) ?_; refine A1 (oLb L_Tip_p ty_34) ?_; refine A1 (g_len rfl rfl isl_34) ?_
  refine A1 o_eql ?_; refine aw_ist (d := 33) rfl (by unfold firstTip; rw [if_neg g26]; rfl) ?_; refine A0 oK ?_; refine A0 aV ?_; refine CN ?_
  exact aw_ret1 rfl rfl (ret_eq rfl rfl)
 ·
  have ha := Classical.not_not.1 g26
  refine A0 oK ?_; refine CN ?_; refine Cg ?_; refine CSQR ?_; refine A0 (oFp fd_37_1) ?_; refine A0 (oLb L_Tip_p ty_34) ?_
  refine A0 (oCl (mmrRoot_ok (firstTip a).p (by rw [firstTip_is ha]; exact Nat.le_of_ble_eq_true rfl)) rfl fn_24 ⟨(arg_v rfl), trivial⟩) ?_; refine aw_alloc ze_54 rfl rfl rfl rfl ?_
  refine aw_store_b rfl rfl rfl rfl rfl (Lens.self _) ty_54 rfl ?_; refine CNQ ?_; refine CQ ?_; refine CD mixed ?_; refine G0 (oFp fd_37_1) ?_; refine G0 (oLb L_Tip_p ty_34) ?_; refine G0 (g_len rfl rfl isl_34) ?_; refine G0 o_neq ?_
  refine GK_isf (d := 41) rfl (by rw [firstTip_is ha]; rfl) ?_; refine G0 mV ?_; refine G1 (oFp fd_37_2) ?_; refine G1 (oLb L_Tip_c ty_35) ?_; refine G1 (g_len rfl rfl isl_35) ?_; refine G1 (oFp fd_37_0) ?_; refine G1 (oFp fd_33_1) ?_
  refine G1 (oLb (L_Tip_b.comp L_Block_l) ty_30) ?_; refine G1 (g_len rfl rfl isl_30) ?_; refine G1 o_add ?_; refine G1 (oFp fd_37_0) ?_; refine G1 (oFp fd_33_2) ?_; refine G1 (oLb (L_Tip_b.comp L_Block_t) ty_31) ?_
  refine G1 (g_len rfl rfl isl_31) ?_; refine G1 o_add ?_; refine G1 o_neq ?_; refine GK_isf (d := 56) rfl (by rw [firstTip_is ha]; rfl) ?_; refine G0 oK ?_; refine G0 mV ?_; refine G1 (oFp fd_37_0) ?_; refine G1 (oFp fd_33_0) ?_
  refine G1 (oLb (L_Tip_b.comp L_Block_h) ty_29) ?_; refine G1 (oCl (headMay_ok _) rfl fn_25 ⟨(arg_v rfl), trivial⟩) ?_; refine G1 oN ?_
  refine GK_isf (d := 63) rfl (by rw [firstTip_is ha]; show (!headMay (firstH a)) = false; rw [first_may ha]; rfl) ?_; refine G0 oK ?_; refine G0 mV ?_; refine G1 (oFp fd_54_0) ?_; refine G1 (oLb L_Total_h ty_23) ?_; refine G1 (oFp fd_37_0) ?_
  refine G1 (oFp fd_33_0) ?_; refine G1 (oLb (L_Tip_b.comp L_Block_h) ty_29) ?_; refine G1 (oCl (headId_ok _) rfl fn_26 ⟨(arg_v rfl), trivial⟩) ?_; refine G1 (g_neqS rfl rfl rfl (eqt_23)) ?_
  refine GK_isf (d := 72) rfl (by rw [firstTip_is ha]; simp [mmrRoot, rootFrom, leafH, leafT]) ?_; refine G0 oK ?_; refine G0 mV ?_; refine G1 (oFp fd_54_1) ?_; refine G1 (oLb L_Total_w ty_26) ?_; refine G1 (oFp fd_37_0) ?_
  refine G1 (oFp fd_33_0) ?_; refine G1 (oLb (L_Tip_b.comp L_Block_h) ty_29) ?_; refine G1 (oCl (headWork_ok _) rfl fn_27 ⟨(arg_v rfl), trivial⟩) ?_; refine G1 (g_neqS rfl rfl rfl (eqt_26)) ?_
  refine GK_isf (d := 81) rfl (by rw [firstTip_is ha]; simp [mmrRoot, rootFrom, leafH, leafT]) ?_; refine G0 oK ?_; refine GK.nil ?_; refine Cg ?_; refine CSQR ?_; refine A0 mV ?_; refine A0 oN ?_
  refine aw_splitp (d := 84) (p := ¬ tgtOk b = true) rfl (by cases tgtOk b <;> rfl) (fun g84 => ?_) (fun g84 => ?_)
  ·
   refine A0 mV ?_; refine A2 ?_; refine A2 ?_; refine A2 ?_; refine A2 ?_; refine A2 ?_; refine A2 ?_; refine A2 ?_; refine A2 ?_; refine A2 ?_; refine A2 ?_; refine A2 ?_; refine A0 oK ?_; refine A0 aV ?_; refine CN ?_
   exact aw_ret1 rfl rfl (ret_eq rfl rfl)
  ·
   refine A0 mV ?_; refine A1 (oFp fd_37_0) ?_; refine A1 (oFp fd_33_0) ?_; refine A1 (oLb (L_Tip_b.comp L_Block_h) ty_29) ?_; refine A1 (oFp fd_37_0) ?_; refine A1 (oFp fd_33_0) ?_; refine A1 (oLb (L_Tip_b.comp L_Block_h) ty_29) ?_
   refine A1 (g_eqlS rfl rfl rfl (eqt_29)) ?_; refine A1 mV ?_; refine A1 mV ?_; refine A1 o_eql ?_; refine A1 (g_eqlB rfl rfl rfl ub_4) ?_
   refine aw_ist (d := 96) rfl (by rw [firstTip_is ha, firstTip_is (Classical.not_not.1 g84)]; simp [first_eq, eq_u32]) ?_; refine A0 oK ?_; refine A0 aV ?_; refine CN ?_
   exact aw_ret1 rfl rfl (ret_eq rfl rfl)
end Go.Proofs.YtgoiacajjicjcaaGreat
