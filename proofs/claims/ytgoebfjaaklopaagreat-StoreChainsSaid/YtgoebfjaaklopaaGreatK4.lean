/- Parts of the proof: the layer that reads Go values as data, and what the functions of the program tell. -/
import Derived.Test.YtgoebfjaaklopaaGreatK3
set_option maxRecDepth 20000
namespace Go.Proofs.YtgoebfjaaklopaaGreat
set_option linter.unusedVariables false
set_option linter.unusedSimpArgs false
open Go.Ab Go.RowKit
theorem equalId (l m : List Ab.Id) : Tells P 103 [.val (bsl idT) l, .val (bsl idT) m] (.val boolT (decide (l = m))) := by
 refine fn_of_aw Tryz.func103 rfl rfl rfl (fun ext w hext => ?_)
 refine aw_fact (d := 0) rfl fact_sl (fun hsl0 => ?_)
 refine aw_fact (d := 1) rfl fact_sl (fun hsl1 => ?_)
 refine CQR ?_; refine A0 aV ?_; refine CNQQR ?_; refine A0 mV ?_; refine A0 (g_len rfl rfl isl_34) ?_; refine A0 mV ?_; refine A0 (g_len rfl rfl isl_34) ?_; refine A0 o_neq ?_; refine CN ?_
 refine Cf (p := ¬ l.length = m.length) (fun ht10 => ?_) (fun ht10 => ?_)
 ·
  refine CQR ?_; refine A0 aV ?_; refine CN ?_
  exact aw_ret1 rfl rfl (ret_eq rfl (decide_eq_false (fun e => ht10 (by rw [e]))).symm)
 ·
  refine CSQQR ?_; refine A0 mV ?_; refine A0 (g_len rfl rfl isl_34) ?_; refine A0 mV ?_; refine CNB ?_
  refine Lp (ι := Nat) 0 (fun (k : Nat) => ((((Fr.none).set 0 (.val (bsl idT) l)).set 1 (.val (bsl idT) m)).set 12 (.val i64T (l.length : Int))).set 13 (.val i64T (k : Int))) (fun (k : Nat) => Hp.none) (fun (k : Nat) => k ≤ l.length ∧ l.take k = m.take k) (fun (k : Nat) => l.length - k) (0) (⟨Nat.zero_le _, by simp⟩) ?_
  intro k hinv
  refine CQR ?_; refine A0 o_lss ?_; refine CNQ ?_
  refine Cf (p := k < l.length) (fun ht14 => ?_) (fun ht14 => ?_)
  ·
   obtain ⟨x, hx⟩ : ∃ x, l[k]? = some x := ⟨_, List.getElem?_eq_getElem ht14⟩
   obtain ⟨y, hy⟩ : ∃ y, m[k]? = some y := ⟨_, List.getElem?_eq_getElem (by omega)⟩
   refine CSQBQR ?_; refine A0 mV ?_; refine A0 aV ?_; refine CNQ ?_; refine CD mixed ?_; refine G0 mV ?_; refine G0 mV ?_; refine G0 (g_ia_n rfl rfl rfl sl_34 (by assumption)) ?_; refine G0 (g_load_r rfl rfl ty_27) ?_; refine G0 mV ?_
   refine G0 mV ?_; refine G0 (g_ia_n rfl rfl rfl sl_34 (by assumption)) ?_; refine G0 (g_load_r rfl rfl ty_27) ?_; refine G0 (g_neqS rfl rfl rfl (eqt_27)) ?_; refine GK.nil ?_
   refine aw_ifc (p := ¬ x = y) rfl (by simp) (fun ht24 => ?_) (fun ht24 => ?_)
   ·
    refine CQR ?_; refine A0 aV ?_; refine CN ?_
    exact aw_ret1 rfl rfl (ret_eq rfl (decide_eq_false (ne_of_at hx hy ht24)).symm)
   ·
    refine CSIR ?_; refine A0 o_add ?_; refine A0 mV ?_; refine CN ?_
    exact Nx (k + 1) (⟨by omega, beq_all_succ hx hy hinv.2 (by simpa using ht24)⟩) (by omega)
  ·
   refine CE ?_; refine CQR ?_; refine A0 aV ?_; refine CN ?_
   exact aw_ret1 rfl rfl (ret_eq rfl (decide_eq_true (by have h := hinv.2; rw [List.take_of_length_le (by omega), List.take_of_length_le (by omega)] at h; exact h)).symm)
theorem equalIn (l m : List In) : Tells P 148 [.val (bsl inT) l, .val (bsl inT) m] (.val boolT (decide (l = m))) := by
 refine fn_of_aw Tryz.func148 rfl rfl rfl (fun ext w hext => ?_)
 refine aw_fact (d := 0) rfl fact_sl (fun hsl0 => ?_)
 refine aw_fact (d := 1) rfl fact_sl (fun hsl1 => ?_)
 refine CQR ?_; refine A0 aV ?_; refine CNQQR ?_; refine A0 mV ?_; refine A0 (g_len rfl rfl isl_109) ?_; refine A0 mV ?_; refine A0 (g_len rfl rfl isl_109) ?_; refine A0 o_neq ?_; refine CN ?_
 refine Cf (p := ¬ l.length = m.length) (fun ht10 => ?_) (fun ht10 => ?_)
 ·
  refine CQR ?_; refine A0 aV ?_; refine CN ?_
  exact aw_ret1 rfl rfl (ret_eq rfl (decide_eq_false (fun e => ht10 (by rw [e]))).symm)
 ·
  refine CSQQR ?_; refine A0 mV ?_; refine A0 (g_len rfl rfl isl_109) ?_; refine A0 mV ?_; refine CNB ?_
  refine Lp (ι := Nat) 0 (fun (k : Nat) => ((((Fr.none).set 0 (.val (bsl inT) l)).set 1 (.val (bsl inT) m)).set 12 (.val i64T (l.length : Int))).set 13 (.val i64T (k : Int))) (fun (k : Nat) => Hp.none) (fun (k : Nat) => k ≤ l.length ∧ l.take k = m.take k) (fun (k : Nat) => l.length - k) (0) (⟨Nat.zero_le _, by simp⟩) ?_
  intro k hinv
  refine CQR ?_; refine A0 o_lss ?_; refine CNQ ?_
  refine Cf (p := k < l.length) (fun ht14 => ?_) (fun ht14 => ?_)
  ·
   obtain ⟨x, hx⟩ : ∃ x, l[k]? = some x := ⟨_, List.getElem?_eq_getElem ht14⟩
   obtain ⟨y, hy⟩ : ∃ y, m[k]? = some y := ⟨_, List.getElem?_eq_getElem (by omega)⟩
   refine CSQBQR ?_; refine A0 mV ?_; refine A0 aV ?_; refine CNQ ?_; refine CD mixed ?_; refine G0 mV ?_; refine G0 mV ?_; refine G0 (g_ia_n rfl rfl rfl sl_109 (by assumption)) ?_; refine G0 (g_load_r rfl rfl ty_120) ?_; refine G0 mV ?_
   refine G0 mV ?_; refine G0 (g_ia_n rfl rfl rfl sl_109 (by assumption)) ?_; refine G0 (g_load_r rfl rfl ty_120) ?_; refine G0 (g_neqS rfl rfl rfl (eqt_120)) ?_; refine GK.nil ?_
   refine aw_ifc (p := ¬ x = y) rfl (by simp) (fun ht24 => ?_) (fun ht24 => ?_)
   ·
    refine CQR ?_; refine A0 aV ?_; refine CN ?_
    exact aw_ret1 rfl rfl (ret_eq rfl (decide_eq_false (ne_of_at hx hy ht24)).symm)
   ·
    refine CSIR ?_; refine A0 o_add ?_; refine A0 mV ?_; refine CN ?_
    exact Nx (k + 1) (⟨by omega, beq_all_succ hx hy hinv.2 (by simpa using ht24)⟩) (by omega)
  ·
   refine CE ?_; refine CQR ?_; refine A0 aV ?_; refine CN ?_
   exact aw_ret1 rfl rfl (ret_eq rfl (decide_eq_true (by have h := hinv.2; rw [List.take_of_length_le (by omega), List.take_of_length_le (by omega)] at h; exact h)).symm)
theorem equalOut (l m : List Out) : Tells P 149 [.val (bsl outT) l, .val (bsl outT) m] (.val boolT (decide (l = m))) := by
 refine fn_of_aw Tryz.func149 rfl rfl rfl (fun ext w hext => ?_)
 refine aw_fact (d := 0) rfl fact_sl (fun hsl0 => ?_)
 refine aw_fact (d := 1) rfl fact_sl (fun hsl1 => ?_)
 refine CQR ?_; refine A0 aV ?_; refine CNQQR ?_; refine A0 mV ?_; refine A0 (g_len rfl rfl isl_110) ?_; refine A0 mV ?_; refine A0 (g_len rfl rfl isl_110) ?_; refine A0 o_neq ?_; refine CN ?_
 refine Cf (p := ¬ l.length = m.length) (fun ht10 => ?_) (fun ht10 => ?_)
 ·
  refine CQR ?_; refine A0 aV ?_; refine CN ?_
  exact aw_ret1 rfl rfl (ret_eq rfl (decide_eq_false (fun e => ht10 (by rw [e]))).symm)
 ·
  refine CSQQR ?_; refine A0 mV ?_; refine A0 (g_len rfl rfl isl_110) ?_; refine A0 mV ?_; refine CNB ?_
  refine Lp (ι := Nat) 0 (fun (k : Nat) => ((((Fr.none).set 0 (.val (bsl outT) l)).set 1 (.val (bsl outT) m)).set 12 (.val i64T (l.length : Int))).set 13 (.val i64T (k : Int))) (fun (k : Nat) => Hp.none) (fun (k : Nat) => k ≤ l.length ∧ l.take k = m.take k) (fun (k : Nat) => l.length - k) (0) (⟨Nat.zero_le _, by simp⟩) ?_
  intro k hinv
  refine CQR ?_; refine A0 o_lss ?_; refine CNQ ?_
  refine Cf (p := k < l.length) (fun ht14 => ?_) (fun ht14 => ?_)
  ·
   obtain ⟨x, hx⟩ : ∃ x, l[k]? = some x := ⟨_, List.getElem?_eq_getElem ht14⟩
   obtain ⟨y, hy⟩ : ∃ y, m[k]? = some y := ⟨_, List.getElem?_eq_getElem (by omega)⟩
   refine CSQBQR ?_; refine A0 mV ?_; refine A0 aV ?_; refine CNQ ?_; refine CD mixed ?_; refine G0 mV ?_; refine G0 mV ?_; refine G0 (g_ia_n rfl rfl rfl sl_110 (by assumption)) ?_; refine G0 (g_load_r rfl rfl ty_123) ?_; refine G0 mV ?_
   refine G0 mV ?_; refine G0 (g_ia_n rfl rfl rfl sl_110 (by assumption)) ?_; refine G0 (g_load_r rfl rfl ty_123) ?_; refine G0 (g_neqS rfl rfl rfl (eqt_123)) ?_; refine GK.nil ?_
   refine aw_ifc (p := ¬ x = y) rfl (by simp) (fun ht24 => ?_) (fun ht24 => ?_)
   ·
    refine CQR ?_; refine A0 aV ?_; refine CN ?_
    exact aw_ret1 rfl rfl (ret_eq rfl (decide_eq_false (ne_of_at hx hy ht24)).symm)
   ·
    refine CSIR ?_; refine A0 o_add ?_; refine A0 mV ?_; refine CN ?_
    exact Nx (k + 1) (⟨by omega, beq_all_succ hx hy hinv.2 (by simpa using ht24)⟩) (by omega)
  ·
   refine CE ?_; refine CQR ?_; refine A0 aV ?_; refine CN ?_
   exact aw_ret1 rfl rfl (ret_eq rfl (decide_eq_true (by have h := hinv.2; rw [List.take_of_length_le (by omega), List.take_of_length_le (by omega)] at h; exact h)).symm)
theorem cloneId (l : List Ab.Id) (hl : l.length * 32 ≤ 140737488355328 ∧ l.length ≤ 9223372036854775807) : Tells P 73 [.val (bsl idT) l] (.fresh 27 idT l) := by
 refine fn_of_aw Tryz.func73 rfl rfl rfl (fun ext w hext => ?_)
 refine aw_fact (d := 0) rfl fact_sl (fun hsl0 => ?_)
 refine CQR ?_; refine A0 aL ?_; refine CNQQR ?_; refine A0 mV ?_
 refine aw_eqnil rfl rfl rfl rfl rfl isl_34 (fun c4 hc4 => ?_)
 refine CN ?_
 refine aw_ifc (p := c4 = true) rfl (by simp) (fun ht4 => ?_) (fun ht4 => ?_)
 ·
  obtain rfl := hc4 ht4
  refine CQR ?_; refine A0 aL ?_; refine CN ?_
  exact aw_ret1 rfl rfl (ret_fresh_nil rfl)
 ·
  refine CSQR ?_; refine aw_bslice (T := idT) (xs := []) rfl rfl rfl rfl sl_34 row_34 trivial rfl rfl ?_; refine A0 mV ?_; refine aw_append rfl rfl rfl rfl rfl rfl rfl row_34 (by simpa using hl) ?_; refine A0 aO ?_; refine CN ?_
  exact aw_ret1 rfl rfl (ret_fresh_eq rfl rfl (by simp))
theorem cloneTotal (l : List Total) (hl : l.length * 72 ≤ 140737488355328 ∧ l.length ≤ 9223372036854775807) : Tells P 139 [.val (bsl totalT) l] (.fresh 148 totalT l) := by
 refine fn_of_aw Tryz.func139 rfl rfl rfl (fun ext w hext => ?_)
 refine aw_fact (d := 0) rfl fact_sl (fun hsl0 => ?_)
 refine CQR ?_; refine A0 aL ?_; refine CNQQR ?_; refine A0 mV ?_
 refine aw_eqnil rfl rfl rfl rfl rfl isl_53 (fun c4 hc4 => ?_)
 refine CN ?_
 refine aw_ifc (p := c4 = true) rfl (by simp) (fun ht4 => ?_) (fun ht4 => ?_)
 ·
  obtain rfl := hc4 ht4
  refine CQR ?_; refine A0 aL ?_; refine CN ?_
  exact aw_ret1 rfl rfl (ret_fresh_nil rfl)
 ·
  refine CSQR ?_; refine aw_bslice (T := totalT) (xs := []) rfl rfl rfl rfl sl_53 row_53 trivial rfl rfl ?_; refine A0 mV ?_; refine aw_append rfl rfl rfl rfl rfl rfl rfl row_53 (by simpa using hl) ?_; refine A0 aO ?_; refine CN ?_
  exact aw_ret1 rfl rfl (ret_fresh_eq rfl rfl (by simp))
theorem cloneIn (l : List In) (hl : l.length * 40 ≤ 140737488355328 ∧ l.length ≤ 9223372036854775807) : Tells P 75 [.val (bsl inT) l] (.fresh 120 inT l) := by
 refine fn_of_aw Tryz.func75 rfl rfl rfl (fun ext w hext => ?_)
 refine aw_fact (d := 0) rfl fact_sl (fun hsl0 => ?_)
 refine CQR ?_; refine A0 aL ?_; refine CNQQR ?_; refine A0 mV ?_
 refine aw_eqnil rfl rfl rfl rfl rfl isl_109 (fun c4 hc4 => ?_)
 refine CN ?_
 refine aw_ifc (p := c4 = true) rfl (by simp) (fun ht4 => ?_) (fun ht4 => ?_)
 ·
  obtain rfl := hc4 ht4
  refine CQR ?_; refine A0 aL ?_; refine CN ?_
  exact aw_ret1 rfl rfl (ret_fresh_nil rfl)
 ·
  refine CSQR ?_; refine aw_bslice (T := inT) (xs := []) rfl rfl rfl rfl sl_109 row_109 trivial rfl rfl ?_; refine A0 mV ?_; refine aw_append rfl rfl rfl rfl rfl rfl rfl row_109 (by simpa using hl) ?_; refine A0 aO ?_; refine CN ?_
  exact aw_ret1 rfl rfl (ret_fresh_eq rfl rfl (by simp))
theorem cloneOut (l : List Out) (hl : l.length * 16 ≤ 140737488355328 ∧ l.length ≤ 9223372036854775807) : Tells P 76 [.val (bsl outT) l] (.fresh 123 outT l) := by
 refine fn_of_aw Tryz.func76 rfl rfl rfl (fun ext w hext => ?_)
 refine aw_fact (d := 0) rfl fact_sl (fun hsl0 => ?_)
 refine CQR ?_; refine A0 aL ?_; refine CNQQR ?_; refine A0 mV ?_
 refine aw_eqnil rfl rfl rfl rfl rfl isl_110 (fun c4 hc4 => ?_)
 refine CN ?_
 refine aw_ifc (p := c4 = true) rfl (by simp) (fun ht4 => ?_) (fun ht4 => ?_)
 ·
  obtain rfl := hc4 ht4
  refine CQR ?_; refine A0 aL ?_; refine CN ?_
  exact aw_ret1 rfl rfl (ret_fresh_nil rfl)
 ·
  refine CSQR ?_; refine aw_bslice (T := outT) (xs := []) rfl rfl rfl rfl sl_110 row_110 trivial rfl rfl ?_; refine A0 mV ?_; refine aw_append rfl rfl rfl rfl rfl rfl rfl row_110 (by simpa using hl) ?_; refine A0 aO ?_; refine CN ?_
  exact aw_ret1 rfl rfl (ret_fresh_eq rfl rfl (by simp))
theorem cloneTx (l : List Tx) (hl : l.length * 48 ≤ 140737488355328 ∧ l.length ≤ 9223372036854775807) : Tells P 74 [.val (bsl txT) l] (.fresh 112 txT l) := by
 refine fn_of_aw Tryz.func74 rfl rfl rfl (fun ext w hext => ?_)
 refine aw_fact (d := 0) rfl fact_sl (fun hsl0 => ?_)
 refine CQR ?_; refine A0 aL ?_; refine CNQQR ?_; refine A0 mV ?_
 refine aw_eqnil rfl rfl rfl rfl rfl isl_35 (fun c4 hc4 => ?_)
 refine CN ?_
 refine aw_ifc (p := c4 = true) rfl (by simp) (fun ht4 => ?_) (fun ht4 => ?_)
 ·
  obtain rfl := hc4 ht4
  refine CQR ?_; refine A0 aL ?_; refine CN ?_
  exact aw_ret1 rfl rfl (ret_fresh_nil rfl)
 ·
  refine CSQR ?_; refine aw_bslice (T := txT) (xs := []) rfl rfl rfl rfl sl_35 row_35 trivial rfl rfl ?_; refine A0 mV ?_; refine aw_append rfl rfl rfl rfl rfl rfl rfl row_35 (by simpa using hl) ?_; refine A0 aO ?_; refine CN ?_
  exact aw_ret1 rfl rfl (ret_fresh_eq rfl rfl (by simp))
theorem equalFTx (l m : List Tx) : Tells P 104 [.val (bsl txT) l, .val (bsl txT) m, .fn2 P txT txT boolT (fun x y => decide (x = y))] (.val boolT (decide (l = m))) := by
 refine fn_of_aw Tryz.func104 rfl rfl rfl (fun ext w hext => ?_)
 refine aw_fact (d := 0) rfl fact_sl (fun hsl0 => ?_)
 refine aw_fact (d := 1) rfl fact_sl (fun hsl1 => ?_)
 refine CQR ?_; refine A0 aV ?_; refine CNQQR ?_; refine A0 mV ?_; refine A0 (g_len rfl rfl isl_35) ?_; refine A0 mV ?_; refine A0 (g_len rfl rfl isl_35) ?_; refine A0 o_neq ?_; refine CN ?_
 refine Cf (p := ¬ l.length = m.length) (fun ht14 => ?_) (fun ht14 => ?_)
 ·
  refine CQR ?_; refine A0 aV ?_; refine CN ?_
  exact aw_ret1 rfl rfl (ret_eq rfl (decide_eq_false (fun e => ht14 (by rw [e]))).symm)
 ·
  refine CSQQR ?_; refine A0 mV ?_; refine A0 (g_len rfl rfl isl_35) ?_; refine A0 mV ?_; refine CNB ?_
  refine Lp (ι := Nat) 0 (fun (k : Nat) => ((((((Fr.none).set 0 (.val (bsl txT) l)).set 1 (.val (bsl txT) m)).set 2 (.fn2 P txT txT boolT (fun x y => decide (x = y)))).set 15 (.val (bsl txT) l)).set 16 (.val i64T (l.length : Int))).set 17 (.val i64T (k : Int))) (fun (k : Nat) => Hp.none) (fun (k : Nat) => k ≤ l.length ∧ l.take k = m.take k) (fun (k : Nat) => l.length - k) (0) (⟨Nat.zero_le _, by simp⟩) ?_
  intro k hinv
  refine CQR ?_; refine A0 o_lss ?_; refine CNQ ?_
  refine Cf (p := k < l.length) (fun ht18 => ?_) (fun ht18 => ?_)
  ·
   obtain ⟨x, hx⟩ : ∃ x, l[k]? = some x := ⟨_, List.getElem?_eq_getElem ht18⟩
   obtain ⟨y, hy⟩ : ∃ y, m[k]? = some y := ⟨_, List.getElem?_eq_getElem (by omega)⟩
   refine CSQBQR ?_; refine A0 mV ?_; refine A0 (g_ia_n rfl rfl rfl sl_35 (by assumption)) ?_; refine A0 (g_load_r rfl rfl ty_112) ?_; refine aw_alloc ze_112 rfl rfl rfl rfl ?_; refine A0 aV ?_
   refine aw_store_b rfl rfl rfl rfl rfl (Lens.self _) ty_112 rfl ?_; refine CNQR ?_; refine A0 mV ?_; refine A0 mV ?_; refine A0 (g_ia_n rfl rfl rfl sl_35 (by assumption)) ?_; refine A0 (g_load_r rfl rfl ty_112) ?_
   refine aw_alloc ze_112 rfl rfl rfl rfl ?_; refine aw_store_b rfl rfl rfl rfl rfl (Lens.self _) ty_112 rfl ?_; refine CNQR ?_; refine A0 mH ?_; refine A0 (oLs rfl rfl rfl ty_112) ?_; refine A0 (oLs rfl rfl rfl ty_112) ?_
   refine A0 (g_callf2 rfl rfl (arg_v rfl) (arg_v rfl)) ?_; refine A0 oN ?_; refine CN ?_
   refine aw_ifc (p := ¬ x = y) rfl (by simp) (fun ht30 => ?_) (fun ht30 => ?_)
   ·
    refine CQR ?_; refine A0 aV ?_; refine CN ?_
    exact aw_ret1 rfl rfl (ret_eq rfl (decide_eq_false (ne_of_at hx hy ht30)).symm)
   ·
    refine CSIR ?_; refine A0 o_add ?_; refine A0 mV ?_; refine CN ?_
    exact Nx (k + 1) (⟨by omega, beq_all_succ hx hy hinv.2 (by simpa using ht30)⟩) (by omega)
  ·
   refine CE ?_; refine CQR ?_; refine A0 aV ?_; refine CN ?_
   exact aw_ret1 rfl rfl (ret_eq rfl (decide_eq_true (by have h := hinv.2; rw [List.take_of_length_le (by omega), List.take_of_length_le (by omega)] at h; exact h)).symm)
theorem coinSame_ok (a b : Tx) : Tells P 105 [.val txT a, .val txT b] (.val boolT (decide (a = b))) := by
 refine fn_of_aw Tryz.func105 rfl rfl rfl (fun ext w hext => ?_)
 refine CQR ?_; refine aw_box rfl rfl rfl rfl rfl ?_; refine aw_box rfl rfl rfl rfl rfl ?_; refine A0 aV ?_; refine CNQR ?_; refine A0 (oFp fd_112_0) ?_; refine A0 (oLb L_Tx_ins ty_109) ?_; refine A0 (oFp fd_112_0) ?_
 refine A0 (oLb L_Tx_ins ty_109) ?_; refine A0 (oCl (equalIn _ _) rfl fn_148 ⟨(arg_v rfl), (arg_v rfl), trivial⟩) ?_
 refine Sp (d := 9) (p := a.ins = b.ins) (fun g9 => ?_) (fun g9 => ?_)
 ·
  refine A0 mV ?_; refine A1 (oFp fd_112_1) ?_; refine A1 (oLb L_Tx_outs ty_110) ?_; refine A1 (oFp fd_112_1) ?_; refine A1 (oLb L_Tx_outs ty_110) ?_; refine A1 (oCl (equalOut _ _) rfl fn_149 ⟨(arg_v rfl), (arg_v rfl), trivial⟩) ?_
  refine A0 oK ?_; refine A0 aV ?_; refine CN ?_
  exact aw_ret1 rfl rfl (ret_eq rfl (by rw [decide_eq_decide]; exact ⟨fun h => by cases a; cases b; simp_all, fun h => by rw [h]⟩))
 ·
  refine A0 mV ?_; refine A2 ?_; refine A2 ?_; refine A2 ?_; refine A2 ?_; refine A2 ?_; refine A0 oK ?_; refine A0 aV ?_; refine CN ?_
  exact aw_ret1 rfl rfl (ret_eq rfl (by symm; apply decide_eq_false; intro h; exact g9 (by rw [h])))
end Go.Proofs.YtgoebfjaaklopaaGreat
set_option maxRecDepth 20000
namespace Go.Proofs.YtgoebfjaaklopaaGreat
set_option linter.unusedVariables false
set_option linter.unusedSimpArgs false
open Go.Ab Go.RowKit
def padZ (n : Nat) : Nat := (64 - (n + 9) % 64) % 64
def padOf (b : List UInt8) : List UInt8 := (b ++ 128 :: List.replicate (padZ b.length) 0) ++ numBytes (8 * u64OfI (IntL.toI i64T (b.length : Int))) 8
theorem padOf_pre (b : List UInt8) : (b ++ 128 :: List.replicate (padZ b.length) 0).length = b.length + 1 + padZ b.length := by simp; omega
theorem pad_step {b l : List UInt8} {k : Nat} (hk : k < 8) (hl : l.length = b.length + padZ b.length + 9) (h : ∀ j, j < b.length + padZ b.length + 1 ∨ b.length + padZ b.length + 9 - k ≤ j → l[j]? = (padOf b)[j]?) :
    ∀ j, j < b.length + padZ b.length + 1 ∨ b.length + padZ b.length + 9 - (k + 1) ≤ j → (l.set (b.length + padZ b.length + 8 - k) (u8OfI (IntL.toI u64T (shr64 (8 * u64OfI (IntL.toI i64T (b.length : Int))) (8 * k)))))[j]? = (padOf b)[j]? := fun j hj => by
  rw [List.getElem?_set]
  by_cases c : b.length + padZ b.length + 8 - k = j
  · rw [if_pos c, if_pos (by omega)]
    unfold padOf
    rw [List.getElem?_append_right (by rw [padOf_pre]; omega), padOf_pre]
    unfold numBytes
    rw [List.getElem?_map, List.getElem?_range (by omega), Option.map_some]
    congr 4; omega
  · rw [if_neg c]; exact h j (by omega)
theorem pad_start {b : List UInt8} {j : Nat} (hj : j < b.length + padZ b.length + 1 ∨ b.length + padZ b.length + 9 - 0 ≤ j) : ([b, [128], List.replicate (padZ b.length + 8) 0].flatten)[j]? = (padOf b)[j]? := by
  unfold padOf
  have e : [b, [128], List.replicate (padZ b.length + 8) (0 : UInt8)].flatten = (b ++ 128 :: List.replicate (padZ b.length) 0) ++ List.replicate 8 0 := by
    rw [← List.replicate_append_replicate]; simp
  rw [e]
  have hl := padOf_pre b
  generalize b ++ 128 :: List.replicate (padZ b.length) 0 = pre at hl
  rcases hj with hj | hj
  · rw [List.getElem?_append_left (by omega), List.getElem?_append_left (by omega)]
  · rw [List.getElem?_append_right (by omega), List.getElem?_append_right (by omega), hl]
    rw [List.getElem?_eq_none (by simp; omega), List.getElem?_eq_none (by unfold numBytes; simp; omega)]
theorem pad_all {b l : List UInt8} (h : ∀ j, j < b.length + padZ b.length + 1 ∨ b.length + padZ b.length + 9 - 8 ≤ j → l[j]? = (padOf b)[j]?) : l = padOf b := List.ext_getElem? fun j => h j (by omega)
theorem pad_ok (b : List UInt8) (hb : b.length ≤ 70368744177664) : Tells P 155 [.val (sl u8T) b] (.fresh 5 u8T (padOf b)) := by
 have hz : ((padZ b.length : Nat) : Int) = (64 - ((b.length : Int) + 1 + 8) % 64) % 64 := by unfold padZ; omega
 have hz2 : padZ b.length < 64 := by unfold padZ; omega
 refine fn_of_aw Tryz.func155 rfl rfl rfl (fun ext w hext => ?_)
 refine aw_fact (d := 0) rfl fact_sl (fun hsl0 => ?_)
 refine CQR ?_; refine A0 aL ?_; refine CNQR ?_; refine A0 mV ?_; refine A0 (g_len rfl rfl isl_101) ?_; refine A0 o_add ?_; refine A0 o_add ?_; refine A0 (g_rem rfl rfl rfl (by first | omega | assumption) (by first | decide | omega) rfl) ?_
 refine A0 o_sub ?_; refine A0 (g_rem rfl rfl rfl (by first | omega | assumption) (by first | decide | omega) rfl) ?_; refine A0 aV ?_; refine CNQR ?_; refine A0 mV ?_
 refine A0 (g_bslice (T := u8T) (xs := [_]) rfl sl_101 row_101 ⟨rfl, rfl, trivial⟩ rfl rfl) ?_; refine A0 mV ?_; refine A0 o_add ?_
 refine aw_mks (T := u8T) (n := padZ b.length + 8) rfl rfl rfl rfl rfl rfl (by first | omega | rfl) (by first | omega | rfl) row_101 ze_5 ⟨by omega, by omega, (show (padZ b.length + 8) * 1 ≤ 16777216 by omega)⟩ ?_
 refine aw_pub (d := 17) rfl rfl ?_; refine A0 (g_bslice (T := (sl u8T)) (xs := [_, _, _]) rfl sl_125 row_125 ⟨rfl, rfl, rfl, rfl, rfl, rfl, trivial⟩ rfl rfl) ?_
 refine aw_callf (concat_ok [b, [128], List.replicate (padZ b.length + 8) 0] (by simp; omega)) rfl fn_111 ⟨(arg_v rfl), trivial⟩ rfl rfl rfl ?_; refine A0 aO ?_; refine CNQQR ?_; refine A0 mV ?_; refine CNB ?_
 refine Lp (ι := Nat × List UInt8) 2 (fun (i : Nat × List UInt8) => match i with | (k, l) => (((Fr.none).set 0 (.val (sl u8T) b)).set 4 (.own 1)).set 20 (.val i64T (k : Int))) (fun (i : Nat × List UInt8) => match i with | (k, l) => (Hp.none).set 1 (.row 5 u8T l)) (fun (i : Nat × List UInt8) => match i with | (k, l) => k ≤ 8 ∧ l.length = b.length + padZ b.length + 9 ∧ ∀ j, j < b.length + padZ b.length + 1 ∨ b.length + padZ b.length + 9 - k ≤ j → l[j]? = (padOf b)[j]?) (fun (i : Nat × List UInt8) => match i with | (k, l) => 8 - k) ((0, [b, [128], List.replicate (padZ b.length + 8) 0].flatten)) (⟨Nat.zero_le _, by simp; omega, fun j h => pad_start h⟩) ?_
 intro ⟨k, l⟩ hinv
 dsimp only at hinv
 refine CQR ?_; refine A0 o_lss ?_; refine CNQ ?_
 refine Cf (p := k < 8) (fun ht21 => ?_) (fun ht21 => ?_)
 ·
  obtain ⟨x, hx⟩ : ∃ x, l[b.length + padZ b.length + 8 - k]? = some x := ⟨_, List.getElem?_eq_getElem (by omega)⟩
  refine CSQBQR ?_; refine A0 mV ?_; refine A0 aV ?_; refine CNR ?_; refine A0 mO ?_; refine A0 mO ?_; refine A0 (g_len_o rfl rfl rfl isl_101) ?_; refine A0 o_sub ?_; refine A0 mV ?_; refine A0 o_sub ?_; refine A0 mV ?_
  refine A0 (g_len rfl rfl isl_101) ?_; refine A0 (g_cv64 rfl (ui_28) (us_3) rfl) ?_; refine A0 (g_mul64 rfl rfl rfl) ?_; refine A0 mV ?_; refine A0 o_mul ?_
  refine A0 (g_shr64 rfl rfl rfl (by first | decide | (simp [IntL.toI]; done) | (simp [IntL.toI]; omega)) rfl) ?_; refine A0 (g_cv8 rfl (ui_5) (us_28) rfl) ?_
  refine A0 (g_ia_o (i := b.length + padZ b.length + 8 - k) rfl rfl rfl rfl (by first | omega | rfl) sl_101 (by first | assumption | omega | (simp; omega))) ?_; refine aw_store_e rfl rfl rfl rfl rfl rfl (by assumption) (Lens.self _) ty_5 rfl ?_
  refine CNIR ?_; refine A0 o_add ?_; refine A0 mV ?_; refine CN ?_
  exact Nx ((k + 1, l.set (b.length + padZ b.length + 8 - k) (u8OfI (IntL.toI u64T (shr64 (8 * u64OfI (IntL.toI i64T (b.length : Int))) (8 * k)))))) (⟨by omega, by simp; exact hinv.2.1, pad_step ht21 hinv.2.1 hinv.2.2⟩) (by show _ < 8 - k; simp only []; omega)
 ·
  refine CE ?_; refine CQR ?_; refine A0 mO ?_; refine A0 aO ?_; refine CN ?_
  exact aw_ret1 rfl rfl (ret_fresh_eq rfl rfl (pad_all (by rw [show k = 8 by omega] at hinv; exact hinv.2.2)))
end Go.Proofs.YtgoebfjaaklopaaGreat
set_option maxRecDepth 20000
namespace Go.Proofs.YtgoebfjaaklopaaGreat
set_option linter.unusedVariables false
set_option linter.unusedSimpArgs false
open Go.Ab Go.RowKit
def putIn (x : In) : List UInt8 := x.tx ++ [u8OfI (IntL.toI i64T x.i)]
def putOut (o : Out) : List UInt8 := numBytes (u64OfI (IntL.toI i64T o.v)) 6 ++ [u8OfI (IntL.toI i64T o.to)]
def putIns (t : Tx) (k : Nat) : List UInt8 := u8OfI (IntL.toI i64T (t.ins.length : Int)) :: ((t.ins.take k).map putIn).flatten
def putOuts (t : Tx) (k : Nat) : List UInt8 := putIns t t.ins.length ++ [u8OfI (IntL.toI i64T (t.outs.length : Int))] ++ ((t.outs.take k).map putOut).flatten
def putTx (t : Tx) : List UInt8 := putOuts t t.outs.length
theorem putIns_step {t : Tx} {k : Nat} {x : In} (h : t.ins[k]? = some x) : putIns t (k + 1) = putIns t k ++ x.tx ++ [u8OfI (IntL.toI i64T x.i)] := by
  unfold putIns
  rw [List.take_add_one, h]; simp [putIn]
theorem putOuts_step {t : Tx} {k : Nat} {x : Out} (h : t.outs[k]? = some x) : putOuts t (k + 1) = putOuts t k ++ numBytes (u64OfI (IntL.toI i64T x.v)) 6 ++ [u8OfI (IntL.toI i64T x.to)] := by
  unfold putOuts
  rw [List.take_add_one, h]; simp [putOut]
theorem fact_in {U N : Nat → Prop} {w : World} {x : In} {cs : List Value} (h : inT.rel U N w x cs) : x.tx.length = 32 := by
  obtain ⟨c1, c2, _, h1, _⟩ := h
  exact h1.1
theorem numBytes_len (n : UInt64) (s : Nat) : (numBytes n s).length = s := by simp [numBytes]
theorem mayTx_lens {t : Tx} (h : mayTx t = true) : t.ins.length ≤ 3 ∧ 0 < t.outs.length ∧ t.outs.length ≤ 3 := by
  unfold mayTx at h
  simp only [Bool.and_eq_true, decide_eq_true_eq] at h
  exact ⟨h.2.1, h.2.2.1, h.2.2.2.1⟩
theorem put_ok (t : Tx) : Tells P 192 [.val txT t] (.tup2 (.fresh 5 u8T (if mayTx t = true then putTx t else [])) (.val boolT (mayTx t))) := by
 refine fn_of_aw Tryz.func192 rfl rfl rfl (fun ext w hext => ?_)
 refine CQR ?_; refine aw_box rfl rfl rfl rfl rfl ?_; refine A0 aL ?_; refine A0 aV ?_; refine CNQQR ?_; refine A0 (oLs rfl rfl rfl ty_112) ?_; refine A0 (oCl (mayTx_ok _) rfl fn_185 ⟨(arg_v rfl), trivial⟩) ?_; refine A0 oN ?_; refine CN ?_
 refine aw_ifc (p := ¬ mayTx t = true) rfl (by simp) (fun ht11 => ?_) (fun ht11 => ?_)
 ·
  refine CQR ?_; refine A0 aL ?_; refine A0 aV ?_; refine CN ?_
  exact aw_ret2 rfl rfl (by rw [if_neg ht11]; exact ret_fresh_nil rfl) (ret_eq rfl (by simpa using ht11))
 ·
  have hmay := Classical.not_not.1 ht11
  obtain ⟨hmi, hm0, hmo⟩ := mayTx_lens hmay
  refine CSQR ?_; refine A0 (oFp fd_112_0) ?_; refine A0 (oLb L_Tx_ins ty_109) ?_; refine A0 (g_len rfl rfl isl_109) ?_; refine A0 (g_cv8 rfl (ui_5) (us_3) rfl) ?_
  refine aw_bslice (T := u8T) (xs := [_]) rfl rfl rfl rfl sl_101 row_101 ⟨rfl, rfl, trivial⟩ rfl rfl ?_; refine A0 aO ?_; refine CNQQR ?_; refine A0 (oFp fd_112_0) ?_; refine A0 (oLb L_Tx_ins ty_109) ?_; refine A0 (g_len rfl rfl isl_109) ?_
  refine A0 mV ?_; refine CNB ?_
  refine Lp (ι := Nat) 2 (fun (k : Nat) => (((((Fr.none).set 1 (.ptr 0 0)).set 4 (.own 1)).set 18 (.val (sl inT) t.ins)).set 19 (.val i64T (t.ins.length : Int))).set 20 (.val i64T (k : Int))) (fun (k : Nat) => ((Hp.none).set 0 (.box 112 txT t)).set 1 (.row 5 u8T (putIns t k))) (fun (k : Nat) => k ≤ t.ins.length ∧ (putIns t k).length = 33 * k + 1) (fun (k : Nat) => t.ins.length - k) (0) (⟨Nat.zero_le _, by simp [putIns]⟩) ?_
  intro k hinv
  obtain ⟨hk, hpl⟩ := hinv
  have hinv := And.intro hk hpl
  refine CQR ?_; refine A0 o_lss ?_; refine CNQ ?_
  refine Cf (p := k < t.ins.length) (fun ht21 => ?_) (fun ht21 => ?_)
  ·
   obtain ⟨x, hx⟩ : ∃ x, t.ins[k]? = some x := ⟨_, List.getElem?_eq_getElem ht21⟩
   refine CSQBQR ?_; refine A0 (g_ia_n rfl rfl rfl sl_109 (by assumption)) ?_; refine A0 (g_load_r rfl rfl ty_120) ?_; refine aw_alloc ze_120 rfl rfl rfl rfl ?_; refine aw_store_b rfl rfl rfl rfl rfl (Lens.self _) ty_120 rfl ?_; refine CN ?_
   refine aw_factb (n := 2) rfl fact_in (fun hx32 => ?_)
   refine aw_drawx [some 1, some 1, some 1, none, some 2, some 2, some 2, some 2, none, some 1] mixed (by decide +kernel) ?_; refine X0 mO ?_; refine X0 (oFp fd_120_0) ?_; refine X0 (g_slice_b rfl rfl ar_27 rfl rfl) ?_
   refine XK.e (fun fr' hfr kk H => by exact aw_append_v rfl rfl rfl rfl ((hfr 24 (by decide +kernel)).trans rfl) rfl ((hfr 26 (by decide +kernel)).trans rfl) rfl L_In_tx row_101 (by show (_ + x.tx.length) * 1 ≤ _ ∧ _ + x.tx.length ≤ _; omega) (aw_nil H)) ?_
   refine XK.g2 (g_fa_p rfl rfl fd_120_1 rfl) (g_fa_p rfl rfl fd_120_1 rfl) rfl rfl rfl ?_; refine XK.gb (t := 28) rfl rfl (fun _ he => g_load_b rfl rfl he L_In_i ty_3) rfl ⟨rfl, rfl, trivial⟩ rfl rfl rfl ?_
   refine XK.g2 (g_cv8 rfl (ui_5) (us_3) rfl) (g_cv8 rfl (ui_5) (us_3) rfl) rfl rfl rfl ?_
   refine XK.g2 (g_bslice (T := u8T) (xs := [_]) rfl sl_101 row_101 ⟨rfl, rfl, trivial⟩ rfl rfl) (g_bslice (T := u8T) (xs := [_]) rfl sl_101 row_101 ⟨rfl, rfl, trivial⟩ rfl rfl) rfl rfl rfl ?_
   refine XK.e (fun fr' hfr kk H => by exact aw_append rfl rfl rfl rfl ((hfr 27 (by decide +kernel)).trans rfl) rfl ((hfr 31 (by decide +kernel)).trans rfl) row_101 (by simp only [List.length_append, List.length_cons, List.length_nil, hx32]; omega) (aw_nil H)) ?_
   refine X0 aO ?_; refine XK.nil' ?_; refine CI ?_; refine CR ?_; refine A0 o_add ?_; refine A0 mV ?_; refine CN ?_; refine aw_ren 4 1 5 rfl rfl rfl rfl rfl rfl ?_; refine aw_rerow (n := 1) rfl (putIns_step hx).symm ?_
   exact Nx (k + 1) (⟨by omega, by rw [putIns_step hx]; simp only [List.length_append, List.length_cons, List.length_nil, hx32]; omega⟩) (by omega)
  ·
   obtain rfl : k = t.ins.length := (by omega)
   obtain ⟨hli, _⟩ := hinv
   refine CE ?_; refine CQR ?_; refine A0 mO ?_; refine A0 (oFp fd_112_1) ?_; refine A0 (oLb L_Tx_outs ty_110) ?_; refine A0 (g_len rfl rfl isl_110) ?_; refine A0 (g_cv8 rfl (ui_5) (us_3) rfl) ?_
   refine A0 (g_bslice (T := u8T) (xs := [_]) rfl sl_101 row_101 ⟨rfl, rfl, trivial⟩ rfl rfl) ?_; refine aw_append rfl rfl rfl rfl rfl rfl rfl row_101 (by simp only [List.length_append, List.length_cons, List.length_nil]; omega) ?_
   refine A0 aO ?_; refine CNQQR ?_; refine A0 (oFp fd_112_1) ?_; refine A0 (oLb L_Tx_outs ty_110) ?_; refine A0 (g_len rfl rfl isl_110) ?_; refine A0 mV ?_; refine CNB ?_; refine aw_ren 2 1 3 rfl rfl rfl rfl rfl rfl ?_
   refine aw_rerow (y := putOuts t 0) (n := 1) rfl (by simp [putOuts]) ?_
   refine Lp (ι := Nat) 2 (fun (k : Nat) => (((((Fr.none).set 1 (.ptr 0 0)).set 4 (.own 1)).set 42 (.val (sl outT) t.outs)).set 43 (.val i64T (t.outs.length : Int))).set 44 (.val i64T (k : Int))) (fun (k : Nat) => ((Hp.none).set 0 (.box 112 txT t)).set 1 (.row 5 u8T (putOuts t k))) (fun (k : Nat) => k ≤ t.outs.length ∧ (putOuts t k).length = 7 * k + 2 + 33 * t.ins.length) (fun (k : Nat) => t.outs.length - k) (0) (⟨Nat.zero_le _, by simp [putOuts, hpl]; omega⟩) ?_
   intro k hinv
   refine CQR ?_; refine A0 o_lss ?_; refine CNQ ?_
   refine Cf (p := k < t.outs.length) (fun ht45 => ?_) (fun ht45 => ?_)
   ·
    obtain ⟨x, hx⟩ : ∃ x, t.outs[k]? = some x := ⟨_, List.getElem?_eq_getElem ht45⟩
    refine CSQBQR ?_; refine A0 (g_ia_n rfl rfl rfl sl_110 (by assumption)) ?_; refine A0 (g_load_r rfl rfl ty_123) ?_; refine aw_alloc ze_123 rfl rfl rfl rfl ?_; refine aw_store_b rfl rfl rfl rfl rfl (Lens.self _) ty_123 rfl ?_; refine CN ?_
    refine aw_drawx [some 1, some 1, some 1, some 1, some 1, none, some 2, some 2, some 2, some 2, none, some 1] mixed (by decide +kernel) ?_; refine X0 mO ?_; refine X0 (oFp fd_123_0) ?_; refine X0 (oLb L_Out_v ty_3) ?_
    refine X0 (g_cv64 rfl (ui_28) (us_3) rfl) ?_; refine X0 (oCl (tells_pub (binPut_ok _ 6 (by decide))) rfl fn_112 ⟨(arg_v rfl), (arg_v rfl), trivial⟩) ?_
    refine XK.e (fun fr' hfr kk H => by exact aw_append rfl rfl rfl rfl ((hfr 48 (by decide +kernel)).trans rfl) rfl ((hfr 52 (by decide +kernel)).trans rfl) row_101 (by simp only [List.length_append, List.length_cons, List.length_nil, numBytes_len]; omega) (aw_nil H)) ?_
    refine XK.g2 (g_fa_p rfl rfl fd_123_1 rfl) (g_fa_p rfl rfl fd_123_1 rfl) rfl rfl rfl ?_; refine XK.gb (t := 54) rfl rfl (fun _ he => g_load_b rfl rfl he L_Out_to ty_3) rfl ⟨rfl, rfl, trivial⟩ rfl rfl rfl ?_
    refine XK.g2 (g_cv8 rfl (ui_5) (us_3) rfl) (g_cv8 rfl (ui_5) (us_3) rfl) rfl rfl rfl ?_
    refine XK.g2 (g_bslice (T := u8T) (xs := [_]) rfl sl_101 row_101 ⟨rfl, rfl, trivial⟩ rfl rfl) (g_bslice (T := u8T) (xs := [_]) rfl sl_101 row_101 ⟨rfl, rfl, trivial⟩ rfl rfl) rfl rfl rfl ?_
    refine XK.e (fun fr' hfr kk H => by exact aw_append rfl rfl rfl rfl ((hfr 53 (by decide +kernel)).trans rfl) rfl ((hfr 57 (by decide +kernel)).trans rfl) row_101 (by simp only [List.length_append, List.length_cons, List.length_nil, numBytes_len]; omega) (aw_nil H)) ?_
    refine X0 aO ?_; refine XK.nil' ?_; refine CI ?_; refine CR ?_; refine A0 o_add ?_; refine A0 mV ?_; refine CN ?_; refine aw_ren 4 1 5 rfl rfl rfl rfl rfl rfl ?_; refine aw_rerow (n := 1) rfl (putOuts_step hx).symm ?_
    exact Nx (k + 1) (⟨by omega, by rw [putOuts_step hx]; simp only [List.length_append, List.length_cons, List.length_nil, numBytes_len]; omega⟩) (by omega)
   ·
    refine CE ?_; refine CQR ?_; refine A0 mO ?_; refine A0 aO ?_; refine A0 aV ?_; refine CN ?_
    exact aw_ret2 rfl rfl (ret_fresh_eq rfl rfl (by rw [if_pos hmay, show k = t.outs.length by omega]; rfl)) (ret_eq rfl hmay.symm)
end Go.Proofs.YtgoebfjaaklopaaGreat
set_option maxRecDepth 20000
namespace Go.Proofs.YtgoebfjaaklopaaGreat
set_option linter.unusedVariables false
set_option linter.unusedSimpArgs false
open Go.Ab Go.RowKit
def rr (x : UInt32) (n : Int) : UInt32 := rotl x (IntKind.i64.wrap (0 - n))
def beWord (x0 x1 x2 x3 : UInt8) : UInt32 := shl32 (u32OfI (IntL.toI u8T x0)) 24 ||| shl32 (u32OfI (IntL.toI u8T x1)) 16 ||| shl32 (u32OfI (IntL.toI u8T x2)) 8 ||| u32OfI (IntL.toI u8T x3)
def schedWord (a b x y : UInt32) : UInt32 := a + b + (rr x 7 ^^^ rr x 18 ^^^ shr32 x 3) + (rr y 17 ^^^ rr y 19 ^^^ shr32 y 10)
def schedStep (b : List UInt8) (w : List UInt32) (i : Nat) : List UInt32 :=
  if i < 16 then w.set i (beWord (b.getD (4 * i) default) (b.getD (4 * i + 1) default) (b.getD (4 * i + 2) default) (b.getD (4 * i + 3) default))
  else w.set i (schedWord (w.getD (i - 16) default) (w.getD (i - 7) default) (w.getD (i - 15) default) (w.getD (i - 2) default))
def schedN (b : List UInt8) (k : Nat) : List UInt32 := (List.range k).foldl (schedStep b) (List.replicate 64 0)
def roundX (v w : List UInt32) (i : Nat) : UInt32 := v.getD 7 default + (rr (v.getD 4 default) 6 ^^^ rr (v.getD 4 default) 11 ^^^ rr (v.getD 4 default) 25) + ((v.getD 4 default &&& v.getD 5 default) ^^^ (~~~ (v.getD 4 default) &&& v.getD 6 default)) + shaK.getD i default + w.getD i default
def roundY (v : List UInt32) : UInt32 := (rr (v.getD 0 default) 2 ^^^ rr (v.getD 0 default) 13 ^^^ rr (v.getD 0 default) 22) + ((v.getD 0 default &&& v.getD 1 default) ^^^ (v.getD 0 default &&& v.getD 2 default) ^^^ (v.getD 1 default &&& v.getD 2 default))
def roundStep (w v : List UInt32) (i : Nat) : List UInt32 := [roundX v w i + roundY v, v.getD 0 default, v.getD 1 default, v.getD 2 default, v.getD 3 default + roundX v w i, v.getD 4 default, v.getD 5 default, v.getD 6 default]
def roundN (w s : List UInt32) (k : Nat) : List UInt32 := (List.range k).foldl (roundStep w) s
def sumN (v s : List UInt32) (k : Nat) : List UInt32 := (List.range k).foldl (fun s i => s.set i (s.getD i default + v.getD i default)) s
def addOf (s : List UInt32) (b : List UInt8) : List UInt32 := sumN (roundN (schedN b 64) s 64) s 8
theorem fold_succ {α : Type} {f : α → Nat → α} {z : α} {k : Nat} : (List.range (k + 1)).foldl f z = f ((List.range k).foldl f z) k := by rw [List.range_succ, List.foldl_append]; rfl
theorem sched_lo {b : List UInt8} {k : Nat} {x0 x1 x2 x3 : UInt8} (hk : k < 16) (h0 : b[4 * k]? = some x0) (h1 : b[4 * k + 1]? = some x1) (h2 : b[4 * k + 2]? = some x2) (h3 : b[4 * k + 3]? = some x3) : (schedN b k).set k (beWord x0 x1 x2 x3) = schedN b (k + 1) := by
  unfold schedN
  rw [fold_succ]
  unfold schedStep
  rw [if_pos hk]
  simp only [List.getD_eq_getElem?_getD, h0, h1, h2, h3, Option.getD_some]
theorem sched_hi {b : List UInt8} {k : Nat} (hk : ¬ k < 16) : (schedN b k).set k (schedWord ((schedN b k).getD (k - 16) default) ((schedN b k).getD (k - 7) default) ((schedN b k).getD (k - 15) default) ((schedN b k).getD (k - 2) default)) = schedN b (k + 1) := by
  have e : schedN b (k + 1) = schedStep b (schedN b k) k := fold_succ
  rw [e]; unfold schedStep; rw [if_neg hk]
theorem round_succ {w s : List UInt32} {k : Nat} : roundStep w (roundN w s k) k = roundN w s (k + 1) := fold_succ.symm
theorem sum_succ {v s : List UInt32} {k : Nat} {x : UInt32} (h : v[k]? = some x) : (sumN v s k).set k ((sumN v s k).getD k default + x) = sumN v s (k + 1) := by
  have e : sumN v s (k + 1) = _ := fold_succ
  rw [e]
  show _ = (sumN v s k).set k ((sumN v s k).getD k default + v.getD k default)
  rw [List.getD_eq_getElem?_getD (l := v), h]; rfl
theorem roundN_len {w s : List UInt32} (hs : s.length = 8) : ∀ k, (roundN w s k).length = 8
  | 0 => hs
  | k + 1 => by rw [← round_succ]; rfl
theorem add_ok (s : List UInt32) (b : List UInt8) (hb : b.length = 64) (hs : s.length = 8) : TellsM P 156 (.box 196 (arrT 8 (by decide) u32T) s) [.ptr 0 0, .val (bsl u8T) b] (.lit (.tuple #[])) (.box 196 (arrT 8 (by decide) u32T) (addOf s b)) := by
 refine fnm_of_aw trivial Tryz.func156 rfl rfl ⟨Nat.one_pos, ⟨trivial, trivial⟩⟩ (fun ext pg w hext hgr => ?_)
 refine aw_fact (d := 1) rfl fact_sl (fun hsl1 => ?_)
 refine CQR ?_; refine aw_alloc ze_227 rfl rfl rfl rfl ?_; refine CNQQR ?_; refine A0 mV ?_; refine CNB ?_
 refine Lp (ι := Nat) 2 (fun (k : Nat) => ((((Fr.none).set 0 (.ptr 0 0)).set 1 (.val (bsl u8T) b)).set 4 (.ptr 1 0)).set 17 (.val i64T (k : Int))) (fun (k : Nat) => ((Hp.none).set 0 (.box 196 (arrT 8 (by decide) u32T) s)).set 1 (.box 227 (arrT 64 (by decide) u32T) (schedN b k))) (fun (k : Nat) => k ≤ 64) (fun (k : Nat) => 64 - k) (0) (Nat.zero_le _) ?_
 intro k hinv
 refine CQR ?_; refine A0 o_lss ?_; refine CNQ ?_
 refine Cf (p := k < 64) (fun ht18 => ?_) (fun ht18 => ?_)
 ·
  refine CSQBQR ?_; refine A0 mV ?_; refine A0 aV ?_; refine CNQQR ?_; refine A0 mV ?_; refine A0 o_lss ?_; refine CN ?_
  refine Cf (p := k < 16) (fun ht21 => ?_) (fun ht21 => ?_)
  ·
   obtain ⟨x0, hx0⟩ : ∃ x, b[4 * k]? = some x := ⟨_, List.getElem?_eq_getElem (by omega)⟩
   obtain ⟨x1, hx1⟩ : ∃ x, b[4 * k + 1]? = some x := ⟨_, List.getElem?_eq_getElem (by omega)⟩
   obtain ⟨x2, hx2⟩ : ∃ x, b[4 * k + 2]? = some x := ⟨_, List.getElem?_eq_getElem (by omega)⟩
   obtain ⟨x3, hx3⟩ : ∃ x, b[4 * k + 3]? = some x := ⟨_, List.getElem?_eq_getElem (by omega)⟩
   refine CQ ?_
   refine aw_drawx [some 1, some 1, some 1, some 1, some 1, some 1, some 1, some 1, some 1, some 1, some 1, some 1, some 1, some 1, some 1, some 1, some 1, some 1, some 1, some 1, some 1, some 1, some 1, some 1, some 1, some 1, some 1, some 1, some 1, some 1, some 1, some 1, some 1, some 1, some 1, none] mixed (by decide +kernel) ?_
   refine X0 mV ?_; refine X0 mV ?_; refine X0 mV ?_; refine X0 o_mul ?_; refine X0 (g_ia_i (i := 4 * k) rfl rfl rfl (by omega) sl_101 (by assumption)) ?_; refine X0 (g_load_r rfl rfl ty_5) ?_; refine X0 (g_cv32 rfl (ui_31) (us_5) rfl) ?_
   refine X0 (g_shl32 rfl rfl rfl (by first | decide | (simp [IntL.toI]; done) | (simp [IntL.toI]; omega)) rfl) ?_; refine X0 mV ?_; refine X0 mV ?_; refine X0 o_mul ?_; refine X0 o_add ?_
   refine X0 (g_ia_i (i := 4 * k + 1) rfl rfl rfl (by omega) sl_101 (by assumption)) ?_; refine X0 (g_load_r rfl rfl ty_5) ?_; refine X0 (g_cv32 rfl (ui_31) (us_5) rfl) ?_
   refine X0 (g_shl32 rfl rfl rfl (by first | decide | (simp [IntL.toI]; done) | (simp [IntL.toI]; omega)) rfl) ?_; refine X0 (g_or32 rfl rfl rfl) ?_; refine X0 mV ?_; refine X0 mV ?_; refine X0 o_mul ?_; refine X0 o_add ?_
   refine X0 (g_ia_i (i := 4 * k + 2) rfl rfl rfl (by omega) sl_101 (by assumption)) ?_; refine X0 (g_load_r rfl rfl ty_5) ?_; refine X0 (g_cv32 rfl (ui_31) (us_5) rfl) ?_
   refine X0 (g_shl32 rfl rfl rfl (by first | decide | (simp [IntL.toI]; done) | (simp [IntL.toI]; omega)) rfl) ?_; refine X0 (g_or32 rfl rfl rfl) ?_; refine X0 mV ?_; refine X0 mV ?_; refine X0 o_mul ?_; refine X0 o_add ?_
   refine X0 (g_ia_i (i := 4 * k + 3) rfl rfl rfl (by omega) sl_101 (by assumption)) ?_; refine X0 (g_load_r rfl rfl ty_5) ?_; refine X0 (g_cv32 rfl (ui_31) (us_5) rfl) ?_; refine X0 (g_or32 rfl rfl rfl) ?_
   refine X0 (g_ia_b0 (i := k) rfl rfl rfl (by first | omega | rfl) ar_227 (by omega)) ?_
   refine XK.e (x := .idk) (fun fr' hfr kk H => by exact aw_store_b rfl rfl rfl ((hfr 56 (by decide +kernel)).trans rfl) rfl (Lens.elem (i := k) (by omega) u32T) ty_31 ((hfr 55 (by decide +kernel)).trans rfl) (aw_nil H)) ?_; refine XK.nil' ?_
   refine CE ?_; refine CR ?_; refine A0 o_add ?_; refine A0 mV ?_; refine CN ?_; refine aw_reheap (n := 1) rfl (sched_lo ht21 hx0 hx1 hx2 hx3) ?_
   exact Nx (k + 1) (by omega) (by omega)
  ·
   refine CS ?_; refine CQ ?_; refine CD mixed ?_; refine G0 mV ?_; refine G0 o_sub ?_; refine G0 (g_ia_b0 (i := k - 15) rfl rfl rfl (by first | omega | rfl) ar_227 (by omega)) ?_
   refine G0 (g_load_b rfl rfl rfl (Lens.elem (i := k - 15) (by omega) u32T) ty_31) ?_; refine G0 mV ?_; refine G0 o_sub ?_; refine G0 (g_ia_b0 (i := k - 2) rfl rfl rfl (by first | omega | rfl) ar_227 (by omega)) ?_
   refine G0 (g_load_b rfl rfl rfl (Lens.elem (i := k - 2) (by omega) u32T) ty_31) ?_; refine G0 aV ?_; refine G0 aV ?_; refine GK.nil ?_
   refine aw_drawx [some 1, some 1, some 1, some 1, some 1, some 1, some 1, some 1, some 1, some 1, some 1, some 1, some 1, some 1, some 1, some 1, some 1, some 1, some 1, some 1, some 1, some 1, some 1, some 1, some 1, some 1, some 1, some 1, some 1, none] mixed (by decide +kernel) ?_
   refine X0 mV ?_; refine X0 mV ?_; refine X0 o_sub ?_; refine X0 (g_ia_b0 (i := k - 16) rfl rfl rfl (by first | omega | rfl) ar_227 (by omega)) ?_; refine X0 (g_load_b rfl rfl rfl (Lens.elem (i := k - 16) (by omega) u32T) ty_31) ?_
   refine X0 mV ?_; refine X0 o_sub ?_; refine X0 (g_ia_b0 (i := k - 7) rfl rfl rfl (by first | omega | rfl) ar_227 (by omega)) ?_; refine X0 (g_load_b rfl rfl rfl (Lens.elem (i := k - 7) (by omega) u32T) ty_31) ?_
   refine X0 (g_add32 rfl rfl rfl) ?_; refine X0 mV ?_; refine X0 (oCl (right_ok _ _) rfl fn_197 ⟨(arg_v rfl), (arg_v rfl), trivial⟩) ?_; refine X0 mV ?_; refine X0 (oCl (right_ok _ _) rfl fn_197 ⟨(arg_v rfl), (arg_v rfl), trivial⟩) ?_
   refine X0 (g_xor32 rfl rfl rfl) ?_; refine X0 mV ?_; refine X0 (g_shr32 rfl rfl rfl (by first | decide | (simp [IntL.toI]; done) | (simp [IntL.toI]; omega)) rfl) ?_; refine X0 (g_xor32 rfl rfl rfl) ?_; refine X0 (g_add32 rfl rfl rfl) ?_
   refine X0 mV ?_; refine X0 (oCl (right_ok _ _) rfl fn_197 ⟨(arg_v rfl), (arg_v rfl), trivial⟩) ?_; refine X0 mV ?_; refine X0 (oCl (right_ok _ _) rfl fn_197 ⟨(arg_v rfl), (arg_v rfl), trivial⟩) ?_; refine X0 (g_xor32 rfl rfl rfl) ?_
   refine X0 mV ?_; refine X0 (g_shr32 rfl rfl rfl (by first | decide | (simp [IntL.toI]; done) | (simp [IntL.toI]; omega)) rfl) ?_; refine X0 (g_xor32 rfl rfl rfl) ?_; refine X0 (g_add32 rfl rfl rfl) ?_
   refine X0 (g_ia_b0 (i := k) rfl rfl rfl (by first | omega | rfl) ar_227 (by omega)) ?_
   refine XK.e (x := .idk) (fun fr' hfr kk H => by exact aw_store_b rfl rfl rfl ((hfr 93 (by decide +kernel)).trans rfl) rfl (Lens.elem (i := k) (by omega) u32T) ty_31 ((hfr 92 (by decide +kernel)).trans rfl) (aw_nil H)) ?_; refine XK.nil' ?_
   refine CI ?_; refine CR ?_; refine A0 o_add ?_; refine A0 mV ?_; refine CN ?_; refine aw_reheap (n := 1) rfl (sched_hi ht21) ?_
   exact Nx (k + 1) (by omega) (by omega)
 ·
  obtain rfl : k = 64 := (by omega)
  refine CE ?_; refine CQR ?_; refine A0 (oCl (numbers_ok) rfl fn_198 trivial) ?_; refine aw_alloc ze_227 rfl rfl rfl rfl ?_; refine aw_store_b rfl rfl rfl rfl rfl (Lens.self _) ty_227 rfl ?_; refine CNQR ?_; refine A0 mP ?_
  refine A0 (g_nc rfl rfl) ?_; refine A0 (oLs rfl rfl rfl ty_196) ?_; refine aw_alloc ze_196 rfl rfl rfl rfl ?_; refine aw_store_b rfl rfl rfl rfl rfl (Lens.self _) ty_196 rfl ?_; refine CNQQR ?_; refine A0 mV ?_; refine CNB ?_
  refine Lp (ι := Nat) 4 (fun (k : Nat) => (((((Fr.none).set 0 (.ptr 0 0)).set 4 (.ptr 1 0)).set 8 (.ptr 2 0)).set 9 (.ptr 3 0)).set 99 (.val i64T (k : Int))) (fun (k : Nat) => ((((Hp.none).set 0 (.box 196 (arrT 8 (by decide) u32T) s)).set 1 (.box 227 (arrT 64 (by decide) u32T) (schedN b 64))).set 2 (.box 227 (arrT 64 (by decide) u32T) shaK)).set 3 (.box 196 (arrT 8 (by decide) u32T) (roundN (schedN b 64) s k))) (fun (k : Nat) => k ≤ 64) (fun (k : Nat) => 64 - k) (0) (Nat.zero_le _) ?_
  intro k hinv
  refine CQR ?_; refine A0 o_lss ?_; refine CNQ ?_
  refine Cf (p := k < 64) (fun ht100 => ?_) (fun ht100 => ?_)
  ·
   refine CSQBQR ?_; refine A0 mV ?_; refine A0 aV ?_; refine CNQ ?_; refine CD mixed ?_; refine G0 (g_ia_b0 (i := 0) rfl rfl rfl (by first | omega | rfl) ar_196 (by omega)) ?_
   refine G0 (g_load_b rfl rfl rfl (Lens.elem (i := 0) (by omega) u32T) ty_31) ?_; refine G0 (g_ia_b0 (i := 4) rfl rfl rfl (by first | omega | rfl) ar_196 (by omega)) ?_
   refine G0 (g_load_b rfl rfl rfl (Lens.elem (i := 4) (by omega) u32T) ty_31) ?_; refine G0 aV ?_; refine G0 aV ?_; refine GK.nil ?_; refine CQ ?_; refine CD mixed ?_
   refine G0 (g_ia_b0 (i := 7) rfl rfl rfl (by first | omega | rfl) ar_196 (by omega)) ?_; refine G0 (g_load_b rfl rfl rfl (Lens.elem (i := 7) (by omega) u32T) ty_31) ?_; refine G0 mV ?_
   refine G0 (oCl (right_ok _ _) rfl fn_197 ⟨(arg_v rfl), (arg_v rfl), trivial⟩) ?_; refine G0 mV ?_; refine G0 (oCl (right_ok _ _) rfl fn_197 ⟨(arg_v rfl), (arg_v rfl), trivial⟩) ?_; refine G0 (g_xor32 rfl rfl rfl) ?_; refine G0 mV ?_
   refine G0 (oCl (right_ok _ _) rfl fn_197 ⟨(arg_v rfl), (arg_v rfl), trivial⟩) ?_; refine G0 (g_xor32 rfl rfl rfl) ?_; refine G0 (g_add32 rfl rfl rfl) ?_; refine G0 mV ?_
   refine G0 (g_ia_b0 (i := 5) rfl rfl rfl (by first | omega | rfl) ar_196 (by omega)) ?_; refine G0 (g_load_b rfl rfl rfl (Lens.elem (i := 5) (by omega) u32T) ty_31) ?_; refine G0 (g_and32 rfl rfl rfl) ?_; refine G0 mV ?_
   refine G0 (g_not32 rfl rfl) ?_; refine G0 (g_ia_b0 (i := 6) rfl rfl rfl (by first | omega | rfl) ar_196 (by omega)) ?_; refine G0 (g_load_b rfl rfl rfl (Lens.elem (i := 6) (by omega) u32T) ty_31) ?_; refine G0 (g_and32 rfl rfl rfl) ?_
   refine G0 (g_xor32 rfl rfl rfl) ?_; refine G0 (g_add32 rfl rfl rfl) ?_; refine G0 mV ?_; refine G0 (g_ia_b0 (i := k) rfl rfl rfl (by first | omega | rfl) ar_227 (by omega)) ?_
   refine G0 (g_load_b rfl rfl rfl (Lens.elem (i := k) (by omega) u32T) ty_31) ?_; refine G0 (g_add32 rfl rfl rfl) ?_; refine G0 mV ?_; refine G0 (g_ia_b0 (i := k) rfl rfl rfl (by first | omega | rfl) ar_227 (by omega)) ?_
   refine G0 (g_load_b rfl rfl rfl (Lens.elem (i := k) (by omega) u32T) ty_31) ?_; refine G0 (g_add32 rfl rfl rfl) ?_; refine G0 aV ?_; refine GK.nil ?_; refine CQ ?_; refine CD mixed ?_; refine G0 mV ?_
   refine G0 (oCl (right_ok _ _) rfl fn_197 ⟨(arg_v rfl), (arg_v rfl), trivial⟩) ?_; refine G0 mV ?_; refine G0 (oCl (right_ok _ _) rfl fn_197 ⟨(arg_v rfl), (arg_v rfl), trivial⟩) ?_; refine G0 (g_xor32 rfl rfl rfl) ?_; refine G0 mV ?_
   refine G0 (oCl (right_ok _ _) rfl fn_197 ⟨(arg_v rfl), (arg_v rfl), trivial⟩) ?_; refine G0 (g_xor32 rfl rfl rfl) ?_; refine G0 mV ?_; refine G0 (g_ia_b0 (i := 1) rfl rfl rfl (by first | omega | rfl) ar_196 (by omega)) ?_
   refine G0 (g_load_b rfl rfl rfl (Lens.elem (i := 1) (by omega) u32T) ty_31) ?_; refine G0 (g_and32 rfl rfl rfl) ?_; refine G0 mV ?_; refine G0 (g_ia_b0 (i := 2) rfl rfl rfl (by first | omega | rfl) ar_196 (by omega)) ?_
   refine G0 (g_load_b rfl rfl rfl (Lens.elem (i := 2) (by omega) u32T) ty_31) ?_; refine G0 (g_and32 rfl rfl rfl) ?_; refine G0 (g_xor32 rfl rfl rfl) ?_; refine G0 (g_ia_b0 (i := 1) rfl rfl rfl (by first | omega | rfl) ar_196 (by omega)) ?_
   refine G0 (g_load_b rfl rfl rfl (Lens.elem (i := 1) (by omega) u32T) ty_31) ?_; refine G0 (g_ia_b0 (i := 2) rfl rfl rfl (by first | omega | rfl) ar_196 (by omega)) ?_
   refine G0 (g_load_b rfl rfl rfl (Lens.elem (i := 2) (by omega) u32T) ty_31) ?_; refine G0 (g_and32 rfl rfl rfl) ?_; refine G0 (g_xor32 rfl rfl rfl) ?_; refine G0 (g_add32 rfl rfl rfl) ?_; refine G0 aV ?_; refine GK.nil ?_; refine CR ?_
   refine A0 mV ?_; refine A0 mV ?_; refine A0 (g_add32 rfl rfl rfl) ?_; refine A0 mV ?_; refine A0 (g_ia_b0 (i := 1) rfl rfl rfl (by first | omega | rfl) ar_196 (by omega)) ?_
   refine A0 (g_load_b rfl rfl rfl (Lens.elem (i := 1) (by omega) u32T) ty_31) ?_; refine A0 (g_ia_b0 (i := 2) rfl rfl rfl (by first | omega | rfl) ar_196 (by omega)) ?_
   refine A0 (g_load_b rfl rfl rfl (Lens.elem (i := 2) (by omega) u32T) ty_31) ?_; refine A0 (g_ia_b0 (i := 3) rfl rfl rfl (by first | omega | rfl) ar_196 (by omega)) ?_
   refine A0 (g_load_b rfl rfl rfl (Lens.elem (i := 3) (by omega) u32T) ty_31) ?_; refine A0 mV ?_; refine A0 (g_add32 rfl rfl rfl) ?_; refine A0 mV ?_; refine A0 (g_ia_b0 (i := 5) rfl rfl rfl (by first | omega | rfl) ar_196 (by omega)) ?_
   refine A0 (g_load_b rfl rfl rfl (Lens.elem (i := 5) (by omega) u32T) ty_31) ?_; refine A0 (g_ia_b0 (i := 6) rfl rfl rfl (by first | omega | rfl) ar_196 (by omega)) ?_
   refine A0 (g_load_b rfl rfl rfl (Lens.elem (i := 6) (by omega) u32T) ty_31) ?_
   refine A0 (g_buildA (T := u32T) (xs := [_, _, _, _, _, _, _, _]) rfl ar_196 ze_196 ⟨rfl, rfl, rfl, rfl, rfl, rfl, rfl, rfl, rfl, rfl, rfl, rfl, rfl, rfl, rfl, rfl, trivial⟩ rfl) ?_
   refine aw_store_b rfl rfl rfl rfl rfl (Lens.self _) ty_196 rfl ?_; refine CNIR ?_; refine A0 o_add ?_; refine A0 mV ?_; refine CN ?_; refine aw_reheap (n := 3) rfl round_succ ?_
   exact Nx (k + 1) (by omega) (by omega)
  ·
   obtain rfl : k = 64 := (by omega)
   refine CE ?_; refine CQR ?_; refine A0 (oLs rfl rfl rfl ty_196) ?_; refine A0 mV ?_; refine CNB ?_
   refine Lp (ι := Nat) 1 (fun (k : Nat) => (((Fr.none).set 0 (.ptr 0 0)).set 179 (.val (arrT 8 (by decide) u32T) (roundN (schedN b 64) s 64))).set 180 (.val i64T (k : Int))) (fun (k : Nat) => (Hp.none).set 0 (.box 196 (arrT 8 (by decide) u32T) (sumN (roundN (schedN b 64) s 64) s k))) (fun (k : Nat) => k ≤ 8) (fun (k : Nat) => 8 - k) (0) (Nat.zero_le _) ?_
   intro k hinv
   refine CQR ?_; refine A0 o_lss ?_; refine CNQ ?_
   refine Cf (p := k < 8) (fun ht181 => ?_) (fun ht181 => ?_)
   ·
    obtain ⟨x, hx⟩ : ∃ x, (roundN (schedN b 64) s 64)[k]? = some x := ⟨_, List.getElem?_eq_getElem (by rw [roundN_len hs]; exact ht181)⟩
    refine CSQBQR ?_; refine A0 mV ?_; refine A0 (g_index rfl rfl rfl rfl ar_196 ty_31 (by assumption)) ?_; refine A0 aV ?_; refine A0 aV ?_; refine CN ?_
    refine aw_drawx [some 1, some 1, some 1, some 1, some 1, some 1, some 1, some 1, some 1, none] mixed (by decide +kernel) ?_; refine X0 mP ?_; refine X0 mV ?_; refine X0 (g_nc rfl rfl) ?_
    refine X0 (g_ia_b0 (i := k) rfl rfl rfl (by first | omega | rfl) ar_196 (by omega)) ?_; refine X0 (g_load_b rfl rfl rfl (Lens.elem (i := k) (by omega) u32T) ty_31) ?_; refine X0 mV ?_; refine X0 (g_add32 rfl rfl rfl) ?_
    refine X0 (g_nc rfl rfl) ?_; refine X0 (g_ia_b0 (i := k) rfl rfl rfl (by first | omega | rfl) ar_196 (by omega)) ?_
    refine XK.e (x := .idk) (fun fr' hfr kk H => by exact aw_store_b rfl rfl rfl ((hfr 192 (by decide +kernel)).trans rfl) rfl (Lens.elem (i := k) (by omega) u32T) ty_31 ((hfr 190 (by decide +kernel)).trans rfl) (aw_nil H)) ?_; refine XK.nil' ?_
    refine CI ?_; refine CR ?_; refine A0 o_add ?_; refine A0 mV ?_; refine CN ?_; refine aw_reheap (n := 0) rfl (sum_succ hx) ?_
    exact Nx (k + 1) (by omega) (by omega)
   ·
    obtain rfl : k = 8 := (by omega)
    refine CE ?_
    exact aw_fallm0 rfl rfl rfl rfl rfl (give_box rfl rfl)
end Go.Proofs.YtgoebfjaaklopaaGreat
set_option maxRecDepth 20000
namespace Go.Proofs.YtgoebfjaaklopaaGreat
set_option linter.unusedVariables false
set_option linter.unusedSimpArgs false
open Go.Ab Go.RowKit
theorem padOf_len (b : List UInt8) : (padOf b).length = 64 * ((b.length + padZ b.length + 9) / 64) := by
  have h : (padOf b).length = b.length + padZ b.length + 9 := by
    unfold padOf
    rw [List.length_append, padOf_pre]
    unfold numBytes
    simp; omega
  rw [h]; unfold padZ; omega
def shaH : List UInt32 := [1779033703, 3144134277, 1013904242, 2773480762, 1359893119, 2600822924, 528734635, 1541459225]
def shaN (p : List UInt8) (n : Nat) : List UInt32 := (List.range n).foldl (fun s i => addOf s ((p.take (64 * i + 64)).drop (64 * i))) shaH
def shaWords (b : List UInt8) : List UInt32 := shaN (padOf b) ((padOf b).length / 64)
def shaByte (v : List UInt32) (i : Nat) : UInt8 := u8OfI (IntL.toI u32T (shr32 (v.getD (i / 4) default) (24 - 8 * (i % 4))))
def shaSum (b : List UInt8) : Ab.Id := (List.range 32).map (shaByte (shaWords b))
def shaOut (v : List UInt32) (k : Nat) : Ab.Id := (List.range k).foldl (fun l i => l.set i (shaByte v i)) zId
theorem fold_set_get {α : Type} (f : Nat → α) (l : List α) : ∀ k j, ((List.range k).foldl (fun l i => l.set i (f i)) l)[j]? = if j < k ∧ j < l.length then some (f j) else l[j]?
  | 0, j => by simp
  | k + 1, j => by
    rw [List.range_succ, List.foldl_append]
    show (List.set _ k (f k))[j]? = _
    have hl : ∀ k, ((List.range k).foldl (fun l i => l.set i (f i)) l).length = l.length := fun k => by
      induction k with
      | zero => rfl
      | succ k ih => rw [List.range_succ, List.foldl_append]; simp only [List.foldl_cons, List.foldl_nil, List.length_set]; exact ih
    rw [List.getElem?_set, fold_set_get f l k j, hl]
    by_cases c : k = j
    · subst c
      by_cases d : k < l.length
      · simp [d]
      · simp [d]
    · rw [if_neg c]
      by_cases d : j < k
      · have : j < k + 1 := by omega
        simp [d, this]
      · have : ¬ j < k + 1 := by omega
        simp [d, this]
theorem shaOut_all (v : List UInt32) : shaOut v 32 = (List.range 32).map (shaByte v) := by
  apply List.ext_getElem?
  intro j
  unfold shaOut
  rw [fold_set_get, List.getElem?_map]
  have hz : zId.length = 32 := rfl
  rw [hz]
  by_cases c : j < 32
  · rw [if_pos ⟨c, c⟩, List.getElem?_range c]; rfl
  · rw [if_neg (fun h => c h.1), List.getElem?_eq_none (by first | (rw [hz]; omega) | (rw [List.length_range]; omega)), List.getElem?_eq_none (by first | (rw [hz]; omega) | (rw [List.length_range]; omega))]; rfl
theorem shaOut_succ {v : List UInt32} {k : Nat} {x : UInt8} (h : x = shaByte v k) : (shaOut v k).set k x = shaOut v (k + 1) := by
  subst h
  unfold shaOut
  rw [List.range_succ, List.foldl_append]; rfl
theorem shaN_succ {p : List UInt8} {k : Nat} : addOf (shaN p k) ((p.take (64 * k + 64)).drop (64 * k)) = shaN p (k + 1) := by
  unfold shaN
  rw [List.range_succ, List.foldl_append]; rfl
theorem sumN_len {v s : List UInt32} : ∀ k, (sumN v s k).length = s.length
  | 0 => rfl
  | k + 1 => by
    unfold sumN
    rw [List.range_succ, List.foldl_append]
    simp only [List.foldl_cons, List.foldl_nil, List.length_set]
    exact sumN_len k
theorem shaN_len (p : List UInt8) : ∀ k, (shaN p k).length = 8
  | 0 => rfl
  | k + 1 => by rw [← shaN_succ]; unfold addOf; rw [sumN_len]; exact shaN_len p k
theorem sum_ok (b : List UInt8) (hb : b.length ≤ 70368744177664) : Tells P 113 [.val (sl u8T) b] (.val idT (shaSum b)) := by
 obtain ⟨m, hm⟩ : ∃ m, m = (b.length + padZ b.length + 9) / 64 := ⟨_, rfl⟩
 have hz2 : padZ b.length < 64 := by unfold padZ; omega
 have hpl : (padOf b).length = 64 * m := by rw [padOf_len, hm]
 have hmb : m ≤ 2000000000000 := by omega
 refine fn_of_aw Tryz.func113 rfl rfl rfl (fun ext w hext => ?_)
 refine aw_fact (d := 0) rfl fact_sl (fun hsl0 => ?_)
 refine CQR ?_; refine aw_alloc ze_27 rfl rfl rfl rfl ?_; refine CNQR ?_
 refine A0 (g_buildA (T := u32T) (xs := [_, _, _, _, _, _, _, _]) rfl ar_196 ze_196 ⟨rfl, rfl, rfl, rfl, rfl, rfl, rfl, rfl, rfl, rfl, rfl, rfl, rfl, rfl, rfl, rfl, trivial⟩ rfl) ?_; refine aw_box rfl rfl rfl rfl rfl ?_
 refine aw_alloc_p zp_194 rfl rfl rfl rfl rfl rfl ?_; refine aw_store_p rfl rfl rfl rfl rfl rfl rfl rfl rfl rfl ty_194 ?_; refine CNQQR ?_; refine A0 mV ?_; refine A0 (oCl (tells_pub (pad_ok b hb)) rfl fn_155 ⟨(arg_v rfl), trivial⟩) ?_
 refine aw_inline rfl rfl rfl rfl Tryz.func154 fn_154 rfl rfl (fun ia2 iok2 => ?_)
 refine CQR ?_; refine aw_box rfl rfl rfl rfl rfl ?_; refine aw_box rfl rfl rfl rfl rfl ?_; refine A0 aL ?_; refine CNQQR ?_; refine A0 (oLs rfl rfl rfl ty_3) ?_; refine A0 o_lss ?_; refine CN ?_; refine aw_if_f rfl (by decide) ?_
 refine CSQR ?_; refine A0 (g_mkf (caps := [_, _]) rfl rfl) ?_; refine A0 aC ?_; refine CN ?_; refine aw_back1 rfl ?_; refine CNB ?_
 refine aw_range rfl rfl rfl Tryz.func196 fn_196 rfl rfl (by intro n hn; simp only [List.mem_cons, List.not_mem_nil, or_false] at hn; rcases hn with rfl | rfl <;> rfl) (fun fid3 ca3 lN3 DN3 cok3 rc3 hrc3 => ?_)
 refine CQR ?_; refine A0 aV ?_; refine CNB ?_
 refine Lp (ι := Nat) 7 (fun (k : Nat) => ((((Fr.none).set 0 (.lit (.func (.yield lN3) #[] #[]))).set 1 (.ptr 3 0)).set 2 (.ptr 4 0)).set 4 (.val i64T ((64 * k : Nat) : Int))) (fun (k : Nat) => (((((((Hp.none).set 0 (.box 27 idT zId)).set 1 (.box 196 (arrT 8 (by decide) u32T) (shaN (padOf b) k))).set 2 (.parts 194 [.ptr 1 0])).set 3 (.box 101 (sl u8T) (padOf b))).set 4 (.box 3 i64T 64)).set 5 (.objAt DN3 (.deferred (some [])))).set 6 (.objAt lN3 (rc3 .ready none))) (fun (k : Nat) => k ≤ m) (fun (k : Nat) => m - k) (0) (Nat.zero_le _) ?_
 intro k hinv
 refine CQQR ?_; refine A0 mV ?_; refine A0 (oLs rfl rfl rfl ty_101) ?_; refine A0 (g_len rfl rfl isl_101) ?_; refine A0 o_lss ?_; refine CN ?_
 refine Cf (p := 64 * k < (padOf b).length) (fun ht9 => ?_) (fun ht9 => ?_)
 ·
  refine CS ?_; refine CQ ?_; refine CB ?_; refine CQ ?_; refine CD mixed ?_; refine G0 (oLs rfl rfl rfl ty_3) ?_; refine G0 (oLs rfl rfl rfl ty_101) ?_; refine G0 mV ?_
  refine G0 (g_sl_l rfl rfl rfl sl_101 (by first | assumption | omega | (simp; omega))) ?_; refine G0 (g_len rfl rfl isl_101) ?_; refine G0 (g_min rfl rfl rfl) ?_; refine G0 aV ?_; refine GK.nil ?_
  refine aw_reval (d := 5) (y := (64 : Int)) rfl (by simp; omega) ?_; refine CQR ?_; refine A0 mL ?_; refine A0 (oLs rfl rfl rfl ty_101) ?_; refine A0 mV ?_; refine A0 mV ?_; refine A0 mV ?_; refine A0 o_add ?_; refine A0 mV ?_; refine A0 mV ?_
  refine A0 o_add ?_; refine A0 (g_sl_lhm rfl rfl rfl rfl rfl sl_101 (by simp; omega)) ?_; refine aw_reval (d := 28) (y := ((padOf b).take (64 * k + 64)).drop (64 * k)) rfl (by congr 1) ?_
  refine aw_yield (nL := 6) rfl rfl rfl rfl rfl hrc3 rfl rfl rfl (fun ya4 yok4 => ?_)
  refine CR ?_; refine A0 aV ?_; refine CN ?_; refine aw_begin (nL := 6) hrc3 rfl ?_; refine CB ?_; refine CR ?_; refine A0 (g_load_p rfl rfl rfl rfl rfl ty_194) ?_; refine A0 mV ?_
  refine aw_callu (add_ok (shaN (padOf b) k) (((padOf b).take (64 * k + 64)).drop (64 * k)) (by rw [List.length_drop, List.length_take]; omega) (shaN_len _ k)) rfl fn_156 rfl trivial trivial rfl ⟨(by first | exact argm_own rfl | exact argm_ptr rfl | exact argm_same rfl | exact argm_bsl rfl | exact argm_lit rfl | exact argm_clo rfl | exact argm_row rfl rfl (by decide)), (by first | exact argm_own rfl | exact argm_ptr rfl | exact argm_same rfl | exact argm_bsl rfl | exact argm_lit rfl | exact argm_clo rfl | exact argm_row rfl rfl (by decide)), trivial⟩ rfl rfl rfl ?_
  refine CN ?_; refine CI ?_; refine aw_round_end (nL := 6) hrc3 rfl ?_; refine A0 oN ?_; refine CN ?_; refine Cg ?_; refine CSIR ?_; refine A0 mV ?_; refine A0 (oLs rfl rfl rfl ty_3) ?_; refine A0 o_add ?_; refine A0 aV ?_; refine CN ?_
  refine aw_reval (d := 4) (y := ((64 * (k + 1) : Nat) : Int)) rfl (by omega) ?_; refine aw_reheap (n := 1) (y := shaN (padOf b) (k + 1)) rfl shaN_succ ?_
  exact Nx (k + 1) (by omega) (by omega)
 ·
  obtain rfl : m = k := (by omega)
  refine CE ?_; refine aw_iter_fall (nL := 6) rfl hrc3 rfl (by decide) ?_; refine CI ?_; refine CQR ?_; refine aw_alloc ze_27 rfl rfl rfl rfl ?_; refine CNQQR ?_; refine A0 mV ?_; refine CNB ?_
  refine Lp (ι := Nat) 8 (fun (j : Nat) => ((((Fr.none).set 2 (.ptr 0 0)).set 3 (.ptr 2 0)).set 5 (.ptr 7 0)).set 16 (.val i64T (j : Int))) (fun (j : Nat) => (((((Hp.none).set 0 (.box 27 idT zId)).set 1 (.box 196 (arrT 8 (by decide) u32T) (shaN (padOf b) m))).set 2 (.parts 194 [.ptr 1 0])).set 5 (.objAt DN3 (.deferred (some [])))).set 7 (.box 27 idT (shaOut (shaN (padOf b) m) j))) (fun (j : Nat) => j ≤ 32) (fun (j : Nat) => 32 - j) (0) (Nat.zero_le _) ?_
  intro j hinv
  refine CQR ?_; refine A0 o_lss ?_; refine CNQ ?_
  refine Cf (p := j < 32) (fun ht17 => ?_) (fun ht17 => ?_)
  ·
   refine CSQBQR ?_; refine A0 mV ?_; refine A0 aV ?_; refine CNR ?_; refine A0 mV ?_; refine A0 (g_load_p rfl rfl rfl rfl rfl ty_194) ?_; refine A0 mV ?_
   refine A0 (g_quo rfl rfl rfl (by first | omega | assumption) (by first | decide | omega) rfl) ?_; refine A0 (g_nc rfl rfl) ?_; refine A0 (g_ia_b0 (i := j / 4) rfl rfl rfl (by first | omega | rfl) ar_196 (by omega)) ?_
   refine A0 (g_load_b rfl rfl rfl (Lens.elem (i := j / 4) (by omega) u32T) ty_31) ?_; refine A0 mV ?_; refine A0 (g_rem rfl rfl rfl (by first | omega | assumption) (by first | decide | omega) rfl) ?_; refine A0 o_mul ?_; refine A0 o_sub ?_
   refine A0 (g_shr32 rfl rfl rfl (by first | decide | (simp [IntL.toI]; done) | (simp [IntL.toI]; omega)) rfl) ?_; refine A0 (g_cv8 rfl (ui_5) (us_31) rfl) ?_
   refine A0 (g_ia_b0 (i := j) rfl rfl rfl (by first | omega | rfl) ar_27 (by omega)) ?_; refine aw_store_b rfl rfl rfl rfl rfl (Lens.elem (i := j) (by omega) u8T) ty_5 rfl ?_; refine CNIR ?_; refine A0 o_add ?_; refine A0 mV ?_; refine CN ?_
   refine aw_reheap (n := 7) (y := shaOut (shaN (padOf b) m) (j + 1)) rfl (shaOut_succ (by unfold shaByte; congr 3; simp only [IntL.toI, id_eq]; omega)) ?_
   exact Nx (j + 1) (by omega) (by omega)
  ·
   obtain rfl : j = 32 := (by omega)
   refine CE ?_; refine CQR ?_; refine A0 (oLs rfl rfl rfl ty_27) ?_; refine aw_store_b rfl rfl rfl rfl rfl (Lens.self _) ty_27 rfl ?_; refine CN ?_
   refine aw_of_ar (ar_unmark (nD := 5) rfl rfl rfl ?_)
   exact ar_retc1 rfl rfl rfl rfl ty_27 (by rw [shaOut_all]; unfold shaSum shaWords; rw [hpl, Nat.mul_div_cancel_left m (by decide)])
def idOf (t : Tx) : Ab.Id := if mayTx t = true then shaSum ([6] ++ putTx t) else zId
theorem relAll_mem {α : Type} {T : GoT α} {U N : Nat → Prop} {w : World} : ∀ {l : List α} {cs : List Value}, relAll T U N w l cs → ∀ x ∈ l, ∃ c, T.rel U N w x c
  | [], _, _, x, hx => by cases hx
  | y :: l, _, ⟨c1, c2, _, h1, h2⟩, x, hx => by
    rcases List.mem_cons.1 hx with e | e
    · exact ⟨c1, e ▸ h1⟩
    · exact relAll_mem h2 x e
theorem fact_tx {t : Tx} {ρ : Nat → Value} {B : Nat → Prop} {U N : Nat → Prop} {w : World} {v : Value} (h : (AV.val txT t).rel ρ B U N w v) : ∀ x ∈ t.ins, x.tx.length = 32 := fun x hx => by
  obtain ⟨cs, ⟨c1, c2, _, ⟨ad, cap, _, _, _, h3⟩, _⟩, _⟩ := h
  obtain ⟨_, ds, _, _, hr, _⟩ := h3 (List.ne_nil_of_mem hx)
  obtain ⟨c, hc⟩ := relAll_mem hr x hx
  exact fact_in hc
theorem flat_len {α β : Type} {f : α → List β} {n : Nat} : ∀ {l : List α}, (∀ x ∈ l, (f x).length = n) → (l.map f).flatten.length = l.length * n
  | [], _ => by simp
  | x :: l, h => by
    rw [List.map_cons, List.flatten_cons, List.length_append, h x (by simp), flat_len (fun y hy => h y (by simp [hy])), List.length_cons, Nat.add_mul]; omega
theorem putTx_len {t : Tx} (h : mayTx t = true) (h32 : ∀ x ∈ t.ins, x.tx.length = 32) : (putTx t).length ≤ 200 := by
  obtain ⟨h1, _, h2⟩ := mayTx_lens h
  unfold putTx putOuts putIns
  have e1 := flat_len (f := putIn) (n := 33) (l := t.ins.take t.ins.length) (fun x hx => by
    rw [List.take_length] at hx
    unfold putIn
    rw [List.length_append, h32 x hx]; rfl)
  have e2 := flat_len (f := putOut) (n := 7) (l := t.outs.take t.outs.length) (fun x hx => by
    unfold putOut
    rw [List.length_append, numBytes_len]; rfl)
  rw [List.take_length] at e1 e2
  simp only [List.length_append, List.length_cons, List.length_nil, List.take_length, e1, e2]
  omega
theorem of_ok (ls : List (List UInt8)) (hl : ls.flatten.length ≤ 70368744177664) : Tells P 65 [.val (bsl (bsl u8T)) ls] (.val idT (shaSum ls.flatten)) := by
 refine fn_of_aw Tryz.func65 rfl rfl rfl (fun ext w hext => ?_)
 refine aw_fact (d := 0) rfl fact_sl (fun hsl0 => ?_)
 refine CQR ?_; refine aw_alloc ze_27 rfl rfl rfl rfl ?_; refine CNQR ?_; refine A0 mV ?_; refine A0 (oCl (tells_pub (concat_ok ls (by omega))) rfl fn_111 ⟨(arg_v rfl), trivial⟩) ?_
 refine A0 (oCl (sum_ok ls.flatten hl) rfl fn_113 ⟨(arg_v rfl), trivial⟩) ?_; refine aw_store_b rfl rfl rfl rfl rfl (Lens.self _) ty_27 rfl ?_; refine CN ?_
 exact aw_retc1 rfl rfl rfl rfl ty_27 (rfl)
theorem id_ok (t : Tx) : Tells P 146 [.val txT t] (.val idT (idOf t)) := by
 refine fn_of_aw Tryz.func146 rfl rfl rfl (fun ext w hext => ?_)
 refine aw_fact (d := 0) rfl fact_tx (fun h32 => ?_)
 refine CQR ?_; refine aw_box rfl rfl rfl rfl rfl ?_; refine aw_alloc ze_27 rfl rfl rfl rfl ?_; refine CNQR ?_; refine A0 (oLs rfl rfl rfl ty_112) ?_; refine A0 (oCl (tells_pub2 (put_ok t)) rfl fn_192 ⟨(arg_v rfl), trivial⟩) ?_
 refine A0 mX ?_; refine A0 (by first | exact g_x20 rfl rfl | exact g_x30 rfl rfl) ?_; refine A0 (by first | exact g_x21 rfl rfl | exact g_x31 rfl rfl) ?_; refine A0 aV ?_; refine A0 aV ?_; refine CNQQR ?_; refine A0 mV ?_; refine A0 oN ?_
 refine CN ?_
 refine aw_ifc (p := ¬ mayTx t = true) rfl (by simp) (fun ht11 => ?_) (fun ht11 => ?_)
 ·
  refine CQR ?_; refine A0 (g_buildZ rfl ar_27 ze_27 rfl) ?_; refine aw_store_b rfl rfl rfl rfl rfl (Lens.self _) ty_27 rfl ?_; refine CN ?_
  exact aw_retc1 rfl rfl rfl rfl ty_27 (by unfold idOf; rw [if_neg ht11])
 ·
  refine aw_reval (d := 3) rfl (if_pos (Classical.not_not.1 ht11)) ?_; refine CSQR ?_; refine A0 (g_bslice (T := u8T) (xs := [_]) rfl sl_101 row_101 ⟨rfl, rfl, trivial⟩ rfl rfl) ?_; refine A0 mV ?_
  refine A0 (g_bslice (T := (sl u8T)) (xs := [_, _]) rfl sl_125 row_125 ⟨rfl, rfl, rfl, rfl, trivial⟩ rfl rfl) ?_
  refine A0 (oCl (of_ok [[6], putTx t] (by have := putTx_len (Classical.not_not.1 ht11) h32; simp; omega)) rfl fn_65 ⟨(arg_v rfl), trivial⟩) ?_; refine aw_store_b rfl rfl rfl rfl rfl (Lens.self _) ty_27 rfl ?_; refine CN ?_
  exact aw_retc1 rfl rfl rfl rfl ty_27 (by unfold idOf; rw [if_pos (Classical.not_not.1 ht11)]; simp)
end Go.Proofs.YtgoebfjaaklopaaGreat
set_option maxRecDepth 20000
namespace Go.Proofs.YtgoebfjaaklopaaGreat
set_option linter.unusedVariables false
set_option linter.unusedSimpArgs false
open Go.Ab Go.RowKit
def setN {α : Type} (f : Nat → α) (z : List α) (k : Nat) : List α := (List.range k).foldl (fun l i => l.set i (f i)) z
theorem setN_succ {α : Type} {f : Nat → α} {z : List α} {k : Nat} : (setN f z k).set k (f k) = setN f z (k + 1) := (fold_succ (f := fun (l : List α) i => l.set i (f i))).symm
theorem setN_all {α : Type} {f : Nat → α} {z : List α} {k : Nat} (h : z.length = k) : setN f z k = (List.range k).map f := by
  apply List.ext_getElem?
  intro j
  unfold setN
  rw [fold_set_get, List.getElem?_map]
  by_cases c : j < k
  · rw [if_pos ⟨c, by omega⟩, List.getElem?_range c]; rfl
  · rw [if_neg (by omega), List.getElem?_eq_none (by omega), List.getElem?_eq_none (by simp; omega)]; rfl
theorem fact_idL {a : Ab.Id} {ρ : Nat → Value} {B : Nat → Prop} {U N : Nat → Prop} {w : World} {v : Value} (h : (AV.val idT a).rel ρ B U N w v) : a.length = 32 := by
  obtain ⟨cs, h, _⟩ := h
  exact h.1
theorem fact_wide {a : Wide} {ρ : Nat → Value} {B : Nat → Prop} {U N : Nat → Prop} {w : World} {v : Value} (h : (AV.val wideT a).rel ρ B U N w v) : a.length = 4 := by
  obtain ⟨cs, h, _⟩ := h
  exact h.1
def cmpU (x y : UInt64) : Int := if x < y then -1 else if y < x then 1 else 0
def atW (a : Wide) (i : Int) : UInt64 := if i < 0 ∨ 4 ≤ i then 0 else a.getD i.toNat default
def upF (a : Wide) (n : Int) (i : Nat) : UInt64 := shl64 (atW a ((i : Int) - n / 64)) (n % 64).toNat ||| shr64 (shr64 (atW a ((i : Int) - n / 64 - 1)) 1) (63 - n % 64).toNat
def upW (a : Wide) (n : Int) : Wide := if n < 0 then a else if 256 ≤ n then zWide else (List.range 4).map (upF a n)
def downF (a : Wide) (n : Int) (i : Nat) : UInt64 := shr64 (atW a ((i : Int) + n / 64)) (n % 64).toNat ||| shl64 (shl64 (atW a ((i : Int) + n / 64 + 1)) 1) (63 - n % 64).toNat
def downW (a : Wide) (n : Int) : Wide := if n < 0 then a else if 256 ≤ n then zWide else (List.range 4).map (downF a n)
def byteF (a : Wide) (i : Nat) : UInt8 := u8OfI (IntL.toI u64T (shr64 (a.getD (3 - i / 8) default) (56 - 8 * ((i : Int) % 8)).toNat))
def bytesW (a : Wide) : Ab.Id := (List.range 32).map (byteF a)
def of32S (b : Ab.Id) (w : Wide) (i : Nat) : Wide := w.set (3 - i / 8) (shl64 (w.getD (3 - i / 8) default) 8 ||| u64OfI (IntL.toI u8T (b.getD i default)))
def of32N (b : Ab.Id) (k : Nat) : Wide := (List.range k).foldl (of32S b) zWide
def of32W (b : Ab.Id) : Wide := of32N b 32
def cmpW (a b : Wide) : Int := orL [cmpU (a.getD 3 default) (b.getD 3 default), cmpU (a.getD 2 default) (b.getD 2 default), cmpU (a.getD 1 default) (b.getD 1 default), cmpU (a.getD 0 default) (b.getD 0 default)]
theorem isNaNU_ok (x : UInt64) : Tells P 109 [.val u64T x] (.val boolT false) := by
 refine fn_of_aw Tryz.func109 rfl rfl rfl (fun ext w hext => ?_)
 refine CQR ?_; refine A0 aV ?_; refine CNQR ?_; refine A0 mV ?_; refine A0 mV ?_; refine A0 o_neq ?_; refine A0 aV ?_; refine CN ?_
 exact aw_ret1 rfl rfl (ret_val (by simp [Fr.set]))
theorem cmpU_ok (x y : UInt64) : Tells P 63 [.val u64T x, .val u64T y] (.val i64T (cmpU x y)) := by
 refine fn_of_aw Tryz.func63 rfl rfl rfl (fun ext w hext => ?_)
 refine CQR ?_; refine A0 aV ?_; refine CNQR ?_; refine A0 mV ?_; refine A0 (oCl (isNaNU_ok _) rfl fn_109 ⟨(arg_v rfl), trivial⟩) ?_; refine A0 aV ?_; refine CNQR ?_; refine A0 mV ?_
 refine A0 (oCl (isNaNU_ok _) rfl fn_109 ⟨(arg_v rfl), trivial⟩) ?_; refine A0 aV ?_; refine CNQQR ?_; refine A0 mV ?_; refine CN ?_; refine Cg ?_; refine CSQQR ?_; refine A0 mV ?_; refine CN ?_; refine Cg ?_; refine CSQQR ?_; refine A0 mV ?_
 refine A0 mV ?_; refine A0 o_lss ?_; refine CN ?_
 refine aw_ifc (p := x < y) rfl (by simp [IntL.toI, UInt64.lt_iff_toNat_lt]) (fun ht16 => ?_) (fun ht16 => ?_)
 ·
  refine CQR ?_; refine A0 aV ?_; refine CN ?_
  exact aw_ret1 rfl rfl (ret_eq rfl (by unfold cmpU; first | rw [if_neg (by assumption), if_neg (by assumption)] | rw [if_neg (by assumption), if_pos (by assumption)] | rw [if_pos (by assumption)]))
 ·
  refine CSQQR ?_; refine A0 mV ?_; refine A0 mV ?_; refine A0 o_gtr ?_; refine CN ?_
  refine aw_ifc (p := y < x) rfl (by simp [IntL.toI, UInt64.lt_iff_toNat_lt]) (fun ht19 => ?_) (fun ht19 => ?_)
  ·
   refine CQR ?_; refine A0 aV ?_; refine CN ?_
   exact aw_ret1 rfl rfl (ret_eq rfl (by unfold cmpU; first | rw [if_neg (by assumption), if_neg (by assumption)] | rw [if_neg (by assumption), if_pos (by assumption)] | rw [if_pos (by assumption)]))
  ·
   refine CSQR ?_; refine A0 aV ?_; refine CN ?_
   exact aw_ret1 rfl rfl (ret_eq rfl (by unfold cmpU; first | rw [if_neg (by assumption), if_neg (by assumption)] | rw [if_neg (by assumption), if_pos (by assumption)] | rw [if_pos (by assumption)]))
theorem atW_ok (a : Wide) (i : Int) : Tells P 150 [.val wideT a, .val i64T i] (.val u64T (atW a i)) := by
 refine fn_of_aw Tryz.func150 rfl rfl rfl (fun ext w hext => ?_)
 refine aw_fact (d := 1) rfl fact_int (fun hin1 => ?_)
 refine aw_fact (d := 0) rfl fact_wide (fun ha => ?_)
 refine CQR ?_; refine aw_box rfl rfl rfl rfl rfl ?_; refine A0 aV ?_; refine CNQQR ?_; refine A0 mV ?_; refine A0 o_lss ?_
 refine Sp (d := 6) (p := i < 0) (fun g6 => ?_) (fun g6 => ?_)
 ·
  refine A0 mV ?_; refine A2 ?_; refine A2 ?_; refine A0 oK ?_; refine CN ?_; refine Ct ?_; refine CQR ?_; refine A0 aV ?_; refine CN ?_
  exact aw_ret1 rfl rfl (ret_eq rfl (by unfold atW; rw [if_pos (.inl g6)]; rfl))
 ·
  refine A0 mV ?_; refine A1 mV ?_; refine A1 o_geq ?_
  refine Sp (d := 9) (p := 4 ≤ i) (fun g9 => ?_) (fun g9 => ?_)
  ·
   refine A0 oK ?_; refine CN ?_; refine Ct ?_; refine CQR ?_; refine A0 aV ?_; refine CN ?_
   exact aw_ret1 rfl rfl (ret_eq rfl (by unfold atW; rw [if_pos (.inr g9)]; rfl))
  ·
   refine A0 oK ?_; refine CN ?_; refine Cg ?_; refine CSQR ?_; refine A0 mV ?_; refine A0 (g_ia_b0 (i := i.toNat) rfl rfl rfl (by first | omega | rfl) ar_30 (by omega)) ?_
   refine A0 (g_load_b rfl rfl rfl (Lens.elem (i := i.toNat) (by omega) u64T) ty_28) ?_; refine A0 aV ?_; refine CN ?_
   exact aw_ret1 rfl rfl (ret_eq rfl (by unfold atW; rw [if_neg (by omega)]))
theorem upW_ok (a : Wide) (n : Int) : Tells P 106 [.val wideT a, .val i64T n] (.val wideT (upW a n)) := by
 refine fn_of_aw Tryz.func106 rfl rfl rfl (fun ext w hext => ?_)
 refine aw_fact (d := 1) rfl fact_int (fun hin1 => ?_)
 refine aw_fact (d := 0) rfl fact_wide (fun ha => ?_)
 refine CQR ?_; refine aw_box rfl rfl rfl rfl rfl ?_; refine aw_alloc ze_30 rfl rfl rfl rfl ?_; refine CNQQR ?_; refine A0 mV ?_; refine A0 o_lss ?_; refine CN ?_
 refine Cf (p := n < 0) (fun ht10 => ?_) (fun ht10 => ?_)
 ·
  refine CQR ?_; refine A0 (oLs rfl rfl rfl ty_30) ?_; refine aw_store_b rfl rfl rfl rfl rfl (Lens.self _) ty_30 rfl ?_; refine CN ?_
  exact aw_retc1 rfl rfl rfl rfl ty_30 (by unfold upW; rw [if_pos ht10])
 ·
  refine CSQQR ?_; refine A0 mV ?_; refine A0 o_geq ?_; refine CN ?_
  refine Cf (p := 256 ≤ n) (fun ht13 => ?_) (fun ht13 => ?_)
  ·
   refine CQR ?_; refine A0 (g_buildZ rfl ar_30 ze_30 rfl) ?_; refine aw_store_b rfl rfl rfl rfl rfl (Lens.self _) ty_30 rfl ?_; refine CN ?_
   exact aw_retc1 rfl rfl rfl rfl ty_30 (by unfold upW; rw [if_neg ht10, if_pos ht13])
  ·
   refine CSQR ?_; refine aw_alloc ze_30 rfl rfl rfl rfl ?_; refine CNQR ?_; refine A0 mV ?_; refine A0 (g_quo rfl rfl rfl (by first | omega | assumption) (by first | decide | omega) rfl) ?_; refine A0 mV ?_
   refine A0 (g_rem rfl rfl rfl (by first | omega | assumption) (by first | decide | omega) rfl) ?_; refine A0 aV ?_; refine A0 aV ?_; refine CNQQR ?_; refine A0 mV ?_; refine CNB ?_
   refine Lp (ι := Nat) 3 (fun (k : Nat) => ((((((Fr.none).set 2 (.ptr 0 0)).set 4 (.ptr 1 0)).set 5 (.ptr 2 0)).set 6 (.val i64T (n / 64))).set 7 (.val i64T (n % 64))).set 19 (.val i64T (k : Int))) (fun (k : Nat) => (((Hp.none).set 0 (.box 30 wideT a)).set 1 (.box 30 wideT zWide)).set 2 (.box 30 wideT (setN (upF a n) zWide k))) (fun (k : Nat) => k ≤ 4) (fun (k : Nat) => 4 - k) (0) (Nat.zero_le _) ?_
   intro k hinv
   refine CQR ?_; refine A0 o_lss ?_; refine CNQ ?_
   refine Cf (p := k < 4) (fun ht20 => ?_) (fun ht20 => ?_)
   ·
    refine CSQBQR ?_; refine A0 mV ?_; refine A0 aV ?_; refine CN ?_
    refine aw_drawx [some 1, some 1, some 1, some 1, some 1, some 1, some 1, some 1, some 1, some 1, some 1, some 1, some 1, some 1, some 1, some 1, some 1, some 1, some 1, some 1, none] mixed (by decide +kernel) ?_; refine X0 mV ?_
    refine X0 (oLs rfl rfl rfl ty_30) ?_; refine X0 mV ?_; refine X0 mV ?_; refine X0 o_sub ?_; refine X0 (oCl (atW_ok _ _) rfl fn_150 ⟨(arg_v rfl), (arg_v rfl), trivial⟩) ?_; refine X0 mV ?_
    refine X0 (g_shl64 rfl rfl rfl (by first | decide | (simp [IntL.toI]; done) | (simp [IntL.toI]; omega)) rfl) ?_; refine X0 (oLs rfl rfl rfl ty_30) ?_; refine X0 mV ?_; refine X0 mV ?_; refine X0 o_sub ?_; refine X0 o_sub ?_
    refine X0 (oCl (atW_ok _ _) rfl fn_150 ⟨(arg_v rfl), (arg_v rfl), trivial⟩) ?_; refine X0 (g_shr64 rfl rfl rfl (by first | decide | (simp [IntL.toI]; done) | (simp [IntL.toI]; omega)) rfl) ?_; refine X0 mV ?_; refine X0 o_sub ?_
    refine X0 (g_shr64 rfl rfl rfl (by first | decide | (simp [IntL.toI]; done) | (simp [IntL.toI]; omega)) rfl) ?_; refine X0 (g_or64 rfl rfl rfl) ?_; refine X0 (g_ia_b0 (i := k) rfl rfl rfl (by first | omega | rfl) ar_30 (by omega)) ?_
    refine XK.e (x := .idk) (fun fr' hfr kk H => by exact aw_store_b rfl rfl rfl ((hfr 41 (by decide +kernel)).trans rfl) rfl (Lens.elem (i := k) (by omega) u64T) ty_28 ((hfr 40 (by decide +kernel)).trans rfl) (aw_nil H)) ?_; refine XK.nil' ?_
    refine CI ?_; refine CR ?_; refine A0 o_add ?_; refine A0 mV ?_; refine CN ?_; refine aw_reheap (n := 2) (y := setN (upF a n) zWide (k + 1)) rfl setN_succ ?_
    exact Nx (k + 1) (by omega) (by omega)
   ·
    obtain rfl : k = 4 := (by omega)
    refine CE ?_; refine CQR ?_; refine A0 (oLs rfl rfl rfl ty_30) ?_; refine aw_store_b rfl rfl rfl rfl rfl (Lens.self _) ty_30 rfl ?_; refine CN ?_
    exact aw_retc1 rfl rfl rfl rfl ty_30 (by unfold upW; rw [if_neg ht10, if_neg ht13]; exact setN_all rfl)
theorem downW_ok (a : Wide) (n : Int) : Tells P 235 [.val wideT a, .val i64T n] (.val wideT (downW a n)) := by
 refine fn_of_aw Tryz.func235 rfl rfl rfl (fun ext w hext => ?_)
 refine aw_fact (d := 1) rfl fact_int (fun hin1 => ?_)
 refine aw_fact (d := 0) rfl fact_wide (fun ha => ?_)
 refine CQR ?_; refine aw_box rfl rfl rfl rfl rfl ?_; refine aw_alloc ze_30 rfl rfl rfl rfl ?_; refine CNQQR ?_; refine A0 mV ?_; refine A0 o_lss ?_; refine CN ?_
 refine Cf (p := n < 0) (fun ht10 => ?_) (fun ht10 => ?_)
 ·
  refine CQR ?_; refine A0 (oLs rfl rfl rfl ty_30) ?_; refine aw_store_b rfl rfl rfl rfl rfl (Lens.self _) ty_30 rfl ?_; refine CN ?_
  exact aw_retc1 rfl rfl rfl rfl ty_30 (by unfold downW; rw [if_pos ht10])
 ·
  refine CSQQR ?_; refine A0 mV ?_; refine A0 o_geq ?_; refine CN ?_
  refine Cf (p := 256 ≤ n) (fun ht13 => ?_) (fun ht13 => ?_)
  ·
   refine CQR ?_; refine A0 (g_buildZ rfl ar_30 ze_30 rfl) ?_; refine aw_store_b rfl rfl rfl rfl rfl (Lens.self _) ty_30 rfl ?_; refine CN ?_
   exact aw_retc1 rfl rfl rfl rfl ty_30 (by unfold downW; rw [if_neg ht10, if_pos ht13])
  ·
   refine CSQR ?_; refine aw_alloc ze_30 rfl rfl rfl rfl ?_; refine CNQR ?_; refine A0 mV ?_; refine A0 (g_quo rfl rfl rfl (by first | omega | assumption) (by first | decide | omega) rfl) ?_; refine A0 mV ?_
   refine A0 (g_rem rfl rfl rfl (by first | omega | assumption) (by first | decide | omega) rfl) ?_; refine A0 aV ?_; refine A0 aV ?_; refine CNQQR ?_; refine A0 mV ?_; refine CNB ?_
   refine Lp (ι := Nat) 3 (fun (k : Nat) => ((((((Fr.none).set 2 (.ptr 0 0)).set 4 (.ptr 1 0)).set 5 (.ptr 2 0)).set 6 (.val i64T (n / 64))).set 7 (.val i64T (n % 64))).set 19 (.val i64T (k : Int))) (fun (k : Nat) => (((Hp.none).set 0 (.box 30 wideT a)).set 1 (.box 30 wideT zWide)).set 2 (.box 30 wideT (setN (downF a n) zWide k))) (fun (k : Nat) => k ≤ 4) (fun (k : Nat) => 4 - k) (0) (Nat.zero_le _) ?_
   intro k hinv
   refine CQR ?_; refine A0 o_lss ?_; refine CNQ ?_
   refine Cf (p := k < 4) (fun ht20 => ?_) (fun ht20 => ?_)
   ·
    refine CSQBQR ?_; refine A0 mV ?_; refine A0 aV ?_; refine CN ?_
    refine aw_drawx [some 1, some 1, some 1, some 1, some 1, some 1, some 1, some 1, some 1, some 1, some 1, some 1, some 1, some 1, some 1, some 1, some 1, some 1, some 1, some 1, none] mixed (by decide +kernel) ?_; refine X0 mV ?_
    refine X0 (oLs rfl rfl rfl ty_30) ?_; refine X0 mV ?_; refine X0 mV ?_; refine X0 o_add ?_; refine X0 (oCl (atW_ok _ _) rfl fn_150 ⟨(arg_v rfl), (arg_v rfl), trivial⟩) ?_; refine X0 mV ?_
    refine X0 (g_shr64 rfl rfl rfl (by first | decide | (simp [IntL.toI]; done) | (simp [IntL.toI]; omega)) rfl) ?_; refine X0 (oLs rfl rfl rfl ty_30) ?_; refine X0 mV ?_; refine X0 mV ?_; refine X0 o_add ?_; refine X0 o_add ?_
    refine X0 (oCl (atW_ok _ _) rfl fn_150 ⟨(arg_v rfl), (arg_v rfl), trivial⟩) ?_; refine X0 (g_shl64 rfl rfl rfl (by first | decide | (simp [IntL.toI]; done) | (simp [IntL.toI]; omega)) rfl) ?_; refine X0 mV ?_; refine X0 o_sub ?_
    refine X0 (g_shl64 rfl rfl rfl (by first | decide | (simp [IntL.toI]; done) | (simp [IntL.toI]; omega)) rfl) ?_; refine X0 (g_or64 rfl rfl rfl) ?_; refine X0 (g_ia_b0 (i := k) rfl rfl rfl (by first | omega | rfl) ar_30 (by omega)) ?_
    refine XK.e (x := .idk) (fun fr' hfr kk H => by exact aw_store_b rfl rfl rfl ((hfr 41 (by decide +kernel)).trans rfl) rfl (Lens.elem (i := k) (by omega) u64T) ty_28 ((hfr 40 (by decide +kernel)).trans rfl) (aw_nil H)) ?_; refine XK.nil' ?_
    refine CI ?_; refine CR ?_; refine A0 o_add ?_; refine A0 mV ?_; refine CN ?_; refine aw_reheap (n := 2) (y := setN (downF a n) zWide (k + 1)) rfl setN_succ ?_
    exact Nx (k + 1) (by omega) (by omega)
   ·
    obtain rfl : k = 4 := (by omega)
    refine CE ?_; refine CQR ?_; refine A0 (oLs rfl rfl rfl ty_30) ?_; refine aw_store_b rfl rfl rfl rfl rfl (Lens.self _) ty_30 rfl ?_; refine CN ?_
    exact aw_retc1 rfl rfl rfl rfl ty_30 (by unfold downW; rw [if_neg ht10, if_neg ht13]; exact setN_all rfl)
theorem bytesW_ok (a : Wide) : Tells P 110 [.val wideT a] (.val idT (bytesW a)) := by
 refine fn_of_aw Tryz.func110 rfl rfl rfl (fun ext w hext => ?_)
 refine aw_fact (d := 0) rfl fact_wide (fun ha => ?_)
 refine CQR ?_; refine aw_box rfl rfl rfl rfl rfl ?_; refine aw_alloc ze_27 rfl rfl rfl rfl ?_; refine CNQR ?_; refine aw_alloc ze_27 rfl rfl rfl rfl ?_; refine CNQQR ?_; refine A0 mV ?_; refine CNB ?_
 refine Lp (ι := Nat) 3 (fun (k : Nat) => ((((Fr.none).set 1 (.ptr 0 0)).set 2 (.ptr 1 0)).set 3 (.ptr 2 0)).set 5 (.val i64T (k : Int))) (fun (k : Nat) => (((Hp.none).set 0 (.box 30 wideT a)).set 1 (.box 27 idT zId)).set 2 (.box 27 idT (setN (byteF a) zId k))) (fun (k : Nat) => k ≤ 32) (fun (k : Nat) => 32 - k) (0) (Nat.zero_le _) ?_
 intro k hinv
 refine CQR ?_; refine A0 o_lss ?_; refine CNQ ?_
 refine Cf (p := k < 32) (fun ht6 => ?_) (fun ht6 => ?_)
 ·
  refine CSQBQR ?_; refine A0 mV ?_; refine A0 aV ?_; refine CNR ?_; refine A0 mV ?_; refine A0 mV ?_; refine A0 (g_quo rfl rfl rfl (by first | omega | assumption) (by first | decide | omega) rfl) ?_; refine A0 o_sub ?_
  refine A0 (g_ia_b0 (i := 3 - k / 8) rfl rfl rfl (by first | omega | rfl) ar_30 (by omega)) ?_; refine A0 (g_load_b rfl rfl rfl (Lens.elem (i := 3 - k / 8) (by omega) u64T) ty_28) ?_; refine A0 mV ?_
  refine A0 (g_rem rfl rfl rfl (by first | omega | assumption) (by first | decide | omega) rfl) ?_; refine A0 o_mul ?_; refine A0 o_sub ?_
  refine A0 (g_shr64 rfl rfl rfl (by first | decide | (simp [IntL.toI]; done) | (simp [IntL.toI]; omega)) rfl) ?_; refine A0 (g_cv8 rfl (ui_5) (us_28) rfl) ?_
  refine A0 (g_ia_b0 (i := k) rfl rfl rfl (by first | omega | rfl) ar_27 (by omega)) ?_; refine aw_store_b rfl rfl rfl rfl rfl (Lens.elem (i := k) (by omega) u8T) ty_5 rfl ?_; refine CNIR ?_; refine A0 o_add ?_; refine A0 mV ?_; refine CN ?_
  refine aw_reheap (n := 2) (y := setN (byteF a) zId (k + 1)) rfl setN_succ ?_
  exact Nx (k + 1) (by omega) (by omega)
 ·
  obtain rfl : k = 32 := (by omega)
  refine CE ?_; refine CQR ?_; refine A0 (oLs rfl rfl rfl ty_27) ?_; refine aw_store_b rfl rfl rfl rfl rfl (Lens.self _) ty_27 rfl ?_; refine CN ?_
  exact aw_retc1 rfl rfl rfl rfl ty_27 (setN_all rfl)
theorem of32W_ok (b : Ab.Id) : Tells P 233 [.val idT b] (.val wideT (of32W b)) := by
 refine fn_of_aw Tryz.func233 rfl rfl rfl (fun ext w hext => ?_)
 refine aw_fact (d := 0) rfl fact_idL (fun hb => ?_)
 refine CQR ?_; refine aw_box rfl rfl rfl rfl rfl ?_; refine aw_alloc ze_30 rfl rfl rfl rfl ?_; refine CNQR ?_; refine aw_alloc ze_30 rfl rfl rfl rfl ?_; refine CNQQR ?_; refine A0 (oLs rfl rfl rfl ty_27) ?_; refine A0 mV ?_; refine CNB ?_
 refine Lp (ι := Nat) 3 (fun (k : Nat) => ((((Fr.none).set 2 (.ptr 1 0)).set 3 (.ptr 2 0)).set 7 (.val idT b)).set 8 (.val i64T (k : Int))) (fun (k : Nat) => ((Hp.none).set 1 (.box 30 wideT zWide)).set 2 (.box 30 wideT (of32N b k))) (fun (k : Nat) => k ≤ 32) (fun (k : Nat) => 32 - k) (0) (Nat.zero_le _) ?_
 intro k hinv
 refine CQR ?_; refine A0 o_lss ?_; refine CNQ ?_
 refine Cf (p := k < 32) (fun ht9 => ?_) (fun ht9 => ?_)
 ·
  obtain ⟨x, hx⟩ : ∃ x, b[k]? = some x := ⟨_, List.getElem?_eq_getElem (by omega)⟩
  refine CSQBQR ?_; refine A0 mV ?_; refine A0 (g_index rfl rfl rfl rfl ar_27 ty_5 (by assumption)) ?_; refine A0 aV ?_; refine A0 aV ?_; refine CNQR ?_; refine A0 mV ?_
  refine A0 (g_quo rfl rfl rfl (by first | omega | assumption) (by first | decide | omega) rfl) ?_; refine A0 o_sub ?_; refine A0 aV ?_; refine CNR ?_; refine A0 mV ?_; refine A0 mV ?_
  refine A0 (g_ia_b0 (i := 3 - k / 8) rfl rfl rfl (by first | omega | rfl) ar_30 (by omega)) ?_; refine A0 (g_load_b rfl rfl rfl (Lens.elem (i := 3 - k / 8) (by omega) u64T) ty_28) ?_
  refine A0 (g_shl64 rfl rfl rfl (by first | decide | (simp [IntL.toI]; done) | (simp [IntL.toI]; omega)) rfl) ?_; refine A0 mV ?_; refine A0 (g_cv64 rfl (ui_28) (us_5) rfl) ?_; refine A0 (g_or64 rfl rfl rfl) ?_
  refine A0 (g_ia_b0 (i := 3 - k / 8) rfl rfl rfl (by first | omega | rfl) ar_30 (by omega)) ?_; refine aw_store_b rfl rfl rfl rfl rfl (Lens.elem (i := 3 - k / 8) (by omega) u64T) ty_28 rfl ?_; refine CNIR ?_; refine A0 o_add ?_
  refine A0 mV ?_; refine CN ?_; refine aw_reheap (n := 2) (y := of32N b (k + 1)) rfl (by unfold of32N; rw [fold_succ]; unfold of32S; rw [List.getD_eq_getElem?_getD (l := b), hx]; rfl) ?_
  exact Nx (k + 1) (by omega) (by omega)
 ·
  obtain rfl : k = 32 := (by omega)
  refine CE ?_; refine CQR ?_; refine A0 (oLs rfl rfl rfl ty_30) ?_; refine aw_store_b rfl rfl rfl rfl rfl (Lens.self _) ty_30 rfl ?_; refine CN ?_
  exact aw_retc1 rfl rfl rfl rfl ty_30 (rfl)
theorem cmpW_ok (a b : Wide) : Tells P 32 [.val wideT a, .val wideT b] (.val i64T (cmpW a b)) := by
 refine fn_of_aw Tryz.func32 rfl rfl rfl (fun ext w hext => ?_)
 refine CQR ?_; refine aw_box rfl rfl rfl rfl rfl ?_; refine aw_box rfl rfl rfl rfl rfl ?_; refine A0 aV ?_; refine CNQ ?_; refine CD mixed ?_; refine G0 (g_ia_b0 (i := 3) rfl rfl rfl (by first | omega | rfl) ar_30 (by omega)) ?_
 refine G0 (g_load_b rfl rfl rfl (Lens.elem (i := 3) (by omega) u64T) ty_28) ?_; refine G0 (g_ia_b0 (i := 3) rfl rfl rfl (by first | omega | rfl) ar_30 (by omega)) ?_
 refine G0 (g_load_b rfl rfl rfl (Lens.elem (i := 3) (by omega) u64T) ty_28) ?_; refine G0 (oCl (cmpU_ok _ _) rfl fn_63 ⟨(arg_v rfl), (arg_v rfl), trivial⟩) ?_
 refine G0 (g_ia_b0 (i := 2) rfl rfl rfl (by first | omega | rfl) ar_30 (by omega)) ?_; refine G0 (g_load_b rfl rfl rfl (Lens.elem (i := 2) (by omega) u64T) ty_28) ?_
 refine G0 (g_ia_b0 (i := 2) rfl rfl rfl (by first | omega | rfl) ar_30 (by omega)) ?_; refine G0 (g_load_b rfl rfl rfl (Lens.elem (i := 2) (by omega) u64T) ty_28) ?_
 refine G0 (oCl (cmpU_ok _ _) rfl fn_63 ⟨(arg_v rfl), (arg_v rfl), trivial⟩) ?_; refine G0 (g_ia_b0 (i := 1) rfl rfl rfl (by first | omega | rfl) ar_30 (by omega)) ?_
 refine G0 (g_load_b rfl rfl rfl (Lens.elem (i := 1) (by omega) u64T) ty_28) ?_; refine G0 (g_ia_b0 (i := 1) rfl rfl rfl (by first | omega | rfl) ar_30 (by omega)) ?_
 refine G0 (g_load_b rfl rfl rfl (Lens.elem (i := 1) (by omega) u64T) ty_28) ?_; refine G0 (oCl (cmpU_ok _ _) rfl fn_63 ⟨(arg_v rfl), (arg_v rfl), trivial⟩) ?_
 refine G0 (g_ia_b0 (i := 0) rfl rfl rfl (by first | omega | rfl) ar_30 (by omega)) ?_; refine G0 (g_load_b rfl rfl rfl (Lens.elem (i := 0) (by omega) u64T) ty_28) ?_
 refine G0 (g_ia_b0 (i := 0) rfl rfl rfl (by first | omega | rfl) ar_30 (by omega)) ?_; refine G0 (g_load_b rfl rfl rfl (Lens.elem (i := 0) (by omega) u64T) ty_28) ?_
 refine G0 (oCl (cmpU_ok _ _) rfl fn_63 ⟨(arg_v rfl), (arg_v rfl), trivial⟩) ?_; refine G0 (g_bslice (T := i64T) (xs := [_, _, _, _]) rfl sl_23 row_23 ⟨rfl, rfl, rfl, rfl, rfl, rfl, rfl, rfl, trivial⟩ rfl rfl) ?_
 refine G0 (oCl (orInt _) rfl fn_62 ⟨(arg_v rfl), trivial⟩) ?_; refine G0 aV ?_; refine GK.nil ?_
 exact aw_ret1 rfl rfl (ret_eq rfl rfl)
def ofW (n : UInt64) : Wide := [n, 0, 0, 0]
def tgtM (bits : UInt32) : UInt64 := u64OfI (IntL.toI u32T (bits &&& 16777215))
def tgtE (bits : UInt32) : Int := IntL.toI u32T (shr32 bits 24)
def tgtOk (bits : UInt32) : Bool := decide (3 ≤ tgtE bits ∧ tgtE bits ≤ 32 ∧ 32768 ≤ (tgtM bits).toNat ∧ (tgtM bits).toNat < 8388608)
def tgtW (bits : UInt32) : Wide := if tgtOk bits = true then upW (ofW (tgtM bits)) (8 * (tgtE bits - 3)) else zWide
theorem ofW_ok (n : UInt64) : Tells P 107 [.val u64T n] (.val wideT (ofW n)) := by
 refine fn_of_aw Tryz.func107 rfl rfl rfl (fun ext w hext => ?_)
 refine CQR ?_; refine aw_alloc ze_30 rfl rfl rfl rfl ?_; refine CNQR ?_; refine A0 mV ?_; refine A0 (g_buildP (T := u64T) (xs := [_]) rfl ar_30 ze_30 ⟨rfl, rfl, trivial⟩ rfl rfl) ?_
 refine aw_store_b rfl rfl rfl rfl rfl (Lens.self _) ty_30 rfl ?_; refine CN ?_
 exact aw_retc1 rfl rfl rfl rfl ty_30 (rfl)
theorem target_ok (bits : UInt32) : Tells P 60 [.val u32T bits] (.tup2 (.val wideT (tgtW bits)) (.val boolT (tgtOk bits))) := by
 have he0 : 0 ≤ tgtE bits := Int.natCast_nonneg _
 have heL : tgtE bits < 4294967296 := by have : (shr32 bits 24).toNat < 4294967296 := (shr32 bits 24).toNat_lt; show ((shr32 bits 24).toNat : Int) < 4294967296; omega
 refine fn_of_aw Tryz.func60 rfl rfl rfl (fun ext w hext => ?_)
 refine CQR ?_; refine aw_alloc ze_30 rfl rfl rfl rfl ?_; refine A0 aV ?_; refine CNQR ?_; refine A0 mV ?_; refine A0 (g_shr32 rfl rfl rfl (by first | decide | (simp [IntL.toI]; done) | (simp [IntL.toI]; omega)) rfl) ?_
 refine A0 (g_cvi rfl (ui_3) (us_31) rfl (wrap_eq (by show -9223372036854775808 ≤ tgtE bits ∧ tgtE bits ≤ 9223372036854775807; omega))) ?_; refine aw_reval (d := 8) (y := tgtE bits) rfl rfl ?_; refine A0 mV ?_
 refine A0 (g_and32 rfl rfl rfl) ?_; refine A0 (g_cv64 rfl (ui_28) (us_31) rfl) ?_; refine aw_reval (d := 11) (y := tgtM bits) rfl rfl ?_; refine A0 aV ?_; refine A0 aV ?_; refine CNQQR ?_; refine A0 mV ?_; refine A0 o_lss ?_
 refine Sp (d := 13) (p := tgtE bits < 3) (fun g13 => ?_) (fun g13 => ?_)
 ·
  refine A0 mV ?_; refine A2 ?_; refine A2 ?_; refine A0 oK ?_; refine A0 mV ?_; refine A2 ?_; refine A2 ?_; refine A0 oK ?_; refine A0 mV ?_; refine A2 ?_; refine A2 ?_; refine A0 oK ?_; refine CN ?_; refine Ct ?_; refine CQR ?_
  refine A0 (g_buildZ rfl ar_30 ze_30 rfl) ?_; refine aw_store_b rfl rfl rfl rfl rfl (Lens.self _) ty_30 rfl ?_; refine A0 aV ?_; refine CN ?_
  exact aw_retr2 rfl rfl (rv_cell rfl rfl ty_30 (by unfold tgtW; rw [if_neg (by unfold tgtOk; rw [decide_eq_true_eq]; omega)])) (rv_tmp (ret_eq rfl (by unfold tgtOk; symm; apply decide_eq_false; omega)))
 ·
  refine A0 mV ?_; refine A1 mV ?_; refine A1 o_gtr ?_
  refine Sp (d := 16) (p := 32 < tgtE bits) (fun g16 => ?_) (fun g16 => ?_)
  ·
   refine A0 oK ?_; refine A0 mV ?_; refine A2 ?_; refine A2 ?_; refine A0 oK ?_; refine A0 mV ?_; refine A2 ?_; refine A2 ?_; refine A0 oK ?_; refine CN ?_; refine Ct ?_; refine CQR ?_; refine A0 (g_buildZ rfl ar_30 ze_30 rfl) ?_
   refine aw_store_b rfl rfl rfl rfl rfl (Lens.self _) ty_30 rfl ?_; refine A0 aV ?_; refine CN ?_
   exact aw_retr2 rfl rfl (rv_cell rfl rfl ty_30 (by unfold tgtW; rw [if_neg (by unfold tgtOk; rw [decide_eq_true_eq]; omega)])) (rv_tmp (ret_eq rfl (by unfold tgtOk; symm; apply decide_eq_false; omega)))
  ·
   refine A0 oK ?_; refine A0 mV ?_; refine A1 mV ?_; refine A1 o_lss ?_
   refine aw_splitp (d := 20) (p := (tgtM bits).toNat < 32768) rfl (by rw [decide_eq_decide]; show ((tgtM bits).toNat : Int) < (32768 : Int) ↔ _; omega) (fun g20 => ?_) (fun g20 => ?_)
   ·
    refine A0 oK ?_; refine A0 mV ?_; refine A2 ?_; refine A2 ?_; refine A0 oK ?_; refine CN ?_; refine Ct ?_; refine CQR ?_; refine A0 (g_buildZ rfl ar_30 ze_30 rfl) ?_; refine aw_store_b rfl rfl rfl rfl rfl (Lens.self _) ty_30 rfl ?_
    refine A0 aV ?_; refine CN ?_
    exact aw_retr2 rfl rfl (rv_cell rfl rfl ty_30 (by unfold tgtW; rw [if_neg (by unfold tgtOk; rw [decide_eq_true_eq]; omega)])) (rv_tmp (ret_eq rfl (by unfold tgtOk; symm; apply decide_eq_false; omega)))
   ·
    refine A0 oK ?_; refine A0 mV ?_; refine A1 mV ?_; refine A1 o_geq ?_
    refine aw_splitp (d := 24) (p := 8388608 ≤ (tgtM bits).toNat) rfl (by rw [decide_eq_decide]; show (8388608 : Int) ≤ ((tgtM bits).toNat : Int) ↔ _; omega) (fun g24 => ?_) (fun g24 => ?_)
    ·
     refine A0 oK ?_; refine CN ?_; refine Ct ?_; refine CQR ?_; refine A0 (g_buildZ rfl ar_30 ze_30 rfl) ?_; refine aw_store_b rfl rfl rfl rfl rfl (Lens.self _) ty_30 rfl ?_; refine A0 aV ?_; refine CN ?_
     exact aw_retr2 rfl rfl (rv_cell rfl rfl ty_30 (by unfold tgtW; rw [if_neg (by unfold tgtOk; rw [decide_eq_true_eq]; omega)])) (rv_tmp (ret_eq rfl (by unfold tgtOk; symm; apply decide_eq_false; omega)))
    ·
     refine A0 oK ?_; refine CN ?_; refine Cg ?_; refine CSQR ?_; refine A0 mV ?_; refine A0 (oCl (ofW_ok _) rfl fn_107 ⟨(arg_v rfl), trivial⟩) ?_; refine A0 mV ?_; refine A0 o_sub ?_; refine A0 o_mul ?_
     refine A0 (oCl (upW_ok _ _) rfl fn_106 ⟨(arg_v rfl), (arg_v rfl), trivial⟩) ?_; refine aw_store_b rfl rfl rfl rfl rfl (Lens.self _) ty_30 rfl ?_; refine A0 aV ?_; refine CN ?_
     exact aw_retr2 rfl rfl (rv_cell rfl rfl ty_30 (by unfold tgtW; rw [if_pos (by unfold tgtOk; rw [decide_eq_true_eq]; omega)])) (rv_tmp (ret_eq rfl (by unfold tgtOk; symm; apply decide_eq_true; omega)))
end Go.Proofs.YtgoebfjaaklopaaGreat
set_option maxRecDepth 20000
namespace Go.Proofs.YtgoebfjaaklopaaGreat
set_option linter.unusedVariables false
set_option linter.unusedSimpArgs false
open Go.Ab Go.RowKit
def searchN (f : Int → Bool) (lo hi : Nat) : Nat :=
  if h : lo < hi then (if f (((lo + hi) / 2 : Nat) : Int) = true then searchN f lo ((lo + hi) / 2) else searchN f ((lo + hi) / 2 + 1) hi) else lo
termination_by hi - lo
theorem search_no {f : Int → Bool} {lo hi : Nat} (h : lo < hi) (hf : ¬ f (((lo + hi) / 2 : Nat) : Int) = true) : searchN f lo hi = searchN f ((lo + hi) / 2 + 1) hi := by
  rw [searchN, dif_pos h, if_neg hf]
theorem search_yes {f : Int → Bool} {lo hi : Nat} (h : lo < hi) (hf : f (((lo + hi) / 2 : Nat) : Int) = true) : searchN f lo hi = searchN f lo ((lo + hi) / 2) := by
  conv => lhs; rw [searchN, dif_pos h, if_pos hf]
theorem search_end {f : Int → Bool} {lo : Nat} : searchN f lo lo = lo := by rw [searchN, dif_neg (Nat.lt_irrefl _)]
def levelF (n t : Wide) (k : Int) : Bool := decide (0 < cmpW n (downW t k))
def levelW (id : Ab.Id) (t : Wide) : Int := (searchN (levelF (of32W id) t) 0 32 : Nat) - 1
theorem search_le {f : Int → Bool} (lo hi : Nat) (h : lo ≤ hi) : searchN f lo hi ≤ hi := by
  rw [searchN]
  split
  · split
    · have := search_le (f := f) lo ((lo + hi) / 2) (by omega); omega
    · exact search_le _ _ (by omega)
  · exact h
termination_by hi - lo
theorem search_ok (n : Nat) (f : Int → Bool) (hn : n < 4611686018427387904) : Tells P 236 [.val i64T (n : Int), .fn1 P i64T boolT f] (.val i64T (searchN f 0 n : Nat)) := by
 refine fn_of_aw Tryz.func236 rfl rfl rfl (fun ext w hext => ?_)
 refine aw_fact (d := 0) rfl fact_int (fun hin0 => ?_)
 refine CQR ?_; refine A0 aV ?_; refine CNQR ?_; refine A0 mV ?_; refine A0 aV ?_; refine A0 aV ?_; refine CNQ ?_; refine CB ?_
 refine Lp (ι := Nat × Nat) 0 (fun (i : Nat × Nat) => match i with | (lo, hi) => (((Fr.none).set 1 (.fn1 P i64T boolT f)).set 5 (.val i64T (lo : Int))).set 6 (.val i64T (hi : Int))) (fun (i : Nat × Nat) => match i with | (lo, hi) => Hp.none) (fun (i : Nat × Nat) => match i with | (lo, hi) => lo ≤ hi ∧ hi ≤ n ∧ searchN f 0 n = searchN f lo hi) (fun (i : Nat × Nat) => match i with | (lo, hi) => hi - lo) ((0, n)) (⟨Nat.zero_le _, Nat.le_refl _, rfl⟩) ?_
 intro ⟨lo, hi⟩ hinv
 dsimp only at hinv
 refine CQQR ?_; refine A0 mV ?_; refine A0 mV ?_; refine A0 o_lss ?_; refine CN ?_
 refine Cf (p := lo < hi) (fun ht11 => ?_) (fun ht11 => ?_)
 ·
  refine CS ?_; refine CB ?_; refine CQR ?_; refine A0 mV ?_; refine A0 mV ?_; refine A0 o_add ?_; refine A0 (g_cv64 rfl (ui_156) (us_3) rfl) ?_
  refine A0 (g_shr64 rfl rfl rfl (by first | decide | (simp [IntL.toI]; done) | (simp [IntL.toI]; omega)) rfl) ?_; refine A0 (g_cvi rfl (ui_3) (us_156) rfl (mid_eq (by omega))) ?_; refine A0 aV ?_; refine CNQR ?_; refine A0 mF ?_
  refine A0 mV ?_; refine A0 (g_callf1 rfl rfl (arg_v rfl)) ?_; refine A0 oN ?_; refine CN ?_
  refine aw_ifc (p := ¬ f (((lo + hi) / 2 : Nat) : Int) = true) rfl (by simp) (fun ht21 => ?_) (fun ht21 => ?_)
  ·
   refine CR ?_; refine A0 mV ?_; refine A0 o_add ?_; refine A0 aV ?_; refine CN ?_; refine CI ?_
   exact Nx (((lo + hi) / 2 + 1, hi)) (by first | exact ⟨by omega, by omega, hinv.2.2.trans (search_no ht11 ht21)⟩ | exact ⟨by omega, by omega, hinv.2.2.trans (search_yes ht11 (Classical.not_not.1 ht21))⟩) (by show _ < hi - lo; simp only []; omega)
  ·
   refine CR ?_; refine A0 mV ?_; refine A0 aV ?_; refine CN ?_; refine CI ?_
   exact Nx ((lo, (lo + hi) / 2)) (by first | exact ⟨by omega, by omega, hinv.2.2.trans (search_no ht11 ht21)⟩ | exact ⟨by omega, by omega, hinv.2.2.trans (search_yes ht11 (Classical.not_not.1 ht21))⟩) (by show _ < hi - lo; simp only []; omega)
 ·
  obtain rfl : hi = lo := (by omega)
  refine CE ?_; refine CQR ?_; refine A0 mV ?_; refine A0 aV ?_; refine CN ?_
  exact aw_ret1 rfl rfl (ret_eq rfl (by rw [hinv.2.2, search_end]))
theorem level1_ok (n t : Wide) (k : Int) : Tells P 234 [.val i64T k, .rptr wideT n, .rptr wideT t] (.val boolT (levelF n t k)) := by
 refine fn_of_aw Tryz.func234 rfl rfl rfl (fun ext w hext => ?_)
 refine aw_fact (d := 0) rfl fact_int (fun hin0 => ?_)
 refine CQR ?_; refine A0 aV ?_; refine CNQ ?_; refine CD mixed ?_; refine G0 (g_load_r rfl rfl ty_30) ?_; refine G0 (g_load_r rfl rfl ty_30) ?_; refine G0 mV ?_; refine G0 (oCl (downW_ok _ _) rfl fn_235 ⟨(arg_v rfl), (arg_v rfl), trivial⟩) ?_
 refine G0 (oCl (cmpW_ok _ _) rfl fn_32 ⟨(arg_v rfl), (arg_v rfl), trivial⟩) ?_; refine G0 o_gtr ?_; refine G0 aV ?_; refine GK.nil ?_
 exact aw_ret1 rfl rfl (ret_eq rfl rfl)
theorem levelW_ok (id : Ab.Id) (t : Wide) : Tells P 202 [.val idT id, .val wideT t] (.val i64T (levelW id t)) := by
 refine fn_of_aw Tryz.func202 rfl rfl rfl (fun ext w hext => ?_)
 have hsl := search_le (f := levelF (of32W id) t) 0 32 (by decide)
 refine CQR ?_; refine aw_box rfl rfl rfl rfl rfl ?_; refine aw_box rfl rfl rfl rfl rfl ?_; refine A0 aV ?_; refine CNQR ?_; refine A0 (oLs rfl rfl rfl ty_27) ?_; refine A0 (oCl (of32W_ok _) rfl fn_233 ⟨(arg_v rfl), trivial⟩) ?_
 refine aw_alloc ze_30 rfl rfl rfl rfl ?_; refine aw_store_b rfl rfl rfl rfl rfl (Lens.self _) ty_30 rfl ?_; refine CNQR ?_; refine A0 (g_mkf (caps := [_, _]) rfl rfl) ?_; refine A0 aC ?_; refine CNQR ?_; refine A0 mC ?_
 refine A0 (oCl (search_ok 32 (levelF (of32W id) t) (by decide)) rfl fn_236 ⟨(arg_v rfl), (by first | exact arg_fn1 (Cs := [_, _]) rfl fn_234 (by intro n hn; simp only [List.mem_cons, List.not_mem_nil, or_false] at hn; rcases hn with rfl | rfl <;> exact ⟨_, _, _, _, rfl⟩) ⟨(by exact arg_cap rfl), (by exact arg_cap rfl), trivial⟩ rfl (fun x => level1_ok (of32W id) t x) | exact arg_fn2 (Cs := [_, _]) rfl fn_234 (by intro n hn; simp only [List.mem_cons, List.not_mem_nil, or_false] at hn; rcases hn with rfl | rfl <;> exact ⟨_, _, _, _, rfl⟩) ⟨(by exact arg_cap rfl), (by exact arg_cap rfl), trivial⟩ rfl (fun x y => level1_ok (of32W id) t x) | exact arg_clo rfl), trivial⟩) ?_
 refine A0 o_sub ?_; refine A0 aV ?_; refine CN ?_
 exact aw_ret1 rfl rfl (ret_eq rfl rfl)
end Go.Proofs.YtgoebfjaaklopaaGreat
set_option maxRecDepth 20000
namespace Go.Proofs.YtgoebfjaaklopaaGreat
set_option linter.unusedVariables false
set_option linter.unusedSimpArgs false
open Go.Ab Go.RowKit
def bitLen (n : Nat) : Nat := if n = 0 then 0 else Nat.log2 n + 1
theorem bitLen_shift {n s : Nat} (h : 2 ^ s ≤ n) : bitLen n = s + bitLen (n / 2 ^ s) := by
  have hp := Nat.two_pow_pos s
  have h1 : 1 ≤ n / 2 ^ s := (Nat.le_div_iff_mul_le hp).2 (by omega)
  unfold bitLen
  rw [if_neg (by omega), if_neg (by omega)]
  obtain ⟨k, hk⟩ : ∃ k, k = Nat.log2 (n / 2 ^ s) := ⟨_, rfl⟩
  have h2 := (Nat.log2_eq_iff (n := n / 2 ^ s) (k := k) (by omega)).1 hk.symm
  have h3 : Nat.log2 n = k + s := by
    rw [Nat.log2_eq_iff (by omega)]
    constructor
    · rw [Nat.pow_add]; exact (Nat.le_div_iff_mul_le hp).1 h2.1
    · rw [show k + s + 1 = k + 1 + s by omega, Nat.pow_add]; exact (Nat.div_lt_iff_lt_mul hp).1 h2.2
  rw [h3, ← hk]; omega
theorem bitLen_le {n s : Nat} (h : n < 2 ^ s) : bitLen n ≤ s := by
  unfold bitLen
  split
  · omega
  · rename_i h0
    have := (Nat.log2_lt h0).2 h
    omega
theorem shr64_n (x : UInt64) {m : Nat} (h : m ≤ 64) : (shr64 x m).toNat = x.toNat / 2 ^ m := by
  have hx : x.toNat < 18446744073709551616 := x.toNat_lt
  unfold shr64
  rw [UInt64.toNat_ofNat_of_lt' (Nat.lt_of_le_of_lt (Nat.div_le_self _ _) hx), Nat.min_eq_left h]
theorem u8_small {x : UInt64} (h : x.toNat < 256) : (u8OfI (IntL.toI u64T x)).toNat = x.toNat := by
  unfold u8OfI
  show (UInt8.ofNat ((x.toNat : Int) % 256).toNat).toNat = x.toNat
  rw [UInt8.toNat_ofNat_of_lt' (by show _ < 256; omega)]; omega
theorem len_small {x : UInt64} (h : x.toNat < 256) : IntL.toI u8T (UInt8.ofNat (bitLen (u8OfI (IntL.toI u64T x)).toNat)) = bitLen x.toNat := by
  have := bitLen_le (s := 8) (n := x.toNat) (by omega)
  rw [u8_small h]
  show ((UInt8.ofNat (bitLen x.toNat)).toNat : Int) = _
  rw [UInt8.toNat_ofNat_of_lt' (by show _ < 256; omega)]
theorem len_fin {x y : UInt64} {b : Int} {s : Nat} (hy : y.toNat < 256) (hx : bitLen x.toNat = s + bitLen y.toNat) (hs : s ≤ 64) (hb : b = (s : Int)) : IntKind.i64.wrap (b + IntKind.i64.wrap (IntL.toI u8T (UInt8.ofNat (bitLen (u8OfI (IntL.toI u64T y)).toNat)))) = (bitLen x.toNat : Nat) := by
  have := bitLen_le (s := 8) (n := y.toNat) (by omega)
  rw [len_small hy, wrap_eq (n := ((bitLen y.toNat : Nat) : Int)) (by omega), wrap_eq (by omega), hx, hb]; omega
theorem step_len {x : UInt64} {s : Nat} (hs : s ≤ 64) (h : 2 ^ s ≤ x.toNat) : bitLen x.toNat = s + bitLen (shr64 x s).toNat := by
  rw [shr64_n x hs]; exact bitLen_shift h
theorem len64_ok (x : UInt64) : Tells P 194 [.val u64T x] (.val i64T (bitLen x.toNat : Nat)) := by
 refine fn_of_aw Tryz.func194 rfl rfl rfl (fun ext w hext => ?_)
 refine CQR ?_; refine A0 aV ?_; refine CNQQR ?_; refine A0 mV ?_; refine A0 o_geq ?_; refine CN ?_
 refine aw_ifc (p := 4294967296 ≤ (x).toNat) rfl (by rw [decide_eq_decide]; show (4294967296 : Int) ≤ ((x).toNat : Int) ↔ _; omega) (fun ht4 => ?_) (fun ht4 => ?_)
 ·
  refine CQR ?_; refine A0 mV ?_; refine A0 (g_shr64 rfl rfl rfl (by first | decide | (simp [IntL.toI]; done) | (simp [IntL.toI]; omega)) rfl) ?_; refine A0 aV ?_; refine CNR ?_; refine A0 aV ?_; refine CNQQR ?_; refine A0 mV ?_
  refine A0 o_geq ?_; refine CN ?_
  refine aw_ifc (p := 65536 ≤ (shr64 x 32).toNat) rfl (by rw [decide_eq_decide]; show (65536 : Int) ≤ ((shr64 x 32).toNat : Int) ↔ _; omega) (fun ht8 => ?_) (fun ht8 => ?_)
  ·
   refine CQR ?_; refine A0 mV ?_; refine A0 (g_shr64 rfl rfl rfl (by first | decide | (simp [IntL.toI]; done) | (simp [IntL.toI]; omega)) rfl) ?_; refine A0 aV ?_; refine CNR ?_; refine A0 mV ?_; refine A0 o_add ?_; refine A0 aV ?_
   refine CNQQR ?_; refine A0 mV ?_; refine A0 o_geq ?_; refine CN ?_
   refine aw_ifc (p := 256 ≤ (shr64 (shr64 x 32) 16).toNat) rfl (by rw [decide_eq_decide]; show (256 : Int) ≤ ((shr64 (shr64 x 32) 16).toNat : Int) ↔ _; omega) (fun ht14 => ?_) (fun ht14 => ?_)
   ·
    refine CQR ?_; refine A0 mV ?_; refine A0 (g_shr64 rfl rfl rfl (by first | decide | (simp [IntL.toI]; done) | (simp [IntL.toI]; omega)) rfl) ?_; refine A0 aV ?_; refine CNR ?_; refine A0 mV ?_; refine A0 o_add ?_; refine A0 aV ?_
    refine CNQR ?_; refine A0 mV ?_; refine A0 mV ?_; refine A0 (g_cv8 rfl (ui_5) (us_28) rfl) ?_; refine A0 (g_sindex_f (fun n => UInt8.ofNat (bitLen n)) rfl rfl st_9 (by decide +kernel)) ?_
    refine A0 (g_cvi rfl (ui_3) (us_5) rfl (by first | exact wrap_eq (by omega) | rfl)) ?_; refine A0 o_add ?_; refine A0 aV ?_; refine CN ?_
    exact aw_ret1 rfl rfl (ret_eq rfl (len_fin (y := shr64 (shr64 (shr64 x 32) 16) 8) (s := 56) (by have hlt : x.toNat < 18446744073709551616 := x.toNat_lt; (try simp only [shr64_n _ (show 32 ≤ 64 by decide), shr64_n _ (show 16 ≤ 64 by decide), shr64_n _ (show 8 ≤ 64 by decide)] at *); omega) (by rw [step_len (s := 32) (by decide) ht4, step_len (s := 16) (by decide) ht8, step_len (s := 8) (by decide) ht14]; omega) (by decide) (by rfl)))
   ·
    refine CSQR ?_; refine A0 mV ?_; refine A0 mV ?_; refine A0 (g_cv8 rfl (ui_5) (us_28) rfl) ?_; refine A0 (g_sindex_f (fun n => UInt8.ofNat (bitLen n)) rfl rfl st_9 (by decide +kernel)) ?_
    refine A0 (g_cvi rfl (ui_3) (us_5) rfl (by first | exact wrap_eq (by omega) | rfl)) ?_; refine A0 o_add ?_; refine A0 aV ?_; refine CN ?_
    exact aw_ret1 rfl rfl (ret_eq rfl (len_fin (y := shr64 (shr64 x 32) 16) (s := 48) (by have hlt : x.toNat < 18446744073709551616 := x.toNat_lt; (try simp only [shr64_n _ (show 32 ≤ 64 by decide), shr64_n _ (show 16 ≤ 64 by decide), shr64_n _ (show 8 ≤ 64 by decide)] at *); omega) (by rw [step_len (s := 32) (by decide) ht4, step_len (s := 16) (by decide) ht8]; omega) (by decide) (by rfl)))
  ·
   refine CSQQR ?_; refine A0 mV ?_; refine A0 o_geq ?_; refine CN ?_
   refine aw_ifc (p := 256 ≤ (shr64 x 32).toNat) rfl (by rw [decide_eq_decide]; show (256 : Int) ≤ ((shr64 x 32).toNat : Int) ↔ _; omega) (fun ht14 => ?_) (fun ht14 => ?_)
   ·
    refine CQR ?_; refine A0 mV ?_; refine A0 (g_shr64 rfl rfl rfl (by first | decide | (simp [IntL.toI]; done) | (simp [IntL.toI]; omega)) rfl) ?_; refine A0 aV ?_; refine CNR ?_; refine A0 mV ?_; refine A0 o_add ?_; refine A0 aV ?_
    refine CNQR ?_; refine A0 mV ?_; refine A0 mV ?_; refine A0 (g_cv8 rfl (ui_5) (us_28) rfl) ?_; refine A0 (g_sindex_f (fun n => UInt8.ofNat (bitLen n)) rfl rfl st_9 (by decide +kernel)) ?_
    refine A0 (g_cvi rfl (ui_3) (us_5) rfl (by first | exact wrap_eq (by omega) | rfl)) ?_; refine A0 o_add ?_; refine A0 aV ?_; refine CN ?_
    exact aw_ret1 rfl rfl (ret_eq rfl (len_fin (y := shr64 (shr64 x 32) 8) (s := 40) (by have hlt : x.toNat < 18446744073709551616 := x.toNat_lt; (try simp only [shr64_n _ (show 32 ≤ 64 by decide), shr64_n _ (show 16 ≤ 64 by decide), shr64_n _ (show 8 ≤ 64 by decide)] at *); omega) (by rw [step_len (s := 32) (by decide) ht4, step_len (s := 8) (by decide) ht14]; omega) (by decide) (by rfl)))
   ·
    refine CSQR ?_; refine A0 mV ?_; refine A0 mV ?_; refine A0 (g_cv8 rfl (ui_5) (us_28) rfl) ?_; refine A0 (g_sindex_f (fun n => UInt8.ofNat (bitLen n)) rfl rfl st_9 (by decide +kernel)) ?_
    refine A0 (g_cvi rfl (ui_3) (us_5) rfl (by first | exact wrap_eq (by omega) | rfl)) ?_; refine A0 o_add ?_; refine A0 aV ?_; refine CN ?_
    exact aw_ret1 rfl rfl (ret_eq rfl (len_fin (y := shr64 x 32) (s := 32) (by have hlt : x.toNat < 18446744073709551616 := x.toNat_lt; (try simp only [shr64_n _ (show 32 ≤ 64 by decide), shr64_n _ (show 16 ≤ 64 by decide), shr64_n _ (show 8 ≤ 64 by decide)] at *); omega) (step_len (s := 32) (by decide) ht4) (by decide) (by rfl)))
 ·
  refine CSQQR ?_; refine A0 mV ?_; refine A0 o_geq ?_; refine CN ?_
  refine aw_ifc (p := 65536 ≤ (x).toNat) rfl (by rw [decide_eq_decide]; show (65536 : Int) ≤ ((x).toNat : Int) ↔ _; omega) (fun ht8 => ?_) (fun ht8 => ?_)
  ·
   refine CQR ?_; refine A0 mV ?_; refine A0 (g_shr64 rfl rfl rfl (by first | decide | (simp [IntL.toI]; done) | (simp [IntL.toI]; omega)) rfl) ?_; refine A0 aV ?_; refine CNR ?_; refine A0 mV ?_; refine A0 o_add ?_; refine A0 aV ?_
   refine CNQQR ?_; refine A0 mV ?_; refine A0 o_geq ?_; refine CN ?_
   refine aw_ifc (p := 256 ≤ (shr64 x 16).toNat) rfl (by rw [decide_eq_decide]; show (256 : Int) ≤ ((shr64 x 16).toNat : Int) ↔ _; omega) (fun ht14 => ?_) (fun ht14 => ?_)
   ·
    refine CQR ?_; refine A0 mV ?_; refine A0 (g_shr64 rfl rfl rfl (by first | decide | (simp [IntL.toI]; done) | (simp [IntL.toI]; omega)) rfl) ?_; refine A0 aV ?_; refine CNR ?_; refine A0 mV ?_; refine A0 o_add ?_; refine A0 aV ?_
    refine CNQR ?_; refine A0 mV ?_; refine A0 mV ?_; refine A0 (g_cv8 rfl (ui_5) (us_28) rfl) ?_; refine A0 (g_sindex_f (fun n => UInt8.ofNat (bitLen n)) rfl rfl st_9 (by decide +kernel)) ?_
    refine A0 (g_cvi rfl (ui_3) (us_5) rfl (by first | exact wrap_eq (by omega) | rfl)) ?_; refine A0 o_add ?_; refine A0 aV ?_; refine CN ?_
    exact aw_ret1 rfl rfl (ret_eq rfl (len_fin (y := shr64 (shr64 x 16) 8) (s := 24) (by have hlt : x.toNat < 18446744073709551616 := x.toNat_lt; (try simp only [shr64_n _ (show 32 ≤ 64 by decide), shr64_n _ (show 16 ≤ 64 by decide), shr64_n _ (show 8 ≤ 64 by decide)] at *); omega) (by rw [step_len (s := 16) (by decide) ht8, step_len (s := 8) (by decide) ht14]; omega) (by decide) (by rfl)))
   ·
    refine CSQR ?_; refine A0 mV ?_; refine A0 mV ?_; refine A0 (g_cv8 rfl (ui_5) (us_28) rfl) ?_; refine A0 (g_sindex_f (fun n => UInt8.ofNat (bitLen n)) rfl rfl st_9 (by decide +kernel)) ?_
    refine A0 (g_cvi rfl (ui_3) (us_5) rfl (by first | exact wrap_eq (by omega) | rfl)) ?_; refine A0 o_add ?_; refine A0 aV ?_; refine CN ?_
    exact aw_ret1 rfl rfl (ret_eq rfl (len_fin (y := shr64 x 16) (s := 16) (by have hlt : x.toNat < 18446744073709551616 := x.toNat_lt; (try simp only [shr64_n _ (show 32 ≤ 64 by decide), shr64_n _ (show 16 ≤ 64 by decide), shr64_n _ (show 8 ≤ 64 by decide)] at *); omega) (step_len (s := 16) (by decide) ht8) (by decide) (by rfl)))
  ·
   refine CSQQR ?_; refine A0 mV ?_; refine A0 o_geq ?_; refine CN ?_
   refine aw_ifc (p := 256 ≤ (x).toNat) rfl (by rw [decide_eq_decide]; show (256 : Int) ≤ ((x).toNat : Int) ↔ _; omega) (fun ht14 => ?_) (fun ht14 => ?_)
   ·
    refine CQR ?_; refine A0 mV ?_; refine A0 (g_shr64 rfl rfl rfl (by first | decide | (simp [IntL.toI]; done) | (simp [IntL.toI]; omega)) rfl) ?_; refine A0 aV ?_; refine CNR ?_; refine A0 mV ?_; refine A0 o_add ?_; refine A0 aV ?_
    refine CNQR ?_; refine A0 mV ?_; refine A0 mV ?_; refine A0 (g_cv8 rfl (ui_5) (us_28) rfl) ?_; refine A0 (g_sindex_f (fun n => UInt8.ofNat (bitLen n)) rfl rfl st_9 (by decide +kernel)) ?_
    refine A0 (g_cvi rfl (ui_3) (us_5) rfl (by first | exact wrap_eq (by omega) | rfl)) ?_; refine A0 o_add ?_; refine A0 aV ?_; refine CN ?_
    exact aw_ret1 rfl rfl (ret_eq rfl (len_fin (y := shr64 x 8) (s := 8) (by have hlt : x.toNat < 18446744073709551616 := x.toNat_lt; (try simp only [shr64_n _ (show 32 ≤ 64 by decide), shr64_n _ (show 16 ≤ 64 by decide), shr64_n _ (show 8 ≤ 64 by decide)] at *); omega) (step_len (s := 8) (by decide) ht14) (by decide) (by rfl)))
   ·
    refine CSQR ?_; refine A0 mV ?_; refine A0 mV ?_; refine A0 (g_cv8 rfl (ui_5) (us_28) rfl) ?_; refine A0 (g_sindex_f (fun n => UInt8.ofNat (bitLen n)) rfl rfl st_9 (by decide +kernel)) ?_
    refine A0 (g_cvi rfl (ui_3) (us_5) rfl (by first | exact wrap_eq (by omega) | rfl)) ?_; refine A0 o_add ?_; refine A0 aV ?_; refine CN ?_
    exact aw_ret1 rfl rfl (ret_eq rfl (len_fin (y := x) (s := 0) (by have hlt : x.toNat < 18446744073709551616 := x.toNat_lt; (try simp only [shr64_n _ (show 32 ≤ 64 by decide), shr64_n _ (show 16 ≤ 64 by decide), shr64_n _ (show 8 ≤ 64 by decide)] at *); omega) ((Nat.zero_add _).symm) (by decide) (by rfl)))
theorem lenU_ok (x : UInt64) : Tells P 228 [.val u64T x] (.val i64T (bitLen x.toNat : Nat)) := by
 refine fn_of_aw Tryz.func228 rfl rfl rfl (fun ext w hext => ?_)
 refine CQR ?_; refine A0 aV ?_; refine CNQ ?_; refine Cg ?_; refine CSQR ?_; refine A0 mV ?_; refine A0 (oCl (len64_ok _) rfl fn_194 ⟨(arg_v rfl), trivial⟩) ?_; refine A0 aV ?_; refine CN ?_
 exact aw_ret1 rfl rfl (ret_eq rfl rfl)
end Go.Proofs.YtgoebfjaaklopaaGreat
set_option maxRecDepth 20000
namespace Go.Proofs.YtgoebfjaaklopaaGreat
set_option linter.unusedVariables false
set_option linter.unusedSimpArgs false
open Go.Ab Go.RowKit
theorem growNilId (n : Nat) (hn : n ≤ 1000000) : Tells P 231 [.lit (.slice none 0 0), .val i64T (n : Int)] (.fresh 27 idT []) := by
 refine fn_of_aw Tryz.func231 rfl rfl rfl (fun ext w hext => ?_)
 refine aw_fact (d := 1) rfl fact_int (fun hin1 => ?_)
 refine CQR ?_; refine A0 aL ?_; refine CNQQR ?_; refine A0 mV ?_; refine A0 o_lss ?_; refine CN ?_; refine aw_if_f rfl (decide_eq_false (by show ¬ ((n : Int) < 0); omega)) ?_; refine CSQQR ?_; refine A0 mV ?_; refine A0 mL ?_
 refine A0 (g_cap_nil rfl rfl isl_34) ?_; refine A0 mL ?_; refine A0 (by first | exact g_len rfl rfl isl_34 | exact g_len_o rfl rfl rfl isl_34 | exact g_len_nil rfl rfl isl_34) ?_; refine A0 o_sub ?_; refine A0 o_sub ?_; refine A0 aV ?_
 refine CNQR ?_; refine A0 mV ?_; refine A0 o_gtr ?_; refine CN ?_
 refine aw_ifc (p := 0 < n) rfl (by rw [decide_eq_decide]; simp only [IntL.toI, id_eq]; omega) (fun ht16 => ?_) (fun ht16 => ?_)
 ·
  refine CR ?_; refine A0 mL ?_; refine A0 mL ?_; refine A0 (g_cap_nil rfl rfl isl_34) ?_
  refine A0 (by first | exact g_sl_nil rfl rfl rfl (by first | rfl | omega) sl_34 | exact g_sl_h rfl rfl rfl sl_34 (by first | assumption | omega | (simp; omega))) ?_; refine A0 mV ?_
  refine aw_appendz (T := idT) (n := n) rfl rfl rfl rfl rfl rfl (by first | rfl | omega) row_34 ze_27 (ui_3) (⟨by assumption, by omega, by omega⟩) ?_; refine A0 mL ?_
  refine A0 (by first | exact g_len rfl rfl isl_34 | exact g_len_o rfl rfl rfl isl_34 | exact g_len_nil rfl rfl isl_34) ?_
  refine A0 (g_os_h (q := 0) rfl rfl rfl rfl sl_34 (by first | omega | rfl) (by first | assumption | omega | (simp; omega))) ?_; refine A0 aS ?_; refine CNQR ?_; refine A0 mS ?_; refine A0 aS ?_; refine CN ?_
  exact aw_ret1 rfl rfl (ret_fresh_s rfl rfl (by simp; omega) rfl)
 ·
  refine CSQR ?_; refine A0 mL ?_; refine A0 aL ?_; refine CN ?_
  exact aw_ret1 rfl rfl (ret_fresh_nil rfl)
theorem concatId (ls : List (List Ab.Id)) (hl : ls.flatten.length ≤ 1000000) : Tells P 200 [.val (bsl (bsl idT)) ls] (.fresh 27 idT ls.flatten) := by
 refine fn_of_aw Tryz.func200 rfl rfl rfl (fun ext w hext => ?_)
 refine aw_fact (d := 0) rfl fact_sl (fun hsl0 => ?_)
 refine CQR ?_; refine A0 aL ?_; refine CNQR ?_; refine A0 aV ?_; refine CNQQR ?_; refine A0 mV ?_; refine A0 (g_len rfl rfl isl_253) ?_; refine A0 mV ?_; refine CNB ?_
 refine Lp (ι := Nat) 0 (fun (k : Nat) => (((((Fr.none).set 0 (.val (bsl (bsl idT)) ls)).set 3 (.val i64T ((ls.take k).flatten.length : Int))).set 9 (.val (bsl (bsl idT)) ls)).set 10 (.val i64T (ls.length : Int))).set 11 (.val i64T (k : Int))) (fun (k : Nat) => Hp.none) (fun (k : Nat) => k ≤ ls.length) (fun (k : Nat) => ls.length - k) (0) (Nat.zero_le _) ?_
 intro k hinv
 refine CQR ?_; refine A0 o_lss ?_; refine CNQ ?_
 refine Cf (p := k < ls.length) (fun ht12 => ?_) (fun ht12 => ?_)
 ·
  obtain ⟨x, hx⟩ : ∃ x, ls[k]? = some x := ⟨_, List.getElem?_eq_getElem ht12⟩
  have hle := flat_take_le ls (k + 1)
  rw [flat_take_succ hx, List.length_append] at hle
  refine CSQBQR ?_; refine A0 (g_ia_n rfl rfl rfl sl_253 (by assumption)) ?_; refine A0 (g_load_r rfl rfl ty_34) ?_; refine A0 aX ?_; refine CNQR ?_; refine A0 mV ?_; refine A0 mX ?_
  refine A0 (by first | exact g_len rfl rfl isl_34 | exact g_len_o rfl rfl rfl isl_34 | exact g_len_nil rfl rfl isl_34) ?_; refine A0 o_add ?_; refine A0 aV ?_; refine CNQR ?_; refine A0 mV ?_; refine A0 o_lss ?_; refine CN ?_
  refine aw_if_f rfl (decide_eq_false (by simp only [IntL.toI, id_eq]; omega)) ?_; refine CSIR ?_; refine A0 o_add ?_; refine A0 mV ?_; refine CN ?_
  refine aw_reval (d := 3) (y := ((ls.take (k + 1)).flatten.length : Int)) rfl (by rw [flat_take_succ hx, List.length_append]; omega) ?_
  exact Nx (k + 1) (by omega) (by omega)
 ·
  refine aw_reval (d := 3) (y := ((ls.flatten.length : Nat) : Int)) rfl (by rw [List.take_of_length_le (by omega)]) ?_; refine CE ?_; refine CQR ?_; refine A0 mV ?_
  refine aw_callf (growNilId ls.flatten.length hl) rfl fn_231 ⟨(by first | exact arg_same rfl | exact arg_bsl rfl | exact arg_own rfl rfl | exact arg_nil rfl | exact arg_rptr rfl | exact arg_fn rfl rfl | exact arg_lit rfl), (arg_v rfl), trivial⟩ rfl rfl rfl ?_
  refine A0 aO ?_; refine CNQQR ?_; refine A0 mV ?_; refine A0 (g_len rfl rfl isl_253) ?_; refine A0 mV ?_; refine CNB ?_
  refine Lp (ι := Nat) 1 (fun (k : Nat) => ((((Fr.none).set 6 (.own 0)).set 25 (.val (bsl (bsl idT)) ls)).set 26 (.val i64T (ls.length : Int))).set 27 (.val i64T (k : Int))) (fun (k : Nat) => (Hp.none).set 0 (.row 27 idT (ls.take k).flatten)) (fun (k : Nat) => k ≤ ls.length) (fun (k : Nat) => ls.length - k) (0) (Nat.zero_le _) ?_
  intro k hinv
  refine CQR ?_; refine A0 o_lss ?_; refine CNQ ?_
  refine Cf (p := k < ls.length) (fun ht28 => ?_) (fun ht28 => ?_)
  ·
   obtain ⟨x, hx⟩ : ∃ x, ls[k]? = some x := ⟨_, List.getElem?_eq_getElem ht28⟩
   have hle := flat_take_le ls (k + 1)
   rw [flat_take_succ hx, List.length_append] at hle
   refine CSQBQR ?_; refine A0 (g_ia_n rfl rfl rfl sl_253 (by assumption)) ?_; refine A0 (g_load_r rfl rfl ty_34) ?_; refine A0 aX ?_; refine CNR ?_; refine A0 mO ?_; refine A0 mX ?_
   refine aw_append rfl rfl rfl rfl rfl rfl rfl row_34 (by omega) ?_; refine A0 aO ?_; refine CNIR ?_; refine A0 o_add ?_; refine A0 mV ?_; refine CN ?_; refine aw_ren 1 0 2 rfl rfl rfl rfl rfl rfl ?_
   refine aw_rerow (n := 0) rfl (flat_take_succ hx).symm ?_
   exact Nx (k + 1) (by omega) (by omega)
  ·
   refine CE ?_; refine CQR ?_; refine A0 mO ?_; refine A0 aO ?_; refine CN ?_
   exact aw_ret1 rfl rfl (ret_fresh_eq rfl rfl (by rw [List.take_of_length_le (by omega)]))
def mulM (x y : UInt64) : UInt64 := shr64 x 32 * (y &&& 4294967295) + shr64 ((x &&& 4294967295) * (y &&& 4294967295)) 32
def mulHi (x y : UInt64) : UInt64 := shr64 x 32 * shr64 y 32 + shr64 (mulM x y) 32 + shr64 ((mulM x y &&& 4294967295) + (x &&& 4294967295) * shr64 y 32) 32
theorem mul64_ok (x y : UInt64) : Tells P 252 [.val u64T x, .val u64T y] (.tup2 (.val u64T (mulHi x y)) (.val u64T (x * y))) := by
 refine fn_of_aw Tryz.func252 rfl rfl rfl (fun ext w hext => ?_)
 refine CQR ?_; refine A0 aV ?_; refine A0 aV ?_; refine CNQR ?_; refine A0 mV ?_; refine A0 (g_and64 rfl rfl rfl) ?_; refine A0 aV ?_; refine CNQR ?_; refine A0 mV ?_
 refine A0 (g_shr64 rfl rfl rfl (by first | decide | (simp [IntL.toI]; done) | (simp [IntL.toI]; omega)) rfl) ?_; refine A0 aV ?_; refine CNQR ?_; refine A0 mV ?_; refine A0 (g_and64 rfl rfl rfl) ?_; refine A0 aV ?_; refine CNQR ?_
 refine A0 mV ?_; refine A0 (g_shr64 rfl rfl rfl (by first | decide | (simp [IntL.toI]; done) | (simp [IntL.toI]; omega)) rfl) ?_; refine A0 aV ?_; refine CNQR ?_; refine A0 mV ?_; refine A0 mV ?_; refine A0 (g_mul64 rfl rfl rfl) ?_
 refine A0 aV ?_; refine CNQR ?_; refine A0 mV ?_; refine A0 mV ?_; refine A0 (g_mul64 rfl rfl rfl) ?_; refine A0 mV ?_; refine A0 (g_shr64 rfl rfl rfl (by first | decide | (simp [IntL.toI]; done) | (simp [IntL.toI]; omega)) rfl) ?_
 refine A0 (g_add64 rfl rfl rfl) ?_; refine A0 aV ?_; refine CNQR ?_; refine A0 mV ?_; refine A0 (g_and64 rfl rfl rfl) ?_; refine A0 aV ?_; refine CNQR ?_; refine A0 mV ?_
 refine A0 (g_shr64 rfl rfl rfl (by first | decide | (simp [IntL.toI]; done) | (simp [IntL.toI]; omega)) rfl) ?_; refine A0 aV ?_; refine CNQR ?_; refine A0 mV ?_; refine A0 mV ?_; refine A0 mV ?_; refine A0 (g_mul64 rfl rfl rfl) ?_
 refine A0 (g_add64 rfl rfl rfl) ?_; refine A0 aV ?_; refine CNQR ?_; refine A0 mV ?_; refine A0 mV ?_; refine A0 (g_mul64 rfl rfl rfl) ?_; refine A0 mV ?_; refine A0 (g_add64 rfl rfl rfl) ?_; refine A0 mV ?_
 refine A0 (g_shr64 rfl rfl rfl (by first | decide | (simp [IntL.toI]; done) | (simp [IntL.toI]; omega)) rfl) ?_; refine A0 (g_add64 rfl rfl rfl) ?_; refine A0 aV ?_; refine CNQR ?_; refine A0 mV ?_; refine A0 mV ?_
 refine A0 (g_mul64 rfl rfl rfl) ?_; refine A0 aV ?_; refine CN ?_
 exact aw_ret2 rfl rfl (ret_eq rfl rfl) (ret_eq rfl rfl)
theorem mulU_ok (x y : UInt64) : Tells P 232 [.val u64T x, .val u64T y] (.tup2 (.val u64T (mulHi x y)) (.val u64T (x * y))) := by
 refine fn_of_aw Tryz.func232 rfl rfl rfl (fun ext w hext => ?_)
 refine CQR ?_; refine A0 aV ?_; refine A0 aV ?_; refine CNQ ?_; refine Cg ?_; refine CSQR ?_; refine A0 mV ?_; refine A0 mV ?_; refine A0 (oCl (mul64_ok _ _) rfl fn_252 ⟨(arg_v rfl), (arg_v rfl), trivial⟩) ?_; refine A0 mX ?_
 refine A0 (by first | exact g_x20 rfl rfl | exact g_x30 rfl rfl) ?_; refine A0 (by first | exact g_x21 rfl rfl | exact g_x31 rfl rfl) ?_; refine A0 aV ?_; refine A0 aV ?_; refine CNQR ?_; refine A0 mV ?_; refine A0 mV ?_; refine A0 aV ?_
 refine A0 aV ?_; refine CN ?_
 exact aw_ret2 rfl rfl (ret_eq rfl rfl) (ret_eq rfl rfl)
theorem mulHi_one {n : Nat} (h : n ≤ 1000000) : mulHi 1 (u64OfI (IntL.toI i64T (n : Int))) = 0 := by
  have e : (u64OfI (IntL.toI i64T (n : Int))).toNat = n := by
    unfold u64OfI
    show (UInt64.ofNat ((n : Int) % 18446744073709551616).toNat).toNat = n
    rw [UInt64.toNat_ofNat_of_lt' (by show _ < 18446744073709551616; omega)]; omega
  obtain ⟨y, hy⟩ : ∃ y, y = u64OfI (IntL.toI i64T (n : Int)) := ⟨_, rfl⟩
  rw [← hy] at e ⊢
  have a1 : shr64 (1 : UInt64) 32 = 0 := by decide
  have a2 : shr64 y 32 = 0 := by
    apply UInt64.toNat_inj.1
    rw [shr64_n y (by decide), e]
    show n / 4294967296 = 0
    omega
  have a3 : y &&& 4294967295 = y := by
    apply UInt64.toNat_inj.1
    rw [UInt64.toNat_and, e]
    show n &&& (2 ^ 32 - 1) = n
    rw [Nat.and_two_pow_sub_one_eq_mod]; omega
  have a4 : (1 : UInt64) &&& 4294967295 = 1 := by decide
  unfold mulHi mulM
  rw [a1, a2, a3, a4, UInt64.one_mul, a2]
  simp
  rfl
theorem mulLo_one {n : Nat} (h : n ≤ 1000000) : IntKind.i64.wrap (IntL.toI u64T (1 * u64OfI (IntL.toI i64T (n : Int)))) = (n : Int) := by
  have e : (u64OfI (IntL.toI i64T (n : Int))).toNat = n := by
    unfold u64OfI
    show (UInt64.ofNat ((n : Int) % 18446744073709551616).toNat).toNat = n
    rw [UInt64.toNat_ofNat_of_lt' (by show _ < 18446744073709551616; omega)]; omega
  rw [UInt64.one_mul]
  show IntKind.i64.wrap (((u64OfI (IntL.toI i64T (n : Int))).toNat : Nat) : Int) = n
  rw [e, wrap_eq (by omega)]
theorem u64_small {n : Nat} (h : n ≤ 1000000) : (u64OfI (IntL.toI i64T (n : Int))).toNat = n := by
  unfold u64OfI
  show (UInt64.ofNat ((n : Int) % 18446744073709551616).toNat).toNat = n
  rw [UInt64.toNat_ofNat_of_lt' (by show _ < 18446744073709551616; omega)]; omega
theorem rep_step {x : Ab.Id} {l : List Ab.Id} {i m N : Nat} (hl : l.length = N) (hi : i + m ≤ N) (hm : m ≤ i) (h : l.take i = List.replicate i x) : (l.take i ++ (l.take i).take m ++ l.drop (i + m)).take (i + m) = List.replicate (i + m) x := by
  rw [h, List.take_replicate, Nat.min_eq_left hm, ← List.replicate_append_replicate, List.take_append_of_le_length (by simp), List.take_of_length_le (by simp)]
theorem repeatId (x : Ab.Id) (n : Nat) (hn : 1 ≤ n ∧ n ≤ 1000) : Tells P 201 [.val (bsl idT) [x], .val i64T (n : Int)] (.fresh 27 idT (List.replicate n x)) := by
 refine fn_of_aw Tryz.func201 rfl rfl rfl (fun ext w hext => ?_)
 refine aw_fact (d := 0) rfl fact_sl (fun hsl0 => ?_)
 refine aw_fact (d := 1) rfl fact_int (fun hin1 => ?_)
 refine CQR ?_; refine A0 aL ?_; refine CNQQR ?_; refine A0 mV ?_; refine A0 o_lss ?_; refine CN ?_; refine aw_if_f rfl (decide_eq_false (by simp only [IntL.toI, id_eq]; omega)) ?_; refine CSQR ?_; refine A0 mV ?_
 refine A0 (g_len rfl rfl isl_34) ?_; refine A0 (g_cv64 rfl (ui_156) (us_3) rfl) ?_; refine A0 mV ?_; refine A0 (g_cv64 rfl (ui_156) (us_3) rfl) ?_
 refine A0 (oCl (mulU_ok 1 (u64OfI (IntL.toI i64T (n : Int)))) rfl fn_232 ⟨(arg_v rfl), (arg_v rfl), trivial⟩) ?_; refine A0 mX ?_; refine A0 (by first | exact g_x20 rfl rfl | exact g_x30 rfl rfl) ?_
 refine aw_reval (d := 19) (y := (0 : UInt64)) rfl (mulHi_one (by omega)) ?_; refine A0 (by first | exact g_x21 rfl rfl | exact g_x31 rfl rfl) ?_; refine A0 aV ?_; refine A0 aV ?_; refine CNQQR ?_; refine A0 mV ?_; refine A0 o_gtr ?_
 refine aw_isf (d := 22) rfl (rfl) ?_; refine A0 mV ?_; refine A1 mV ?_; refine A1 o_gtr ?_
 refine aw_isf (d := 25) rfl (decide_eq_false (by rw [UInt64.one_mul]; show ¬ ((9223372036854775807 : Int) < (((u64OfI (IntL.toI i64T (n : Int))).toNat : Nat) : Int)); rw [u64_small (by omega)]; omega)) ?_; refine A0 oK ?_; refine CN ?_
 refine Cg ?_; refine CSQR ?_; refine A0 mV ?_; refine A0 (g_cvi rfl (ui_3) (us_156) rfl (mulLo_one (by omega))) ?_
 refine aw_mks (T := idT) (n := n) rfl rfl rfl rfl rfl rfl (by first | omega | rfl) (by first | omega | rfl) row_34 ze_27 ⟨by omega, by omega, (show (n) * 32 ≤ 16777216 by omega)⟩ ?_; refine A0 aO ?_; refine CNQR ?_; refine A0 mO ?_
 refine A0 mV ?_; refine aw_copy_o rfl rfl rfl rfl rfl rfl rfl row_34 (m := 1) (by simp; omega) (by simp; omega) ?_; refine A0 aX ?_; refine CNQ ?_; refine CB ?_
 refine Lp (ι := Nat × List Ab.Id) 1 (fun (i : Nat × List Ab.Id) => match i with | (i, l) => ((Fr.none).set 7 (.own 0)).set 8 (.val i64T (i : Int))) (fun (i : Nat × List Ab.Id) => match i with | (i, l) => (Hp.none).set 0 (.row 27 idT l)) (fun (i : Nat × List Ab.Id) => match i with | (i, l) => l.length = n ∧ 1 ≤ i ∧ i ≤ n ∧ l.take i = List.replicate i x) (fun (i : Nat × List Ab.Id) => match i with | (i, l) => n - i) ((1, [x] ++ (List.replicate n zId).drop 1)) (⟨by simp; omega, by omega, by omega, by simp⟩) ?_
 intro ⟨i, l⟩ hinv
 dsimp only at hinv
 refine CQQR ?_; refine A0 mV ?_; refine A0 mO ?_; refine A0 (g_len_o rfl rfl rfl isl_34) ?_; refine A0 o_lss ?_; refine CN ?_
 refine aw_ifc (p := i < n) rfl (by rw [decide_eq_decide]; simp only [IntL.toI, id_eq, hinv.1]; omega) (fun ht37 => ?_) (fun ht37 => ?_)
 ·
  refine CS ?_; refine CB ?_; refine aw_drawx [some 1000001, some 1, some 1, some 1, some 1, some 1, some 1, none, some 1, some 1] mixed (by decide +kernel) ?_; refine XK.ga (fun _ => g_mv (.inl rfl) rfl) rfl rfl rfl ?_; refine X0 mO ?_
  refine X0 mV ?_; refine X0 (g_os_l (p := i) rfl rfl rfl rfl sl_34 (by first | omega | rfl) (by first | assumption | omega | (simp; omega))) ?_; refine X0 mO ?_; refine X0 mV ?_
  refine X0 (g_os_h (q := i) rfl rfl rfl rfl sl_34 (by first | omega | rfl) (by first | assumption | omega | (simp; omega))) ?_
  refine XK.e (fun fr' hfr kk H => by exact aw_copy_in rfl rfl rfl rfl ((hfr 41 (by decide +kernel)).trans rfl) ((hfr 44 (by decide +kernel)).trans rfl) rfl row_34 (m := min i (n - i)) (by omega) (by omega) (aw_nil H)) ?_; refine X0 o_add ?_
  refine X0 aV ?_; refine XK.nil' ?_; refine CI ?_
  exact Nx ((i + min i (n - i), l.take i ++ (l.take i).take (min i (n - i)) ++ l.drop (i + min i (n - i)))) (⟨by simp; omega, by omega, by omega, rep_step hinv.1 (by omega) (by omega) hinv.2.2.2⟩) (by show n - (i + min i (n - i)) < n - i; omega)
 ·
  refine CE ?_; refine CQR ?_; refine A0 mO ?_; refine A0 aO ?_; refine CN ?_
  exact aw_ret1 rfl rfl (ret_fresh_eq rfl rfl (by have h := hinv.2.2.2; rw [List.take_of_length_le (by omega)] at h; rw [h]; congr 1; omega))
end Go.Proofs.YtgoebfjaaklopaaGreat
set_option maxRecDepth 20000
namespace Go.Proofs.YtgoebfjaaklopaaGreat
set_option linter.unusedVariables false
set_option linter.unusedSimpArgs false
open Go.Ab Go.RowKit
def halfN (n : Nat) : Nat := 2 ^ (bitLen (n - 1) - 1)
theorem half_pos (n : Nat) : 0 < halfN n := Nat.two_pow_pos _
theorem half_lt {n : Nat} (h : 2 ≤ n) : halfN n < n := by
  unfold halfN bitLen
  rw [if_neg (by omega), Nat.add_sub_cancel]
  have := Nat.log2_self_le (n := n - 1) (by omega)
  omega
theorem half_eq {n : Nat} (h : 2 ≤ n) (hn : n < 4398046511104) : IntKind.i64.wrap (1 * 2 ^ (min (IntL.toI i64T (((bitLen (u64OfI (IntL.toI i64T ((n : Int) - 1))).toNat : Nat) : Int) - 1)).toNat 64)) = (halfN n : Nat) := by
  have e1 : (u64OfI (IntL.toI i64T ((n : Int) - 1))).toNat = n - 1 := by
    unfold u64OfI
    show (UInt64.ofNat (((n : Int) - 1) % 18446744073709551616).toNat).toNat = n - 1
    rw [UInt64.toNat_ofNat_of_lt' (by show _ < 18446744073709551616; omega)]; omega
  have hb := bitLen_le (s := 42) (n := n - 1) (by omega)
  have hp : 2 ^ (bitLen (n - 1) - 1) ≤ 2 ^ 42 := Nat.pow_le_pow_right (by decide) (by omega)
  rw [e1]
  have e2 : (IntL.toI i64T (((bitLen (n - 1) : Nat) : Int) - 1)).toNat = bitLen (n - 1) - 1 := by
    show (((bitLen (n - 1) : Nat) : Int) - 1).toNat = _; omega
  rw [e2, Nat.min_eq_left (by omega), Int.one_mul]
  have e3 : (2 : Int) ^ (bitLen (n - 1) - 1) = ((2 ^ (bitLen (n - 1) - 1) : Nat) : Int) := by simp
  rw [e3]
  show _ = ((2 ^ (bitLen (n - 1) - 1) : Nat) : Int)
  obtain ⟨q, hq⟩ : ∃ q, q = 2 ^ (bitLen (n - 1) - 1) := ⟨_, rfl⟩
  rw [← hq] at hp ⊢
  exact wrap_eq (by omega)
theorem bitLen_one {n : Nat} (h : 2 ≤ n) (hn : n < 4398046511104) : 1 ≤ bitLen (u64OfI (IntL.toI i64T ((n : Int) - 1))).toNat ∧ bitLen (u64OfI (IntL.toI i64T ((n : Int) - 1))).toNat ≤ 42 := by
  have e1 : (u64OfI (IntL.toI i64T ((n : Int) - 1))).toNat = n - 1 := by
    unfold u64OfI
    show (UInt64.ofNat (((n : Int) - 1) % 18446744073709551616).toNat).toNat = n - 1
    rw [UInt64.toNat_ofNat_of_lt' (by show _ < 18446744073709551616; omega)]; omega
  rw [e1]
  refine ⟨?_, bitLen_le (by omega)⟩
  unfold bitLen
  rw [if_neg (by omega)]; omega
theorem half_ok (n : Nat) (h : 2 ≤ n) (hn : n < 4398046511104) : Tells P 189 [.val i64T (n : Int)] (.val i64T (halfN n : Nat)) := by
 obtain ⟨hb1, hb2⟩ := bitLen_one h hn
 refine fn_of_aw Tryz.func189 rfl rfl rfl (fun ext w hext => ?_)
 refine aw_fact (d := 0) rfl fact_int (fun hin0 => ?_)
 refine CQR ?_; refine A0 aV ?_; refine CNQR ?_; refine A0 mV ?_; refine A0 o_sub ?_; refine A0 (g_cv64 rfl (ui_156) (us_3) rfl) ?_; refine A0 (oCl (lenU_ok _) rfl fn_228 ⟨(arg_v rfl), trivial⟩) ?_; refine A0 o_sub ?_
 refine A0 (g_shlI rfl rfl rfl (by first | decide | omega | (show (0 : Int) ≤ ((_ : Nat) : Int) - 1; omega) | (simp [IntL.toI]; done) | (simp [IntL.toI]; omega)) rfl) ?_; refine A0 aV ?_; refine CN ?_
 exact aw_ret1 rfl rfl (ret_eq rfl (half_eq h hn))
def leafOf (b : List UInt8) : Ab.Id := shaSum ([0] ++ b)
theorem leaf_ok (b : List UInt8) (hb : b.length ≤ 1000000) : Tells P 191 [.val (bsl u8T) b] (.val idT (leafOf b)) := by
 refine fn_of_aw Tryz.func191 rfl rfl rfl (fun ext w hext => ?_)
 refine aw_fact (d := 0) rfl fact_sl (fun hsl0 => ?_)
 refine CQR ?_; refine aw_alloc ze_27 rfl rfl rfl rfl ?_; refine CNQR ?_; refine A0 (g_bslice (T := u8T) (xs := [_]) rfl sl_101 row_101 ⟨rfl, rfl, trivial⟩ rfl rfl) ?_; refine aw_lend (S := bsl u8T) (d := 3) rfl ?_; refine A0 mV ?_
 refine A0 (g_bslice (T := (bsl u8T)) (xs := [_, _]) rfl sl_125 row_125 ⟨rfl, rfl, rfl, rfl, trivial⟩ rfl rfl) ?_; refine A0 (oCl (of_ok [[0], b] (by simp; omega)) rfl fn_65 ⟨(arg_v rfl), trivial⟩) ?_
 refine aw_store_b rfl rfl rfl rfl rfl (Lens.self _) ty_27 rfl ?_; refine CN ?_
 exact aw_retc1 rfl rfl rfl rfl ty_27 (by unfold leafOf; simp)
def nodeText (a b : Ab.Id) : List UInt8 := [1] ++ a ++ b
def nodeOf (a b : Ab.Id) : Ab.Id := shaSum (nodeText a b)
theorem treeText_ok (a b : Ab.Id) (ha : a.length = 32) (hb : b.length = 32) : Tells P 229 [.val (arrT 2 (by decide) idT) [a, b]] (.fresh 5 u8T (nodeText a b)) := by
 refine fn_of_aw Tryz.func229 rfl rfl rfl (fun ext w hext => ?_)
 refine CQR ?_; refine aw_box rfl rfl rfl rfl rfl ?_; refine A0 aL ?_; refine CNQ ?_; refine aw_freeze (d := 1) rfl rfl (Lens.self _) ?_
 have e0 : ([a, b] : List Ab.Id)[0]? = some a := rfl
 have e1 : ([a, b] : List Ab.Id)[1]? = some b := rfl
 refine aw_drawx [some 1, some 1, some 1, some 1, some 1, some 1, none, some 1] mixed (by decide +kernel) ?_; refine X0 (g_lend (T := sl u8T) (S := bsl u8T) (g_bslice (T := u8T) (xs := [_]) rfl sl_101 row_101 ⟨rfl, rfl, trivial⟩ rfl rfl)) ?_
 refine X0 (g_ia_ra (i := 0) rfl rfl rfl (by first | omega | rfl) ar_252 (by assumption)) ?_; refine X0 (g_slice_r rfl rfl ar_27 rfl rfl) ?_; refine X0 (g_ia_ra (i := 1) rfl rfl rfl (by first | omega | rfl) ar_252 (by assumption)) ?_
 refine X0 (g_slice_r rfl rfl ar_27 rfl rfl) ?_; refine X0 (g_bslice (T := (bsl u8T)) (xs := [_, _, _]) rfl sl_125 row_125 ⟨rfl, rfl, rfl, rfl, rfl, rfl, trivial⟩ rfl rfl) ?_
 refine XK.e (fun fr' hfr kk H => by exact aw_callf (concat_ok [[1], a, b] (by simp; omega)) rfl fn_111 ⟨(arg_v ((hfr 8 (by decide +kernel)).trans rfl)), trivial⟩ rfl rfl rfl (aw_nil H)) ?_; refine X0 aO ?_; refine XK.nil' ?_
 exact aw_ret1 rfl rfl (ret_fresh_eq rfl rfl (by unfold nodeText; simp))
theorem node_ok (a b : Ab.Id) : Tells P 190 [.val idT a, .val idT b] (.val idT (nodeOf a b)) := by
 refine fn_of_aw Tryz.func190 rfl rfl rfl (fun ext w hext => ?_)
 refine aw_fact (d := 0) rfl fact_idL (fun ha => ?_)
 refine aw_fact (d := 1) rfl fact_idL (fun hb => ?_)
 refine CQR ?_; refine aw_box rfl rfl rfl rfl rfl ?_; refine aw_box rfl rfl rfl rfl rfl ?_; refine aw_alloc ze_27 rfl rfl rfl rfl ?_; refine CNQR ?_; refine A0 (oLs rfl rfl rfl ty_27) ?_; refine A0 (oLs rfl rfl rfl ty_27) ?_
 refine A0 (g_buildA (T := idT) (xs := [_, _]) rfl ar_252 ze_252 ⟨rfl, rfl, rfl, rfl, trivial⟩ rfl) ?_; refine A0 (oCl (tells_pub (treeText_ok a b ha hb)) rfl fn_229 ⟨(arg_v rfl), trivial⟩) ?_
 refine A0 (oCl (sum_ok (nodeText a b) (by unfold nodeText; simp; omega)) rfl fn_113 ⟨(arg_v rfl), trivial⟩) ?_; refine aw_store_b rfl rfl rfl rfl rfl (Lens.self _) ty_27 rfl ?_; refine CN ?_
 exact aw_retc1 rfl rfl rfl rfl ty_27 (rfl)
end Go.Proofs.YtgoebfjaaklopaaGreat
set_option maxRecDepth 20000
namespace Go.Proofs.YtgoebfjaaklopaaGreat
set_option linter.unusedVariables false
set_option linter.unusedSimpArgs false
open Go.Ab Go.RowKit
def rootOf (l : List Ab.Id) : Ab.Id := if l.length = 0 then shaSum [2] else if h1 : l.length ≤ 1 then l.headD zId else nodeOf (rootOf (l.take (halfN l.length))) (rootOf (l.drop (halfN l.length)))
termination_by l.length
decreasing_by
  · have := half_lt (n := l.length) (by omega); simp; omega
  · have := half_pos l.length; simp; omega
theorem root_ok (l : List Ab.Id) (hl : l.length < 4398046511104) : Tells P 143 [.val (bsl idT) l] (.val idT (rootOf l)) := by
 refine fn_of_aw Tryz.func143 rfl rfl rfl (fun ext w hext => ?_)
 refine aw_fact (d := 0) rfl fact_sl (fun hsl0 => ?_)
 refine CQR ?_; refine aw_alloc ze_27 rfl rfl rfl rfl ?_; refine CNQQR ?_; refine A0 mV ?_; refine A0 (g_len rfl rfl isl_34) ?_; refine CNB ?_; refine CQR ?_; refine A0 o_eql ?_; refine A0 aV ?_; refine CN ?_
 refine Cf (p := l.length = 0) (fun ht6 => ?_) (fun ht6 => ?_)
 ·
  refine CQR ?_; refine A0 (g_bslice (T := u8T) (xs := [_]) rfl sl_101 row_101 ⟨rfl, rfl, trivial⟩ rfl rfl) ?_; refine A0 (oCl (sum_ok [2] (by decide)) rfl fn_113 ⟨(arg_v rfl), trivial⟩) ?_
  refine aw_store_b rfl rfl rfl rfl rfl (Lens.self _) ty_27 rfl ?_; refine CN ?_
  exact aw_retc1 rfl rfl rfl rfl ty_27 (by rw [rootOf, if_pos ht6])
 ·
  refine CQR ?_; refine A0 o_eql ?_; refine A0 aV ?_; refine CN ?_
  refine Cf (p := l.length = 1) (fun ht10 => ?_) (fun ht10 => ?_)
  ·
   obtain ⟨x, hx⟩ : ∃ x, l[0]? = some x := ⟨_, List.getElem?_eq_getElem (by omega)⟩
   refine CQR ?_; refine A0 mV ?_; refine A0 (g_ia_i (i := 0) rfl rfl rfl (by omega) sl_34 (by assumption)) ?_; refine A0 (g_load_r rfl rfl ty_27) ?_; refine aw_store_b rfl rfl rfl rfl rfl (Lens.self _) ty_27 rfl ?_; refine CN ?_
   exact aw_retc1 rfl rfl rfl rfl ty_27 (by rw [rootOf, if_neg ht6, dif_pos (by omega)]; cases l with | nil => simp at ht6 | cons a m => simp at hx ⊢; exact hx.symm)
  ·
   have hp := half_pos l.length
   have hh := half_lt (n := l.length) (by omega)
   refine CS ?_; refine CI ?_; refine CQR ?_; refine A0 mV ?_; refine A0 (g_len rfl rfl isl_34) ?_; refine A0 (oCl (half_ok l.length (by omega) (by omega)) rfl fn_189 ⟨(arg_v rfl), trivial⟩) ?_; refine A0 aV ?_; refine CNQ ?_
   refine aw_drawx [some 1, some 1, some 1, some 1, some 1, some 1, some 1, some 1, some 1, none] mixed (by decide +kernel) ?_; refine X0 mV ?_; refine X0 mV ?_
   refine X0 (by first | exact g_sl_nil rfl rfl rfl (by first | rfl | omega) sl_34 | exact g_sl_h rfl rfl rfl sl_34 (by first | assumption | omega | (simp; omega))) ?_
   refine X0 (oCl (root_ok (l.take (halfN l.length)) (by simp; omega)) rfl fn_143 ⟨(arg_v rfl), trivial⟩) ?_; refine X0 mV ?_; refine X0 mV ?_; refine X0 (g_sl_l rfl rfl rfl sl_34 (by first | assumption | omega | (simp; omega))) ?_
   refine X0 (oCl (root_ok (l.drop (halfN l.length)) (by simp; omega)) rfl fn_143 ⟨(arg_v rfl), trivial⟩) ?_; refine X0 (oCl (node_ok _ _) rfl fn_190 ⟨(arg_v rfl), (arg_v rfl), trivial⟩) ?_
   refine XK.e (x := .idk) (fun fr' hfr kk H => by exact aw_store_b rfl rfl rfl ((hfr 2 (by decide +kernel)).trans rfl) rfl (Lens.self _) ty_27 ((hfr 26 (by decide +kernel)).trans rfl) (aw_nil H)) ?_; refine XK.nil' ?_
   exact aw_retc1 rfl rfl rfl rfl ty_27 (by conv => rhs; rw [rootOf, if_neg ht6, dif_neg (by omega)])
termination_by l.length
decreasing_by
  all_goals (simp; omega)
end Go.Proofs.YtgoebfjaaklopaaGreat
set_option maxRecDepth 20000
namespace Go.Proofs.YtgoebfjaaklopaaGreat
set_option linter.unusedVariables false
set_option linter.unusedSimpArgs false
open Go.Ab Go.RowKit
theorem ext_Add64 : ExtAt P 59 add64E := ⟨_, rfl, rfl, rfl, rfl, rfl⟩
theorem ext_Sub64 : ExtAt P 195 sub64E := ⟨_, rfl, rfl, rfl, rfl, rfl⟩
def carryN (f g : UInt64 → UInt64 → UInt64 → UInt64) (a b : Wide) (k : Nat) : Wide × UInt64 := (List.range k).foldl (fun x i => (x.1.set i (f (x.1.getD i default) (b.getD i default) x.2), g (x.1.getD i default) (b.getD i default) x.2)) (a, 0)
theorem carryN_succ {f g : UInt64 → UInt64 → UInt64 → UInt64} {a b : Wide} {k : Nat} : carryN f g a b (k + 1) = ((carryN f g a b k).1.set k (f ((carryN f g a b k).1.getD k default) (b.getD k default) (carryN f g a b k).2), g ((carryN f g a b k).1.getD k default) (b.getD k default) (carryN f g a b k).2) := by unfold carryN; rw [fold_succ]
def addW (a b : Wide) : Wide := (carryN addS addC a b 4).1
def addOk (a b : Wide) : Bool := decide ((carryN addS addC a b 4).2.toNat = 0)
def subW (a b : Wide) : Wide := (carryN subS subC a b 4).1
def subOk (a b : Wide) : Bool := decide ((carryN subS subC a b 4).2.toNat = 0)
theorem carryAdd_ok (a b : Wide) : Tells P 58 [.val wideT a, .val wideT b, .clo 59 []] (.tup2 (.val wideT (carryN addS addC a b 4).1) (.val boolT (decide ((carryN addS addC a b 4).2.toNat = 0)))) := by
 refine fn_of_aw Tryz.func58 rfl rfl rfl (fun ext w hext => ?_)
 refine CQR ?_; refine aw_box rfl rfl rfl rfl rfl ?_; refine aw_box rfl rfl rfl rfl rfl ?_; refine aw_alloc ze_30 rfl rfl rfl rfl ?_; refine A0 aV ?_; refine CNQR ?_; refine A0 aV ?_; refine CNQQR ?_; refine A0 mV ?_; refine CNB ?_
 refine Lp (ι := Nat) 3 (fun (k : Nat) => ((((((Fr.none).set 2 (.clo 59 [])).set 3 (.ptr 0 0)).set 4 (.ptr 1 0)).set 6 (.ptr 2 0)).set 8 (.val u64T (carryN addS addC a b k).2)).set 10 (.val i64T (k : Int))) (fun (k : Nat) => (((Hp.none).set 0 (.box 30 wideT (carryN addS addC a b k).1)).set 1 (.box 30 wideT b)).set 2 (.box 30 wideT zWide)) (fun (k : Nat) => k ≤ 4 ∧ (carryN addS addC a b k).2.toNat ≤ 1) (fun (k : Nat) => 4 - k) (0) (⟨Nat.zero_le _, Nat.zero_le 1⟩) ?_
 intro k hinv
 refine CQR ?_; refine A0 o_lss ?_; refine CNQ ?_
 refine Cf (p := k < 4) (fun ht11 => ?_) (fun ht11 => ?_)
 ·
  refine CSQBQR ?_; refine A0 mV ?_; refine A0 aV ?_; refine CN ?_
  refine aw_drawx [some 1, some 1, some 1, some 1, some 1, some 1, some 1, some 1, some 1, some 1, some 1, some 1, some 1000001, some 1, none, some 1] mixed (by decide +kernel) ?_; refine X0 mV ?_; refine X0 mC ?_; refine X0 mV ?_
  refine X0 (g_ia_b0 (i := k) rfl rfl rfl (by first | omega | rfl) ar_30 (by omega)) ?_; refine X0 (g_load_b rfl rfl rfl (Lens.elem (i := k) (by omega) u64T) ty_28) ?_; refine X0 mV ?_
  refine X0 (g_ia_b0 (i := k) rfl rfl rfl (by first | omega | rfl) ar_30 (by omega)) ?_; refine X0 (g_load_b rfl rfl rfl (Lens.elem (i := k) (by omega) u64T) ty_28) ?_; refine X0 mV ?_
  refine X0 (g_ext3 rfl ext_Add64 rfl rfl rfl rfl (fun P w => Go.Ab.run_add64 P w _ _ hinv.2)) ?_; refine X0 mX ?_; refine X0 (by first | exact g_x20 rfl rfl | exact g_x30 rfl rfl) ?_
  refine XK.ga (fun _ => by first | exact g_x21 rfl rfl | exact g_x31 rfl rfl) rfl rfl rfl ?_; refine X0 (g_ia_b0 (i := k) rfl rfl rfl (by first | omega | rfl) ar_30 (by omega)) ?_
  refine XK.e (x := .idk) (fun fr' hfr kk H => by exact aw_store_b rfl rfl rfl ((hfr 26 (by decide +kernel)).trans rfl) rfl (Lens.elem (i := k) (by omega) u64T) ty_28 ((hfr 24 (by decide +kernel)).trans rfl) (aw_nil H)) ?_; refine X0 aX ?_
  refine XK.nil' ?_; refine CI ?_; refine CR ?_; refine A0 o_add ?_; refine A0 mV ?_; refine CN ?_; refine aw_reheap (n := 0) (y := (carryN addS addC a b (k + 1)).1) rfl (by rw [carryN_succ]) ?_
  refine aw_reval (d := 8) (y := (carryN addS addC a b (k + 1)).2) rfl (by rw [carryN_succ]) ?_
  exact Nx (k + 1) (⟨by omega, by rw [carryN_succ]; exact addC_le _ _ hinv.2⟩) (by omega)
 ·
  obtain rfl : k = 4 := (by omega)
  refine CE ?_; refine CQR ?_; refine A0 (oLs rfl rfl rfl ty_30) ?_; refine A0 mV ?_; refine A0 o_eql ?_; refine aw_store_b rfl rfl rfl rfl rfl (Lens.self _) ty_30 rfl ?_; refine A0 aV ?_; refine CN ?_
  exact aw_retr2 rfl rfl (rv_cell rfl rfl ty_30 (rfl)) (rv_tmp (ret_eq rfl (by rw [decide_eq_decide]; show ((_ : Nat) : Int) = (0 : Int) ↔ _; omega)))
theorem carrySub_ok (a b : Wide) : Tells P 58 [.val wideT a, .val wideT b, .clo 195 []] (.tup2 (.val wideT (carryN subS subC a b 4).1) (.val boolT (decide ((carryN subS subC a b 4).2.toNat = 0)))) := by
 refine fn_of_aw Tryz.func58 rfl rfl rfl (fun ext w hext => ?_)
 refine CQR ?_; refine aw_box rfl rfl rfl rfl rfl ?_; refine aw_box rfl rfl rfl rfl rfl ?_; refine aw_alloc ze_30 rfl rfl rfl rfl ?_; refine A0 aV ?_; refine CNQR ?_; refine A0 aV ?_; refine CNQQR ?_; refine A0 mV ?_; refine CNB ?_
 refine Lp (ι := Nat) 3 (fun (k : Nat) => ((((((Fr.none).set 2 (.clo 195 [])).set 3 (.ptr 0 0)).set 4 (.ptr 1 0)).set 6 (.ptr 2 0)).set 8 (.val u64T (carryN subS subC a b k).2)).set 10 (.val i64T (k : Int))) (fun (k : Nat) => (((Hp.none).set 0 (.box 30 wideT (carryN subS subC a b k).1)).set 1 (.box 30 wideT b)).set 2 (.box 30 wideT zWide)) (fun (k : Nat) => k ≤ 4 ∧ (carryN subS subC a b k).2.toNat ≤ 1) (fun (k : Nat) => 4 - k) (0) (⟨Nat.zero_le _, Nat.zero_le 1⟩) ?_
 intro k hinv
 refine CQR ?_; refine A0 o_lss ?_; refine CNQ ?_
 refine Cf (p := k < 4) (fun ht11 => ?_) (fun ht11 => ?_)
 ·
  refine CSQBQR ?_; refine A0 mV ?_; refine A0 aV ?_; refine CN ?_
  refine aw_drawx [some 1, some 1, some 1, some 1, some 1, some 1, some 1, some 1, some 1, some 1, some 1, some 1, some 1000001, some 1, none, some 1] mixed (by decide +kernel) ?_; refine X0 mV ?_; refine X0 mC ?_; refine X0 mV ?_
  refine X0 (g_ia_b0 (i := k) rfl rfl rfl (by first | omega | rfl) ar_30 (by omega)) ?_; refine X0 (g_load_b rfl rfl rfl (Lens.elem (i := k) (by omega) u64T) ty_28) ?_; refine X0 mV ?_
  refine X0 (g_ia_b0 (i := k) rfl rfl rfl (by first | omega | rfl) ar_30 (by omega)) ?_; refine X0 (g_load_b rfl rfl rfl (Lens.elem (i := k) (by omega) u64T) ty_28) ?_; refine X0 mV ?_
  refine X0 (g_ext3 rfl ext_Sub64 rfl rfl rfl rfl (fun P w => Go.Ab.run_sub64 P w _ _ hinv.2)) ?_; refine X0 mX ?_; refine X0 (by first | exact g_x20 rfl rfl | exact g_x30 rfl rfl) ?_
  refine XK.ga (fun _ => by first | exact g_x21 rfl rfl | exact g_x31 rfl rfl) rfl rfl rfl ?_; refine X0 (g_ia_b0 (i := k) rfl rfl rfl (by first | omega | rfl) ar_30 (by omega)) ?_
  refine XK.e (x := .idk) (fun fr' hfr kk H => by exact aw_store_b rfl rfl rfl ((hfr 26 (by decide +kernel)).trans rfl) rfl (Lens.elem (i := k) (by omega) u64T) ty_28 ((hfr 24 (by decide +kernel)).trans rfl) (aw_nil H)) ?_; refine X0 aX ?_
  refine XK.nil' ?_; refine CI ?_; refine CR ?_; refine A0 o_add ?_; refine A0 mV ?_; refine CN ?_; refine aw_reheap (n := 0) (y := (carryN subS subC a b (k + 1)).1) rfl (by rw [carryN_succ]) ?_
  refine aw_reval (d := 8) (y := (carryN subS subC a b (k + 1)).2) rfl (by rw [carryN_succ]) ?_
  exact Nx (k + 1) (⟨by omega, by rw [carryN_succ]; exact subC_le _ _ _⟩) (by omega)
 ·
  obtain rfl : k = 4 := (by omega)
  refine CE ?_; refine CQR ?_; refine A0 (oLs rfl rfl rfl ty_30) ?_; refine A0 mV ?_; refine A0 o_eql ?_; refine aw_store_b rfl rfl rfl rfl rfl (Lens.self _) ty_30 rfl ?_; refine A0 aV ?_; refine CN ?_
  exact aw_retr2 rfl rfl (rv_cell rfl rfl ty_30 (rfl)) (rv_tmp (ret_eq rfl (by rw [decide_eq_decide]; show ((_ : Nat) : Int) = (0 : Int) ↔ _; omega)))
theorem addW_ok (a b : Wide) : Tells P 30 [.val wideT a, .val wideT b] (.tup2 (.val wideT (addW a b)) (.val boolT (addOk a b))) := by
 refine fn_of_aw Tryz.func30 rfl rfl rfl (fun ext w hext => ?_)
 refine CQR ?_; refine aw_box rfl rfl rfl rfl rfl ?_; refine aw_box rfl rfl rfl rfl rfl ?_; refine aw_alloc ze_30 rfl rfl rfl rfl ?_; refine A0 aV ?_; refine CNQR ?_; refine A0 (oLs rfl rfl rfl ty_30) ?_; refine A0 (oLs rfl rfl rfl ty_30) ?_
 refine A0 (oCl (carryAdd_ok a b) rfl fn_58 ⟨(arg_v rfl), (arg_v rfl), (by first | exact arg_fn1 (Cs := []) rfl fn_59 (by intro n hn; cases hn) trivial rfl (fun x => no_contract_of_math_bits_Add64) | exact arg_fn2 (Cs := []) rfl fn_59 (by intro n hn; cases hn) trivial rfl (fun x y => no_contract_of_math_bits_Add64) | exact arg_clo rfl), trivial⟩) ?_
 refine A0 (by first | exact g_x20 rfl rfl | exact g_x30 rfl rfl) ?_; refine A0 (by first | exact g_x21 rfl rfl | exact g_x31 rfl rfl) ?_; refine aw_store_b rfl rfl rfl rfl rfl (Lens.self _) ty_30 rfl ?_; refine A0 aV ?_; refine CN ?_
 exact aw_retr2 rfl rfl (rv_cell rfl rfl ty_30 (rfl)) (rv_tmp (ret_eq rfl (rfl)))
theorem subW_ok (a b : Wide) : Tells P 152 [.val wideT a, .val wideT b] (.tup2 (.val wideT (subW a b)) (.val boolT (subOk a b))) := by
 refine fn_of_aw Tryz.func152 rfl rfl rfl (fun ext w hext => ?_)
 refine CQR ?_; refine aw_box rfl rfl rfl rfl rfl ?_; refine aw_box rfl rfl rfl rfl rfl ?_; refine aw_alloc ze_30 rfl rfl rfl rfl ?_; refine A0 aV ?_; refine CNQR ?_; refine A0 (oLs rfl rfl rfl ty_30) ?_; refine A0 (oLs rfl rfl rfl ty_30) ?_
 refine A0 (oCl (carrySub_ok a b) rfl fn_58 ⟨(arg_v rfl), (arg_v rfl), (by first | exact arg_fn1 (Cs := []) rfl fn_195 (by intro n hn; cases hn) trivial rfl (fun x => no_contract_of_math_bits_Sub64) | exact arg_fn2 (Cs := []) rfl fn_195 (by intro n hn; cases hn) trivial rfl (fun x y => no_contract_of_math_bits_Sub64) | exact arg_clo rfl), trivial⟩) ?_
 refine A0 (by first | exact g_x20 rfl rfl | exact g_x30 rfl rfl) ?_; refine A0 (by first | exact g_x21 rfl rfl | exact g_x31 rfl rfl) ?_; refine aw_store_b rfl rfl rfl rfl rfl (Lens.self _) ty_30 rfl ?_; refine A0 aV ?_; refine CN ?_
 exact aw_retr2 rfl rfl (rv_cell rfl rfl ty_30 (rfl)) (rv_tmp (ret_eq rfl (rfl)))
end Go.Proofs.YtgoebfjaaklopaaGreat
set_option maxRecDepth 20000
namespace Go.Proofs.YtgoebfjaaklopaaGreat
set_option linter.unusedVariables false
set_option linter.unusedSimpArgs false
open Go.Ab Go.RowKit
def nW (a : Wide) : Nat := (a.getD 0 0).toNat + 18446744073709551616 * (a.getD 1 0).toNat + 340282366920938463463374607431768211456 * (a.getD 2 0).toNat + 6277101735386680763835789423207666416102355444464034512896 * (a.getD 3 0).toNat
abbrev W256 : Nat := 115792089237316195423570985008687907853269984665640564039457584007913129639936
theorem addS_n (a b c : UInt64) : (addS a b c).toNat = (a.toNat + b.toNat + c.toNat) % 18446744073709551616 := by unfold addS; rw [UInt64.toNat_ofNat']
theorem addC_n (a b : UInt64) {c : UInt64} (h : c.toNat ≤ 1) : (addC a b c).toNat = (a.toNat + b.toNat + c.toNat) / 18446744073709551616 := by
  have ha : a.toNat < 18446744073709551616 := a.toNat_lt
  have hb : b.toNat < 18446744073709551616 := b.toNat_lt
  unfold addC
  rw [UInt64.toNat_ofNat_of_lt' (by show _ < 18446744073709551616; omega)]
theorem carry_add (a0 a1 a2 a3 b0 b1 b2 b3 : UInt64) : carryN addS addC [a0, a1, a2, a3] [b0, b1, b2, b3] 4 = ([addS a0 b0 0, addS a1 b1 (addC a0 b0 0), addS a2 b2 (addC a1 b1 (addC a0 b0 0)), addS a3 b3 (addC a2 b2 (addC a1 b1 (addC a0 b0 0)))], addC a3 b3 (addC a2 b2 (addC a1 b1 (addC a0 b0 0)))) := rfl
theorem nW_lt {a : Wide} (_h : a.length = 4) : nW a < W256 := by
  have h0 : (a.getD 0 0).toNat < 18446744073709551616 := UInt64.toNat_lt _
  have h1 : (a.getD 1 0).toNat < 18446744073709551616 := UInt64.toNat_lt _
  have h2 : (a.getD 2 0).toNat < 18446744073709551616 := UInt64.toNat_lt _
  have h3 : (a.getD 3 0).toNat < 18446744073709551616 := UInt64.toNat_lt _
  unfold nW W256; omega
theorem nW_inj {a b : Wide} (ha : a.length = 4) (hb : b.length = 4) (h : nW a = nW b) : a = b := by
  match a, ha with
  | [a0, a1, a2, a3], _ => match b, hb with
    | [b0, b1, b2, b3], _ =>
      have h0 : a0.toNat < 18446744073709551616 := a0.toNat_lt
      have h1 : a1.toNat < 18446744073709551616 := a1.toNat_lt
      have h2 : a2.toNat < 18446744073709551616 := a2.toNat_lt
      have h3 : a3.toNat < 18446744073709551616 := a3.toNat_lt
      have k0 : b0.toNat < 18446744073709551616 := b0.toNat_lt
      have k1 : b1.toNat < 18446744073709551616 := b1.toNat_lt
      have k2 : b2.toNat < 18446744073709551616 := b2.toNat_lt
      have k3 : b3.toNat < 18446744073709551616 := b3.toNat_lt
      have h : a0.toNat + 18446744073709551616 * a1.toNat + 340282366920938463463374607431768211456 * a2.toNat + 6277101735386680763835789423207666416102355444464034512896 * a3.toNat = b0.toNat + 18446744073709551616 * b1.toNat + 340282366920938463463374607431768211456 * b2.toNat + 6277101735386680763835789423207666416102355444464034512896 * b3.toNat := h
      rw [UInt64.toNat_inj.1 (show a0.toNat = b0.toNat by omega), UInt64.toNat_inj.1 (show a1.toNat = b1.toNat by omega), UInt64.toNat_inj.1 (show a2.toNat = b2.toNat by omega), UInt64.toNat_inj.1 (show a3.toNat = b3.toNat by omega)]
theorem addW_len {a b : Wide} (ha : a.length = 4) (hb : b.length = 4) : (addW a b).length = 4 := by
  match a, ha with
  | [a0, a1, a2, a3], _ => match b, hb with
    | [b0, b1, b2, b3], _ => unfold addW; rw [carry_add]; rfl
theorem nW_add2 {a b : Wide} (ha : a.length = 4) (hb : b.length = 4) : nW (addW a b) = (nW a + nW b) % W256 ∧ (addOk a b = true ↔ nW a + nW b < W256) := by
  match a, ha with
  | [a0, a1, a2, a3], _ => match b, hb with
    | [b0, b1, b2, b3], _ =>
      have h0 : a0.toNat < 18446744073709551616 := a0.toNat_lt
      have h1 : a1.toNat < 18446744073709551616 := a1.toNat_lt
      have h2 : a2.toNat < 18446744073709551616 := a2.toNat_lt
      have h3 : a3.toNat < 18446744073709551616 := a3.toNat_lt
      have k0 : b0.toNat < 18446744073709551616 := b0.toNat_lt
      have k1 : b1.toNat < 18446744073709551616 := b1.toNat_lt
      have k2 : b2.toNat < 18446744073709551616 := b2.toNat_lt
      have k3 : b3.toNat < 18446744073709551616 := b3.toNat_lt
      have z : (0 : UInt64).toNat ≤ 1 := by decide
      have z0 : (0 : UInt64).toNat = 0 := rfl
      have c1 := addC_n a0 b0 z
      have l1 := addC_le a0 b0 z
      have c2 := addC_n a1 b1 l1
      have l2 := addC_le a1 b1 l1
      have c3 := addC_n a2 b2 l2
      have l3 := addC_le a2 b2 l2
      have c4 := addC_n a3 b3 l3
      have s0 := addS_n a0 b0 0
      have s1 := addS_n a1 b1 (addC a0 b0 0)
      have s2 := addS_n a2 b2 (addC a1 b1 (addC a0 b0 0))
      have s3 := addS_n a3 b3 (addC a2 b2 (addC a1 b1 (addC a0 b0 0)))
      unfold addW addOk
      rw [carry_add]
      unfold nW W256
      simp only [List.getD_cons_zero, List.getD_cons_succ, decide_eq_true_eq]
      rw [z0] at c1 s0
      generalize addC a3 b3 (addC a2 b2 (addC a1 b1 (addC a0 b0 0))) = x4 at *
      generalize addS a3 b3 (addC a2 b2 (addC a1 b1 (addC a0 b0 0))) = y3 at *
      generalize addS a2 b2 (addC a1 b1 (addC a0 b0 0)) = y2 at *
      generalize addC a2 b2 (addC a1 b1 (addC a0 b0 0)) = x3 at *
      generalize addS a1 b1 (addC a0 b0 0) = y1 at *
      generalize addC a1 b1 (addC a0 b0 0) = x2 at *
      generalize addS a0 b0 0 = y0 at *
      generalize addC a0 b0 0 = x1 at *
      constructor
      · omega
      · constructor <;> intro h <;> omega
theorem nW_add {a b : Wide} (ha : a.length = 4) (hb : b.length = 4) : nW (addW a b) = (nW a + nW b) % W256 := (nW_add2 ha hb).1
end Go.Proofs.YtgoebfjaaklopaaGreat
set_option maxRecDepth 20000
namespace Go.Proofs.YtgoebfjaaklopaaGreat
set_option linter.unusedVariables false
set_option linter.unusedSimpArgs false
open Go.Ab Go.RowKit
def longN (a : Wide) : Nat → Nat
  | 0 => 0
  | k + 1 => if 0 < (a.getD k default).toNat then k * 64 + bitLen (a.getD k default).toNat else longN a k
def longW (a : Wide) : Nat := longN a 4
theorem longN_yes {a : Wide} {k : Nat} (hk : 0 < k) (h : 0 < (a.getD (k - 1) default).toNat) : longN a k = (k - 1) * 64 + bitLen (a.getD (k - 1) default).toNat := by
  obtain ⟨j, rfl⟩ : ∃ j, k = j + 1 := ⟨k - 1, by omega⟩
  rw [Nat.add_sub_cancel] at *
  rw [longN, if_pos h]
theorem longN_no {a : Wide} {k : Nat} (hk : 0 < k) (h : ¬ 0 < (a.getD (k - 1) default).toNat) : longN a k = longN a (k - 1) := by
  obtain ⟨j, rfl⟩ : ∃ j, k = j + 1 := ⟨k - 1, by omega⟩
  rw [Nat.add_sub_cancel] at *
  rw [longN, if_neg h]
theorem longN_le (a : Wide) : ∀ k, longN a k ≤ k * 64
  | 0 => Nat.le_refl _
  | k + 1 => by
    have := longN_le a k
    have hb := bitLen_le (s := 64) (n := (a.getD k default).toNat) (UInt64.toNat_lt _)
    rw [longN]
    split <;> omega
theorem longW_le (a : Wide) : longW a ≤ 256 := longN_le a 4
theorem bitLen_pos {n : Nat} (h : 0 < n) : 1 ≤ bitLen n := by unfold bitLen; rw [if_neg (by omega)]; omega
theorem longW_pos {a : Wide} (hl : a.length = 4) (h : a ≠ zWide) : 1 ≤ longW a := by
  match a, hl with
  | [a0, a1, a2, a3], _ =>
    unfold longW
    simp only [longN, List.getD_cons_succ, List.getD_cons_zero]
    have hp : ∀ x : UInt64, 0 < x.toNat → 1 ≤ bitLen x.toNat := fun x hx => bitLen_pos hx
    have hz : ∀ x : UInt64, ¬ 0 < x.toNat → x = 0 := fun x hx => UInt64.toNat_inj.1 (by simp; omega)
    split
    · have := hp _ ‹_›; omega
    · split
      · have := hp _ ‹_›; omega
      · split
        · have := hp _ ‹_›; omega
        · split
          · have := hp _ ‹_›; omega
          · exact absurd (by rw [hz a0 ‹_›, hz a1 ‹_›, hz a2 ‹_›, hz a3 ‹_›]; rfl) h
def orBit (out : Wide) (n : Nat) : Wide := out.set (n / 64) (out.getD (n / 64) default ||| shl64 1 (n % 64))
def divStep (b : Wide) (x : Wide × Wide) (n : Nat) : Wide × Wide := if subOk x.1 (upW b n) = true then (subW x.1 (upW b n), orBit x.2 n) else x
def divN (b : Wide) : Nat → Wide × Wide → Wide × Wide
  | 0, x => x
  | n + 1, x => divN b n (divStep b x n)
theorem divN_at {b : Wide} {n : Int} (h : 0 ≤ n) (x : Wide × Wide) : divN b (n + 1).toNat x = divN b (n - 1 + 1).toNat (divStep b x n.toNat) := by
  rw [show (n + 1).toNat = n.toNat + 1 by omega, show (n - 1 + 1).toNat = n.toNat by omega, divN]
def divP (a b : Wide) : Wide × Wide := if b = zWide then (zWide, zWide) else ((divN b (longW a + 1 - longW b) (a, zWide)).2, (divN b (longW a + 1 - longW b) (a, zWide)).1)
def divW (a b : Wide) : Wide := (divP a b).1
def remW (a b : Wide) : Wide := (divP a b).2
def divOk (b : Wide) : Bool := decide (b ≠ zWide)
theorem longW_ok (a : Wide) : Tells P 151 [.val wideT a] (.val i64T (longW a : Nat)) := by
 refine fn_of_aw Tryz.func151 rfl rfl rfl (fun ext w hext => ?_)
 refine aw_fact (d := 0) rfl fact_wide (fun ha => ?_)
 refine CQR ?_; refine aw_box rfl rfl rfl rfl rfl ?_; refine A0 aV ?_; refine CNQQR ?_; refine A0 aV ?_; refine CNB ?_
 refine Lp (ι := Nat) 1 (fun (k : Nat) => ((Fr.none).set 1 (.ptr 0 0)).set 3 (.val i64T ((k : Int) - 1))) (fun (k : Nat) => (Hp.none).set 0 (.box 30 wideT a)) (fun (k : Nat) => k ≤ 4 ∧ longW a = longN a k) (fun (k : Nat) => k) (4) (⟨Nat.le_refl _, rfl⟩) ?_
 intro k hinv
 refine CQQR ?_; refine A0 mV ?_; refine A0 o_geq ?_; refine CN ?_
 refine Cf (p := 0 < k) (fun ht5 => ?_) (fun ht5 => ?_)
 ·
  refine CSQBQR ?_; refine A0 mV ?_; refine A0 (g_ia_b0 (i := k - 1) rfl rfl rfl (by first | omega | rfl) ar_30 (by omega)) ?_; refine A0 (g_load_b rfl rfl rfl (Lens.elem (i := k - 1) (by omega) u64T) ty_28) ?_; refine A0 o_gtr ?_; refine CN ?_
  refine aw_ifc (p := 0 < (a.getD (k - 1) default).toNat) rfl (by rw [decide_eq_decide]; show (0 : Int) < ((a.getD (k - 1) default).toNat : Int) ↔ _; omega) (fun ht11 => ?_) (fun ht11 => ?_)
  ·
   have hb := bitLen_le (s := 64) (n := (a.getD (k - 1) default).toNat) (UInt64.toNat_lt _)
   refine CQR ?_; refine A0 mV ?_; refine A0 o_mul ?_; refine A0 mV ?_; refine A0 (g_ia_b0 (i := k - 1) rfl rfl rfl (by first | omega | rfl) ar_30 (by omega)) ?_; refine A0 (g_load_b rfl rfl rfl (Lens.elem (i := k - 1) (by omega) u64T) ty_28) ?_
   refine A0 (oCl (len64_ok _) rfl fn_194 ⟨(arg_v rfl), trivial⟩) ?_; refine A0 o_add ?_; refine A0 aV ?_; refine CN ?_
   exact aw_ret1 rfl rfl (ret_eq rfl (by rw [hinv.2, longN_yes ht5 ht11]; omega))
  ·
   refine CSIR ?_; refine A0 mV ?_; refine A0 o_sub ?_; refine A0 aV ?_; refine CN ?_; refine aw_reval (d := 3) (y := ((k - 1 : Nat) : Int) - 1) rfl (by omega) ?_
   exact Nx (k - 1) (⟨by omega, by rw [hinv.2, longN_no ht5 ht11]⟩) (by omega)
 ·
  obtain rfl : k = 0 := (by omega)
  refine CE ?_; refine CQR ?_; refine A0 aV ?_; refine CN ?_
  exact aw_ret1 rfl rfl (ret_eq rfl (by rw [hinv.2]; rfl))
theorem divW_ok (a b : Wide) : Tells P 108 [.val wideT a, .val wideT b] (.tup3 (.val wideT (divW a b)) (.val wideT (remW a b)) (.val boolT (divOk b))) := by
 refine fn_of_aw Tryz.func108 rfl rfl rfl (fun ext w hext => ?_)
 refine aw_fact (d := 0) rfl fact_wide (fun ha => ?_)
 refine aw_fact (d := 1) rfl fact_wide (fun hb => ?_)
 refine CQR ?_; refine aw_box rfl rfl rfl rfl rfl ?_; refine aw_box rfl rfl rfl rfl rfl ?_; refine aw_alloc ze_30 rfl rfl rfl rfl ?_; refine aw_alloc ze_30 rfl rfl rfl rfl ?_; refine A0 aV ?_; refine CNQQR ?_
 refine A0 (oLs rfl rfl rfl ty_30) ?_; refine A0 (g_buildZ rfl ar_30 ze_30 rfl) ?_; refine A0 (g_eqlS rfl rfl rfl (eqt_30)) ?_; refine CN ?_
 refine aw_ifc (p := b = zWide) rfl (by simp) (fun ht13 => ?_) (fun ht13 => ?_)
 ·
  refine CQR ?_; refine A0 (g_buildZ rfl ar_30 ze_30 rfl) ?_; refine A0 (g_buildZ rfl ar_30 ze_30 rfl) ?_; refine aw_store_b rfl rfl rfl rfl rfl (Lens.self _) ty_30 rfl ?_; refine aw_store_b rfl rfl rfl rfl rfl (Lens.self _) ty_30 rfl ?_
  refine A0 aV ?_; refine CN ?_
  exact aw_retr3 rfl rfl (rv_cell rfl rfl ty_30 (by unfold divW divP; rw [if_pos ht13])) (rv_cell rfl rfl ty_30 (by unfold remW divP; rw [if_pos ht13])) (rv_tmp (ret_eq rfl (by unfold divOk; symm; exact decide_eq_false (fun h => h ht13))))
 ·
  have hz := longW_pos hb ht13
  have hla := longW_le a
  have hlb := longW_le b
  refine CSQR ?_; refine aw_alloc ze_30 rfl rfl rfl rfl ?_; refine CNQ ?_; refine CQ ?_; refine CD mixed ?_; refine G0 (oLs rfl rfl rfl ty_30) ?_; refine G0 (oCl (longW_ok _) rfl fn_151 ⟨(arg_v rfl), trivial⟩) ?_
  refine G0 (oLs rfl rfl rfl ty_30) ?_; refine G0 (oCl (longW_ok _) rfl fn_151 ⟨(arg_v rfl), trivial⟩) ?_; refine G0 o_sub ?_; refine G0 aV ?_; refine GK.nil ?_; refine CB ?_
  refine Lp (ι := Int × Wide × Wide) 5 (fun (i : Int × Wide × Wide) => match i with | (n, x) => ((((((Fr.none).set 2 (.ptr 0 0)).set 3 (.ptr 1 0)).set 4 (.ptr 2 0)).set 5 (.ptr 3 0)).set 7 (.ptr 4 0)).set 8 (.val i64T n)) (fun (i : Int × Wide × Wide) => match i with | (n, x) => (((((Hp.none).set 0 (.box 30 wideT x.1)).set 1 (.box 30 wideT b)).set 2 (.box 30 wideT zWide)).set 3 (.box 30 wideT zWide)).set 4 (.box 30 wideT x.2)) (fun (i : Int × Wide × Wide) => match i with | (n, x) => n ≤ 255 ∧ -256 ≤ n ∧ x.2.length = 4 ∧ divN b (n + 1).toNat x = divN b (longW a + 1 - longW b) (a, zWide)) (fun (i : Int × Wide × Wide) => match i with | (n, x) => (n + 1).toNat) (((longW a : Int) - (longW b : Int), a, zWide)) (⟨by omega, by omega, rfl, by rw [show ((longW a : Int) - (longW b : Int) + 1).toNat = longW a + 1 - longW b by omega]⟩) ?_
  intro ⟨n, x⟩ hinv
  dsimp only at hinv
  refine CQQR ?_; refine A0 mV ?_; refine A0 o_geq ?_; refine CN ?_
  refine Cf (p := 0 ≤ n) (fun ht22 => ?_) (fun ht22 => ?_)
  ·
   refine CS ?_; refine CQ ?_; refine CB ?_; refine CQ ?_; refine aw_drawx [some 1000001, some 1000001, some 1000001, some 1000001, some 1000001, some 1000001, some 1000001, some 1000001, none, none, some 1] mixed (by decide +kernel) ?_
   refine XK.gf (t := 2) rfl rfl (fun _ he => g_load_b rfl rfl he (Lens.self _) ty_30) ⟨rfl, trivial⟩ rfl rfl rfl ?_; refine XK.gf (t := 3) rfl rfl (fun _ he => g_load_b rfl rfl he (Lens.self _) ty_30) ⟨rfl, trivial⟩ rfl rfl rfl ?_
   refine XK.ga (fun _ => g_mv (.inl rfl) rfl) rfl rfl rfl ?_; refine XK.ga (fun _ => g_call (upW_ok _ _) rfl fn_106 ⟨(arg_v rfl), (arg_v rfl), trivial⟩ rfl) rfl rfl rfl ?_
   refine XK.ga (fun _ => g_call (subW_ok _ _) rfl fn_152 ⟨(arg_v rfl), (arg_v rfl), trivial⟩ rfl) rfl rfl rfl ?_
   refine XK.ga (fun _ => by first | exact g_mv (.inl rfl) rfl | exact g_mp (.inl rfl) rfl | exact g_mo (.inl rfl) rfl | exact g_ml (.inl rfl) rfl | exact g_mc (.inl rfl) rfl | exact g_mr (.inl rfl) rfl | exact g_mf1 (.inl rfl) rfl | exact g_mf2 (.inl rfl) rfl | exact g_mw (.inl rfl) rfl | exact g_me (.inl rfl) rfl | exact g_ms (.inl rfl) rfl | exact g_mt2 (.inl rfl) rfl | exact g_mt3 (.inl rfl) rfl | exact g_mi (.inl rfl) rfl) rfl rfl rfl ?_
   refine XK.ga (fun _ => by first | exact g_x20 rfl rfl | exact g_x30 rfl rfl) rfl rfl rfl ?_; refine XK.ga (fun _ => by first | exact g_x21 rfl rfl | exact g_x31 rfl rfl) rfl rfl rfl ?_
   refine XK.e (fun fr' hfr kk H => by exact aw_alloc ze_30 rfl rfl rfl rfl (aw_nil H)) ?_
   refine XK.e (x := .idk) (fun fr' hfr kk H => by exact aw_store_b rfl rfl rfl ((hfr 9 (by decide +kernel)).trans rfl) rfl (Lens.self _) ty_30 ((hfr 31 (by decide +kernel)).trans rfl) (aw_nil H)) ?_; refine X0 aV ?_
   refine XK.nilp ⟨⟨rfl, rfl, trivial⟩, ⟨rfl, rfl, trivial⟩, trivial⟩ ?_; refine CQR ?_; refine A0 mV ?_; refine CN ?_
   refine aw_ifc (p := subOk x.1 (upW b n) = true) rfl (by simp) (fun ht33 => ?_) (fun ht33 => ?_)
   ·
    refine CQR ?_; refine A0 (oLs rfl rfl rfl ty_30) ?_; refine aw_store_b rfl rfl rfl rfl rfl (Lens.self _) ty_30 rfl ?_; refine CN ?_
    refine aw_drawx [some 1, some 1, some 1, some 1, some 1, some 1, some 1, some 1, some 1, none] mixed (by decide +kernel) ?_; refine X0 mV ?_; refine X0 (g_quo rfl rfl rfl (by first | omega | assumption) (by first | decide | omega) rfl) ?_
    refine X0 (g_ia_b0 (i := n.toNat / 64) rfl rfl rfl (by first | omega | rfl) ar_30 (by omega)) ?_; refine X0 (g_load_b rfl rfl rfl (Lens.elem (i := n.toNat / 64) (by omega) u64T) ty_28) ?_; refine X0 mV ?_
    refine X0 (g_rem rfl rfl rfl (by first | omega | assumption) (by first | decide | omega) rfl) ?_; refine X0 (g_shl64 rfl rfl rfl (by first | decide | (simp [IntL.toI]; done) | (simp [IntL.toI]; omega)) rfl) ?_
    refine X0 (g_or64 rfl rfl rfl) ?_; refine X0 (g_ia_b0 (i := n.toNat / 64) rfl rfl rfl (by first | omega | rfl) ar_30 (by omega)) ?_
    refine XK.e (x := .idk) (fun fr' hfr kk H => by exact aw_store_b rfl rfl rfl ((hfr 43 (by decide +kernel)).trans rfl) rfl (Lens.elem (i := n.toNat / 64) (by omega) u64T) ty_28 ((hfr 42 (by decide +kernel)).trans rfl) (aw_nil H)) ?_
    refine XK.nil' ?_; refine CI ?_; refine CR ?_; refine A0 mV ?_; refine A0 o_sub ?_; refine A0 aV ?_; refine CN ?_
    refine aw_reheap (n := 4) (y := orBit x.2 n.toNat) rfl (by unfold orBit; rw [show (IntL.toI i64T (n % 64)).toNat = n.toNat % 64 by simp only [IntL.toI, id_eq]; omega]; rfl) ?_
    exact Nx ((n - 1, subW x.1 (upW b n), orBit x.2 n.toNat)) (by first | exact ⟨by omega, by omega, by unfold orBit; rw [List.length_set]; exact hinv.2.2.1, by rw [← hinv.2.2.2, divN_at ht22]; unfold divStep; rw [show ((n.toNat : Nat) : Int) = n by omega, if_pos ht33]⟩ | exact ⟨by omega, by omega, hinv.2.2.1, by rw [← hinv.2.2.2, divN_at ht22]; unfold divStep; rw [show ((n.toNat : Nat) : Int) = n by omega, if_neg ht33]⟩) (by show (n - 1 + 1).toNat < (n + 1).toNat; omega)
   ·
    refine CSIR ?_; refine A0 mV ?_; refine A0 o_sub ?_; refine A0 aV ?_; refine CN ?_
    exact Nx ((n - 1, x)) (by first | exact ⟨by omega, by omega, by unfold orBit; rw [List.length_set]; exact hinv.2.2.1, by rw [← hinv.2.2.2, divN_at ht22]; unfold divStep; rw [show ((n.toNat : Nat) : Int) = n by omega, if_pos ht33]⟩ | exact ⟨by omega, by omega, hinv.2.2.1, by rw [← hinv.2.2.2, divN_at ht22]; unfold divStep; rw [show ((n.toNat : Nat) : Int) = n by omega, if_neg ht33]⟩) (by show (n - 1 + 1).toNat < (n + 1).toNat; omega)
  ·
   refine CE ?_; refine CQ ?_; refine aw_drawx [some 1, some 1000001, none, none, some 1] mixed (by decide +kernel) ?_; refine X0 (oLs rfl rfl rfl ty_30) ?_
   refine XK.gf (t := 2) rfl rfl (fun _ he => g_load_b rfl rfl he (Lens.self _) ty_30) ⟨rfl, trivial⟩ rfl rfl rfl ?_
   refine XK.e (x := .idk) (fun fr' hfr kk H => by exact aw_store_b rfl rfl rfl ((hfr 4 (by decide +kernel)).trans rfl) rfl (Lens.self _) ty_30 ((hfr 44 (by decide +kernel)).trans rfl) (aw_nil H)) ?_
   refine XK.e (x := .idk) (fun fr' hfr kk H => by exact aw_store_b rfl rfl rfl ((hfr 5 (by decide +kernel)).trans rfl) rfl (Lens.self _) ty_30 ((hfr 45 (by decide +kernel)).trans rfl) (aw_nil H)) ?_; refine X0 aV ?_
   refine XK.nilp ⟨⟨rfl, rfl, trivial⟩, trivial⟩ ?_
   exact aw_retr3 rfl rfl (rv_cell rfl rfl ty_30 (by unfold divW divP; rw [if_neg ht13, ← hinv.2.2.2, show (n + 1).toNat = 0 by omega]; rfl)) (rv_cell rfl rfl ty_30 (by unfold remW divP; rw [if_neg ht13, ← hinv.2.2.2, show (n + 1).toNat = 0 by omega]; rfl)) (rv_tmp (ret_eq rfl (by unfold divOk; symm; exact decide_eq_true ht13)))
end Go.Proofs.YtgoebfjaaklopaaGreat
set_option maxRecDepth 20000
namespace Go.Proofs.YtgoebfjaaklopaaGreat
set_option linter.unusedVariables false
set_option linter.unusedSimpArgs false
open Go.Ab Go.RowKit
def workW (t : Wide) : Wide := if addOk t (ofW 1) = true then addW (divW [~~~ t.getD 0 default, ~~~ t.getD 1 default, ~~~ t.getD 2 default, ~~~ t.getD 3 default] (addW t (ofW 1))) (ofW 1) else ofW 1
theorem workW_ok (t : Wide) : Tells P 61 [.val wideT t] (.val wideT (workW t)) := by
 refine fn_of_aw Tryz.func61 rfl rfl rfl (fun ext w hext => ?_)
 refine aw_fact (d := 0) rfl fact_wide (fun ha => ?_)
 refine CQR ?_; refine aw_box rfl rfl rfl rfl rfl ?_; refine aw_alloc ze_30 rfl rfl rfl rfl ?_; refine CNQ ?_
 refine aw_drawx [some 1000001, some 1000001, some 1000001, some 1000001, some 1000001, some 1000001, none, none, some 1] mixed (by decide +kernel) ?_
 refine XK.gf (t := 1) rfl rfl (fun _ he => g_load_b rfl rfl he (Lens.self _) ty_30) ⟨rfl, trivial⟩ rfl rfl rfl ?_; refine XK.ga (fun _ => g_call (ofW_ok 1) rfl fn_107 ⟨(arg_v rfl), trivial⟩ rfl) rfl rfl rfl ?_
 refine XK.ga (fun _ => g_call (addW_ok _ _) rfl fn_30 ⟨(arg_v rfl), (arg_v rfl), trivial⟩ rfl) rfl rfl rfl ?_
 refine XK.ga (fun _ => by first | exact g_mv (.inl rfl) rfl | exact g_mp (.inl rfl) rfl | exact g_mo (.inl rfl) rfl | exact g_ml (.inl rfl) rfl | exact g_mc (.inl rfl) rfl | exact g_mr (.inl rfl) rfl | exact g_mf1 (.inl rfl) rfl | exact g_mf2 (.inl rfl) rfl | exact g_mw (.inl rfl) rfl | exact g_me (.inl rfl) rfl | exact g_ms (.inl rfl) rfl | exact g_mt2 (.inl rfl) rfl | exact g_mt3 (.inl rfl) rfl | exact g_mi (.inl rfl) rfl) rfl rfl rfl ?_
 refine XK.ga (fun _ => by first | exact g_x20 rfl rfl | exact g_x30 rfl rfl) rfl rfl rfl ?_; refine XK.ga (fun _ => by first | exact g_x21 rfl rfl | exact g_x31 rfl rfl) rfl rfl rfl ?_
 refine XK.e (fun fr' hfr kk H => by exact aw_alloc ze_30 rfl rfl rfl rfl (aw_nil H)) ?_
 refine XK.e (x := .idk) (fun fr' hfr kk H => by exact aw_store_b rfl rfl rfl ((hfr 3 (by decide +kernel)).trans rfl) rfl (Lens.self _) ty_30 ((hfr 13 (by decide +kernel)).trans rfl) (aw_nil H)) ?_; refine X0 aV ?_
 refine XK.nilp ⟨⟨rfl, rfl, trivial⟩, trivial⟩ ?_; refine CQQR ?_; refine A0 mV ?_; refine A0 oN ?_; refine CN ?_
 refine aw_ifc (p := ¬ addOk t (ofW 1) = true) rfl (by cases addOk t (ofW 1) <;> rfl) (fun ht16 => ?_) (fun ht16 => ?_)
 ·
  refine CQR ?_; refine A0 (oCl (ofW_ok 1) rfl fn_107 ⟨(arg_v rfl), trivial⟩) ?_; refine aw_store_b rfl rfl rfl rfl rfl (Lens.self _) ty_30 rfl ?_; refine CN ?_
  exact aw_retc1 rfl rfl rfl rfl ty_30 (by unfold workW; rw [if_neg ht16] <;> rfl)
 ·
  refine CSQR ?_; refine A0 (g_ia_b0 (i := 0) rfl rfl rfl (by first | omega | rfl) ar_30 (by omega)) ?_; refine A0 (g_load_b rfl rfl rfl (Lens.elem (i := 0) (by omega) u64T) ty_28) ?_; refine A0 (g_not64 rfl rfl) ?_
  refine A0 (g_ia_b0 (i := 1) rfl rfl rfl (by first | omega | rfl) ar_30 (by omega)) ?_; refine A0 (g_load_b rfl rfl rfl (Lens.elem (i := 1) (by omega) u64T) ty_28) ?_; refine A0 (g_not64 rfl rfl) ?_
  refine A0 (g_ia_b0 (i := 2) rfl rfl rfl (by first | omega | rfl) ar_30 (by omega)) ?_; refine A0 (g_load_b rfl rfl rfl (Lens.elem (i := 2) (by omega) u64T) ty_28) ?_; refine A0 (g_not64 rfl rfl) ?_
  refine A0 (g_ia_b0 (i := 3) rfl rfl rfl (by first | omega | rfl) ar_30 (by omega)) ?_; refine A0 (g_load_b rfl rfl rfl (Lens.elem (i := 3) (by omega) u64T) ty_28) ?_; refine A0 (g_not64 rfl rfl) ?_
  refine A0 (g_buildA (T := u64T) (xs := [_, _, _, _]) rfl ar_30 ze_30 ⟨rfl, rfl, rfl, rfl, rfl, rfl, rfl, rfl, trivial⟩ rfl) ?_; refine aw_alloc ze_30 rfl rfl rfl rfl ?_; refine aw_store_b rfl rfl rfl rfl rfl (Lens.self _) ty_30 rfl ?_
  refine CNQR ?_; refine A0 (oLs rfl rfl rfl ty_30) ?_; refine A0 (oLs rfl rfl rfl ty_30) ?_; refine A0 (oCl (divW_ok _ _) rfl fn_108 ⟨(arg_v rfl), (arg_v rfl), trivial⟩) ?_; refine A0 mX ?_
  refine A0 (by first | exact g_x20 rfl rfl | exact g_x30 rfl rfl) ?_; refine A0 (by first | exact g_x21 rfl rfl | exact g_x31 rfl rfl) ?_; refine A0 e32 ?_; refine aw_alloc ze_30 rfl rfl rfl rfl ?_; refine aw_alloc ze_30 rfl rfl rfl rfl ?_
  refine aw_store_b rfl rfl rfl rfl rfl (Lens.self _) ty_30 rfl ?_; refine aw_store_b rfl rfl rfl rfl rfl (Lens.self _) ty_30 rfl ?_; refine A0 aV ?_; refine CNQ ?_
  refine aw_drawx [some 1, some 1, some 1, some 1, some 1, some 1000001, none] mixed (by decide +kernel) ?_; refine X0 (oLs rfl rfl rfl ty_30) ?_; refine X0 (oCl (ofW_ok 1) rfl fn_107 ⟨(arg_v rfl), trivial⟩) ?_
  refine X0 (oCl (addW_ok _ _) rfl fn_30 ⟨(arg_v rfl), (arg_v rfl), trivial⟩) ?_; refine X0 mX ?_; refine X0 (by first | exact g_x20 rfl rfl | exact g_x30 rfl rfl) ?_
  refine XK.ga (fun _ => by first | exact g_x21 rfl rfl | exact g_x31 rfl rfl) rfl rfl rfl ?_
  refine XK.e (x := .idk) (fun fr' hfr kk H => by exact aw_store_b rfl rfl rfl ((hfr 6 (by decide +kernel)).trans rfl) rfl (Lens.self _) ty_30 ((hfr 42 (by decide +kernel)).trans rfl) (aw_nil H)) ?_; refine XK.nil' ?_; refine CQR ?_
  refine A0 (oLs rfl rfl rfl ty_30) ?_; refine aw_store_b rfl rfl rfl rfl rfl (Lens.self _) ty_30 rfl ?_; refine CN ?_
  exact aw_retc1 rfl rfl rfl rfl ty_30 (by unfold workW; rw [if_pos (Classical.not_not.1 ht16)] <;> rfl)
def hOk (h : Head) : Bool := decide (0 ≤ h.height ∧ h.height ≤ 1048576)
def putHead (h : Head) : List UInt8 := [numBytes (u64OfI (IntL.toI i64T h.height)) 4, h.prev, h.links, h.txs, h.past, bytesW h.work, numBytes (u64OfI (IntL.toI u32T h.bits)) 4, numBytes h.nonce 8].flatten
def headBytes (h : Head) : List UInt8 := if hOk h = true then putHead h else []
def headId (h : Head) : Ab.Id := if hOk h = true then shaSum ([5] ++ putHead h) else zId
def headLevel (h : Head) : Int := if tgtOk h.bits = true ∧ hOk h = true then (if h.height = 0 then 31 else levelW (headId h) (tgtW h.bits)) else -1
def headWork (h : Head) : Wide := if tgtOk h.bits = true then workW (tgtW h.bits) else zWide
def headMay (h : Head) : Bool := !decide (headLevel h = -1)
theorem fact_head {h : Head} {ρ : Nat → Value} {B : Nat → Prop} {U N : Nat → Prop} {w : World} {v : Value} (hv : (AV.val headT h).rel ρ B U N w v) : h.prev.length = 32 ∧ h.links.length = 32 ∧ h.txs.length = 32 ∧ h.past.length = 32 ∧ h.work.length = 4 := by
  obtain ⟨cs, ⟨_, _, _, _, _, _, _, h1, _, _, _, h2, _, _, _, h3, _, _, _, h4, _, _, _, h5, _⟩, _⟩ := hv
  exact ⟨h1.1, h2.1, h3.1, h4.1, h5.1⟩
theorem bytesW_len (a : Wide) : (bytesW a).length = 32 := by unfold bytesW; simp
theorem hput_ok (h : Head) : Tells P 64 [.val headT h] (.tup2 (.fresh 5 u8T (headBytes h)) (.val boolT (hOk h))) := by
 refine fn_of_aw Tryz.func64 rfl rfl rfl (fun ext w hext => ?_)
 refine aw_fact (d := 0) rfl fact_head (fun hh => ?_)
 obtain ⟨hh1, hh2, hh3, hh4, hh5⟩ := hh
 refine CQR ?_; refine aw_box rfl rfl rfl rfl rfl ?_; refine A0 aL ?_; refine A0 aV ?_; refine CNQQR ?_; refine A0 (oFp fd_33_0) ?_; refine A0 (oLb L_Head_height ty_3) ?_; refine A0 o_lss ?_
 refine Sp (d := 7) (p := h.height < 0) (fun g7 => ?_) (fun g7 => ?_)
 ·
  refine A0 mV ?_; refine A2 ?_; refine A2 ?_; refine A2 ?_; refine A0 oK ?_; refine CN ?_; refine Ct ?_; refine CQR ?_; refine A0 aL ?_; refine A0 aV ?_; refine CN ?_
  exact aw_ret2 rfl rfl (by rw [show headBytes h = [] by unfold headBytes hOk; rw [if_neg (by rw [decide_eq_true_eq]; omega)]]; exact ret_fresh_nil rfl) (ret_eq rfl (by unfold hOk; symm; apply decide_eq_false; omega))
 ·
  refine A0 mV ?_; refine A1 (oFp fd_33_0) ?_; refine A1 (oLb L_Head_height ty_3) ?_; refine A1 o_gtr ?_; refine A0 oK ?_; refine CN ?_
  refine Cf (p := 1048576 < h.height) (fun ht12 => ?_) (fun ht12 => ?_)
  ·
   refine CQR ?_; refine A0 aL ?_; refine A0 aV ?_; refine CN ?_
   exact aw_ret2 rfl rfl (by rw [show headBytes h = [] by unfold headBytes hOk; rw [if_neg (by rw [decide_eq_true_eq]; omega)]]; exact ret_fresh_nil rfl) (ret_eq rfl (by unfold hOk; symm; apply decide_eq_false; omega))
  ·
   refine CSQR ?_; refine A0 (oFp fd_33_5) ?_; refine A0 (oLb L_Head_work ty_30) ?_; refine A0 (oCl (bytesW_ok _) rfl fn_110 ⟨(arg_v rfl), trivial⟩) ?_; refine aw_alloc ze_27 rfl rfl rfl rfl ?_
   refine aw_store_b rfl rfl rfl rfl rfl (Lens.self _) ty_27 rfl ?_; refine CNQ ?_; refine aw_freeze (d := 1) rfl rfl (Lens.self _) ?_; refine aw_freeze (d := 4) rfl rfl (Lens.self _) ?_
   have hbl := bytesW_len h.work
   have hn1 := numBytes_len (u64OfI (IntL.toI i64T h.height)) 4
   have hn2 := numBytes_len (u64OfI (IntL.toI u32T h.bits)) 4
   have hn3 := numBytes_len h.nonce 8
   refine aw_drawx [some 1, some 1, some 1, some 1, some 1, some 1, some 1, some 1, some 1, some 1, some 1, some 1, some 1, some 1, some 1, some 1, some 1, some 1, some 1, some 1, some 1, none, some 1, some 1] mixed (by decide +kernel) ?_
   refine X0 (oFr fd_33_0 L_Head_height) ?_; refine X0 (g_load_r rfl rfl ty_3) ?_; refine X0 (g_cv64 rfl (ui_28) (us_3) rfl) ?_
   refine X0 (g_lend (T := sl u8T) (S := bsl u8T) (g_call (tells_pub (binPut_ok _ 4 (by decide))) rfl fn_112 ⟨(arg_v rfl), (arg_v rfl), trivial⟩ rfl)) ?_; refine X0 (oFr fd_33_1 L_Head_prev) ?_; refine X0 (g_slice_r rfl rfl ar_27 rfl rfl) ?_
   refine X0 (oFr fd_33_2 L_Head_links) ?_; refine X0 (g_slice_r rfl rfl ar_27 rfl rfl) ?_; refine X0 (oFr fd_33_3 L_Head_txs) ?_; refine X0 (g_slice_r rfl rfl ar_27 rfl rfl) ?_; refine X0 (oFr fd_33_4 L_Head_past) ?_
   refine X0 (g_slice_r rfl rfl ar_27 rfl rfl) ?_; refine X0 (g_slice_r rfl rfl ar_27 rfl rfl) ?_; refine X0 (oFr fd_33_6 L_Head_bits) ?_; refine X0 (g_load_r rfl rfl ty_31) ?_; refine X0 (g_cv64 rfl (ui_28) (us_31) rfl) ?_
   refine X0 (g_lend (T := sl u8T) (S := bsl u8T) (g_call (tells_pub (binPut_ok _ 4 (by decide))) rfl fn_112 ⟨(arg_v rfl), (arg_v rfl), trivial⟩ rfl)) ?_; refine X0 (oFr fd_33_7 L_Head_nonce) ?_; refine X0 (g_load_r rfl rfl ty_28) ?_
   refine X0 (g_lend (T := sl u8T) (S := bsl u8T) (g_call (tells_pub (binPut_ok _ 8 (by decide))) rfl fn_112 ⟨(by first | exact arg_same rfl | exact arg_bsl rfl | exact arg_own rfl rfl | exact arg_nil rfl | exact arg_rptr rfl | exact arg_fn rfl rfl | exact arg_lit rfl), (arg_v rfl), trivial⟩ rfl)) ?_
   refine X0 (g_bslice (T := (bsl u8T)) (xs := [_, _, _, _, _, _, _, _]) rfl sl_125 row_125 ⟨rfl, rfl, rfl, rfl, rfl, rfl, rfl, rfl, rfl, rfl, rfl, rfl, rfl, rfl, rfl, rfl, trivial⟩ rfl rfl) ?_
   refine XK.e (fun fr' hfr kk H => by exact aw_callf (concat_ok [numBytes (u64OfI (IntL.toI i64T h.height)) 4, h.prev, h.links, h.txs, h.past, bytesW h.work, numBytes (u64OfI (IntL.toI u32T h.bits)) 4, numBytes h.nonce 8] (by simp [hh1, hh2, hh3, hh4, hbl, hn1, hn2, hn3])) rfl fn_111 ⟨(arg_v ((hfr 36 (by decide +kernel)).trans rfl)), trivial⟩ rfl rfl rfl (aw_nil H)) ?_
   refine X0 aO ?_; refine X0 aV ?_; refine XK.nil' ?_
   exact aw_ret2 rfl rfl (ret_fresh_eq rfl rfl (by unfold headBytes; rw [if_pos (by unfold hOk; rw [decide_eq_true_eq]; omega)]; rfl)) (ret_eq rfl (by unfold hOk; symm; apply decide_eq_true; omega))
theorem headId_ok (h : Head) : Tells P 33 [.val headT h] (.val idT (headId h)) := by
 refine fn_of_aw Tryz.func33 rfl rfl rfl (fun ext w hext => ?_)
 refine aw_fact (d := 0) rfl fact_head (fun hh => ?_)
 obtain ⟨hh1, hh2, hh3, hh4, hh5⟩ := hh
 refine CQR ?_; refine aw_box rfl rfl rfl rfl rfl ?_; refine aw_alloc ze_27 rfl rfl rfl rfl ?_; refine CNQR ?_; refine A0 (oLs rfl rfl rfl ty_33) ?_; refine A0 (oCl (tells_pub2 (hput_ok h)) rfl fn_64 ⟨(arg_v rfl), trivial⟩) ?_; refine A0 mX ?_
 refine A0 (by first | exact g_x20 rfl rfl | exact g_x30 rfl rfl) ?_; refine A0 (by first | exact g_x21 rfl rfl | exact g_x31 rfl rfl) ?_; refine A0 aV ?_; refine A0 aV ?_; refine CNQQR ?_; refine A0 mV ?_; refine A0 oN ?_; refine CN ?_
 refine aw_ifc (p := ¬ hOk h = true) rfl (by cases hOk h <;> rfl) (fun ht11 => ?_) (fun ht11 => ?_)
 ·
  refine CQR ?_; refine A0 (g_buildZ rfl ar_27 ze_27 rfl) ?_; refine aw_store_b rfl rfl rfl rfl rfl (Lens.self _) ty_27 rfl ?_; refine CN ?_
  exact aw_retc1 rfl rfl rfl rfl ty_27 (by unfold headId; rw [if_neg ht11] <;> rfl)
 ·
  refine CSQR ?_; refine A0 (g_bslice (T := u8T) (xs := [_]) rfl sl_101 row_101 ⟨rfl, rfl, trivial⟩ rfl rfl) ?_; refine aw_lend (S := bsl u8T) (d := 13) rfl ?_; refine A0 mV ?_; refine aw_lend (S := bsl u8T) (d := 14) rfl ?_
  refine A0 (g_bslice (T := (bsl u8T)) (xs := [_, _]) rfl sl_125 row_125 ⟨rfl, rfl, rfl, rfl, trivial⟩ rfl rfl) ?_
  refine A0 (oCl (of_ok [[5], headBytes h] (by unfold headBytes; split <;> simp [putHead, hh1, hh2, hh3, hh4, bytesW_len, numBytes_len])) rfl fn_65 ⟨(arg_v rfl), trivial⟩) ?_; refine aw_store_b rfl rfl rfl rfl rfl (Lens.self _) ty_27 rfl ?_
  refine CN ?_
  exact aw_retc1 rfl rfl rfl rfl ty_27 (by unfold headId headBytes; rw [if_pos (Classical.not_not.1 ht11), if_pos (Classical.not_not.1 ht11)]; simp)
theorem headLevel_ok (h : Head) : Tells P 159 [.val headT h] (.val i64T (headLevel h)) := by
 refine fn_of_aw Tryz.func159 rfl rfl rfl (fun ext w hext => ?_)
 refine CQR ?_; refine aw_box rfl rfl rfl rfl rfl ?_; refine A0 aV ?_; refine CNQR ?_; refine A0 (oFp fd_33_6) ?_; refine A0 (oLb L_Head_bits ty_31) ?_; refine A0 (oCl (target_ok _) rfl fn_60 ⟨(arg_v rfl), trivial⟩) ?_; refine A0 mX ?_
 refine A0 (by first | exact g_x20 rfl rfl | exact g_x30 rfl rfl) ?_; refine A0 (by first | exact g_x21 rfl rfl | exact g_x31 rfl rfl) ?_; refine aw_alloc ze_30 rfl rfl rfl rfl ?_
 refine aw_store_b rfl rfl rfl rfl rfl (Lens.self _) ty_30 rfl ?_; refine A0 aV ?_; refine CNQ ?_; refine CB ?_; refine CQQR ?_; refine A0 mV ?_; refine A0 oN ?_
 refine aw_splitp (d := 13) (p := ¬ tgtOk h.bits = true) rfl (by cases tgtOk h.bits <;> rfl) (fun g13 => ?_) (fun g13 => ?_)
 ·
  refine A0 aV ?_; refine CN ?_; refine Ct ?_; refine CS ?_; refine Ct ?_; refine CQR ?_; refine A0 aV ?_; refine CN ?_
  exact aw_ret1 rfl rfl (ret_eq rfl (by unfold headLevel; rw [if_neg (by unfold hOk; rw [decide_eq_true_eq]; exact fun h => g13 h.1)] <;> rfl))
 ·
  refine A0 aV ?_; refine CN ?_; refine Cg ?_; refine CQR ?_; refine A0 (oFp fd_33_0) ?_; refine A0 (oLb L_Head_height ty_3) ?_; refine A0 o_lss ?_
  refine Sp (d := 16) (p := h.height < 0) (fun g16 => ?_) (fun g16 => ?_)
  ·
   refine A0 aV ?_; refine CN ?_; refine Ct ?_; refine CS ?_; refine Ct ?_; refine CQR ?_; refine A0 aV ?_; refine CN ?_
   exact aw_ret1 rfl rfl (ret_eq rfl (by unfold headLevel; rw [if_neg (by unfold hOk; rw [decide_eq_true_eq]; omega)] <;> rfl))
  ·
   refine A0 aV ?_; refine CN ?_; refine Cg ?_; refine CR ?_; refine A0 (oFp fd_33_0) ?_; refine A0 (oLb L_Head_height ty_3) ?_; refine A0 o_gtr ?_
   refine Sp (d := 19) (p := 1048576 < h.height) (fun g19 => ?_) (fun g19 => ?_)
   ·
    refine A0 aV ?_; refine CN ?_; refine Ct ?_; refine CQR ?_; refine A0 aV ?_; refine CN ?_
    exact aw_ret1 rfl rfl (ret_eq rfl (by unfold headLevel; rw [if_neg (by unfold hOk; rw [decide_eq_true_eq]; omega)] <;> rfl))
   ·
    refine A0 aV ?_; refine CN ?_; refine Cg ?_; refine CQR ?_; refine A0 (oFp fd_33_0) ?_; refine A0 (oLb L_Head_height ty_3) ?_; refine A0 o_eql ?_; refine A0 aV ?_; refine CN ?_
    refine Cf (p := h.height = 0) (fun ht20 => ?_) (fun ht20 => ?_)
    ·
     refine CQR ?_; refine A0 aV ?_; refine CN ?_
     exact aw_ret1 rfl rfl (ret_eq rfl (by unfold headLevel; rw [if_pos ⟨Classical.not_not.1 g13, by unfold hOk; rw [decide_eq_true_eq]; omega⟩, if_pos ht20] <;> rfl))
    ·
     refine CS ?_; refine CI ?_; refine CQ ?_; refine CD mixed ?_; refine G0 (oLs rfl rfl rfl ty_33) ?_; refine G0 (oCl (headId_ok _) rfl fn_33 ⟨(arg_v rfl), trivial⟩) ?_; refine G0 (oLs rfl rfl rfl ty_30) ?_
     refine G0 (oCl (levelW_ok _ _) rfl fn_202 ⟨(arg_v rfl), (arg_v rfl), trivial⟩) ?_; refine G0 aV ?_; refine GK.nil ?_
     exact aw_ret1 rfl rfl (ret_eq rfl (by unfold headLevel; rw [if_pos ⟨Classical.not_not.1 g13, by unfold hOk; rw [decide_eq_true_eq]; omega⟩, if_neg ht20]))
theorem headWork_ok (h : Head) : Tells P 31 [.val headT h] (.val wideT (headWork h)) := by
 refine fn_of_aw Tryz.func31 rfl rfl rfl (fun ext w hext => ?_)
 refine CQR ?_; refine aw_box rfl rfl rfl rfl rfl ?_; refine aw_alloc ze_30 rfl rfl rfl rfl ?_; refine CNQR ?_; refine A0 (oFp fd_33_6) ?_; refine A0 (oLb L_Head_bits ty_31) ?_; refine A0 (oCl (target_ok _) rfl fn_60 ⟨(arg_v rfl), trivial⟩) ?_
 refine A0 mX ?_; refine A0 (by first | exact g_x20 rfl rfl | exact g_x30 rfl rfl) ?_; refine A0 (by first | exact g_x21 rfl rfl | exact g_x31 rfl rfl) ?_; refine aw_alloc ze_30 rfl rfl rfl rfl ?_
 refine aw_store_b rfl rfl rfl rfl rfl (Lens.self _) ty_30 rfl ?_; refine A0 aV ?_; refine CNQQR ?_; refine A0 mV ?_; refine A0 oN ?_; refine CN ?_
 refine aw_ifc (p := ¬ tgtOk h.bits = true) rfl (by cases tgtOk h.bits <;> rfl) (fun ht12 => ?_) (fun ht12 => ?_)
 ·
  refine CQR ?_; refine A0 (g_buildZ rfl ar_30 ze_30 rfl) ?_; refine aw_store_b rfl rfl rfl rfl rfl (Lens.self _) ty_30 rfl ?_; refine CN ?_
  exact aw_retc1 rfl rfl rfl rfl ty_30 (by unfold headWork; rw [if_neg ht12] <;> rfl)
 ·
  refine CSQR ?_; refine A0 (oLs rfl rfl rfl ty_30) ?_; refine A0 (oCl (workW_ok _) rfl fn_61 ⟨(arg_v rfl), trivial⟩) ?_; refine aw_store_b rfl rfl rfl rfl rfl (Lens.self _) ty_30 rfl ?_; refine CN ?_
  exact aw_retc1 rfl rfl rfl rfl ty_30 (by unfold headWork; rw [if_pos (Classical.not_not.1 ht12)])
theorem headMay_ok (h : Head) : Tells P 137 [.val headT h] (.val boolT (headMay h)) := by
 refine fn_of_aw Tryz.func137 rfl rfl rfl (fun ext w hext => ?_)
 refine CQR ?_; refine aw_box rfl rfl rfl rfl rfl ?_; refine A0 aV ?_; refine CNQR ?_; refine A0 (oLs rfl rfl rfl ty_33) ?_; refine A0 (oCl (headLevel_ok _) rfl fn_159 ⟨(arg_v rfl), trivial⟩) ?_; refine A0 o_neq ?_; refine A0 aV ?_
 refine CN ?_
 exact aw_ret1 rfl rfl (ret_eq rfl rfl)
end Go.Proofs.YtgoebfjaaklopaaGreat
set_option maxRecDepth 20000
namespace Go.Proofs.YtgoebfjaaklopaaGreat
set_option linter.unusedVariables false
set_option linter.unusedSimpArgs false
open Go.Ab Go.RowKit
theorem fact_total {t : Total} {ρ : Nat → Value} {B : Nat → Prop} {U N : Nat → Prop} {w : World} {v : Value} (hv : (AV.val totalT t).rel ρ B U N w v) : t.h.length = 32 ∧ t.w.length = 4 := by
  obtain ⟨cs, ⟨_, _, _, h1, _, _, _, h2, _⟩, _⟩ := hv
  exact ⟨h1.1, h2.1⟩
def totalText (t : Total) : List UInt8 := [t.h, bytesW t.w, numBytes (u64OfI (IntL.toI i64T t.n)) 4].flatten
theorem totalText_len {t : Total} (h : t.h.length = 32) : (totalText t).length = 68 := by unfold totalText; simp [h, bytesW_len, numBytes_len]
def joinT (a b : Total) : Total := ⟨shaSum ([3] ++ totalText a ++ totalText b), addW a.w b.w, IntKind.i64.wrap (a.n + b.n)⟩
def leafT (id : Ab.Id) (w : Wide) : Total := ⟨id, w, 1⟩
def linkLeaf (id : Ab.Id) : Ab.Id := leafOf id
def linkRoot (l : List Ab.Id) : Ab.Id := rootOf (l.map linkLeaf)
def txRoot (l : List Tx) : Ab.Id := rootOf (l.map idOf)
theorem totalText_ok (t : Total) (hh : t.h.length = 32) : Tells P 188 [.val totalT t] (.fresh 5 u8T (totalText t)) := by
 refine fn_of_aw Tryz.func188 rfl rfl rfl (fun ext w hext => ?_)
 refine CQR ?_; refine aw_box rfl rfl rfl rfl rfl ?_; refine A0 aL ?_; refine CNQR ?_; refine A0 (oFp fd_148_1) ?_; refine A0 (oLb L_Total_w ty_30) ?_; refine A0 (oCl (bytesW_ok _) rfl fn_110 ⟨(arg_v rfl), trivial⟩) ?_
 refine aw_alloc ze_27 rfl rfl rfl rfl ?_; refine aw_store_b rfl rfl rfl rfl rfl (Lens.self _) ty_27 rfl ?_; refine CNQ ?_; refine aw_freeze (d := 1) rfl rfl (Lens.self _) ?_; refine aw_freeze (d := 3) rfl rfl (Lens.self _) ?_
 have hbl := bytesW_len t.w
 have hn := numBytes_len (u64OfI (IntL.toI i64T t.n)) 4
 refine aw_drawx [some 1, some 1, some 1, some 1, some 1, some 1, some 1, some 1, none, some 1] mixed (by decide +kernel) ?_; refine X0 (oFr fd_148_0 L_Total_h) ?_; refine X0 (g_slice_r rfl rfl ar_27 rfl rfl) ?_
 refine X0 (g_slice_r rfl rfl ar_27 rfl rfl) ?_; refine X0 (oFr fd_148_2 L_Total_n) ?_; refine X0 (g_load_r rfl rfl ty_3) ?_; refine X0 (g_cv64 rfl (ui_28) (us_3) rfl) ?_
 refine X0 (g_lend (T := sl u8T) (S := bsl u8T) (g_call (tells_pub (binPut_ok _ 4 (by decide))) rfl fn_112 ⟨(arg_v rfl), (arg_v rfl), trivial⟩ rfl)) ?_
 refine X0 (g_bslice (T := (bsl u8T)) (xs := [_, _, _]) rfl sl_125 row_125 ⟨rfl, rfl, rfl, rfl, rfl, rfl, trivial⟩ rfl rfl) ?_
 refine XK.e (fun fr' hfr kk H => by exact aw_callf (concat_ok [t.h, bytesW t.w, numBytes (u64OfI (IntL.toI i64T t.n)) 4] (by simp [hh, hbl, hn])) rfl fn_111 ⟨(arg_v ((hfr 14 (by decide +kernel)).trans rfl)), trivial⟩ rfl rfl rfl (aw_nil H)) ?_
 refine X0 aO ?_; refine XK.nil' ?_
 exact aw_ret1 rfl rfl (ret_fresh_eq rfl rfl rfl)
theorem mleaf_ok (id : Ab.Id) (w : Wide) : Tells P 142 [.val idT id, .val wideT w] (.val totalT (leafT id w)) := by
 refine fn_of_aw Tryz.func142 rfl rfl rfl (fun ext w hext => ?_)
 refine CQR ?_; refine aw_box rfl rfl rfl rfl rfl ?_; refine aw_box rfl rfl rfl rfl rfl ?_; refine aw_alloc ze_148 rfl rfl rfl rfl ?_; refine CNQR ?_; refine A0 (oLs rfl rfl rfl ty_27) ?_; refine A0 (oLs rfl rfl rfl ty_30) ?_
 refine A0 (g_build rfl ze_148 bd_148 (.cons fd_148_0 L_Total_h ty_27 rfl (.cons fd_148_1 L_Total_w ty_30 rfl (.cons fd_148_2 L_Total_n ty_3 rfl .nil))) rfl) ?_; refine aw_store_b rfl rfl rfl rfl rfl (Lens.self _) ty_148 rfl ?_; refine CN ?_
 exact aw_retc1 rfl rfl rfl rfl ty_148 (rfl)
theorem join_ok (a b : Total) : Tells P 141 [.val totalT a, .val totalT b] (.val totalT (joinT a b)) := by
 refine fn_of_aw Tryz.func141 rfl rfl rfl (fun ext w hext => ?_)
 refine aw_fact (d := 0) rfl fact_total (fun ha => ?_)
 refine aw_fact (d := 1) rfl fact_total (fun hb => ?_)
 refine CQR ?_; refine aw_box rfl rfl rfl rfl rfl ?_; refine aw_box rfl rfl rfl rfl rfl ?_; refine aw_alloc ze_148 rfl rfl rfl rfl ?_; refine CNQR ?_; refine A0 (oFp fd_148_1) ?_; refine A0 (oLb L_Total_w ty_30) ?_; refine A0 (oFp fd_148_1) ?_
 refine A0 (oLb L_Total_w ty_30) ?_; refine A0 (oCl (addW_ok _ _) rfl fn_30 ⟨(arg_v rfl), (arg_v rfl), trivial⟩) ?_; refine A0 mX ?_; refine A0 (by first | exact g_x20 rfl rfl | exact g_x30 rfl rfl) ?_
 refine A0 (by first | exact g_x21 rfl rfl | exact g_x31 rfl rfl) ?_; refine aw_alloc ze_30 rfl rfl rfl rfl ?_; refine aw_store_b rfl rfl rfl rfl rfl (Lens.self _) ty_30 rfl ?_; refine A0 aV ?_; refine CNQ ?_
 refine aw_drawx [some 1, some 1, some 1, some 1, some 1, some 1, some 1, some 1, some 1, some 1, some 1, some 1, some 1, some 1, none] mixed (by decide +kernel) ?_
 refine X0 (g_lend (T := sl u8T) (S := bsl u8T) (g_bslice (T := u8T) (xs := [_]) rfl sl_101 row_101 ⟨rfl, rfl, trivial⟩ rfl rfl)) ?_; refine X0 (oLs rfl rfl rfl ty_148) ?_
 refine X0 (g_lend (T := sl u8T) (S := bsl u8T) (g_call (tells_pub (totalText_ok a ha.1)) rfl fn_188 ⟨(arg_v rfl), trivial⟩ rfl)) ?_; refine X0 (oLs rfl rfl rfl ty_148) ?_
 refine X0 (g_lend (T := sl u8T) (S := bsl u8T) (g_call (tells_pub (totalText_ok b hb.1)) rfl fn_188 ⟨(arg_v rfl), trivial⟩ rfl)) ?_
 refine X0 (g_bslice (T := (bsl u8T)) (xs := [_, _, _]) rfl sl_125 row_125 ⟨rfl, rfl, rfl, rfl, rfl, rfl, trivial⟩ rfl rfl) ?_
 refine X0 (oCl (of_ok [[3], totalText a, totalText b] (by simp [totalText_len ha.1, totalText_len hb.1])) rfl fn_65 ⟨(arg_v rfl), trivial⟩) ?_; refine X0 (oLs rfl rfl rfl ty_30) ?_; refine X0 (oFp fd_148_2) ?_
 refine X0 (oLb L_Total_n ty_3) ?_; refine X0 (oFp fd_148_2) ?_; refine X0 (oLb L_Total_n ty_3) ?_; refine X0 o_add ?_
 refine X0 (g_build rfl ze_148 bd_148 (.cons fd_148_0 L_Total_h ty_27 rfl (.cons fd_148_1 L_Total_w ty_30 rfl (.cons fd_148_2 L_Total_n ty_3 rfl .nil))) rfl) ?_
 refine XK.e (x := .idk) (fun fr' hfr kk H => by exact aw_store_b rfl rfl rfl ((hfr 4 (by decide +kernel)).trans rfl) rfl (Lens.self _) ty_148 ((hfr 28 (by decide +kernel)).trans rfl) (aw_nil H)) ?_; refine XK.nil' ?_
 exact aw_retc1 rfl rfl rfl rfl ty_148 (by unfold joinT; simp)
theorem linkLeaf_ok (id : Ab.Id) : Tells P 145 [.val idT id] (.val idT (linkLeaf id)) := by
 refine fn_of_aw Tryz.func145 rfl rfl rfl (fun ext w hext => ?_)
 refine aw_fact (d := 0) rfl fact_idL (fun hid => ?_)
 refine CQR ?_; refine aw_box rfl rfl rfl rfl rfl ?_; refine aw_alloc ze_27 rfl rfl rfl rfl ?_; refine CNQ ?_; refine aw_freeze (d := 1) rfl rfl (Lens.self _) ?_; refine CR ?_; refine A0 (g_slice_r rfl rfl ar_27 rfl rfl) ?_
 refine A0 (oCl (leaf_ok id (by omega)) rfl fn_191 ⟨(arg_v rfl), trivial⟩) ?_; refine aw_store_b rfl rfl rfl rfl rfl (Lens.self _) ty_27 rfl ?_; refine CN ?_
 exact aw_retc1 rfl rfl rfl rfl ty_27 (rfl)
theorem mapped_ok (l : List Ab.Id) (f : Ab.Id → Ab.Id) (hl : l.length ≤ 4000000000000) : Tells P 144 [.val (bsl idT) l, .fn1 P idT idT f] (.fresh 27 idT (l.map f)) := by
 refine fn_of_aw Tryz.func144 rfl rfl rfl (fun ext w hext => ?_)
 refine aw_fact (d := 0) rfl fact_sl (fun hsl0 => ?_)
 refine CQR ?_; refine A0 aL ?_; refine CNQR ?_; refine A0 aL ?_; refine CNQQR ?_; refine A0 mV ?_; refine A0 (g_len rfl rfl isl_34) ?_; refine A0 mV ?_; refine CNB ?_; refine aw_nilrow (T := idT) (d := 5) 27 rfl ?_
 refine Lp (ι := Nat) 1 (fun (k : Nat) => ((((((Fr.none).set 0 (.val (bsl idT) l)).set 1 (.fn1 P idT idT f)).set 5 (.own 0)).set 8 (.val (bsl idT) l)).set 9 (.val i64T (l.length : Int))).set 10 (.val i64T (k : Int))) (fun (k : Nat) => (Hp.none).set 0 (.row 27 idT ((l.take k).map f))) (fun (k : Nat) => k ≤ l.length) (fun (k : Nat) => l.length - k) (0) (Nat.zero_le _) ?_
 intro k hinv
 refine CQR ?_; refine A0 o_lss ?_; refine CNQ ?_
 refine Cf (p := k < l.length) (fun ht11 => ?_) (fun ht11 => ?_)
 ·
  obtain ⟨x, hx⟩ : ∃ x, l[k]? = some x := ⟨_, List.getElem?_eq_getElem ht11⟩
  refine CSQBQR ?_; refine A0 (g_ia_n rfl rfl rfl sl_34 (by assumption)) ?_; refine A0 (g_load_r rfl rfl ty_27) ?_; refine aw_alloc ze_27 rfl rfl rfl rfl ?_; refine aw_store_b rfl rfl rfl rfl rfl (Lens.self _) ty_27 rfl ?_; refine CNR ?_
  refine A0 mO ?_; refine A0 mF ?_; refine A0 (oLs rfl rfl rfl ty_27) ?_; refine A0 (g_callf1 rfl rfl (arg_v rfl)) ?_; refine A0 (g_bslice (T := idT) (xs := [_]) rfl sl_34 row_34 ⟨rfl, rfl, trivial⟩ rfl rfl) ?_
  refine aw_append rfl rfl rfl rfl rfl rfl rfl row_34 (by simp; omega) ?_; refine A0 aO ?_; refine CNIR ?_; refine A0 o_add ?_; refine A0 mV ?_; refine CN ?_; refine aw_ren 2 0 3 rfl rfl rfl rfl rfl rfl ?_
  refine aw_rerow (n := 0) (y := (l.take (k + 1)).map f) rfl (by rw [List.take_add_one, hx]; simp) ?_
  exact Nx (k + 1) (by omega) (by omega)
 ·
  refine CE ?_; refine CQR ?_; refine A0 mO ?_; refine A0 aO ?_; refine CN ?_
  exact aw_ret1 rfl rfl (ret_fresh_eq rfl rfl (by rw [List.take_of_length_le (by omega)]))
theorem linkRoot_ok (l : List Ab.Id) (hl : l.length ≤ 4000000000000) : Tells P 100 [.val (bsl idT) l] (.val idT (linkRoot l)) := by
 refine fn_of_aw Tryz.func100 rfl rfl rfl (fun ext w hext => ?_)
 refine aw_fact (d := 0) rfl fact_sl (fun hsl0 => ?_)
 refine CQR ?_; refine aw_alloc ze_27 rfl rfl rfl rfl ?_; refine CNQR ?_; refine A0 mV ?_
 refine A0 (oCl (tells_pub (mapped_ok l linkLeaf hl)) rfl fn_144 ⟨(arg_v rfl), (by first | exact arg_fn1 (Cs := []) rfl fn_145 (by intro n hn; cases hn) trivial rfl (fun x => linkLeaf_ok x) | exact arg_fn2 (Cs := []) rfl fn_145 (by intro n hn; cases hn) trivial rfl (fun x y => linkLeaf_ok x) | exact arg_clo rfl), trivial⟩) ?_
 refine A0 (oCl (root_ok (l.map linkLeaf) (by simp; omega)) rfl fn_143 ⟨(arg_v rfl), trivial⟩) ?_; refine aw_store_b rfl rfl rfl rfl rfl (Lens.self _) ty_27 rfl ?_; refine CN ?_
 exact aw_retc1 rfl rfl rfl rfl ty_27 (rfl)
theorem txRoot_ok (l : List Tx) (hl : l.length ≤ 4000000000000) : Tells P 101 [.val (bsl txT) l] (.val idT (txRoot l)) := by
 refine fn_of_aw Tryz.func101 rfl rfl rfl (fun ext w hext => ?_)
 refine aw_fact (d := 0) rfl fact_sl (fun hsl0 => ?_)
 refine CQR ?_; refine aw_alloc ze_27 rfl rfl rfl rfl ?_; refine CNQR ?_; refine A0 aL ?_; refine CNQQR ?_; refine A0 mV ?_; refine A0 (g_len rfl rfl isl_35) ?_; refine A0 mV ?_; refine CNB ?_; refine aw_nilrow (T := idT) (d := 3) 27 rfl ?_
 refine Lp (ι := Nat) 2 (fun (k : Nat) => (((((Fr.none).set 2 (.ptr 0 0)).set 3 (.own 1)).set 6 (.val (bsl txT) l)).set 7 (.val i64T (l.length : Int))).set 8 (.val i64T (k : Int))) (fun (k : Nat) => ((Hp.none).set 0 (.box 27 idT zId)).set 1 (.row 27 idT ((l.take k).map idOf))) (fun (k : Nat) => k ≤ l.length) (fun (k : Nat) => l.length - k) (0) (Nat.zero_le _) ?_
 intro k hinv
 refine CQR ?_; refine A0 o_lss ?_; refine CNQ ?_
 refine Cf (p := k < l.length) (fun ht9 => ?_) (fun ht9 => ?_)
 ·
  obtain ⟨x, hx⟩ : ∃ x, l[k]? = some x := ⟨_, List.getElem?_eq_getElem ht9⟩
  refine CSQBQR ?_; refine A0 (g_ia_n rfl rfl rfl sl_35 (by assumption)) ?_; refine A0 (g_load_r rfl rfl ty_112) ?_; refine aw_alloc ze_112 rfl rfl rfl rfl ?_; refine aw_store_b rfl rfl rfl rfl rfl (Lens.self _) ty_112 rfl ?_; refine CNR ?_
  refine A0 mO ?_; refine A0 (oLs rfl rfl rfl ty_112) ?_; refine A0 (oCl (id_ok _) rfl fn_146 ⟨(arg_v rfl), trivial⟩) ?_; refine A0 (g_bslice (T := idT) (xs := [_]) rfl sl_34 row_34 ⟨rfl, rfl, trivial⟩ rfl rfl) ?_
  refine aw_append rfl rfl rfl rfl rfl rfl rfl row_34 (by simp; omega) ?_; refine A0 aO ?_; refine CNIR ?_; refine A0 o_add ?_; refine A0 mV ?_; refine CN ?_; refine aw_ren 3 1 4 rfl rfl rfl rfl rfl rfl ?_
  refine aw_rerow (n := 1) (y := (l.take (k + 1)).map idOf) rfl (by rw [List.take_add_one, hx]; simp) ?_
  exact Nx (k + 1) (by omega) (by omega)
 ·
  obtain rfl : k = l.length := (by omega)
  refine aw_pub (d := 3) rfl rfl ?_; refine aw_reval (d := 3) (y := l.map idOf) rfl (by rw [List.take_length]) ?_; refine CE ?_; refine CQR ?_; refine A0 mV ?_
  refine A0 (oCl (root_ok (l.map idOf) (by simp; omega)) rfl fn_143 ⟨(arg_v rfl), trivial⟩) ?_; refine aw_store_b rfl rfl rfl rfl rfl (Lens.self _) ty_27 rfl ?_; refine CN ?_
  exact aw_retc1 rfl rfl rfl rfl ty_27 (rfl)
end Go.Proofs.YtgoebfjaaklopaaGreat
set_option maxRecDepth 20000
namespace Go.Proofs.YtgoebfjaaklopaaGreat
set_option linter.unusedVariables false
set_option linter.unusedSimpArgs false
open Go.Ab Go.RowKit
def rootFrom : List Total → Total → Total
  | [], x => x
  | y :: r, x => rootFrom r (joinT y x)
def mmrRoot (p : List Total) : Total := match p.reverse with
  | [] => ⟨shaSum [4], zWide, 0⟩
  | x :: r => rootFrom r x
def pushR : List Total → Total → List Total
  | [], x => [x]
  | y :: r, x => if y.n = x.n then pushR r (joinT y x) else x :: y :: r
def mmrAppend (p : List Total) (leaf : Total) : List Total := (pushR p.reverse leaf).reverse
theorem mmrRoot_nil : mmrRoot [] = ⟨shaSum [4], zWide, 0⟩ := rfl
theorem mmrRoot_eq {p : List Total} {x : Total} {n : Nat} (hn : p.length = n + 1) (hx : p[n]? = some x) : mmrRoot p = rootFrom (p.take n).reverse x := by
  have e : p = p.take n ++ [x] := by
    have := List.take_add_one (l := p) (i := n)
    rw [List.take_of_length_le (by omega), hx] at this
    simpa using this
  unfold mmrRoot
  conv => lhs; rw [e]
  simp
theorem rootFrom_step {p : List Total} {k : Nat} {x y : Total} (hx : p[k]? = some x) : rootFrom (p.take (k + 1)).reverse y = rootFrom (p.take k).reverse (joinT x y) := by
  rw [List.take_add_one, hx]; simp [rootFrom]
theorem mmrRoot_ok (p : List Total) (hp : p.length ≤ 1000000) : Tells P 102 [.val (bsl totalT) p] (.val totalT (mmrRoot p)) := by
 refine fn_of_aw Tryz.func102 rfl rfl rfl (fun ext w hext => ?_)
 refine aw_fact (d := 0) rfl fact_sl (fun hsl0 => ?_)
 refine CQR ?_; refine aw_alloc ze_148 rfl rfl rfl rfl ?_; refine CNQQR ?_; refine A0 mV ?_; refine A0 (g_len rfl rfl isl_53) ?_; refine A0 o_eql ?_; refine CN ?_
 refine Cf (p := p.length = 0) (fun ht8 => ?_) (fun ht8 => ?_)
 ·
  obtain rfl : p = [] := List.length_eq_zero_iff.1 ht8
  refine CQR ?_; refine A0 (g_bslice (T := u8T) (xs := [_]) rfl sl_101 row_101 ⟨rfl, rfl, trivial⟩ rfl rfl) ?_; refine A0 (oCl (sum_ok [4] (by decide)) rfl fn_113 ⟨(arg_v rfl), trivial⟩) ?_
  refine A0 (g_build rfl ze_148 bd_148 (.cons fd_148_0 L_Total_h ty_27 rfl .nil) rfl) ?_; refine aw_store_b rfl rfl rfl rfl rfl (Lens.self _) ty_148 rfl ?_; refine CN ?_
  exact aw_retc1 rfl rfl rfl rfl ty_148 (mmrRoot_nil.symm)
 ·
  obtain ⟨n, hn⟩ : ∃ n, p.length = n + 1 := ⟨p.length - 1, by omega⟩
  obtain ⟨x0, hx0⟩ : ∃ x, p[n]? = some x := ⟨_, List.getElem?_eq_getElem (by omega)⟩
  have hroot := mmrRoot_eq hn hx0
  refine CSQR ?_; refine A0 mV ?_; refine A0 mV ?_; refine A0 (g_len rfl rfl isl_53) ?_; refine A0 o_sub ?_; refine A0 (g_ia_i (i := n) rfl rfl rfl (by omega) sl_53 (by assumption)) ?_; refine A0 (g_load_r rfl rfl ty_148) ?_
  refine aw_alloc ze_148 rfl rfl rfl rfl ?_; refine aw_store_b rfl rfl rfl rfl rfl (Lens.self _) ty_148 rfl ?_; refine CNQQR ?_; refine A0 mV ?_; refine A0 mV ?_; refine A0 (g_len rfl rfl isl_53) ?_; refine A0 o_sub ?_
  refine A0 (by first | exact g_sl_nil rfl rfl rfl (by first | rfl | omega) sl_53 | exact g_sl_h rfl rfl rfl sl_53 (by first | assumption | omega | (simp; omega))) ?_; refine aw_reval (d := 22) (y := p.take n) rfl (by congr 1; omega) ?_
  refine aw_inline rfl rfl rfl rfl Tryz.func147 fn_147 rfl rfl (fun ia1 iok1 => ?_)
  refine CQR ?_; refine aw_box rfl rfl rfl rfl rfl ?_; refine A0 aL ?_; refine CNQR ?_; refine A0 (g_mkf (caps := [_]) rfl rfl) ?_; refine A0 aC ?_; refine CN ?_; refine aw_back1 rfl ?_; refine CNB ?_
  refine aw_range rfl rfl rfl Tryz.func193 fn_193 rfl rfl (by intro n hn; simp only [List.mem_cons, List.not_mem_nil, or_false] at hn; rcases hn with rfl <;> rfl) (fun fid2 ca2 lN2 DN2 cok2 rc2 hrc2 => ?_)
  refine CQR ?_; refine A0 (oLs rfl rfl rfl ty_53) ?_; refine A0 (g_len rfl rfl isl_53) ?_; refine A0 o_sub ?_; refine A0 aV ?_; refine CNB ?_; refine aw_reval (d := 3) (y := (n : Int) - 1) rfl (by simp; omega) ?_
  refine Lp (ι := Nat × Total) 5 (fun (i : Nat × Total) => match i with | (k, y) => (((Fr.none).set 0 (.lit (.func (.yield lN2) #[] #[]))).set 1 (.ptr 2 0)).set 3 (.val i64T ((k : Int) - 1))) (fun (i : Nat × Total) => match i with | (k, y) => (((((Hp.none).set 0 (.box 148 totalT zTotal)).set 1 (.box 148 totalT y)).set 2 (.box 53 (bsl totalT) (p.take n))).set 3 (.objAt DN2 (.deferred (some [])))).set 4 (.objAt lN2 (rc2 .ready none))) (fun (i : Nat × Total) => match i with | (k, y) => k ≤ n ∧ mmrRoot p = rootFrom (p.take k).reverse y) (fun (i : Nat × Total) => match i with | (k, y) => k) ((n, x0)) (⟨Nat.le_refl _, hroot⟩) ?_
  intro ⟨k, y⟩ hinv
  dsimp only at hinv
  refine CQQR ?_; refine A0 mV ?_; refine A0 o_geq ?_; refine CN ?_
  refine Cf (p := 0 < k) (fun ht8 => ?_) (fun ht8 => ?_)
  ·
   obtain ⟨x, hx⟩ : ∃ x, (p.take n)[k - 1]? = some x := ⟨_, List.getElem?_eq_getElem (by simp; omega)⟩
   have hx2 : p[k - 1]? = some x := by rw [List.getElem?_take] at hx; split at hx; exact hx; cases hx
   refine CSQBQR ?_; refine A0 mL ?_; refine A0 mV ?_; refine A0 (oLs rfl rfl rfl ty_53) ?_; refine A0 mV ?_; refine A0 (g_ia_i (i := k - 1) rfl rfl rfl (by omega) sl_53 (by assumption)) ?_; refine A0 (g_load_r rfl rfl ty_148) ?_
   refine aw_yield (nL := 4) rfl rfl rfl rfl rfl hrc2 rfl rfl rfl (fun ya3 yok3 => ?_)
   refine CR ?_; refine aw_alloc ze_148 rfl rfl rfl rfl ?_; refine aw_store_b rfl rfl rfl rfl rfl (Lens.self _) ty_148 rfl ?_; refine CN ?_; refine aw_begin (nL := 4) hrc2 rfl ?_; refine CB ?_; refine CR ?_; refine A0 (oLs rfl rfl rfl ty_148) ?_
   refine A0 (oLs rfl rfl rfl ty_148) ?_; refine A0 (oCl (join_ok _ _) rfl fn_141 ⟨(arg_v rfl), (arg_v rfl), trivial⟩) ?_; refine aw_store_b rfl rfl rfl rfl rfl (Lens.self _) ty_148 rfl ?_; refine CN ?_; refine CI ?_
   refine aw_round_end (nL := 4) hrc2 rfl ?_; refine A0 oN ?_; refine CN ?_; refine Cg ?_; refine CSIR ?_; refine A0 mV ?_; refine A0 o_sub ?_; refine A0 aV ?_; refine CN ?_
   refine aw_reval (d := 3) (y := ((k - 1 : Nat) : Int) - 1) rfl (by omega) ?_
   exact Nx ((k - 1, joinT x y)) (⟨by omega, by rw [hinv.2, show k = k - 1 + 1 by omega, rootFrom_step hx2]; rfl⟩) (by show k - 1 < k; omega)
  ·
   obtain rfl : k = 0 := (by omega)
   refine CE ?_; refine aw_iter_fall (nL := 4) rfl hrc2 rfl (by decide) ?_; refine CI ?_; refine CQR ?_; refine A0 (oLs rfl rfl rfl ty_148) ?_; refine aw_store_b rfl rfl rfl rfl rfl (Lens.self _) ty_148 rfl ?_; refine CN ?_
   refine aw_of_ar (ar_unmark (nD := 3) rfl rfl rfl ?_)
   exact ar_retc1 rfl rfl rfl rfl ty_148 (by rw [hinv.2]; rfl)
end Go.Proofs.YtgoebfjaaklopaaGreat
set_option maxRecDepth 20000
namespace Go.Proofs.YtgoebfjaaklopaaGreat
set_option linter.unusedVariables false
set_option linter.unusedSimpArgs false
open Go.Ab Go.RowKit
theorem mmrAppend_ok (p : List Total) (leaf : Total) (hp : p.length ≤ 1000000) : Tells P 98 [.val (bsl totalT) p, .val totalT leaf] (.fresh 148 totalT (mmrAppend p leaf)) := by
 refine fn_of_aw Tryz.func98 rfl rfl rfl (fun ext w hext => ?_)
 refine aw_fact (d := 0) rfl fact_sl (fun hsl0 => ?_)
 refine CQR ?_; refine aw_box rfl rfl rfl rfl rfl ?_; refine A0 aL ?_; refine CN ?_
 refine aw_scope (ι := List Total × Total) 2 0 rfl rfl rfl (fun (i : List Total × Total) => match i with | (r, x) => ((Fr.none).set 3 (.ptr 0 0)).set 5 (.own 1)) (fun (i : List Total × Total) => match i with | (r, x) => ((Hp.none).set 0 (.box 148 totalT leaf)).set 1 (.row 148 totalT (r.reverse ++ [x]))) (fun (i : List Total × Total) => match i with | (r, x) => r.length ≤ 1000000 ∧ pushR r x = pushR p.reverse leaf) (fun (i : List Total × Total) => match i with | (r, x) => r.length) ?_ (fun hreach => ?_)
 ·
  intro ⟨r, x⟩ hinv
  dsimp only at hinv
  refine CQR ?_; refine A0 mO ?_; refine A0 (g_len_o rfl rfl rfl isl_53) ?_; refine aw_reval (d := 13) (y := ((r.length + 1 : Nat) : Int)) rfl (by simp) ?_; refine A0 aV ?_; refine CNQ ?_; refine CQ ?_; refine CD mixed ?_; refine G0 mV ?_
  refine G0 o_lss ?_
  refine GK_splitp (d := 15) (p := r = []) rfl (by rw [decide_eq_decide]; show ((r.length + 1 : Nat) : Int) < 2 ↔ _; rw [← List.length_eq_zero_iff]; omega) (fun g15 => ?_) (fun g15 => ?_)
  ·
   refine G0 mV ?_; refine G2 ?_; refine G2 ?_; refine G2 ?_; refine G2 ?_; refine G2 ?_; refine G2 ?_; refine G2 ?_; refine G2 ?_; refine G2 ?_; refine G2 ?_; refine G2 ?_; refine G2 ?_; refine G2 ?_; refine G0 oK ?_; refine GK.nil ?_
   refine Ct ?_; refine CQR ?_; refine A0 mO ?_; refine A0 aO ?_; refine CN ?_
   exact aw_ret1 rfl rfl (ret_fresh_eq rfl rfl (by unfold mmrAppend; rw [← hinv.2, g15]; rfl))
  ·
   obtain ⟨y, s, hr⟩ : ∃ y s, r = y :: s := by cases r with | nil => exact absurd rfl g15 | cons y s => exact ⟨y, s, rfl⟩
   have hrl : r.length = s.length + 1 := by rw [hr]; rfl
   have hx1 : (r.reverse ++ [x])[s.length]? = some y := by rw [hr]; simp
   have hx2 : (r.reverse ++ [x])[s.length + 1]? = some x := by rw [List.getElem?_append_right (by simp [hrl])]; simp [hrl]
   refine G0 mV ?_; refine G1 mO ?_; refine G1 mV ?_; refine G1 o_sub ?_; refine G1 (g_ia_o (i := s.length) rfl rfl rfl rfl (by first | omega | rfl) sl_53 (by first | assumption | omega | (simp; omega))) ?_
   refine G1 (g_fa_e rfl rfl fd_148_2 rfl) ?_; refine G1 (g_load_e rfl rfl rfl rfl (by assumption) L_Total_n ty_3) ?_; refine G1 mO ?_; refine G1 mV ?_; refine G1 o_sub ?_
   refine G1 (g_ia_o (i := s.length + 1) rfl rfl rfl rfl (by first | omega | rfl) sl_53 (by first | assumption | omega | (simp; omega))) ?_; refine G1 (g_fa_e rfl rfl fd_148_2 rfl) ?_
   refine G1 (g_load_e rfl rfl rfl rfl (by assumption) L_Total_n ty_3) ?_; refine G1 o_neq ?_; refine G0 oK ?_; refine GK.nil ?_
   refine aw_ifc (p := ¬ y.n = x.n) rfl (by simp [IntL.toI]) (fun ht30 => ?_) (fun ht30 => ?_)
   ·
    refine CQR ?_; refine A0 mO ?_; refine A0 aO ?_; refine CN ?_
    exact aw_ret1 rfl rfl (ret_fresh_eq rfl rfl (by unfold mmrAppend; rw [← hinv.2, hr, pushR, if_neg ht30]; simp))
   ·
    refine CS ?_; refine CQ ?_; refine aw_drawx [some 1, some 1, some 1, some 1, some 1, some 1, some 1, some 1, some 1, some 1, some 1, some 1, some 1, some 1, some 1, some 1, none, some 1] mixed (by decide +kernel) ?_; refine X0 mO ?_
    refine X0 mV ?_; refine X0 o_sub ?_; refine X0 (g_os_h (q := s.length) rfl rfl rfl rfl sl_53 (by first | omega | rfl) (by first | assumption | omega | (simp; omega))) ?_; refine X0 mO ?_; refine X0 mV ?_; refine X0 o_sub ?_
    refine X0 (g_ia_o (i := s.length) rfl rfl rfl rfl (by first | omega | rfl) sl_53 (by first | assumption | omega | (simp; omega))) ?_; refine X0 (g_load_e rfl rfl rfl rfl (by assumption) (Lens.self _) ty_148) ?_; refine X0 mO ?_
    refine X0 mV ?_; refine X0 o_sub ?_; refine X0 (g_ia_o (i := s.length + 1) rfl rfl rfl rfl (by first | omega | rfl) sl_53 (by first | assumption | omega | (simp; omega))) ?_
    refine X0 (g_load_e rfl rfl rfl rfl (by assumption) (Lens.self _) ty_148) ?_; refine X0 (oCl (join_ok _ _) rfl fn_141 ⟨(arg_v rfl), (arg_v rfl), trivial⟩) ?_
    refine X0 (g_bslice (T := totalT) (xs := [_]) rfl sl_53 row_53 ⟨rfl, rfl, trivial⟩ rfl rfl) ?_
    refine XK.e (fun fr' hfr kk H => by exact aw_append_inv rfl rfl rfl rfl ((hfr 35 (by decide +kernel)).trans rfl) ((hfr 47 (by decide +kernel)).trans rfl) rfl row_53 (by simp; omega) (aw_nil H)) ?_; refine X0 aS ?_; refine XK.nil' ?_
    refine aw_shrink (d := 5) rfl rfl rfl (by simp; omega) ?_; refine aw_ren 2 1 3 rfl rfl rfl rfl rfl rfl ?_
    refine aw_rerow (n := 1) (y := s.reverse ++ [joinT y x]) rfl (by simp [hr, List.take_append]; exact List.take_of_length_le (by simp)) ?_
    exact aw_goto ((s, joinT y x)) rfl (⟨by omega, by rw [← hinv.2, hr, pushR, if_pos (Classical.not_not.1 ht30)]⟩) (by show s.length < r.length; omega) rfl (by (repeat refine Fr.le_set ?_ (by first | rfl | (simp; done))); exact Fr.le_none _) (by (repeat refine Hp.le_set ?_ rfl); exact Hp.le_none _) (by (repeat refine Fr.below_setB ?_ rfl); exact Fr.below_none _) (by (repeat refine Hp.below_set ?_ (by decide)); exact Hp.below_none _)
 ·
  refine CQ ?_; refine aw_drawx [some 1, none, some 2, some 2, none, some 1] mixed (by decide +kernel) ?_; refine X0 mV ?_
  refine XK.e (fun fr' hfr kk H => by exact aw_callf (cloneTotal p (by constructor <;> omega)) rfl fn_139 ⟨(arg_v ((hfr 7 (by decide +kernel)).trans rfl)), trivial⟩ rfl rfl rfl (aw_nil H)) ?_
  refine XK.gb (t := 3) rfl rfl (fun _ he => g_load_b rfl rfl he (Lens.self _) ty_148) rfl ⟨rfl, rfl, trivial⟩ rfl rfl rfl ?_
  refine XK.g2 (g_bslice (T := totalT) (xs := [_]) rfl sl_53 row_53 ⟨rfl, rfl, trivial⟩ rfl rfl) (g_bslice (T := totalT) (xs := [_]) rfl sl_53 row_53 ⟨rfl, rfl, trivial⟩ rfl rfl) rfl rfl rfl ?_
  refine XK.e (fun fr' hfr kk H => by exact aw_append rfl rfl rfl rfl ((hfr 8 (by decide +kernel)).trans rfl) rfl ((hfr 10 (by decide +kernel)).trans rfl) row_53 (by simp; omega) (aw_nil H)) ?_; refine X0 aO ?_; refine XK.nil' ?_; refine CQR ?_
  refine A0 aV ?_; refine CNQ ?_; refine aw_ren 2 1 3 rfl rfl rfl rfl rfl rfl ?_; refine aw_rerow (n := 1) (y := p.reverse.reverse ++ [leaf]) rfl (by simp) ?_
  exact aw_reach hreach ((p.reverse, leaf)) rfl (⟨by simp; omega, rfl⟩) rfl (by (repeat refine Fr.le_set ?_ (by first | rfl | (simp; done))); exact Fr.le_none _) (by (repeat refine Hp.le_set ?_ rfl); exact Hp.le_none _) (by (repeat refine Fr.below_setB ?_ rfl); exact Fr.below_none _) (by (repeat refine Hp.below_set ?_ (by decide)); exact Hp.below_none _)
end Go.Proofs.YtgoebfjaaklopaaGreat
set_option maxRecDepth 20000
namespace Go.Proofs.YtgoebfjaaklopaaGreat
set_option linter.unusedVariables false
set_option linter.unusedSimpArgs false
open Go.Ab Go.RowKit
def linkNext (l : List Ab.Id) (id : Ab.Id) (level : Int) : List Ab.Id := if 32 < l.length then [] else if l.length = 0 then [id] else if level < 1 then l else l.take 1 ++ List.replicate (min level 31).toNat id ++ l.drop ((min level 31).toNat + 1)
theorem linkNext_ok (l : List Ab.Id) (id : Ab.Id) (level : Int) : Tells P 158 [.val (bsl idT) l, .val idT id, .val i64T level] (.fresh 27 idT (linkNext l id level)) := by
 refine fn_of_aw Tryz.func158 rfl rfl rfl (fun ext w hext => ?_)
 refine aw_fact (d := 0) rfl fact_sl (fun hsl0 => ?_)
 refine aw_fact (d := 2) rfl fact_int (fun hin2 => ?_)
 refine CQR ?_; refine aw_box rfl rfl rfl rfl rfl ?_; refine A0 aL ?_; refine CNQ ?_; refine CB ?_; refine CQR ?_; refine A0 mV ?_; refine A0 (g_len rfl rfl isl_34) ?_; refine A0 o_gtr ?_
 refine Sp (d := 12) (p := 32 < l.length) (fun g12 => ?_) (fun g12 => ?_)
 ·
  refine A0 aV ?_; refine CN ?_; refine Ct ?_; refine CQR ?_; refine A0 aL ?_; refine CN ?_
  exact aw_ret1 rfl rfl (by unfold linkNext; rw [if_pos g12]; exact ret_fresh_nil rfl)
 ·
  refine A0 aV ?_; refine CN ?_; refine Cg ?_; refine CQR ?_; refine A0 mV ?_; refine A0 (g_len rfl rfl isl_34) ?_; refine A0 o_eql ?_
  refine Sp (d := 16) (p := l.length = 0) (fun g16 => ?_) (fun g16 => ?_)
  ·
   refine A0 aV ?_; refine CN ?_; refine Ct ?_; refine CQR ?_; refine A0 (oLs rfl rfl rfl ty_27) ?_; refine aw_bslice (T := idT) (xs := [_]) rfl rfl rfl rfl sl_34 row_34 ⟨rfl, rfl, trivial⟩ rfl rfl ?_; refine A0 aO ?_; refine CN ?_
   exact aw_ret1 rfl rfl (ret_fresh_eq rfl rfl (by unfold linkNext; rw [if_neg g12, if_pos g16]))
  ·
   refine A0 aV ?_; refine CN ?_; refine Cg ?_; refine CQR ?_; refine A0 mV ?_; refine A0 o_lss ?_
   refine Sp (d := 21) (p := level < 1) (fun g21 => ?_) (fun g21 => ?_)
   ·
    refine A0 aV ?_; refine CN ?_; refine Ct ?_; refine CQR ?_; refine A0 mV ?_; refine aw_callf (cloneId l (by constructor <;> omega)) rfl fn_73 ⟨(arg_v rfl), trivial⟩ rfl rfl rfl ?_; refine A0 aO ?_; refine CN ?_
    exact aw_ret1 rfl rfl (ret_fresh_eq rfl rfl (by unfold linkNext; rw [if_neg g12, if_neg g16, if_pos g21]))
   ·
    refine A0 aV ?_; refine CN ?_; refine Cg ?_; refine CS ?_; refine CI ?_; refine CQR ?_; refine A0 mV ?_; refine A0 (g_min rfl rfl rfl) ?_
    refine A0 (g_add rfl rfl rfl (show _ = ((((min level 31).toNat + 1 : Nat) : Int) : Int) from (wrap_eq (by omega)).trans (by omega))) ?_; refine A0 aV ?_; refine CNQ ?_
    refine aw_drawx [some 1, some 1, some 1, some 1, some 1, some 1, some 1, some 1, none, some 1] mixed (by decide +kernel) ?_; refine X0 mV ?_
    refine X0 (by first | exact g_sl_nil rfl rfl rfl (by first | rfl | omega) sl_34 | exact g_sl_h rfl rfl rfl sl_34 (by first | assumption | omega | (simp; omega))) ?_; refine X0 (oLs rfl rfl rfl ty_27) ?_
    refine X0 (g_bslice (T := idT) (xs := [_]) rfl sl_34 row_34 ⟨rfl, rfl, trivial⟩ rfl rfl) ?_; refine X0 mV ?_; refine X0 (g_sub rfl rfl rfl (show _ = (((min level 31).toNat : Int) : Int) from (wrap_eq (by omega)).trans (by omega))) ?_
    refine X0 (g_lend (T := sl idT) (S := bsl idT) (g_call (tells_pub (repeatId id (min level 31).toNat (by omega))) rfl fn_201 ⟨(arg_v rfl), (arg_v rfl), trivial⟩ rfl)) ?_
    refine X0 (g_bslice (T := (bsl idT)) (xs := [_, _]) rfl sl_253 row_253 ⟨rfl, rfl, rfl, rfl, trivial⟩ rfl rfl) ?_
    refine XK.e (fun fr' hfr kk H => by exact aw_callf (concatId [l.take 1, List.replicate (min level 31).toNat id] (by simp; omega)) rfl fn_200 ⟨(arg_v ((hfr 34 (by decide +kernel)).trans rfl)), trivial⟩ rfl rfl rfl (aw_nil H)) ?_
    refine X0 aO ?_; refine XK.nil' ?_; refine CQQR ?_; refine A0 mV ?_; refine A0 (g_len rfl rfl isl_34) ?_; refine A0 mV ?_; refine A0 o_gtr ?_; refine CN ?_
    refine Cf (p := (min level 31).toNat + 1 < l.length) (fun ht39 => ?_) (fun ht39 => ?_)
    ·
     refine CR ?_; refine A0 mO ?_; refine A0 mV ?_; refine A0 mV ?_; refine A0 (g_sl_l rfl rfl rfl sl_34 (by first | assumption | omega | (simp; omega))) ?_; refine aw_append rfl rfl rfl rfl rfl rfl rfl row_34 (by simp; omega) ?_; refine A0 aO ?_
     refine CNQR ?_; refine A0 mO ?_; refine A0 aO ?_; refine CN ?_
     exact aw_ret1 rfl rfl (ret_fresh_eq rfl rfl (by unfold linkNext; rw [if_neg g12, if_neg g16, if_neg g21]; simp; omega))
    ·
     refine CSQR ?_; refine A0 mO ?_; refine A0 aO ?_; refine CN ?_
     exact aw_ret1 rfl rfl (ret_fresh_eq rfl rfl (by unfold linkNext; rw [if_neg g12, if_neg g16, if_neg g21, List.drop_of_length_le (by omega)]; simp))
end Go.Proofs.YtgoebfjaaklopaaGreat
set_option maxRecDepth 20000
namespace Go.Proofs.YtgoebfjaaklopaaGreat
set_option linter.unusedVariables false
set_option linter.unusedSimpArgs false
open Go.Ab Go.RowKit
def mineFrom : Nat → Head → Option Head
  | 0, _ => none
  | n + 1, h => if headMay h = true then some h else mineFrom n { h with nonce := h.nonce + 1 }
def mineOf (h : Head) (tries : Int) : Option Head := mineFrom (min tries 200).toNat h
theorem mineFrom_step {n : Nat} {h : Head} (hn : 0 < n) (hm : ¬ headMay h = true) : mineFrom n h = mineFrom (n - 1) { h with nonce := h.nonce + 1 } := by
  obtain ⟨m, rfl⟩ : ∃ m, n = m + 1 := ⟨n - 1, by omega⟩
  rw [mineFrom, if_neg hm]; rfl
theorem mineFrom_yes {n : Nat} {h : Head} (hn : 0 < n) (hm : headMay h = true) : mineFrom n h = some h := by
  obtain ⟨m, rfl⟩ : ∃ m, n = m + 1 := ⟨n - 1, by omega⟩
  rw [mineFrom, if_pos hm]
theorem mine_ok (h : Head) (tries : Int) : Tells P 118 [.val headT h, .val i64T tries] (.tup2 (.val headT ((mineOf h tries).getD h)) (.val boolT (mineOf h tries).isSome)) := by
 refine fn_of_aw Tryz.func118 rfl rfl rfl (fun ext w hext => ?_)
 refine aw_fact (d := 1) rfl fact_int (fun hin1 => ?_)
 refine CQR ?_; refine aw_box rfl rfl rfl rfl rfl ?_; refine aw_alloc ze_33 rfl rfl rfl rfl ?_; refine aw_alloc ze_4 rfl rfl rfl rfl ?_; refine CNQQR ?_; refine A0 (oLs rfl rfl rfl ty_33) ?_; refine A0 mV ?_
 refine aw_inline rfl rfl rfl rfl Tryz.func157 fn_157 rfl rfl (fun ia1 iok1 => ?_)
 refine CQR ?_; refine aw_box rfl rfl rfl rfl rfl ?_; refine aw_box rfl rfl rfl rfl rfl ?_; refine A0 aL ?_; refine CNQR ?_; refine A0 (g_mkf (caps := [_, _]) rfl rfl) ?_; refine A0 aC ?_; refine CN ?_; refine aw_back1 rfl ?_; refine CNB ?_
 refine aw_range rfl rfl rfl Tryz.func199 fn_199 rfl rfl (by intro n hn; simp only [List.mem_cons, List.not_mem_nil, or_false] at hn; rcases hn with rfl | rfl <;> rfl) (fun fid2 ca2 lN2 DN2 cok2 rc2 hrc2 => ?_)
 refine CQR ?_; refine A0 (oLs rfl rfl rfl ty_3) ?_; refine A0 (g_min rfl rfl rfl) ?_; refine A0 mV ?_; refine CNB ?_
 refine Lp (ι := Nat × Head) 7 (fun (i : Nat × Head) => match i with | (k, g) => (((((Fr.none).set 0 (.lit (.func (.yield lN2) #[] #[]))).set 1 (.ptr 4 0)).set 2 (.ptr 3 0)).set 5 (.val i64T (min tries 200))).set 6 (.val i64T (k : Int))) (fun (i : Nat × Head) => match i with | (k, g) => (((((((Hp.none).set 0 (.box 33 headT h)).set 1 (.box 33 headT zHead)).set 2 (.box 4 boolT false)).set 3 (.box 33 headT g)).set 4 (.box 3 i64T tries)).set 5 (.objAt DN2 (.deferred (some [])))).set 6 (.objAt lN2 (rc2 .ready none))) (fun (i : Nat × Head) => match i with | (k, g) => k ≤ (min tries 200).toNat ∧ mineOf h tries = mineFrom ((min tries 200).toNat - k) g) (fun (i : Nat × Head) => match i with | (k, g) => (min tries 200).toNat - k) ((0, h)) (⟨Nat.zero_le _, rfl⟩) ?_
 intro ⟨k, g⟩ hinv
 dsimp only at hinv
 refine CQR ?_; refine A0 o_lss ?_; refine CNQ ?_
 refine Cf (p := (k : Int) < min tries 200) (fun ht7 => ?_) (fun ht7 => ?_)
 ·
  refine CS ?_; refine CQ ?_; refine CB ?_; refine CQQR ?_; refine A0 mL ?_; refine A0 (oLs rfl rfl rfl ty_33) ?_
  refine aw_yield (nL := 6) rfl rfl rfl rfl rfl hrc2 rfl rfl rfl (fun ya3 yok3 => ?_)
  refine CR ?_; refine aw_alloc ze_33 rfl rfl rfl rfl ?_; refine aw_store_b rfl rfl rfl rfl rfl (Lens.self _) ty_33 rfl ?_; refine CN ?_; refine aw_begin (nL := 6) hrc2 rfl ?_; refine CB ?_; refine CQR ?_; refine A0 (oLs rfl rfl rfl ty_33) ?_
  refine A0 (oCl (headMay_ok _) rfl fn_137 ⟨(arg_v rfl), trivial⟩) ?_; refine CN ?_
  refine aw_ifc (p := headMay g = true) rfl (by simp) (fun ht12 => ?_) (fun ht12 => ?_)
  ·
   refine CQR ?_; refine A0 (oLs rfl rfl rfl ty_33) ?_; refine aw_store_b rfl rfl rfl rfl rfl (Lens.self _) ty_33 rfl ?_; refine aw_store_b rfl rfl rfl rfl rfl (Lens.self _) ty_4 rfl ?_; refine CN ?_; refine aw_round_ret (nL := 6) hrc2 rfl ?_
   refine A0 oN ?_; refine CN ?_; refine Ct ?_; refine aw_iter_ret (nL := 6) rfl hrc2 rfl (by decide) ?_
   refine aw_of_ar (ar_unmark (nD := 5) rfl rfl rfl ?_)
   exact ar_retr2 rfl rfl (rv_cell rfl rfl ty_33 (by rw [hinv.2, mineFrom_yes (by omega) ht12]; rfl)) (rv_cell rfl rfl ty_4 (by rw [hinv.2, mineFrom_yes (by omega) ht12]; rfl))
  ·
   refine CS ?_; refine CI ?_; refine aw_round_end (nL := 6) hrc2 rfl ?_; refine A0 oN ?_; refine CN ?_; refine Cg ?_; refine CS ?_; refine CR ?_; refine A0 (oFp fd_33_7) ?_; refine A0 (oLb L_Head_nonce ty_28) ?_
   refine A0 (g_add64 rfl rfl rfl) ?_; refine A0 (oFp fd_33_7) ?_; refine aw_store_b rfl rfl rfl rfl rfl L_Head_nonce ty_28 rfl ?_; refine CNIR ?_; refine A0 o_add ?_; refine A0 mV ?_; refine CN ?_
   exact Nx ((k + 1, { g with nonce := g.nonce + 1 })) (⟨by omega, by rw [hinv.2, mineFrom_step (by omega) ht12]; rfl⟩) (by show (min tries 200).toNat - (k + 1) < (min tries 200).toNat - k; omega)
 ·
  refine CE ?_; refine aw_iter_fall (nL := 6) rfl hrc2 rfl (by decide) ?_; refine CI ?_; refine CQR ?_; refine A0 (oLs rfl rfl rfl ty_33) ?_; refine aw_store_b rfl rfl rfl rfl rfl (Lens.self _) ty_33 rfl ?_
  refine aw_store_b rfl rfl rfl rfl rfl (Lens.self _) ty_4 rfl ?_; refine CN ?_
  refine aw_of_ar (ar_unmark (nD := 5) rfl rfl rfl ?_)
  exact ar_retr2 rfl rfl (rv_cell rfl rfl ty_33 (by rw [hinv.2, show (min tries 200).toNat - k = 0 by omega]; rfl)) (rv_cell rfl rfl ty_4 (by rw [hinv.2, show (min tries 200).toNat - k = 0 by omega]; rfl))
end Go.Proofs.YtgoebfjaaklopaaGreat
set_option maxRecDepth 20000
namespace Go.Proofs.YtgoebfjaaklopaaGreat
set_option linter.unusedVariables false
set_option linter.unusedSimpArgs false
open Go.Ab Go.RowKit
theorem cb_zero : ∀ {a b : List UInt8}, Lib.compareBytes a b = 0 ↔ a = b
  | [], [] => by simp [Lib.compareBytes]
  | [], _ :: _ => by simp [Lib.compareBytes]
  | _ :: _, [] => by simp [Lib.compareBytes]
  | x :: a, y :: b => by
    unfold Lib.compareBytes
    by_cases h1 : x < y
    · rw [if_pos h1]
      constructor
      · intro h; omega
      · intro h; injection h with h _; subst h; exact absurd h1 (UInt8.lt_irrefl _)
    · rw [if_neg h1]
      by_cases h2 : y < x
      · rw [if_pos h2]
        constructor
        · intro h; omega
        · intro h; injection h with h _; subst h; exact absurd h2 (UInt8.lt_irrefl _)
      · rw [if_neg h2]
        have e : x = y := UInt8.le_antisymm (UInt8.not_lt.1 h2) (UInt8.not_lt.1 h1)
        subst e
        rw [cb_zero (a := a) (b := b)]
        simp
theorem cb_neg : ∀ {a b : List UInt8}, Lib.compareBytes b a = -Lib.compareBytes a b
  | [], [] => by simp [Lib.compareBytes]
  | [], _ :: _ => by simp [Lib.compareBytes]
  | _ :: _, [] => by simp [Lib.compareBytes]
  | x :: a, y :: b => by
    unfold Lib.compareBytes
    by_cases h1 : x < y
    · have h2 : ¬ y < x := fun h => UInt8.lt_irrefl _ (UInt8.lt_trans h1 h)
      simp [h1, h2]
    · by_cases h2 : y < x
      · simp [h1, h2]
      · simp only [if_neg h1, if_neg h2]; exact cb_neg
theorem cb_trans : ∀ {a b c : List UInt8}, Lib.compareBytes a b < 0 → Lib.compareBytes b c < 0 → Lib.compareBytes a c < 0
  | [], [], _, h, _ => by simp [Lib.compareBytes] at h
  | _ :: _, [], _, h, _ => by simp [Lib.compareBytes] at h
  | _, _ :: _, [], _, h => by simp [Lib.compareBytes] at h
  | [], _ :: _, _ :: _, _, _ => by simp [Lib.compareBytes]
  | x :: a, y :: b, z :: c, h, k => by
    unfold Lib.compareBytes at h k ⊢
    by_cases h1 : x < y
    · by_cases k1 : y < z
      · rw [if_pos (UInt8.lt_trans h1 k1)]; omega
      · rw [if_neg k1] at k
        by_cases k2 : z < y
        · rw [if_pos k2] at k; omega
        · have e : y = z := UInt8.le_antisymm (UInt8.not_lt.1 k2) (UInt8.not_lt.1 k1)
          subst e; rw [if_pos h1]; omega
    · rw [if_neg h1] at h
      by_cases h2 : y < x
      · rw [if_pos h2] at h; omega
      · rw [if_neg h2] at h
        have e : x = y := UInt8.le_antisymm (UInt8.not_lt.1 h2) (UInt8.not_lt.1 h1)
        subst e
        by_cases k1 : x < z
        · rw [if_pos k1]; omega
        · rw [if_neg k1] at k ⊢
          by_cases k2 : z < x
          · rw [if_pos k2] at k; omega
          · rw [if_neg k2] at k ⊢; exact cb_trans h k
theorem ordIn_eq (a b : In) : ordIn a b = if Lib.compareBytes a.tx b.tx = 0 then cmpInt a.i b.i else Lib.compareBytes a.tx b.tx := by
  unfold ordIn
  simp only [orL]
  by_cases h : Lib.compareBytes a.tx b.tx = 0
  · rw [if_pos h, if_pos h]
    split <;> simp_all
  · rw [if_neg h, if_neg h]
theorem cmpInt_zero {x y : Int} : cmpInt x y = 0 ↔ x = y := by unfold cmpInt; split <;> (try split) <;> omega
theorem ordIn_zero {a b : In} : ordIn a b = 0 ↔ a = b := by
  rw [ordIn_eq]
  by_cases h : Lib.compareBytes a.tx b.tx = 0
  · rw [if_pos h, cmpInt_zero]
    have := cb_zero.1 h
    cases a; cases b; simp_all
  · rw [if_neg h]
    constructor
    · intro e; exact absurd e h
    · intro e; subst e; exact absurd (cb_zero.2 rfl) h
theorem ordIn_neg (a b : In) : ordIn b a = -ordIn a b := by
  rw [ordIn_eq, ordIn_eq, cb_neg (a := a.tx) (b := b.tx)]
  by_cases h : Lib.compareBytes a.tx b.tx = 0
  · rw [if_pos h, if_pos (by omega)]
    unfold cmpInt; split <;> split <;> (try split) <;> omega
  · rw [if_neg h, if_neg (by omega)]
theorem ordIn_trans {a b c : In} (h : ordIn a b < 0) (k : ordIn b c < 0) : ordIn a c < 0 := by
  rw [ordIn_eq] at h k ⊢
  by_cases h1 : Lib.compareBytes a.tx b.tx = 0
  · rw [if_pos h1] at h
    have e := cb_zero.1 h1
    rw [e]
    by_cases k1 : Lib.compareBytes b.tx c.tx = 0
    · rw [if_pos k1] at k ⊢
      unfold cmpInt at *; split at h <;> split at k <;> (try split at h) <;> (try split at k) <;> split <;> (try split) <;> omega
    · rw [if_neg k1] at k ⊢; exact k
  · rw [if_neg h1] at h
    by_cases k1 : Lib.compareBytes b.tx c.tx = 0
    · have e := cb_zero.1 k1
      rw [← e, if_neg h1]; exact h
    · rw [if_neg k1] at k
      have := cb_trans h k
      rw [if_neg (by omega)]; exact this
end Go.Proofs.YtgoebfjaaklopaaGreat
set_option maxRecDepth 20000
namespace Go.Proofs.YtgoebfjaaklopaaGreat
set_option linter.unusedVariables false
set_option linter.unusedSimpArgs false
open Go.Ab Go.RowKit
def sortL_ren : Go.Shelf.Ren := ⟨fun | 6 => 224 | 15 => 228 | 14 => 249 | 28 => 250 | 29 => 194 | 20 => 256 | 21 => 257 | 22 => 258 | 23 => 259 | 24 => 260 | 25 => 261 | 26 => 262 | 27 => 263 | 46 => 264 | 47 => 265 | 48 => 266 | 49 => 267 | 50 => 268 | 57 => 269 | n => n, fun | 22 => 54 | 24 => 180 | 25 => 247 | 3 => 3 | 39 => 156 | 0 => 0 | 53 => 31 | 55 => 28 | 4 => 4 | 46 => 276 | 45 => 275 | 50 => 238 | 5 => 5 | 9 => 9 | 66 => 281 | 70 => 285 | 76 => 287 | 77 => 288 | n => n, fun | n => n⟩
theorem sortL : Go.Proofs.SlLaysF0.n6 P sortL_ren := {
  mixed := by kernel_rfl,
  f6 := ⟨Tryz.f224.name, by decide, Tryz.func224.trans (congrArg some (by kernel_rfl))⟩,
  f14 := ⟨Tryz.f249.name, by decide, Tryz.func249.trans (congrArg some (by kernel_rfl))⟩,
  f15 := Tryz.func228.trans (congrArg some (by kernel_rfl)),
  f20 := ⟨Tryz.f256.name, by decide, Tryz.func256.trans (congrArg some (by kernel_rfl))⟩,
  f21 := ⟨Tryz.f257.name, by decide, Tryz.func257.trans (congrArg some (by kernel_rfl))⟩,
  f22 := ⟨Tryz.f258.name, by decide, Tryz.func258.trans (congrArg some (by kernel_rfl))⟩,
  f23 := ⟨Tryz.f259.name, by decide, Tryz.func259.trans (congrArg some (by kernel_rfl))⟩,
  f24 := ⟨Tryz.f260.name, by decide, Tryz.func260.trans (congrArg some (by kernel_rfl))⟩,
  f25 := ⟨Tryz.f261.name, by decide, Tryz.func261.trans (congrArg some (by kernel_rfl))⟩,
  f26 := ⟨Tryz.f262.name, by decide, Tryz.func262.trans (congrArg some (by kernel_rfl))⟩,
  f27 := ⟨Tryz.f263.name, by decide, Tryz.func263.trans (congrArg some (by kernel_rfl))⟩,
  f28 := Tryz.func250.trans (congrArg some (by kernel_rfl)),
  f29 := Tryz.func194.trans (congrArg some (by kernel_rfl)),
  f46 := ⟨Tryz.f264.name, by decide, Tryz.func264.trans (congrArg some (by kernel_rfl))⟩,
  f47 := Tryz.func265.trans (congrArg some (by kernel_rfl)),
  f48 := Tryz.func266.trans (congrArg some (by kernel_rfl)),
  f49 := ⟨Tryz.f267.name, by decide, Tryz.func267.trans (congrArg some (by kernel_rfl))⟩,
  f50 := ⟨Tryz.f268.name, by decide, Tryz.func268.trans (congrArg some (by kernel_rfl))⟩,
  f57 := ⟨Tryz.f269.name, by decide, Tryz.func269.trans (congrArg some (by kernel_rfl))⟩,
  t0 := Tryz.underlying0,
  a0 := Tryz.isAgg0,
  z0 := Tryz.sizeOf0,
  v0 := Tryz.zeroValue0,
  t3 := Tryz.underlying3,
  a3 := Tryz.isAgg3,
  z3 := Tryz.sizeOf3,
  v3 := Tryz.zeroValue3,
  t4 := Tryz.underlying4,
  a4 := Tryz.isAgg4,
  z4 := Tryz.sizeOf4,
  v4 := Tryz.zeroValue4,
  t5 := Tryz.underlying5,
  a5 := Tryz.isAgg5,
  z5 := Tryz.sizeOf5,
  v5 := Tryz.zeroValue5,
  t9 := Tryz.underlying9,
  a9 := Tryz.isAgg9,
  z9 := Tryz.sizeOf9,
  v9 := Tryz.zeroValue9,
  t22 := Tryz.underlying54,
  a22 := Tryz.isAgg54,
  z22 := Tryz.sizeOf54,
  v22 := Tryz.zeroValue54,
  t25 := Tryz.underlying247,
  a25 := Tryz.isAgg247,
  z25 := Tryz.sizeOf247,
  v25 := Tryz.zeroValue247,
  t39 := Tryz.underlying156,
  a39 := Tryz.isAgg156,
  z39 := Tryz.sizeOf156,
  v39 := Tryz.zeroValue156,
  t45 := Tryz.underlying275,
  a45 := Tryz.isAgg275,
  z45 := Tryz.sizeOf275,
  v45 := Tryz.zeroValue275,
  t46 := Tryz.underlying276,
  a46 := Tryz.isAgg276,
  z46 := Tryz.sizeOf276,
  v46 := Tryz.zeroValue276,
  t50 := Tryz.underlying238,
  a50 := Tryz.isAgg238,
  z50 := Tryz.sizeOf238,
  v50 := Tryz.zeroValue238,
  t53 := Tryz.underlying31,
  a53 := Tryz.isAgg31,
  z53 := Tryz.sizeOf31,
  v53 := Tryz.zeroValue31,
  t55 := Tryz.underlying28,
  a55 := Tryz.isAgg28,
  z55 := Tryz.sizeOf28,
  v55 := Tryz.zeroValue28,
  t66 := Tryz.underlying281,
  a66 := Tryz.isAgg281,
  z66 := Tryz.sizeOf281,
  v66 := Tryz.zeroValue281,
  t70 := Tryz.underlying285,
  a70 := Tryz.isAgg285,
  z70 := Tryz.sizeOf285,
  v70 := Tryz.zeroValue285,
  t76 := Tryz.underlying287,
  a76 := Tryz.isAgg287,
  z76 := Tryz.sizeOf287,
  v76 := Tryz.zeroValue287,
  t77 := Tryz.underlying288,
  a77 := Tryz.isAgg288,
  z77 := Tryz.sizeOf288,
  v77 := Tryz.zeroValue288 }
def Apart (l : List Coin) : Prop := l.Pairwise fun a b => ordIn a.inn b.inn ≠ 0
def sortC (l : List Coin) : List Coin := l.mergeSort fun a b => decide (ordIn a.inn b.inn ≤ 0)
def encId (l : Ab.Id) : List Value := l.map fun b => .int .u8 b.toNat
def encCoin (c : Coin) : List Value := encId c.inn.tx ++ [.int .i64 c.inn.i, .int .i64 c.out.v, .int .i64 c.out.to]
def okCoin (c : Coin) : Prop := c.inn.tx.length = 32 ∧ IntKind.InR .i64 c.inn.i ∧ IntKind.InR .i64 c.out.v ∧ IntKind.InR .i64 c.out.to
theorem flat_u8 : Flat1 u8T (fun b => [.int .u8 b.toNat]) (fun _ => True) := fun _ _ _ _ _ => Iff.rfl
theorem flat_id : Flat1 idT encId (fun l => l.length = 32) := fun U N w l cs => by
  show (l.length = 32 ∧ relAll u8T U N w l cs) ↔ _
  rw [flat_all flat_u8]
  have e : (l.map fun b : UInt8 => [Value.int .u8 b.toNat]).flatten = encId l := by
    unfold encId
    induction l with
    | nil => rfl
    | cons x l ih => rw [List.map_cons, List.flatten_cons, ih]; rfl
  rw [e]
  exact ⟨fun h => ⟨h.2.1, h.1⟩, fun h => ⟨h.2, h.1, fun _ _ => trivial⟩⟩
theorem flat_coin : Flat1 coinT encCoin okCoin := fun U N w c cs => by
  constructor
  · rintro ⟨c1, c2, rfl, ⟨d1, d2, rfl, h1, h2⟩, ⟨d3, d4, rfl, h3, h4⟩⟩
    obtain ⟨rfl, k1⟩ := (flat_id _ _ _ _ _).1 h1
    obtain ⟨rfl, k2⟩ := h2
    obtain ⟨rfl, k3⟩ := h3
    obtain ⟨rfl, k4⟩ := h4
    exact ⟨by simp [encCoin], k1, k2, k3, k4⟩
  · rintro ⟨rfl, k1, k2, k3, k4⟩
    exact ⟨encId c.inn.tx ++ [.int .i64 c.inn.i], [.int .i64 c.out.v, .int .i64 c.out.to], by simp [encCoin], ⟨encId c.inn.tx, [.int .i64 c.inn.i], rfl, (flat_id _ _ _ _ _).2 ⟨rfl, k1⟩, rfl, k2⟩, ⟨[.int .i64 c.out.v], [.int .i64 c.out.to], rfl, ⟨rfl, k3⟩, rfl, k4⟩⟩
theorem sort_unique {l r : List Coin} (hl : Apart l) (hp : r.Perm l) (hs : r.Pairwise fun a b => ¬ ordIn b.inn a.inn < 0) : r = sortC l := by
  have hle : ∀ a b c : Coin, (decide (ordIn a.inn b.inn ≤ 0)) = true → (decide (ordIn b.inn c.inn ≤ 0)) = true → (decide (ordIn a.inn c.inn ≤ 0)) = true := fun a b c h1 h2 => by
    have h1 := of_decide_eq_true h1
    have h2 := of_decide_eq_true h2
    apply decide_eq_true
    by_cases e1 : ordIn a.inn b.inn = 0
    · rw [ordIn_zero.1 e1]; exact h2
    · by_cases e2 : ordIn b.inn c.inn = 0
      · rw [← ordIn_zero.1 e2]; exact h1
      · have := ordIn_trans (show ordIn a.inn b.inn < 0 by omega) (show ordIn b.inn c.inn < 0 by omega); omega
  have htot : ∀ a b : Coin, (decide (ordIn a.inn b.inn ≤ 0) || decide (ordIn b.inn a.inn ≤ 0)) = true := fun a b => by
    have := ordIn_neg a.inn b.inn
    rw [Bool.or_eq_true, decide_eq_true_eq, decide_eq_true_eq]; omega
  have h1 : (sortC l).Pairwise fun a b => (decide (ordIn a.inn b.inn ≤ 0)) = true := List.pairwise_mergeSort (fun a b c => hle a b c) (fun a b => htot a b) l
  have h2 : r.Pairwise fun a b => (decide (ordIn a.inn b.inn ≤ 0)) = true := hs.imp fun {a b} h => by
    have := ordIn_neg a.inn b.inn
    exact decide_eq_true (by omega)
  have hperm : r.Perm (sortC l) := hp.trans (List.mergeSort_perm l _).symm
  have hap : Apart (sortC l) := (List.mergeSort_perm l _).symm.pairwise hl (fun {a b} h => by have := ordIn_neg a.inn b.inn; omega)
  have hinj : ∀ a ∈ sortC l, ∀ b ∈ sortC l, ordIn a.inn b.inn = 0 → a = b := by
    intro a ha b hb h0
    apply Classical.byContradiction
    intro hne
    obtain ⟨i, hi, rfl⟩ := List.getElem_of_mem ha
    obtain ⟨j, hj, rfl⟩ := List.getElem_of_mem hb
    have hw := List.pairwise_iff_getElem.1 hap
    rcases Nat.lt_trichotomy i j with h | h | h
    · exact hw i j hi hj h h0
    · subst h; exact hne rfl
    · have := ordIn_neg (sortC l)[i].inn (sortC l)[j].inn
      exact hw j i hj hi h (by omega)
  refine hperm.eq_of_pairwise (le := fun a b => (decide (ordIn a.inn b.inn ≤ 0)) = true) (fun a b ha hb x y => ?_) h2 h1
  have x := of_decide_eq_true x
  have y := of_decide_eq_true y
  have := ordIn_neg a.inn b.inn
  exact hinj a (hperm.mem_iff.1 ha) b hb (by omega)
theorem sort_ok (l : List Coin) (hl : Apart l) (hn : l.length < 1000000) : TellsM P 224 (.row 180 coinT l) [.own 0, .clo 225 []] (.lit (.tuple #[])) (.row 180 coinT (sortC l)) :=
  sort_tells sortL flat_coin (fun c h => by unfold encCoin encId; simp only [List.length_append, List.length_map, h.1, List.length_cons, List.length_nil]; rfl) (fun c _ v hv => by
    unfold encCoin encId at hv
    simp only [List.mem_append, List.mem_map, List.mem_cons, List.not_mem_nil, or_false] at hv
    rcases hv with ⟨b, _, rfl⟩ | rfl | rfl | rfl <;> rfl) rfl (x0 := ⟨⟨zId, 0⟩, ⟨0, 0⟩⟩) ⟨rfl, i64_in.2 (by decide), i64_in.2 (by decide), i64_in.2 (by decide)⟩ ty_180 (cf := fun a b => ordIn a.inn b.inn)
    (fun c _ h => by have := ordIn_zero.2 (rfl : c.inn = c.inn); omega) (fun a b c _ _ _ h1 h2 => ordIn_trans h1 h2)
    (fun a b c _ _ _ h1 h2 h3 => by
      have n1 := ordIn_neg a.inn b.inn
      have n2 := ordIn_neg b.inn c.inn
      by_cases e1 : ordIn a.inn b.inn = 0
      · rw [ordIn_zero.1 e1] at h3; exact h2 h3
      · by_cases e2 : ordIn b.inn c.inn = 0
        · rw [← ordIn_zero.1 e2] at h3; exact h1 h3
        · have := ordIn_trans (show ordIn c.inn b.inn < 0 by omega) (show ordIn b.inn a.inn < 0 by omega)
          have n3 := ordIn_neg a.inn c.inn
          omega) fn_225 (fun x y => made2_ok x y) (by omega) (fun r hp hs => sort_unique hl hp hs)
end Go.Proofs.YtgoebfjaaklopaaGreat
set_option maxRecDepth 20000
namespace Go.Proofs.YtgoebfjaaklopaaGreat
set_option linter.unusedVariables false
set_option linter.unusedSimpArgs false
open Go.Ab Go.RowKit
def newN (id : Ab.Id) (outs : List Out) (k : Nat) : List Coin := (outs.take k).zipIdx.map fun x => ⟨⟨id, (x.2 : Int)⟩, x.1⟩
theorem newN_len {id : Ab.Id} {outs : List Out} {k : Nat} (h : k ≤ outs.length) : (newN id outs k).length = k := by simp [newN]; omega
theorem newN_succ {id : Ab.Id} {outs : List Out} {k : Nat} {o : Out} (h : outs[k]? = some o) (p : List Coin) : p ++ newN id outs k ++ [⟨⟨id, (k : Int)⟩, o⟩] = p ++ newN id outs (k + 1) := by
  have hk := (List.getElem?_eq_some_iff.1 h).1
  unfold newN
  rw [List.take_add_one, h, List.zipIdx_append, List.map_append, List.append_assoc]
  simp
  omega
def madeOf (p : List Coin) (t : Tx) : List Coin × Int := if (p.any fun c => decide (c.inn.tx = idOf t)) = true then ([], 10) else (sortC (p ++ newN (idOf t) t.outs t.outs.length), 0)
theorem made_ok (p : List Coin) (t : Tx) (hp : p.length ≤ 48) (hto : t.outs.length ≤ 3) (hd : (p.any fun c => decide (c.inn.tx = idOf t)) = false → Apart (p ++ newN (idOf t) t.outs t.outs.length)) : TellsM P 186 (.row 180 coinT p) [.own 0, .val txT t] (.tup2 (.fresh 180 coinT (madeOf p t).1) (.val i64T (madeOf p t).2)) (.none_) := by
 refine fnm_of_aw trivial Tryz.func186 rfl rfl ⟨Nat.one_pos, ⟨trivial, trivial⟩⟩ (fun ext pg w hext hgr => ?_)
 refine aw_factrow (n := 0) rfl (fun hrl => ?_)
 refine CQR ?_; refine aw_box rfl rfl rfl rfl rfl ?_; refine A0 aL ?_; refine A0 aV ?_; refine CNQR ?_; refine A0 (oLs rfl rfl rfl ty_112) ?_; refine A0 (oCl (id_ok t) rfl fn_146 ⟨(arg_v rfl), trivial⟩) ?_
 refine aw_alloc ze_27 rfl rfl rfl rfl ?_; refine aw_store_b rfl rfl rfl rfl rfl (Lens.self _) ty_27 rfl ?_; refine CNQQR ?_; refine A0 mO ?_; refine A0 (g_mkf (caps := [_]) rfl rfl) ?_
 refine A0 (oCl (containsFuncCoin _ _) rfl fn_222 ⟨(arg_own rfl rfl), (by first | exact arg_fn1 (Cs := [_]) rfl fn_223 (by intro n hn; simp only [List.mem_cons, List.not_mem_nil, or_false] at hn; rcases hn with rfl <;> exact ⟨_, _, _, _, rfl⟩) ⟨(by exact arg_cap rfl), trivial⟩ rfl (fun x => made1_ok _ x) | exact arg_fn2 (Cs := [_]) rfl fn_223 (by intro n hn; simp only [List.mem_cons, List.not_mem_nil, or_false] at hn; rcases hn with rfl <;> exact ⟨_, _, _, _, rfl⟩) ⟨(by exact arg_cap rfl), trivial⟩ rfl (fun x y => made1_ok _ x) | exact arg_clo rfl), trivial⟩) ?_
 refine CN ?_
 refine aw_ifc (p := (p.any fun c => decide (c.inn.tx = idOf t)) = true) rfl (Bool.decide_eq_true.symm) (fun ht13 => ?_) (fun ht13 => ?_)
 ·
  refine CQR ?_; refine A0 aL ?_; refine A0 aV ?_; refine CN ?_
  exact aw_retm2 rfl rfl rfl rfl rfl give_none (by unfold madeOf; rw [if_pos ht13]; exact retm_fresh_nil rfl) (retm_eq give_none rfl (by unfold madeOf; rw [if_pos ht13]))
 ·
  have hnot : (p.any fun c => decide (c.inn.tx = idOf t)) = false := by simpa using ht13
  refine CSQQR ?_; refine A0 (oFp fd_112_1) ?_; refine A0 (oLb L_Tx_outs ty_110) ?_; refine A0 (g_len rfl rfl isl_110) ?_; refine A0 mV ?_; refine CNB ?_; refine aw_ren 0 3 4 rfl rfl rfl rfl rfl rfl ?_
  refine aw_rerow (n := 3) (y := p ++ newN (idOf t) t.outs 0) rfl (by simp [newN]) ?_
  refine Lp (ι := Nat) 4 (fun (k : Nat) => ((((((Fr.none).set 0 (.own 3)).set 3 (.ptr 1 0)).set 6 (.ptr 2 0)).set 15 (.val (sl outT) t.outs)).set 16 (.val i64T (t.outs.length : Int))).set 17 (.val i64T (k : Int))) (fun (k : Nat) => (((Hp.none).set 1 (.box 112 txT t)).set 2 (.box 27 idT (idOf t))).set 3 (.row 180 coinT (p ++ newN (idOf t) t.outs k))) (fun (k : Nat) => k ≤ t.outs.length) (fun (k : Nat) => t.outs.length - k) (0) (Nat.zero_le _) ?_
  intro k hinv
  refine CQR ?_; refine A0 o_lss ?_; refine CNQ ?_
  refine Cf (p := k < t.outs.length) (fun ht18 => ?_) (fun ht18 => ?_)
  ·
   obtain ⟨o, ho⟩ : ∃ o, t.outs[k]? = some o := ⟨_, List.getElem?_eq_getElem ht18⟩
   have hnl := newN_len (id := idOf t) hinv
   refine CSQBQR ?_; refine A0 mV ?_; refine A0 (g_ia_n rfl rfl rfl sl_110 (by assumption)) ?_; refine A0 (g_load_r rfl rfl ty_123) ?_; refine aw_alloc ze_123 rfl rfl rfl rfl ?_; refine A0 aV ?_
   refine aw_store_b rfl rfl rfl rfl rfl (Lens.self _) ty_123 rfl ?_; refine CNR ?_; refine A0 mO ?_; refine A0 (oLs rfl rfl rfl ty_27) ?_; refine A0 mV ?_
   refine A0 (g_build rfl ze_120 bd_120 (.cons fd_120_0 L_In_tx ty_27 rfl (.cons fd_120_1 L_In_i ty_3 rfl .nil)) rfl) ?_; refine A0 (oLs rfl rfl rfl ty_123) ?_
   refine A0 (g_build rfl ze_180 bd_180 (.cons fd_180_0 L_Coin_inn ty_120 rfl (.cons fd_180_1 L_Coin_out ty_123 rfl .nil)) rfl) ?_; refine A0 (g_bslice (T := coinT) (xs := [_]) rfl sl_54 row_54 ⟨rfl, rfl, trivial⟩ rfl rfl) ?_
   refine aw_append rfl rfl rfl rfl rfl rfl rfl row_54 (by simp only [List.length_append, List.length_cons, List.length_nil, hnl]; omega) ?_; refine A0 aO ?_; refine CNIR ?_; refine A0 o_add ?_; refine A0 mV ?_; refine CN ?_
   refine aw_ren 5 3 6 rfl rfl rfl rfl rfl rfl ?_; refine aw_rerow (n := 3) rfl (newN_succ ho p) ?_
   exact Nx (k + 1) (by omega) (by omega)
  ·
   obtain rfl : k = t.outs.length := (by omega)
   refine CE ?_; refine CQR ?_; refine A0 mO ?_
   refine aw_callu (sort_ok _ (hd hnot) (by rw [List.length_append, newN_len (Nat.le_refl _)]; omega)) rfl fn_224 rfl trivial trivial rfl ⟨(by first | exact argm_own rfl | exact argm_ptr rfl | exact argm_same rfl | exact argm_bsl rfl | exact argm_lit rfl | exact argm_clo rfl | exact argm_row rfl rfl (by decide)), (by first | exact argm_own rfl | exact argm_ptr rfl | exact argm_same rfl | exact argm_bsl rfl | exact argm_lit rfl | exact argm_clo rfl | exact argm_row rfl rfl (by decide)), trivial⟩ rfl rfl rfl ?_
   refine CNQR ?_; refine A0 mO ?_; refine A0 aO ?_; refine A0 aV ?_; refine CN ?_
   exact aw_retm2 rfl rfl rfl rfl rfl give_none (retm_fresh give_none (fun h => False.elim h) rfl rfl (by unfold madeOf; rw [if_neg ht13])) (retm_eq give_none rfl (by unfold madeOf; rw [if_neg ht13]))
end Go.Proofs.YtgoebfjaaklopaaGreat
set_option maxRecDepth 20000
namespace Go.Proofs.YtgoebfjaaklopaaGreat
set_option linter.unusedVariables false
set_option linter.unusedSimpArgs false
open Go.Ab Go.RowKit
def Sorted (p : List Coin) : Prop := p.Pairwise fun a b => ordIn a.inn b.inn < 0
theorem coinAt_iff {p : List Coin} {k : Nat} {c : Coin} (h : p[k]? = some c) : coinAt p k = true ↔ coinOk c = true ∧ ∀ j b, k = j + 1 → p[j]? = some b → ordIn b.inn c.inn < 0 := by
  unfold coinAt
  rw [h]
  simp only [Bool.and_eq_true]
  cases k with
  | zero => simp
  | succ k =>
    constructor
    · rintro ⟨h1, h2⟩
      refine ⟨h1, fun j b e hb => ?_⟩
      obtain rfl : k = j := by omega
      simp only [hb] at h2
      exact of_decide_eq_true h2
    · rintro ⟨h1, h2⟩
      refine ⟨h1, ?_⟩
      simp only []
      cases hb : p[k]? with
      | none => rfl
      | some b => exact decide_eq_true (h2 k b rfl hb)
theorem mayCoins_iff {p : List Coin} : mayCoins p = true ↔ (∀ c ∈ p, coinOk c = true) ∧ Sorted p ∧ p.length ≤ 48 := by
  unfold mayCoins
  simp only [Bool.and_eq_true, decide_eq_true_eq, List.all_eq_true, List.mem_range]
  constructor
  · rintro ⟨h1, h2⟩
    have hat : ∀ k c, p[k]? = some c → coinOk c = true ∧ ∀ j b, k = j + 1 → p[j]? = some b → ordIn b.inn c.inn < 0 := fun k c hc => (coinAt_iff hc).1 (h1 k (List.getElem?_eq_some_iff.1 hc).1)
    refine ⟨fun c hc => ?_, ?_, h2⟩
    · obtain ⟨k, hk⟩ := List.mem_iff_getElem?.1 hc
      exact (hat k c hk).1
    · have key : ∀ (k i : Nat) (a b : Coin), i < k → p[i]? = some a → p[k]? = some b → ordIn a.inn b.inn < 0 := fun k => by
        induction k with
        | zero => intro i a b h; omega
        | succ k ih =>
          intro i a b h ha hb
          obtain ⟨m, hm⟩ : ∃ m, p[k]? = some m := ⟨_, List.getElem?_eq_getElem (by have := (List.getElem?_eq_some_iff.1 hb).1; omega)⟩
          have hlast := (hat (k + 1) b hb).2 k m rfl hm
          by_cases e : i = k
          · subst e; rw [ha] at hm; injection hm with hm; subst hm; exact hlast
          · exact ordIn_trans (ih i a m (by omega) ha hm) hlast
      unfold Sorted
      rw [List.pairwise_iff_getElem]
      intro i j hi hj hij
      exact key j i _ _ hij (List.getElem?_eq_getElem hi) (List.getElem?_eq_getElem hj)
  · rintro ⟨h1, h2, h3⟩
    refine ⟨fun k hk => ?_, h3⟩
    refine (coinAt_iff (List.getElem?_eq_getElem hk)).2 ⟨h1 _ (List.getElem_mem hk), fun j b e hb => ?_⟩
    subst e
    have hj := (List.getElem?_eq_some_iff.1 hb).1
    have := List.pairwise_iff_getElem.1 h2 j (j + 1) hj hk (by omega)
    rw [List.getElem?_eq_getElem hj] at hb
    injection hb with hb
    rw [← hb]; exact this
theorem Sorted.apart {p : List Coin} (h : Sorted p) : Apart p := List.Pairwise.imp (fun h => by omega) h
theorem apart_new {p : List Coin} {id : Ab.Id} {outs : List Out} {k : Nat} (h : Apart p) (hn : (p.any fun c => decide (c.inn.tx = id)) = false) : Apart (p ++ newN id outs k) := by
  unfold Apart
  rw [List.pairwise_append]
  refine ⟨h, ?_, fun a ha b hb e => ?_⟩
  · unfold newN
    rw [List.pairwise_map, List.pairwise_iff_getElem]
    intro i j hi hj hij e
    have := ordIn_zero.1 e
    injection this with _ h2
    simp at h2
    omega
  · have := ordIn_zero.1 e
    unfold newN at hb
    obtain ⟨x, _, rfl⟩ := List.mem_map.1 hb
    have h2 := List.any_eq_false.1 hn a ha
    rw [this] at h2
    simp at h2
end Go.Proofs.YtgoebfjaaklopaaGreat
