/- Parts of the proof: the layer that reads Go values as data, and what the functions of the program tell. -/
import Derived.Test.YtfepfajcdkllfaaGreatK6
set_option maxRecDepth 20000
namespace Go.Proofs.YtfepfajcdkllfaaGreat
set_option linter.unusedVariables false
set_option linter.unusedSimpArgs false
open Go.Ab Go.RowKit
theorem sameTotals_ok (a b : List Total) : Tells P 29 [.val (bsl totalT) a, .val (bsl totalT) b] (.val boolT (decide (a = b))) := by
 refine fn_of_aw Tryz.func29 rfl rfl rfl (fun ext w hext => ?_)
 refine aw_fact (d := 0) rfl fact_sl (fun hsl0 => ?_)
 refine aw_fact (d := 1) rfl fact_sl (fun hsl1 => ?_)
 refine CQR ?_; refine A0 aV ?_; refine CNQR ?_; refine A0 mV ?_; refine A0 mV ?_; refine A0 (oCl (equalTotal _ _) rfl fn_69 ⟨(arg_v rfl), (arg_v rfl), trivial⟩) ?_; refine A0 aV ?_; refine CN ?_
 exact aw_ret1 rfl rfl (ret_eq rfl rfl)
theorem ChainTells_ok (l k : List Block) (t : List Tx) (nonce : UInt64) (id : Ab.Id) (bits : UInt32) : Tells P 8 [.val (sl blockT) l, .val (sl blockT) k, .val (sl txT) t, .val u64T nonce, .val idT id, .val u32T bits] (.val boolT true) := by
 refine fn_of_aw Tryz.func8 rfl rfl rfl (fun ext w hext => ?_)
 refine aw_fact (d := 0) rfl fact_sl (fun hsl0 => ?_)
 refine aw_fact (d := 1) rfl fact_sl (fun hsl1 => ?_)
 refine aw_fact (d := 2) rfl fact_sl (fun hsl2 => ?_)
 refine CQR ?_; refine aw_box rfl rfl rfl rfl rfl ?_; refine A0 aV ?_; refine CNQR ?_; refine A0 (oCl (awake12_ok) rfl fn_10 trivial) ?_; refine A0 aV ?_; refine CNQR ?_; refine A0 mV ?_
 refine A0 (oCl (fewC_ok _) rfl fn_11 ⟨(arg_v rfl), trivial⟩) ?_; refine A0 aV ?_; refine CNQR ?_; refine A0 mV ?_; refine A0 (oCl (fewC_ok _) rfl fn_11 ⟨(arg_v rfl), trivial⟩) ?_; refine A0 aV ?_; refine CNQR ?_; refine A0 mV ?_
 refine A0 (oCl (fewAll_ok _ _) rfl fn_12 ⟨(arg_v rfl), (arg_v rfl), trivial⟩) ?_; refine A0 aV ?_; refine CNQQR ?_; refine A0 mV ?_; refine A0 oN ?_; refine A0 mV ?_; refine aw_isf (d := 43) rfl (rfl) ?_; refine A1 mV ?_; refine A1 oN ?_
 refine A0 oK ?_; refine A0 mV ?_
 refine aw_splitp (d := 47) (p := ¬ fewC l = true) rfl (by cases fewC l <;> rfl) (fun g47 => ?_) (fun g47 => ?_)
 ·
  refine A2 ?_; refine A2 ?_; refine A0 oK ?_; refine A0 mV ?_; refine A2 ?_; refine A2 ?_; refine A0 oK ?_; refine CN ?_; refine Ct ?_; refine CQR ?_; refine A0 mV ?_; refine A0 aV ?_; refine CN ?_
  exact aw_ret1 rfl rfl (ret_eq rfl rfl)
 ·
  refine A1 mV ?_; refine A1 oN ?_; refine A0 oK ?_; refine A0 mV ?_
  refine aw_splitp (d := 51) (p := ¬ fewC k = true) rfl (by cases fewC k <;> rfl) (fun g51 => ?_) (fun g51 => ?_)
  ·
   refine A2 ?_; refine A2 ?_; refine A0 oK ?_; refine CN ?_; refine Ct ?_; refine CQR ?_; refine A0 mV ?_; refine A0 aV ?_; refine CN ?_
   exact aw_ret1 rfl rfl (ret_eq rfl (by simp))
  ·
   refine A1 mV ?_; refine A1 oN ?_; refine A0 oK ?_; refine CN ?_
   refine aw_ifc (p := ¬ (t.all few && decide ((t.length : Int) ≤ 6)) = true) rfl (by cases (t.all few && decide ((t.length : Int) ≤ 6)) <;> rfl) (fun ht54 => ?_) (fun ht54 => ?_)
   ·
    refine CQR ?_; refine A0 mV ?_; refine A0 aV ?_; refine CN ?_
    exact aw_ret1 rfl rfl (ret_eq rfl (by simp))
   ·
    have hl := fewC_small (Classical.not_not.1 g47)
    have ht := few_small (Classical.not_not.1 ht54)
    have hll := hl.1
    refine CSQR ?_; refine A0 mV ?_; refine A0 (oCl (check_ok l hl) rfl fn_13 ⟨(arg_v rfl), trivial⟩) ?_; refine A0 mX ?_; refine A0 (by first | exact g_x20 rfl rfl | exact g_x30 rfl rfl) ?_
    refine A0 (by first | exact g_x21 rfl rfl | exact g_x31 rfl rfl) ?_; refine aw_alloc ze_41 rfl rfl rfl rfl ?_; refine aw_store_b rfl rfl rfl rfl rfl (Lens.self _) ty_41 rfl ?_; refine A0 aV ?_; refine CNQR ?_; refine A0 mV ?_
    refine A0 (oCl (rcheck_ok l hl) rfl fn_22 ⟨(arg_v rfl), trivial⟩) ?_; refine A0 mX ?_; refine A0 (by first | exact g_x20 rfl rfl | exact g_x30 rfl rfl) ?_; refine A0 (by first | exact g_x21 rfl rfl | exact g_x31 rfl rfl) ?_
    refine aw_alloc ze_41 rfl rfl rfl rfl ?_; refine aw_store_b rfl rfl rfl rfl rfl (Lens.self _) ty_41 rfl ?_; refine A0 aV ?_; refine CNQR ?_; refine A0 mV ?_; refine A0 mV ?_; refine A0 mV ?_
    refine A0 (oCl (tells_pub2 (growC_ok l t nonce hl ht)) rfl fn_14 ⟨(arg_v rfl), (arg_v rfl), (arg_v rfl), trivial⟩) ?_; refine A0 mX ?_; refine A0 (by first | exact g_x20 rfl rfl | exact g_x30 rfl rfl) ?_
    refine A0 (by first | exact g_x21 rfl rfl | exact g_x31 rfl rfl) ?_; refine A0 aV ?_; refine A0 aV ?_; refine CNQR ?_; refine A0 mV ?_; refine A0 mV ?_; refine A0 mV ?_
    refine A0 (oCl (rgrowC_ok l t nonce hl ht) rfl fn_23 ⟨(arg_v rfl), (arg_v rfl), (arg_v rfl), trivial⟩) ?_; refine A0 mX ?_; refine A0 (by first | exact g_x20 rfl rfl | exact g_x30 rfl rfl) ?_
    refine A0 (by first | exact g_x21 rfl rfl | exact g_x31 rfl rfl) ?_; refine A0 aV ?_; refine A0 aV ?_; refine CNQR ?_; refine A0 mV ?_; refine A0 (oCl (newC_ok bits) rfl fn_24 ⟨(arg_v rfl), trivial⟩) ?_; refine A0 mX ?_
    refine A0 (by first | exact g_x20 rfl rfl | exact g_x30 rfl rfl) ?_; refine A0 (by first | exact g_x21 rfl rfl | exact g_x31 rfl rfl) ?_; refine A0 aV ?_; refine A0 aV ?_; refine CNQR ?_; refine A0 mV ?_
    refine A0 (oCl (rnewC_ok bits) rfl fn_25 ⟨(arg_v rfl), trivial⟩) ?_; refine A0 mX ?_; refine A0 (by first | exact g_x20 rfl rfl | exact g_x30 rfl rfl) ?_; refine A0 (by first | exact g_x21 rfl rfl | exact g_x31 rfl rfl) ?_; refine A0 aV ?_
    refine A0 aV ?_; refine CNQR ?_; refine A0 (oLs rfl rfl rfl ty_41) ?_; refine A0 (oLs rfl rfl rfl ty_41) ?_; refine A0 (oCl (refTips_ok (checkOf l).1 (checkOf l).1) rfl fn_19 ⟨(arg_v rfl), (arg_v rfl), trivial⟩) ?_; refine A0 aV ?_
    refine CNQR ?_; refine A0 mV ?_; refine A0 mV ?_; refine A0 (oCl (rsameC_ok (growOf l t nonce) (growOf l t nonce)) rfl fn_26 ⟨(arg_v rfl), (arg_v rfl), trivial⟩) ?_; refine A0 aV ?_; refine CNQR ?_; refine A0 mV ?_; refine A0 mV ?_
    refine A0 (oCl (rsameC_ok (newOf bits) (newOf bits)) rfl fn_26 ⟨(arg_v rfl), (arg_v rfl), trivial⟩) ?_; refine A0 aV ?_; refine CNQR ?_; refine A0 mV ?_; refine A0 (oCl (tells_pub (levels_ok l (by omega))) rfl fn_16 ⟨(arg_v rfl), trivial⟩) ?_
    refine A0 mV ?_; refine A0 (oCl (tells_pub (rlevels_ok l (by omega))) rfl fn_28 ⟨(arg_v rfl), trivial⟩) ?_; refine A0 (oCl (refInts_ok (levelsOf l) (levelsOf l)) rfl fn_27 ⟨(arg_v rfl), (arg_v rfl), trivial⟩) ?_; refine A0 aV ?_
    refine CNQR ?_; refine A0 mV ?_; refine A0 mV ?_; refine A0 (oCl (rsameC_ok l k) rfl fn_26 ⟨(arg_v rfl), (arg_v rfl), trivial⟩) ?_; refine A0 aV ?_; refine CNQQR ?_; refine A0 mV ?_; refine A0 oN ?_; refine A0 mV ?_
    refine aw_isf (d := 109) rfl (by simp) ?_; refine A1 mV ?_; refine A1 mV ?_; refine A1 o_neq ?_; refine A0 oK ?_; refine A0 mV ?_; refine aw_isf (d := 114) rfl (by simp) ?_; refine A1 mV ?_; refine A1 oN ?_; refine A0 oK ?_; refine A0 mV ?_
    refine aw_isf (d := 118) rfl (by simp) ?_; refine A1 mV ?_; refine A1 mV ?_; refine A1 o_neq ?_; refine A0 oK ?_; refine A0 mV ?_; refine aw_isf (d := 123) rfl (by simp) ?_; refine A1 mV ?_; refine A1 oN ?_; refine A0 oK ?_; refine A0 mV ?_
    refine aw_isf (d := 127) rfl (by simp) ?_; refine A1 mV ?_; refine A1 mV ?_; refine A1 (g_neqB rfl rfl rfl ub_4) ?_; refine A0 oK ?_; refine A0 mV ?_; refine aw_isf (d := 132) rfl (by simp) ?_; refine A1 mV ?_; refine A1 oN ?_
    refine A0 oK ?_; refine A0 mV ?_; refine aw_isf (d := 136) rfl (by simp) ?_; refine A1 mV ?_; refine A1 mV ?_; refine A1 (oCl (sameC_ok l k) rfl fn_15 ⟨(arg_v rfl), (arg_v rfl), trivial⟩) ?_; refine A1 mV ?_
    refine A1 (g_neqB rfl rfl rfl ub_4) ?_; refine A0 oK ?_; refine CN ?_; refine aw_if_f rfl (by simp) ?_; refine CS ?_; refine CQ ?_; refine CD mixed ?_; refine G0 mV ?_
    refine G0 (oCl (tells_pub (leaves_ok l (by omega))) rfl fn_30 ⟨(arg_v rfl), trivial⟩) ?_; refine G0 mV ?_; refine G0 (oCl (tells_pub (rleavesC_ok l (by omega))) rfl fn_31 ⟨(arg_v rfl), trivial⟩) ?_
    refine G0 (oCl (sameTotals_ok (leavesOf l) (leavesOf l)) rfl fn_29 ⟨(arg_v rfl), (arg_v rfl), trivial⟩) ?_; refine G0 mX ?_; refine GK_ist (d := 148) rfl (by simp) ?_; refine G1 mV ?_; refine G1 (oLs rfl rfl rfl ty_29) ?_
    refine G1 (oCl (findC_ok _ _) rfl fn_20 ⟨(arg_v rfl), (arg_v rfl), trivial⟩) ?_; refine G1 mV ?_; refine G1 (oLs rfl rfl rfl ty_29) ?_; refine G1 (oCl (rfindC_ok _ _) rfl fn_32 ⟨(arg_v rfl), (arg_v rfl), trivial⟩) ?_; refine G1 o_eql ?_
    refine G0 oK ?_; refine G0 aV ?_; refine GK.nil ?_
    exact aw_ret1 rfl rfl (ret_eq rfl (by simp))
end Go.Proofs.YtfepfajcdkllfaaGreat
