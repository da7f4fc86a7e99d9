/- Parts of the proof: the layer that reads Go values as data, and what the functions of the program tell. -/
import Derived.Test.YtgoebfjaaklopaaGreatK4
set_option maxRecDepth 20000
namespace Go.Proofs.YtgoebfjaaklopaaGreat
set_option linter.unusedVariables false
set_option linter.unusedSimpArgs false
open Go.Ab Go.RowKit
theorem del_sorted {l : List Coin} (i : Nat) (h : Sorted l) : Sorted (l.take i ++ l.drop (i + 1)) := by
  rw [← List.eraseIdx_eq_take_drop_succ]
  exact List.Pairwise.sublist (List.eraseIdx_sublist _ _) h
def takeIns : List Coin → Int → List In → Option (List Coin × Int)
  | p, n, [] => some (p, n)
  | p, n, x :: l => match p[placeOf p x]? with
    | none => none
    | some c => if ordIn c.inn x = 0 then takeIns (p.take (placeOf p x) ++ p.drop (placeOf p x + 1)) (IntKind.i64.wrap (n + c.out.v)) l else none
def spendOf (p : List Coin) (t : Tx) : List Coin × Int × Int :=
  if ¬ (mayCoins p = true ∧ mayTx t = true ∧ t.ins ≠ []) then (p, 0, 1) else
  match takeIns p 0 t.ins with
  | none => (p, 0, 8)
  | some (rest, n) =>
    if IntKind.i64.wrap (n - worthF (·.v) t.outs) < 0 then (p, 0, 8)
    else if (madeOf rest t).2 = 0 then (if 48 < (madeOf rest t).1.length then (p, 0, 11) else ((madeOf rest t).1, IntKind.i64.wrap (n - worthF (·.v) t.outs), 0))
    else (p, 0, (madeOf rest t).2)
theorem mayCoins_len {p : List Coin} (h : mayCoins p = true) : p.length ≤ 48 := by
  unfold mayCoins at h
  simp only [Bool.and_eq_true, decide_eq_true_eq] at h
  exact h.2
theorem takeIns_step {p : List Coin} {n : Int} {ins : List In} {k : Nat} {x : In} {c : Coin} (hx : ins[k]? = some x) (hc : p[placeOf p x]? = some c) (h0 : ordIn c.inn x = 0) : takeIns p n (ins.drop k) = takeIns (p.take (placeOf p x) ++ p.drop (placeOf p x + 1)) (IntKind.i64.wrap (n + c.out.v)) (ins.drop (k + 1)) := by
  obtain ⟨hk, rfl⟩ := List.getElem?_eq_some_iff.1 hx
  rw [List.drop_eq_getElem_cons hk]
  rw [takeIns.eq_2]
  simp only [hc, if_pos h0]
theorem takeIns_stop {p : List Coin} {n : Int} {ins : List In} {k : Nat} {x : In} (hx : ins[k]? = some x) (h : ¬ isThere p x = true) : takeIns p n (ins.drop k) = none := by
  obtain ⟨hk, rfl⟩ := List.getElem?_eq_some_iff.1 hx
  rw [List.drop_eq_getElem_cons hk]
  rw [takeIns.eq_2]
  unfold isThere foundAt at h
  split
  · rfl
  · rename_i c hc
    rw [hc] at h
    simp only [decide_eq_true_eq] at h
    rw [if_neg h]
theorem isThere_at {p : List Coin} {x : In} (h : isThere p x = true) : ∃ c, p[placeOf p x]? = some c ∧ ordIn c.inn x = 0 := by
  unfold isThere foundAt at h
  split at h
  · cases h
  · rename_i c hc
    exact ⟨c, hc, by simpa using h⟩
theorem spendFail (p : List Coin) (e : Int) (hp : p.length ≤ 2000000000000) : Tells P 216 [.val i64T e, .rptr (bsl coinT) p] (.tup3 (.fresh 180 coinT p) (.val i64T 0) (.val i64T e)) := by
 refine fn_of_aw Tryz.func216 rfl rfl rfl (fun ext w hext => ?_)
 refine aw_fact (d := 0) rfl fact_int (fun hin0 => ?_)
 refine CQR ?_; refine A0 aL ?_; refine A0 aV ?_; refine A0 aV ?_; refine CNQR ?_; refine A0 (g_load_r rfl rfl ty_54) ?_; refine aw_callf (cloneCoin p (by constructor <;> omega)) rfl fn_140 ⟨(arg_v rfl), trivial⟩ rfl rfl rfl ?_
 refine A0 mV ?_; refine A0 aO ?_; refine A0 aV ?_; refine A0 aV ?_; refine CN ?_
 exact aw_ret3 rfl rfl (ret_fresh_eq rfl rfl rfl) (ret_val rfl) (ret_val rfl)
theorem spend_ok (p : List Coin) (t : Tx) (hp : p.length ≤ 2000000000000) : Tells P 184 [.val (bsl coinT) p, .val txT t] (.tup3 (.fresh 180 coinT (spendOf p t).1) (.val i64T (spendOf p t).2.1) (.val i64T (spendOf p t).2.2)) := by
 refine fn_of_aw Tryz.func184 rfl rfl rfl (fun ext w hext => ?_)
 refine aw_fact (d := 0) rfl fact_sl (fun hsl0 => ?_)
 refine CQR ?_; refine aw_box rfl rfl rfl rfl rfl ?_; refine aw_box rfl rfl rfl rfl rfl ?_; refine A0 aL ?_; refine A0 aV ?_; refine A0 aV ?_; refine CNQR ?_; refine A0 (g_mkf (caps := [_]) rfl rfl) ?_; refine A0 aC ?_; refine CNQQR ?_
 refine A0 (oLs rfl rfl rfl ty_54) ?_; refine A0 (oCl (may_ok _) rfl fn_183 ⟨(arg_v rfl), trivial⟩) ?_; refine A0 oN ?_; refine A0 mV ?_
 refine aw_splitp (d := 21) (p := ¬ mayCoins p = true) rfl (by simp) (fun g21 => ?_) (fun g21 => ?_)
 ·
  refine A2 ?_; refine A2 ?_; refine A2 ?_; refine A0 oK ?_; refine A0 mV ?_; refine A2 ?_; refine A2 ?_; refine A2 ?_; refine A2 ?_; refine A0 oK ?_; refine CN ?_; refine Ct ?_; refine CQR ?_; refine A0 mC ?_
  refine aw_callg3 (As := [_]) (Cs := [_]) (spendFail p _ hp) rfl rfl fn_216 ⟨(arg_v rfl), trivial⟩ (by intro n hn; simp only [List.mem_cons, List.not_mem_nil, or_false] at hn; rcases hn with rfl <;> exact ⟨_, _, _, _, rfl⟩) ⟨(by exact arg_cap rfl), trivial⟩ flat_int flat_int rfl rfl rfl ?_
  refine A0 (by first | exact g_x20 rfl rfl | exact g_x30 rfl rfl) ?_; refine A0 (by first | exact g_x21 rfl rfl | exact g_x31 rfl rfl) ?_; refine A0 e32 ?_; refine A0 aO ?_; refine A0 aX ?_; refine A0 aX ?_; refine CN ?_
  have hS : spendOf p t = (p, 0, 1) := by unfold spendOf; rw [if_pos (fun h => g21 h.1)]
  exact aw_ret3 rfl rfl (ret_fresh_eq rfl rfl (by rw [hS])) (ret_eq rfl (by rw [hS])) (ret_eq rfl (by rw [hS]))
 ·
  refine A1 (oLs rfl rfl rfl ty_112) ?_; refine A1 (oCl (mayTx_ok _) rfl fn_185 ⟨(arg_v rfl), trivial⟩) ?_; refine A1 oN ?_; refine A0 oK ?_; refine A0 mV ?_
  refine aw_splitp (d := 26) (p := ¬ mayTx t = true) rfl (by simp) (fun g26 => ?_) (fun g26 => ?_)
  ·
   refine A2 ?_; refine A2 ?_; refine A2 ?_; refine A2 ?_; refine A0 oK ?_; refine CN ?_; refine Ct ?_; refine CQR ?_; refine A0 mC ?_
   refine aw_callg3 (As := [_]) (Cs := [_]) (spendFail p _ hp) rfl rfl fn_216 ⟨(arg_v rfl), trivial⟩ (by intro n hn; simp only [List.mem_cons, List.not_mem_nil, or_false] at hn; rcases hn with rfl <;> exact ⟨_, _, _, _, rfl⟩) ⟨(by exact arg_cap rfl), trivial⟩ flat_int flat_int rfl rfl rfl ?_
   refine A0 (by first | exact g_x20 rfl rfl | exact g_x30 rfl rfl) ?_; refine A0 (by first | exact g_x21 rfl rfl | exact g_x31 rfl rfl) ?_; refine A0 e32 ?_; refine A0 aO ?_; refine A0 aX ?_; refine A0 aX ?_; refine CN ?_
   have hS : spendOf p t = (p, 0, 1) := by unfold spendOf; rw [if_pos (fun h => g26 h.2.1)]
   exact aw_ret3 rfl rfl (ret_fresh_eq rfl rfl (by rw [hS])) (ret_eq rfl (by rw [hS])) (ret_eq rfl (by rw [hS]))
  ·
   refine A1 (oFp fd_112_0) ?_; refine A1 (oLb L_Tx_ins ty_109) ?_; refine A1 (g_len rfl rfl isl_109) ?_; refine A1 o_eql ?_; refine A0 oK ?_
   refine Sp (d := 31) (p := t.ins.length = 0) (fun g31 => ?_) (fun g31 => ?_)
   ·
    refine CN ?_; refine Ct ?_; refine CQR ?_; refine A0 mC ?_
    refine aw_callg3 (As := [_]) (Cs := [_]) (spendFail p _ hp) rfl rfl fn_216 ⟨(arg_v rfl), trivial⟩ (by intro n hn; simp only [List.mem_cons, List.not_mem_nil, or_false] at hn; rcases hn with rfl <;> exact ⟨_, _, _, _, rfl⟩) ⟨(by exact arg_cap rfl), trivial⟩ flat_int flat_int rfl rfl rfl ?_
    refine A0 (by first | exact g_x20 rfl rfl | exact g_x30 rfl rfl) ?_; refine A0 (by first | exact g_x21 rfl rfl | exact g_x31 rfl rfl) ?_; refine A0 e32 ?_; refine A0 aO ?_; refine A0 aX ?_; refine A0 aX ?_; refine CN ?_
    have hS : spendOf p t = (p, 0, 1) := by unfold spendOf; rw [if_pos (fun h => h.2.2 (List.length_eq_zero_iff.1 g31))]
    exact aw_ret3 rfl rfl (ret_fresh_eq rfl rfl (by rw [hS])) (ret_eq rfl (by rw [hS])) (ret_eq rfl (by rw [hS]))
   ·
    have hmp := Classical.not_not.1 g21
    have hmt := Classical.not_not.1 g26
    have hpl := mayCoins_len hmp
    have hne : t.ins ≠ [] := fun e => g31 (by rw [e]; rfl)
    refine CN ?_; refine Cg ?_; refine CSQR ?_; refine A0 (oLs rfl rfl rfl ty_54) ?_; refine aw_callf (cloneCoin p (by constructor <;> omega)) rfl fn_140 ⟨(arg_v rfl), trivial⟩ rfl rfl rfl ?_; refine A0 aO ?_; refine CNQR ?_; refine A0 aV ?_
    refine CNQQR ?_; refine A0 (oFp fd_112_0) ?_; refine A0 (oLb L_Tx_ins ty_109) ?_; refine A0 (g_len rfl rfl isl_109) ?_; refine A0 mV ?_; refine CNB ?_
    refine Lp (ι := Nat × List Coin × Int) 3 (fun (i : Nat × List Coin × Int) => match i with | (k, rest, n) => ((((((((Fr.none).set 2 (.ptr 0 0)).set 3 (.ptr 1 0)).set 7 (.clo 216 [0])).set 8 (.own 2)).set 9 (.val i64T n)).set 40 (.val (sl inT) t.ins)).set 41 (.val i64T (t.ins.length : Int))).set 42 (.val i64T (k : Int))) (fun (i : Nat × List Coin × Int) => match i with | (k, rest, n) => (((Hp.none).set 0 (.box 54 (bsl coinT) p)).set 1 (.box 112 txT t)).set 2 (.row 180 coinT rest)) (fun (i : Nat × List Coin × Int) => match i with | (k, rest, n) => k ≤ t.ins.length ∧ Sorted rest ∧ rest.length ≤ 48 ∧ takeIns p 0 t.ins = takeIns rest n (t.ins.drop k)) (fun (i : Nat × List Coin × Int) => match i with | (k, rest, n) => t.ins.length - k) ((0, p, 0)) (⟨Nat.zero_le _, (mayCoins_iff.1 hmp).2.1, hpl, rfl⟩) ?_
    intro ⟨k, rest, n⟩ hinv
    dsimp only at hinv
    refine aw_fact (d := 40) rfl fact_sl (fun hsi => ?_)
    refine CQR ?_; refine A0 o_lss ?_; refine CNQ ?_
    refine Cf (p := k < t.ins.length) (fun ht43 => ?_) (fun ht43 => ?_)
    ·
     obtain ⟨x, hx⟩ : ∃ x, t.ins[k]? = some x := ⟨_, List.getElem?_eq_getElem ht43⟩
     refine CSQBQR ?_; refine A0 (g_ia_n rfl rfl rfl sl_109 (by assumption)) ?_; refine A0 (g_load_r rfl rfl ty_120) ?_; refine aw_alloc ze_120 rfl rfl rfl rfl ?_; refine aw_store_b rfl rfl rfl rfl rfl (Lens.self _) ty_120 rfl ?_; refine CNQR ?_
     refine A0 mO ?_; refine A0 (oLs rfl rfl rfl ty_120) ?_; refine A0 (oCl (place_ok rest x (by omega)) rfl fn_217 ⟨(arg_own rfl rfl), (arg_v rfl), trivial⟩) ?_; refine A0 mX ?_; refine A0 (by first | exact g_x20 rfl rfl | exact g_x30 rfl rfl) ?_
     refine A0 (by first | exact g_x21 rfl rfl | exact g_x31 rfl rfl) ?_; refine A0 aV ?_; refine A0 aV ?_; refine CNQQR ?_; refine A0 mV ?_; refine A0 oN ?_; refine CN ?_
     refine aw_ifc (p := ¬ isThere rest x = true) rfl (by simp) (fun ht53 => ?_) (fun ht53 => ?_)
     ·
      refine CQR ?_; refine A0 mC ?_
      refine aw_callg3 (As := [_]) (Cs := [_]) (spendFail p _ hp) rfl rfl fn_216 ⟨(arg_v rfl), trivial⟩ (by intro n hn; simp only [List.mem_cons, List.not_mem_nil, or_false] at hn; rcases hn with rfl <;> exact ⟨_, _, _, _, rfl⟩) ⟨(by exact arg_cap rfl), trivial⟩ flat_int flat_int rfl rfl rfl ?_
      refine A0 (by first | exact g_x20 rfl rfl | exact g_x30 rfl rfl) ?_; refine A0 (by first | exact g_x21 rfl rfl | exact g_x31 rfl rfl) ?_; refine A0 e32 ?_; refine A0 aO ?_; refine A0 aX ?_; refine A0 aX ?_; refine CN ?_
      have hS : spendOf p t = (p, 0, 8) := by unfold spendOf; rw [if_neg (Classical.not_not.2 ⟨hmp, hmt, hne⟩)]; rw [hinv.2.2.2, takeIns_stop hx ht53]
      exact aw_ret3 rfl rfl (ret_fresh_eq rfl rfl (by rw [hS])) (ret_eq rfl (by rw [hS])) (ret_eq rfl (by rw [hS]))
     ·
      obtain ⟨c, hc, h0⟩ := isThere_at (Classical.not_not.1 ht53)
      have hlt : placeOf rest x < rest.length := (List.getElem?_eq_some_iff.1 hc).1
      refine CSQR ?_; refine A0 mV ?_; refine A0 mO ?_; refine A0 mV ?_; refine A0 (g_ia_o (i := placeOf rest x) rfl rfl rfl rfl (by first | omega | rfl) sl_54 (by first | assumption | omega | (simp; omega))) ?_
      refine A0 (g_fa_e rfl rfl fd_180_1 rfl) ?_; refine A0 (g_fa_e rfl rfl fd_123_0 rfl) ?_; refine A0 (g_load_e rfl rfl rfl rfl (by assumption) (L_Coin_out.comp L_Out_v) ty_3) ?_; refine A0 o_add ?_; refine A0 aV ?_; refine CNR ?_
      refine A0 mO ?_; refine A0 mV ?_; refine A0 mV ?_; refine A0 o_add ?_
      refine aw_callc (delete_ok rest (placeOf rest x) hlt) rfl fn_218 rfl trivial ⟨(by first | exact argm_own rfl | exact argm_ptr rfl | exact argm_same rfl | exact argm_bsl rfl | exact argm_lit rfl | exact argm_clo rfl | exact argm_row rfl rfl (by decide)), (by first | exact argm_own rfl | exact argm_ptr rfl | exact argm_same rfl | exact argm_bsl rfl | exact argm_lit rfl | exact argm_clo rfl | exact argm_row rfl rfl (by decide)), (by first | exact argm_own rfl | exact argm_ptr rfl | exact argm_same rfl | exact argm_bsl rfl | exact argm_lit rfl | exact argm_clo rfl | exact argm_row rfl rfl (by decide)), trivial⟩ rfl rfl rfl ?_
      refine A0 aO ?_; refine CNIR ?_; refine A0 o_add ?_; refine A0 mV ?_; refine CN ?_; refine aw_ren 4 2 5 rfl rfl rfl rfl rfl rfl ?_
      exact Nx ((k + 1, rest.take (placeOf rest x) ++ rest.drop (placeOf rest x + 1), IntKind.i64.wrap (n + c.out.v))) (⟨by omega, del_sorted _ hinv.2.1, by simp; omega, hinv.2.2.2.trans (takeIns_step hx hc h0)⟩) (by show _ < t.ins.length - k; simp only []; omega)
    ·
     obtain rfl : k = t.ins.length := (by omega)
     have htk : takeIns p 0 t.ins = some (rest, n) := by rw [hinv.2.2.2, List.drop_of_length_le (Nat.le_refl _)]; rfl
     refine CE ?_; refine CQR ?_; refine A0 mV ?_; refine A0 (oLs rfl rfl rfl ty_112) ?_; refine A0 (oCl (outs_ok _) rfl fn_187 ⟨(arg_v rfl), trivial⟩) ?_; refine A0 o_sub ?_; refine A0 aV ?_; refine CNQQR ?_; refine A0 mV ?_; refine A0 o_lss ?_
     refine CN ?_
     refine Cf (p := IntKind.i64.wrap (n - worthF (·.v) t.outs) < 0) (fun ht78 => ?_) (fun ht78 => ?_)
     ·
      refine CQR ?_; refine A0 mC ?_
      refine aw_callg3 (As := [_]) (Cs := [_]) (spendFail p _ hp) rfl rfl fn_216 ⟨(arg_v rfl), trivial⟩ (by intro n hn; simp only [List.mem_cons, List.not_mem_nil, or_false] at hn; rcases hn with rfl <;> exact ⟨_, _, _, _, rfl⟩) ⟨(by exact arg_cap rfl), trivial⟩ flat_int flat_int rfl rfl rfl ?_
      refine A0 (by first | exact g_x20 rfl rfl | exact g_x30 rfl rfl) ?_; refine A0 (by first | exact g_x21 rfl rfl | exact g_x31 rfl rfl) ?_; refine A0 e32 ?_; refine A0 aO ?_; refine A0 aX ?_; refine A0 aX ?_; refine CN ?_
      have hS : spendOf p t = (p, 0, 8) := by unfold spendOf; rw [if_neg (Classical.not_not.2 ⟨hmp, hmt, hne⟩)]; rw [htk]; exact if_pos ht78
      exact aw_ret3 rfl rfl (ret_fresh_eq rfl rfl (by rw [hS])) (ret_eq rfl (by rw [hS])) (ret_eq rfl (by rw [hS]))
     ·
      refine CSQR ?_; refine A0 mO ?_; refine A0 (oLs rfl rfl rfl ty_112) ?_
      refine aw_callc2 (made_ok rest t (by omega) (mayTx_lens hmt).2.2 (apart_new (Sorted.apart hinv.2.1))) rfl fn_186 rfl trivial flat_int ⟨(by first | exact argm_own rfl | exact argm_ptr rfl | exact argm_same rfl | exact argm_bsl rfl | exact argm_lit rfl | exact argm_clo rfl | exact argm_row rfl rfl (by decide)), (by first | exact argm_own rfl | exact argm_ptr rfl | exact argm_same rfl | exact argm_bsl rfl | exact argm_lit rfl | exact argm_clo rfl | exact argm_row rfl rfl (by decide)), trivial⟩ rfl rfl rfl ?_
      refine A0 (by first | exact g_mt2 (.inl rfl) rfl | exact g_mt3 (.inl rfl) rfl) ?_; refine A0 (by first | exact g_x20 rfl rfl | exact g_x30 rfl rfl) ?_; refine A0 (by first | exact g_x21 rfl rfl | exact g_x31 rfl rfl) ?_; refine A0 aO ?_
      refine A0 aX ?_; refine CNQQR ?_; refine A0 mX ?_; refine A0 o_eql ?_; refine A0 mV ?_
      refine Sp (d := 92) (p := (madeOf rest t).2 = 0) (fun g92 => ?_) (fun g92 => ?_)
      ·
       refine A1 mO ?_; refine A1 (g_len_o rfl rfl rfl isl_54) ?_; refine A1 o_gtr ?_; refine A0 oK ?_
       refine Sp (d := 96) (p := 48 < (madeOf rest t).1.length) (fun g96 => ?_) (fun g96 => ?_)
       ·
        refine CN ?_; refine Ct ?_; refine CR ?_; refine A0 aV ?_; refine CNQQR ?_; refine A0 mV ?_; refine A0 o_neq ?_; refine CN ?_; refine Ct ?_; refine CQR ?_; refine A0 mC ?_; refine A0 mV ?_
        refine aw_callg3 (As := [_]) (Cs := [_]) (spendFail p _ hp) rfl rfl fn_216 ⟨(arg_v rfl), trivial⟩ (by intro n hn; simp only [List.mem_cons, List.not_mem_nil, or_false] at hn; rcases hn with rfl <;> exact ⟨_, _, _, _, rfl⟩) ⟨(by exact arg_cap rfl), trivial⟩ flat_int flat_int rfl rfl rfl ?_
        refine A0 (by first | exact g_x20 rfl rfl | exact g_x30 rfl rfl) ?_; refine A0 (by first | exact g_x21 rfl rfl | exact g_x31 rfl rfl) ?_; refine A0 e32 ?_; refine A0 aO ?_; refine A0 aX ?_; refine A0 aX ?_; refine CN ?_
        have hS : spendOf p t = (p, 0, 11) := by unfold spendOf; rw [if_neg (Classical.not_not.2 ⟨hmp, hmt, hne⟩)]; rw [htk]; simp only [if_neg ht78, if_pos g92, if_pos g96]
        exact aw_ret3 rfl rfl (ret_fresh_eq rfl rfl (by rw [hS])) (ret_eq rfl (by rw [hS])) (ret_eq rfl (by rw [hS]))
       ·
        refine CN ?_; refine Cg ?_; refine CSQQR ?_; refine A0 mX ?_; refine A0 o_neq ?_; refine CN ?_; refine aw_if_f rfl (by simp [IntL.toI, g92]) ?_; refine CSQR ?_; refine A0 mO ?_; refine A0 mV ?_; refine A0 aO ?_; refine A0 aV ?_
        refine A0 aV ?_; refine CN ?_
        have hS : spendOf p t = ((madeOf rest t).1, IntKind.i64.wrap (n - worthF (·.v) t.outs), 0) := by unfold spendOf; rw [if_neg (Classical.not_not.2 ⟨hmp, hmt, hne⟩)]; rw [htk]; simp only [if_neg ht78, if_pos g92, if_neg g96]
        exact aw_ret3 rfl rfl (ret_fresh_eq rfl rfl (by rw [hS])) (ret_eq rfl (by rw [hS])) (ret_eq rfl (by rw [hS]))
      ·
       refine A2 ?_; refine A2 ?_; refine A2 ?_; refine A0 oK ?_; refine CN ?_; refine Cg ?_; refine CSQQR ?_; refine A0 mX ?_; refine A0 o_neq ?_; refine CN ?_; refine aw_if_t rfl (by simp [IntL.toI, g92]) ?_; refine CQR ?_; refine A0 mC ?_
       refine A0 mX ?_
       refine aw_callg3 (As := [_]) (Cs := [_]) (spendFail p _ hp) rfl rfl fn_216 ⟨(by first | exact arg_same rfl | exact arg_bsl rfl | exact arg_own rfl rfl | exact arg_nil rfl | exact arg_rptr rfl | exact arg_fn rfl rfl | exact arg_lit rfl), trivial⟩ (by intro n hn; simp only [List.mem_cons, List.not_mem_nil, or_false] at hn; rcases hn with rfl <;> exact ⟨_, _, _, _, rfl⟩) ⟨(by exact arg_cap rfl), trivial⟩ flat_int flat_int rfl rfl rfl ?_
       refine A0 (by first | exact g_x20 rfl rfl | exact g_x30 rfl rfl) ?_; refine A0 (by first | exact g_x21 rfl rfl | exact g_x31 rfl rfl) ?_; refine A0 e32 ?_; refine A0 aO ?_; refine A0 aX ?_; refine A0 aX ?_; refine CN ?_
       have hS : spendOf p t = (p, 0, (madeOf rest t).2) := by unfold spendOf; rw [if_neg (Classical.not_not.2 ⟨hmp, hmt, hne⟩)]; rw [htk]; simp only [if_neg ht78, if_neg g92]
       exact aw_ret3 rfl rfl (ret_fresh_eq rfl rfl (by rw [hS])) (ret_eq rfl (by rw [hS])) (ret_eq rfl (by rw [hS]))
end Go.Proofs.YtgoebfjaaklopaaGreat
set_option maxRecDepth 20000
namespace Go.Proofs.YtgoebfjaaklopaaGreat
set_option linter.unusedVariables false
set_option linter.unusedSimpArgs false
open Go.Ab Go.RowKit
theorem leC_trans (a b c : Coin) (h : decide (ordIn a.inn b.inn ≤ 0) = true) (k : decide (ordIn b.inn c.inn ≤ 0) = true) : decide (ordIn a.inn c.inn ≤ 0) = true := by
  simp only [decide_eq_true_eq] at *
  by_cases h0 : ordIn a.inn b.inn = 0
  · rw [ordIn_zero.1 h0]; exact k
  · by_cases k0 : ordIn b.inn c.inn = 0
    · rw [← ordIn_zero.1 k0]; exact h
    · have := ordIn_trans (a := a.inn) (b := b.inn) (c := c.inn) (by omega) (by omega)
      omega
theorem leC_total (a b : Coin) : (decide (ordIn a.inn b.inn ≤ 0) || decide (ordIn b.inn a.inn ≤ 0)) = true := by
  have := ordIn_neg a.inn b.inn
  simp only [Bool.or_eq_true, decide_eq_true_eq]
  omega
theorem sortC_perm (l : List Coin) : (sortC l).Perm l := List.mergeSort_perm l _
theorem sortC_sorted {l : List Coin} (h : Apart l) : Sorted (sortC l) := by
  have h1 : (sortC l).Pairwise fun a b => decide (ordIn a.inn b.inn ≤ 0) = true := List.pairwise_mergeSort leC_trans leC_total l
  have h2 : Apart (sortC l) := ((sortC_perm l).pairwise_iff (R := fun a b : Coin => ordIn a.inn b.inn ≠ 0) (fun {a b} h => by have := ordIn_neg a.inn b.inn; omega)).2 h
  unfold Sorted Apart at *
  refine List.Pairwise.imp₂ (fun a b h1 h2 => ?_) h1 h2
  have := of_decide_eq_true h1
  omega
theorem txOuts_ok {t : Tx} (h : mayTx t = true) : ∀ o ∈ t.outs, outOdd o = false := fun o ho => by
  unfold mayTx at h
  simp only [Bool.and_eq_true, Bool.not_eq_true'] at h
  have := List.any_eq_false.1 h.2.2.2.2 o ho
  simpa using this
theorem newN_ok {t : Tx} {id : Ab.Id} {k : Nat} (h : mayTx t = true) : ∀ c ∈ newN id t.outs k, coinOk c = true := fun c hc => by
  unfold newN at hc
  obtain ⟨⟨o, i⟩, hx, rfl⟩ := List.mem_map.1 hc
  have hi := List.mk_mem_zipIdx_iff_getElem?.1 hx
  have hlt := (List.getElem?_eq_some_iff.1 hi).1
  have ho : o ∈ t.outs := List.mem_of_mem_take (List.mem_of_getElem? hi)
  have h1 := txOuts_ok h o ho
  have h3 := (mayTx_lens h).2.2
  rw [List.length_take] at hlt
  unfold outOdd at h1
  have h1 := of_decide_eq_false h1
  unfold coinOk
  apply decide_eq_true
  simp only []
  omega
theorem madeOf_good {p : List Coin} {t : Tx} (hp : ∀ c ∈ p, coinOk c = true) (hs : Sorted p) (ht : mayTx t = true) : (∀ c ∈ (madeOf p t).1, coinOk c = true) ∧ Sorted (madeOf p t).1 := by
  unfold madeOf
  split
  · exact ⟨fun c hc => absurd hc (List.not_mem_nil), List.Pairwise.nil⟩
  · rename_i h
    have h : (p.any fun c => decide (c.inn.tx = idOf t)) = false := by simpa using h
    refine ⟨fun c hc => ?_, sortC_sorted (apart_new (Sorted.apart hs) h)⟩
    have := (sortC_perm _).mem_iff.1 hc
    rcases List.mem_append.1 this with h | h
    · exact hp c h
    · exact newN_ok ht c h
theorem takeIns_good : ∀ {ins : List In} {p rest : List Coin} {n m : Int}, takeIns p n ins = some (rest, m) → rest.Sublist p
  | [], p, rest, n, m, h => by
    rw [takeIns.eq_1] at h
    injection h with h; injection h with h _; subst h; exact List.Sublist.refl _
  | x :: ins, p, rest, n, m, h => by
    rw [takeIns.eq_2] at h
    split at h
    · cases h
    · split at h
      · have := takeIns_good h
        refine this.trans ?_
        rw [← List.eraseIdx_eq_take_drop_succ]
        exact List.eraseIdx_sublist _ _
      · cases h
theorem spendOf_may {p : List Coin} {t : Tx} (h : mayCoins p = true) : mayCoins (spendOf p t).1 = true := by
  obtain ⟨h1, h2, h3⟩ := mayCoins_iff.1 h
  unfold spendOf
  split
  · exact h
  · rename_i hn
    have hn := Classical.not_not.1 hn
    split
    · exact h
    · rename_i rest n hrest
      have hsub := takeIns_good hrest
      split
      · exact h
      · split
        · split
          · exact h
          · rename_i hl
            have hg := madeOf_good (p := rest) (fun c hc => h1 c (hsub.subset hc)) (h2.sublist hsub) hn.2.1
            exact mayCoins_iff.2 ⟨hg.1, hg.2, Nat.le_of_not_lt hl⟩
        · exact h
end Go.Proofs.YtgoebfjaaklopaaGreat
set_option maxRecDepth 20000
namespace Go.Proofs.YtgoebfjaaklopaaGreat
set_option linter.unusedVariables false
set_option linter.unusedSimpArgs false
open Go.Ab Go.RowKit
def runTxs : List Coin → Int → List Tx → Sum Int (List Coin × Int)
  | out, room, [] => .inr (out, room)
  | out, room, t :: l => if (spendOf out t).2.2 = 0 then runTxs (spendOf out t).1 (IntKind.i64.wrap (room + (spendOf out t).2.1)) l else .inl (spendOf out t).2.2
def isFirst (l : List Tx) : Bool := match l with | [] => false | t :: _ => decide (t.ins.length = 0)
theorem isFirst_at {l : List Tx} {t : Tx} (h : l[0]? = some t) : isFirst l = decide (t.ins.length = 0) := by
  cases l with
  | nil => simp at h
  | cons a m => simp at h; subst h; rfl
theorem isFirst_nil {l : List Tx} (h : ¬ 0 < l.length) : isFirst l = false := by
  cases l with
  | nil => rfl
  | cons a m => simp at h
def remTxs (l : List Tx) (k : Nat) : List Tx := if isFirst l = true ∧ k = 0 then l.drop 1 else l.drop k
def applyOf (p : List Coin) (l : List Tx) : List Coin × Int :=
  if ¬ mayCoins p = true then (p, 1) else if 4 < l.length then (p, 3) else
  match runTxs p 50 (remTxs l 0) with
  | .inl e => (p, e)
  | .inr (out, room) => match (if isFirst l = true then l[0]? else none) with
    | none => (out, 0)
    | some t => if ¬ mayTx t = true then (p, 1) else if ¬ (madeOf out t).2 = 0 then (p, (madeOf out t).2) else if room < worthF (·.v) t.outs then (p, 8) else if 48 < (madeOf out t).1.length then (p, 11) else ((madeOf out t).1, 0)
theorem runTxs_step {out : List Coin} {room : Int} {l : List Tx} {k : Nat} {t : Tx} (hk : ¬ (isFirst l = true ∧ k = 0)) (hx : l[k]? = some t) (h : (spendOf out t).2.2 = 0) : runTxs out room (remTxs l k) = runTxs (spendOf out t).1 (IntKind.i64.wrap (room + (spendOf out t).2.1)) (remTxs l (k + 1)) := by
  obtain ⟨hlt, rfl⟩ := List.getElem?_eq_some_iff.1 hx
  unfold remTxs
  rw [if_neg hk, if_neg (by omega), List.drop_eq_getElem_cons hlt, runTxs.eq_2, if_pos h]
theorem runTxs_stop {out : List Coin} {room : Int} {l : List Tx} {k : Nat} {t : Tx} (hk : ¬ (isFirst l = true ∧ k = 0)) (hx : l[k]? = some t) (h : ¬ (spendOf out t).2.2 = 0) : runTxs out room (remTxs l k) = .inl (spendOf out t).2.2 := by
  obtain ⟨hlt, rfl⟩ := List.getElem?_eq_some_iff.1 hx
  unfold remTxs
  rw [if_neg hk, List.drop_eq_getElem_cons hlt, runTxs.eq_2, if_neg h]
theorem remTxs_first {l : List Tx} (h : isFirst l = true) : remTxs l 0 = remTxs l 1 := by
  unfold remTxs
  rw [if_pos ⟨h, rfl⟩, if_neg (by omega)]
theorem remTxs_end {l : List Tx} (k : Nat) (h : l.length ≤ k) : remTxs l k = [] := by
  unfold remTxs
  split
  · exact List.drop_of_length_le (by omega)
  · exact List.drop_of_length_le h
theorem applyFail (p : List Coin) (e : Int) (hp : p.length ≤ 2000000000000) : Tells P 182 [.val i64T e, .rptr (bsl coinT) p] (.tup2 (.fresh 180 coinT p) (.val i64T e)) := by
 refine fn_of_aw Tryz.func182 rfl rfl rfl (fun ext w hext => ?_)
 refine aw_fact (d := 0) rfl fact_int (fun hin0 => ?_)
 refine CQR ?_; refine A0 aL ?_; refine A0 aV ?_; refine CNQR ?_; refine A0 (g_load_r rfl rfl ty_54) ?_; refine aw_callf (cloneCoin p (by constructor <;> omega)) rfl fn_140 ⟨(arg_v rfl), trivial⟩ rfl rfl rfl ?_; refine A0 mV ?_
 refine A0 aO ?_; refine A0 aV ?_; refine CN ?_
 exact aw_ret2 rfl rfl (ret_fresh_eq rfl rfl rfl) (ret_val rfl)
theorem apply_ok (p : List Coin) (l : List Tx) (hp : p.length ≤ 2000000000000) : Tells P 138 [.val (bsl coinT) p, .val (bsl txT) l] (.tup2 (.fresh 180 coinT (applyOf p l).1) (.val i64T (applyOf p l).2)) := by
 refine fn_of_aw Tryz.func138 rfl rfl rfl (fun ext w hext => ?_)
 refine aw_fact (d := 0) rfl fact_sl (fun hsl0 => ?_)
 refine aw_fact (d := 1) rfl fact_sl (fun hsl1 => ?_)
 refine CQR ?_; refine aw_box rfl rfl rfl rfl rfl ?_; refine A0 aL ?_; refine A0 aV ?_; refine CNQR ?_; refine A0 (g_mkf (caps := [_]) rfl rfl) ?_; refine A0 aC ?_; refine CNQ ?_; refine CB ?_; refine CQR ?_
 refine A0 (oLs rfl rfl rfl ty_54) ?_; refine A0 (oCl (may_ok _) rfl fn_183 ⟨(arg_v rfl), trivial⟩) ?_; refine A0 oN ?_; refine A0 aV ?_; refine CN ?_
 refine aw_ifc (p := ¬ mayCoins p = true) rfl (by simp) (fun ht17 => ?_) (fun ht17 => ?_)
 ·
  refine CQR ?_; refine A0 mC ?_
  refine aw_callg2 (As := [_]) (Cs := [_]) (applyFail p _ hp) rfl rfl fn_182 ⟨(arg_v rfl), trivial⟩ (by intro n hn; simp only [List.mem_cons, List.not_mem_nil, or_false] at hn; rcases hn with rfl <;> exact ⟨_, _, _, _, rfl⟩) ⟨(by exact arg_cap rfl), trivial⟩ flat_int rfl rfl rfl ?_
  refine A0 (by first | exact g_x20 rfl rfl | exact g_x30 rfl rfl) ?_; refine A0 (by first | exact g_x21 rfl rfl | exact g_x31 rfl rfl) ?_; refine A0 aO ?_; refine A0 aX ?_; refine CN ?_
  have hS : applyOf p l = (p, 1) := by unfold applyOf; rw [if_pos ht17]
  exact aw_ret2 rfl rfl (ret_fresh_eq rfl rfl (by rw [hS])) (ret_eq rfl (by rw [hS]))
 ·
  have hmp := Classical.not_not.1 ht17
  have hpl := mayCoins_len hmp
  refine CQR ?_; refine A0 mV ?_; refine A0 (g_len rfl rfl isl_35) ?_; refine A0 o_gtr ?_; refine A0 aV ?_; refine CN ?_
  refine Cf (p := 4 < l.length) (fun ht25 => ?_) (fun ht25 => ?_)
  ·
   refine CQR ?_; refine A0 mC ?_
   refine aw_callg2 (As := [_]) (Cs := [_]) (applyFail p _ hp) rfl rfl fn_182 ⟨(arg_v rfl), trivial⟩ (by intro n hn; simp only [List.mem_cons, List.not_mem_nil, or_false] at hn; rcases hn with rfl <;> exact ⟨_, _, _, _, rfl⟩) ⟨(by exact arg_cap rfl), trivial⟩ flat_int rfl rfl rfl ?_
   refine A0 (by first | exact g_x20 rfl rfl | exact g_x30 rfl rfl) ?_; refine A0 (by first | exact g_x21 rfl rfl | exact g_x31 rfl rfl) ?_; refine A0 aO ?_; refine A0 aX ?_; refine CN ?_
   have hS : applyOf p l = (p, 3) := by unfold applyOf; rw [if_neg (Classical.not_not.2 hmp), if_pos ht25]
   exact aw_ret2 rfl rfl (ret_fresh_eq rfl rfl (by rw [hS])) (ret_eq rfl (by rw [hS]))
  ·
   refine CS ?_; refine CI ?_; refine CQR ?_; refine A0 (oLs rfl rfl rfl ty_54) ?_; refine aw_callf (cloneCoin p (by constructor <;> omega)) rfl fn_140 ⟨(arg_v rfl), trivial⟩ rfl rfl rfl ?_; refine A0 aO ?_; refine A0 aV ?_; refine CNQR ?_
   refine A0 mV ?_; refine A0 (g_len rfl rfl isl_35) ?_; refine A0 o_gtr ?_; refine A0 mV ?_
   refine Sp (d := 38) (p := 0 < l.length) (fun g38 => ?_) (fun g38 => ?_)
   ·
    obtain ⟨t0, ht0⟩ : ∃ t0, l[0]? = some t0 := ⟨_, List.getElem?_eq_getElem g38⟩
    refine A1 mV ?_; refine A1 (g_ia_i (i := 0) rfl rfl rfl (by omega) sl_35 (by assumption)) ?_; refine A1 (oFr fd_112_0 L_Tx_ins) ?_; refine A1 (g_load_r rfl rfl ty_109) ?_
    refine A1 (by first | exact g_len rfl rfl isl_109 | exact g_len_o rfl rfl rfl isl_109 | exact g_len_nil rfl rfl isl_109) ?_; refine A1 o_eql ?_; refine A0 oK ?_
    refine aw_reval (d := 45) (y := isFirst l) rfl (by first | (rw [isFirst_at ht0, decide_eq_decide]; simp only [IntL.toI, id_eq]; omega) | exact (isFirst_nil g38).symm) ?_; refine A0 aV ?_; refine CNQQR ?_; refine A0 mV ?_
    refine A0 (g_len rfl rfl isl_35) ?_; refine A0 mV ?_; refine CNB ?_
    refine Lp (ι := Nat × List Coin × Int) 2 (fun (i : Nat × List Coin × Int) => match i with | (k, out, room) => (((((((((Fr.none).set 1 (.val (bsl txT) l)).set 2 (.ptr 0 0)).set 6 (.clo 182 [0])).set 7 (.own 1)).set 8 (.val i64T room)).set 9 (.val boolT (isFirst l))).set 46 (.val (bsl txT) l)).set 47 (.val i64T (l.length : Int))).set 48 (.val i64T (k : Int))) (fun (i : Nat × List Coin × Int) => match i with | (k, out, room) => ((Hp.none).set 0 (.box 54 (bsl coinT) p)).set 1 (.row 180 coinT out)) (fun (i : Nat × List Coin × Int) => match i with | (k, out, room) => k ≤ l.length ∧ mayCoins out = true ∧ runTxs p 50 (remTxs l 0) = runTxs out room (remTxs l k)) (fun (i : Nat × List Coin × Int) => match i with | (k, out, room) => l.length - k) ((0, p, 50)) (⟨Nat.zero_le _, hmp, rfl⟩) ?_
    intro ⟨k, out, room⟩ hinv
    dsimp only at hinv
    have hol := mayCoins_len hinv.2.1
    refine CQR ?_; refine A0 o_lss ?_; refine CNQ ?_
    refine Cf (p := k < l.length) (fun ht49 => ?_) (fun ht49 => ?_)
    ·
     obtain ⟨t, hx⟩ : ∃ t, l[k]? = some t := ⟨_, List.getElem?_eq_getElem ht49⟩
     refine CSQBQR ?_; refine A0 mV ?_; refine A0 (g_ia_n rfl rfl rfl sl_35 (by assumption)) ?_; refine A0 (g_load_r rfl rfl ty_112) ?_; refine aw_alloc ze_112 rfl rfl rfl rfl ?_; refine A0 aV ?_
     refine aw_store_b rfl rfl rfl rfl rfl (Lens.self _) ty_112 rfl ?_; refine CNQQR ?_; refine A0 mV ?_; refine A0 o_eql ?_; refine A0 mV ?_
     refine Sp (d := 55) (p := k = 0) (fun g55 => ?_) (fun g55 => ?_)
     ·
      refine A1 mV ?_; refine A0 oK ?_
      refine aw_splitp (d := 57) (p := isFirst l = true) rfl (by simp) (fun g57 => ?_) (fun g57 => ?_)
      ·
       refine CN ?_; refine Ct ?_; refine CE ?_; refine CR ?_; refine A0 o_add ?_; refine A0 mV ?_; refine CN ?_
       exact Nx ((k + 1, out, room)) (by first | exact ⟨by omega, hinv.2.1, by rw [hinv.2.2, g55, remTxs_first g57]⟩ | exact ⟨by omega, spendOf_may hinv.2.1, hinv.2.2.trans (runTxs_step (fun h => by first | exact g57 h.1 | exact g55 h.2) hx (Classical.not_not.1 ht66))⟩) (by show _ < l.length - k; simp only []; omega)
      ·
       refine CN ?_; refine Cg ?_; refine CSQR ?_; refine A0 mO ?_; refine A0 (oLs rfl rfl rfl ty_112) ?_; refine aw_callf3 (spend_ok out t (by omega)) rfl fn_184 ⟨(arg_own rfl rfl), (arg_v rfl), trivial⟩ flat_int flat_int rfl rfl rfl ?_
       refine A0 (by first | exact g_mt2 (.inl rfl) rfl | exact g_mt3 (.inl rfl) rfl) ?_; refine A0 (by first | exact g_x20 rfl rfl | exact g_x30 rfl rfl) ?_; refine A0 (by first | exact g_x21 rfl rfl | exact g_x31 rfl rfl) ?_; refine A0 e32 ?_
       refine A0 aO ?_; refine A0 aX ?_; refine A0 aX ?_; refine CNQQR ?_; refine A0 mX ?_; refine A0 o_neq ?_; refine CN ?_
       refine aw_ifc (p := ¬ (spendOf out t).2.2 = 0) rfl (by simp [IntL.toI]) (fun ht66 => ?_) (fun ht66 => ?_)
       ·
        refine CQR ?_; refine A0 mC ?_; refine A0 mX ?_
        refine aw_callg2 (As := [_]) (Cs := [_]) (applyFail p _ hp) rfl rfl fn_182 ⟨(by first | exact arg_same rfl | exact arg_bsl rfl | exact arg_own rfl rfl | exact arg_nil rfl | exact arg_rptr rfl | exact arg_fn rfl rfl | exact arg_lit rfl), trivial⟩ (by intro n hn; simp only [List.mem_cons, List.not_mem_nil, or_false] at hn; rcases hn with rfl <;> exact ⟨_, _, _, _, rfl⟩) ⟨(by exact arg_cap rfl), trivial⟩ flat_int rfl rfl rfl ?_
        refine A0 (by first | exact g_x20 rfl rfl | exact g_x30 rfl rfl) ?_; refine A0 (by first | exact g_x21 rfl rfl | exact g_x31 rfl rfl) ?_; refine A0 aO ?_; refine A0 aX ?_; refine CN ?_
        have hS : applyOf p l = (p, (spendOf out t).2.2) := by unfold applyOf; rw [if_neg (Classical.not_not.2 hmp), if_neg (show ¬ 4 < l.length by omega)]; rw [hinv.2.2, runTxs_stop (fun h => by first | exact g57 h.1 | exact g55 h.2) hx ht66]
        exact aw_ret2 rfl rfl (ret_fresh_eq rfl rfl (by rw [hS])) (ret_eq rfl (by rw [hS]))
       ·
        refine CSQR ?_; refine A0 mO ?_; refine A0 aO ?_; refine CNR ?_; refine A0 mV ?_; refine A0 mX ?_; refine A0 o_add ?_; refine A0 aV ?_; refine CNIR ?_; refine A0 o_add ?_; refine A0 mV ?_; refine CN ?_; refine aw_drop 1 ?_
        refine aw_ren 3 1 4 rfl rfl rfl rfl rfl rfl ?_
        exact Nx ((k + 1, (spendOf out t).1, IntKind.i64.wrap (room + (spendOf out t).2.1))) (by first | exact ⟨by omega, hinv.2.1, by rw [hinv.2.2, g55, remTxs_first g57]⟩ | exact ⟨by omega, spendOf_may hinv.2.1, hinv.2.2.trans (runTxs_step (fun h => by first | exact g57 h.1 | exact g55 h.2) hx (Classical.not_not.1 ht66))⟩) (by show _ < l.length - k; simp only []; omega)
     ·
      refine A2 ?_; refine A0 oK ?_; refine CN ?_; refine Cg ?_; refine CSQR ?_; refine A0 mO ?_; refine A0 (oLs rfl rfl rfl ty_112) ?_
      refine aw_callf3 (spend_ok out t (by omega)) rfl fn_184 ⟨(arg_own rfl rfl), (arg_v rfl), trivial⟩ flat_int flat_int rfl rfl rfl ?_; refine A0 (by first | exact g_mt2 (.inl rfl) rfl | exact g_mt3 (.inl rfl) rfl) ?_
      refine A0 (by first | exact g_x20 rfl rfl | exact g_x30 rfl rfl) ?_; refine A0 (by first | exact g_x21 rfl rfl | exact g_x31 rfl rfl) ?_; refine A0 e32 ?_; refine A0 aO ?_; refine A0 aX ?_; refine A0 aX ?_; refine CNQQR ?_; refine A0 mX ?_
      refine A0 o_neq ?_; refine CN ?_
      refine aw_ifc (p := ¬ (spendOf out t).2.2 = 0) rfl (by simp [IntL.toI]) (fun ht66 => ?_) (fun ht66 => ?_)
      ·
       refine CQR ?_; refine A0 mC ?_; refine A0 mX ?_
       refine aw_callg2 (As := [_]) (Cs := [_]) (applyFail p _ hp) rfl rfl fn_182 ⟨(by first | exact arg_same rfl | exact arg_bsl rfl | exact arg_own rfl rfl | exact arg_nil rfl | exact arg_rptr rfl | exact arg_fn rfl rfl | exact arg_lit rfl), trivial⟩ (by intro n hn; simp only [List.mem_cons, List.not_mem_nil, or_false] at hn; rcases hn with rfl <;> exact ⟨_, _, _, _, rfl⟩) ⟨(by exact arg_cap rfl), trivial⟩ flat_int rfl rfl rfl ?_
       refine A0 (by first | exact g_x20 rfl rfl | exact g_x30 rfl rfl) ?_; refine A0 (by first | exact g_x21 rfl rfl | exact g_x31 rfl rfl) ?_; refine A0 aO ?_; refine A0 aX ?_; refine CN ?_
       have hS : applyOf p l = (p, (spendOf out t).2.2) := by unfold applyOf; rw [if_neg (Classical.not_not.2 hmp), if_neg (show ¬ 4 < l.length by omega)]; rw [hinv.2.2, runTxs_stop (fun h => by first | exact g57 h.1 | exact g55 h.2) hx ht66]
       exact aw_ret2 rfl rfl (ret_fresh_eq rfl rfl (by rw [hS])) (ret_eq rfl (by rw [hS]))
      ·
       refine CSQR ?_; refine A0 mO ?_; refine A0 aO ?_; refine CNR ?_; refine A0 mV ?_; refine A0 mX ?_; refine A0 o_add ?_; refine A0 aV ?_; refine CNIR ?_; refine A0 o_add ?_; refine A0 mV ?_; refine CN ?_; refine aw_drop 1 ?_
       refine aw_ren 3 1 4 rfl rfl rfl rfl rfl rfl ?_
       exact Nx ((k + 1, (spendOf out t).1, IntKind.i64.wrap (room + (spendOf out t).2.1))) (by first | exact ⟨by omega, hinv.2.1, by rw [hinv.2.2, g55, remTxs_first g57]⟩ | exact ⟨by omega, spendOf_may hinv.2.1, hinv.2.2.trans (runTxs_step (fun h => by first | exact g57 h.1 | exact g55 h.2) hx (Classical.not_not.1 ht66))⟩) (by show _ < l.length - k; simp only []; omega)
    ·
     have hrun : runTxs p 50 (remTxs l 0) = .inr (out, room) := by rw [hinv.2.2, remTxs_end k (by omega)]; rfl
     refine CE ?_; refine CQQR ?_; refine A0 mV ?_; refine A0 oN ?_; refine CN ?_
     refine aw_ifc (p := ¬ isFirst l = true) rfl (by simp) (fun ht78 => ?_) (fun ht78 => ?_)
     ·
      have hnf := ht78
      refine CQR ?_; refine A0 mO ?_; refine A0 aO ?_; refine A0 aV ?_; refine CN ?_
      have hS : applyOf p l = (out, 0) := by unfold applyOf; rw [if_neg (Classical.not_not.2 hmp), if_neg (show ¬ 4 < l.length by omega)]; rw [hrun]; simp only [if_neg ht78]
      exact aw_ret2 rfl rfl (ret_fresh_eq rfl rfl (by rw [hS])) (ret_eq rfl (by rw [hS]))
     ·
      have hf := Classical.not_not.1 ht78
      refine CSQQR ?_; refine A0 mV ?_; refine A0 (g_ia_i (i := 0) rfl rfl rfl (by omega) sl_35 (by assumption)) ?_; refine A0 (g_load_r rfl rfl ty_112) ?_
      refine A0 (oCl (mayTx_ok _) rfl fn_185 ⟨(by first | exact arg_same rfl | exact arg_bsl rfl | exact arg_own rfl rfl | exact arg_nil rfl | exact arg_rptr rfl | exact arg_fn rfl rfl | exact arg_lit rfl), trivial⟩) ?_; refine A0 oN ?_
      refine CN ?_
      refine aw_ifc (p := ¬ mayTx t0 = true) rfl (by simp) (fun ht84 => ?_) (fun ht84 => ?_)
      ·
       refine CQR ?_; refine A0 mC ?_
       refine aw_callg2 (As := [_]) (Cs := [_]) (applyFail p _ hp) rfl rfl fn_182 ⟨(arg_v rfl), trivial⟩ (by intro n hn; simp only [List.mem_cons, List.not_mem_nil, or_false] at hn; rcases hn with rfl <;> exact ⟨_, _, _, _, rfl⟩) ⟨(by exact arg_cap rfl), trivial⟩ flat_int rfl rfl rfl ?_
       refine A0 (by first | exact g_x20 rfl rfl | exact g_x30 rfl rfl) ?_; refine A0 (by first | exact g_x21 rfl rfl | exact g_x31 rfl rfl) ?_; refine A0 aO ?_; refine A0 aX ?_; refine CN ?_
       have hS : applyOf p l = (p, 1) := by unfold applyOf; rw [if_neg (Classical.not_not.2 hmp), if_neg (show ¬ 4 < l.length by omega)]; rw [hrun]; simp only [if_pos hf, ht0]; rw [if_pos ht84]
       exact aw_ret2 rfl rfl (ret_fresh_eq rfl rfl (by rw [hS])) (ret_eq rfl (by rw [hS]))
      ·
       have hmt := Classical.not_not.1 ht84
       refine CSQR ?_; refine A0 mO ?_; refine A0 mV ?_; refine A0 (g_ia_i (i := 0) rfl rfl rfl (by omega) sl_35 (by assumption)) ?_; refine A0 (g_load_r rfl rfl ty_112) ?_
       refine aw_callc2 (made_ok out t0 (by omega) (mayTx_lens hmt).2.2 (apart_new (Sorted.apart (mayCoins_iff.1 hinv.2.1).2.1))) rfl fn_186 rfl trivial flat_int ⟨(by first | exact argm_own rfl | exact argm_ptr rfl | exact argm_same rfl | exact argm_bsl rfl | exact argm_lit rfl | exact argm_clo rfl | exact argm_row rfl rfl (by decide)), (by first | exact argm_own rfl | exact argm_ptr rfl | exact argm_same rfl | exact argm_bsl rfl | exact argm_lit rfl | exact argm_clo rfl | exact argm_row rfl rfl (by decide)), trivial⟩ rfl rfl rfl ?_
       refine A0 (by first | exact g_mt2 (.inl rfl) rfl | exact g_mt3 (.inl rfl) rfl) ?_; refine A0 (by first | exact g_x20 rfl rfl | exact g_x30 rfl rfl) ?_; refine A0 (by first | exact g_x21 rfl rfl | exact g_x31 rfl rfl) ?_; refine A0 aO ?_
       refine A0 aX ?_; refine CNQ ?_; refine CB ?_; refine CQR ?_; refine A0 mX ?_; refine A0 o_neq ?_; refine A0 aV ?_; refine CN ?_
       refine aw_ifc (p := ¬ (madeOf out t0).2 = 0) rfl (by simp [IntL.toI]) (fun ht97 => ?_) (fun ht97 => ?_)
       ·
        refine CQR ?_; refine A0 mC ?_; refine A0 mX ?_
        refine aw_callg2 (As := [_]) (Cs := [_]) (applyFail p _ hp) rfl rfl fn_182 ⟨(by first | exact arg_same rfl | exact arg_bsl rfl | exact arg_own rfl rfl | exact arg_nil rfl | exact arg_rptr rfl | exact arg_fn rfl rfl | exact arg_lit rfl), trivial⟩ (by intro n hn; simp only [List.mem_cons, List.not_mem_nil, or_false] at hn; rcases hn with rfl <;> exact ⟨_, _, _, _, rfl⟩) ⟨(by exact arg_cap rfl), trivial⟩ flat_int rfl rfl rfl ?_
        refine A0 (by first | exact g_x20 rfl rfl | exact g_x30 rfl rfl) ?_; refine A0 (by first | exact g_x21 rfl rfl | exact g_x31 rfl rfl) ?_; refine A0 aO ?_; refine A0 aX ?_; refine CN ?_
        have hS : applyOf p l = (p, (madeOf out t0).2) := by unfold applyOf; rw [if_neg (Classical.not_not.2 hmp), if_neg (show ¬ 4 < l.length by omega)]; rw [hrun]; simp only [if_pos hf, ht0]; rw [if_neg (Classical.not_not.2 hmt), if_pos ht97]
        exact aw_ret2 rfl rfl (ret_fresh_eq rfl rfl (by rw [hS])) (ret_eq rfl (by rw [hS]))
       ·
        refine CQR ?_; refine A0 mV ?_; refine A0 (g_ia_i (i := 0) rfl rfl rfl (by omega) sl_35 (by assumption)) ?_; refine A0 (g_load_r rfl rfl ty_112) ?_
        refine A0 (oCl (outs_ok _) rfl fn_187 ⟨(by first | exact arg_same rfl | exact arg_bsl rfl | exact arg_own rfl rfl | exact arg_nil rfl | exact arg_rptr rfl | exact arg_fn rfl rfl | exact arg_lit rfl), trivial⟩) ?_; refine A0 mV ?_
        refine A0 o_gtr ?_; refine A0 aV ?_; refine CN ?_
        refine Cf (p := room < worthF (·.v) t0.outs) (fun ht105 => ?_) (fun ht105 => ?_)
        ·
         refine CQR ?_; refine A0 mC ?_
         refine aw_callg2 (As := [_]) (Cs := [_]) (applyFail p _ hp) rfl rfl fn_182 ⟨(arg_v rfl), trivial⟩ (by intro n hn; simp only [List.mem_cons, List.not_mem_nil, or_false] at hn; rcases hn with rfl <;> exact ⟨_, _, _, _, rfl⟩) ⟨(by exact arg_cap rfl), trivial⟩ flat_int rfl rfl rfl ?_
         refine A0 (by first | exact g_x20 rfl rfl | exact g_x30 rfl rfl) ?_; refine A0 (by first | exact g_x21 rfl rfl | exact g_x31 rfl rfl) ?_; refine A0 aO ?_; refine A0 aX ?_; refine CN ?_
         have hS : applyOf p l = (p, 8) := by unfold applyOf; rw [if_neg (Classical.not_not.2 hmp), if_neg (show ¬ 4 < l.length by omega)]; rw [hrun]; simp only [if_pos hf, ht0]; rw [if_neg (Classical.not_not.2 hmt), if_neg ht97, if_pos ht105]
         exact aw_ret2 rfl rfl (ret_fresh_eq rfl rfl (by rw [hS])) (ret_eq rfl (by rw [hS]))
        ·
         refine CQR ?_; refine A0 mO ?_; refine A0 (g_len_o rfl rfl rfl isl_54) ?_; refine A0 o_gtr ?_; refine A0 aV ?_; refine CN ?_
         refine Cf (p := 48 < (madeOf out t0).1.length) (fun ht116 => ?_) (fun ht116 => ?_)
         ·
          refine CQR ?_; refine A0 mC ?_
          refine aw_callg2 (As := [_]) (Cs := [_]) (applyFail p _ hp) rfl rfl fn_182 ⟨(arg_v rfl), trivial⟩ (by intro n hn; simp only [List.mem_cons, List.not_mem_nil, or_false] at hn; rcases hn with rfl <;> exact ⟨_, _, _, _, rfl⟩) ⟨(by exact arg_cap rfl), trivial⟩ flat_int rfl rfl rfl ?_
          refine A0 (by first | exact g_x20 rfl rfl | exact g_x30 rfl rfl) ?_; refine A0 (by first | exact g_x21 rfl rfl | exact g_x31 rfl rfl) ?_; refine A0 aO ?_; refine A0 aX ?_; refine CN ?_
          have hS : applyOf p l = (p, 11) := by unfold applyOf; rw [if_neg (Classical.not_not.2 hmp), if_neg (show ¬ 4 < l.length by omega)]; rw [hrun]; simp only [if_pos hf, ht0]; rw [if_neg (Classical.not_not.2 hmt), if_neg ht97, if_neg ht105, if_pos ht116]
          exact aw_ret2 rfl rfl (ret_fresh_eq rfl rfl (by rw [hS])) (ret_eq rfl (by rw [hS]))
         ·
          refine CS ?_; refine CI ?_; refine CQR ?_; refine A0 mO ?_; refine A0 aO ?_; refine A0 aV ?_; refine CN ?_
          have hS : applyOf p l = ((madeOf out t0).1, 0) := by unfold applyOf; rw [if_neg (Classical.not_not.2 hmp), if_neg (show ¬ 4 < l.length by omega)]; rw [hrun]; simp only [if_pos hf, ht0]; rw [if_neg (Classical.not_not.2 hmt), if_neg ht97, if_neg ht105, if_neg ht116]
          exact aw_ret2 rfl rfl (ret_fresh_eq rfl rfl (by rw [hS])) (ret_eq rfl (by rw [hS]))
   ·
    refine A2 ?_; refine A2 ?_; refine A2 ?_; refine A2 ?_; refine A2 ?_; refine A2 ?_; refine A0 oK ?_
    refine aw_reval (d := 45) (y := isFirst l) rfl (by first | (rw [isFirst_at ht0, decide_eq_decide]; simp only [IntL.toI, id_eq]; omega) | exact (isFirst_nil g38).symm) ?_; refine A0 aV ?_; refine CNQQR ?_; refine A0 mV ?_
    refine A0 (g_len rfl rfl isl_35) ?_; refine A0 mV ?_; refine CNB ?_
    refine Lp (ι := Nat × List Coin × Int) 2 (fun (i : Nat × List Coin × Int) => match i with | (k, out, room) => (((((((((Fr.none).set 1 (.val (bsl txT) l)).set 2 (.ptr 0 0)).set 6 (.clo 182 [0])).set 7 (.own 1)).set 8 (.val i64T room)).set 9 (.val boolT (isFirst l))).set 46 (.val (bsl txT) l)).set 47 (.val i64T (l.length : Int))).set 48 (.val i64T (k : Int))) (fun (i : Nat × List Coin × Int) => match i with | (k, out, room) => ((Hp.none).set 0 (.box 54 (bsl coinT) p)).set 1 (.row 180 coinT out)) (fun (i : Nat × List Coin × Int) => match i with | (k, out, room) => k ≤ l.length ∧ mayCoins out = true ∧ runTxs p 50 (remTxs l 0) = runTxs out room (remTxs l k)) (fun (i : Nat × List Coin × Int) => match i with | (k, out, room) => l.length - k) ((0, p, 50)) (⟨Nat.zero_le _, hmp, rfl⟩) ?_
    intro ⟨k, out, room⟩ hinv
    dsimp only at hinv
    have hol := mayCoins_len hinv.2.1
    refine CQR ?_; refine A0 o_lss ?_; refine CNQ ?_
    refine Cf (p := k < l.length) (fun ht49 => ?_) (fun ht49 => ?_)
    ·
     exfalso
     omega
    ·
     have hrun : runTxs p 50 (remTxs l 0) = .inr (out, room) := by rw [hinv.2.2, remTxs_end k (by omega)]; rfl
     refine CE ?_; refine CQQR ?_; refine A0 mV ?_; refine A0 oN ?_; refine CN ?_
     refine aw_ifc (p := ¬ isFirst l = true) rfl (by simp) (fun ht78 => ?_) (fun ht78 => ?_)
     ·
      have hnf := ht78
      refine CQR ?_; refine A0 mO ?_; refine A0 aO ?_; refine A0 aV ?_; refine CN ?_
      have hS : applyOf p l = (out, 0) := by unfold applyOf; rw [if_neg (Classical.not_not.2 hmp), if_neg (show ¬ 4 < l.length by omega)]; rw [hrun]; simp only [if_neg ht78]
      exact aw_ret2 rfl rfl (ret_fresh_eq rfl rfl (by rw [hS])) (ret_eq rfl (by rw [hS]))
     ·
      exact absurd (Classical.not_not.1 ht78) (by rw [isFirst_nil g38]; simp)
end Go.Proofs.YtgoebfjaaklopaaGreat
set_option maxRecDepth 20000
namespace Go.Proofs.YtgoebfjaaklopaaGreat
set_option linter.unusedVariables false
set_option linter.unusedSimpArgs false
open Go.Ab Go.RowKit
theorem idx_none {α : Type} {p : α → Bool} : ∀ {l : List α}, idx p l < 0 → ∀ x ∈ l, p x = false
  | [], _, x, hx => by cases hx
  | y :: l, h, x, hx => by
    unfold idx at h
    cases hy : p y with
    | true => rw [hy] at h; simp at h
    | false =>
      rw [hy] at h
      rcases List.mem_cons.1 hx with e | hx
      · rw [e]; exact hy
      · refine idx_none (l := l) ?_ x hx
        have := idx_ge p l
        simp at h
        split at h <;> omega
theorem idx_some {α : Type} {p : α → Bool} : ∀ {l : List α}, 0 ≤ idx p l → ∃ x, l[(idx p l).toNat]? = some x ∧ p x = true ∧ ∀ (j : Nat) y, l[j]? = some y → p y = true → idx p l ≤ j
  | [], h => by simp [idx] at h
  | y :: l, h => by
    cases hy : p y with
    | true =>
      have e : idx p (y :: l) = 0 := by unfold idx; rw [hy]; simp
      rw [e]
      exact ⟨y, rfl, hy, fun j z _ _ => by omega⟩
    | false =>
      by_cases h0 : 0 ≤ idx p l
      · have e : idx p (y :: l) = idx p l + 1 := by
          conv => lhs; unfold idx
          rw [hy]; simp; omega
        obtain ⟨x, h1, h2, h3⟩ := idx_some h0
        refine ⟨x, ?_, h2, fun j z hj hz => ?_⟩
        · rw [e, show (idx p l + 1).toNat = (idx p l).toNat + 1 by omega]; exact h1
        · cases j with
          | zero => simp at hj; subst hj; rw [hy] at hz; cases hz
          | succ j => have := h3 j z (by simpa using hj) hz; rw [e]; omega
      · exfalso
        have := idx_ge p l
        have e : idx p (y :: l) = -1 := by
          conv => lhs; unfold idx
          rw [hy]; simp; omega
        omega
def findC (p : List Coin) (x : In) : Int := idx (fun c => decide (c.inn = x)) p
theorem findC_some {p : List Coin} {x : In} (h : 0 ≤ findC p x) : ∃ c, p[(findC p x).toNat]? = some c ∧ c.inn = x ∧ ∀ (j : Nat) y, p[j]? = some y → y.inn = x → findC p x ≤ j := by
  obtain ⟨c, h1, h2, h3⟩ := idx_some h
  exact ⟨c, h1, of_decide_eq_true h2, fun j y hj hy => h3 j y hj (decide_eq_true hy)⟩
def tot {α : Type} (f : α → Int) : List α → Int
  | [] => 0
  | x :: l => f x + tot f l
theorem tot_append {α : Type} {f : α → Int} : ∀ {l m : List α}, tot f (l ++ m) = tot f l + tot f m
  | [], m => by simp [tot]
  | x :: l, m => by rw [List.cons_append, tot, tot, tot_append]; omega
theorem tot_perm {α : Type} {f : α → Int} {l m : List α} (h : l.Perm m) : tot f l = tot f m := by
  induction h with
  | nil => rfl
  | cons x _ ih => rw [tot, tot, ih]
  | swap x y l => simp only [tot]; omega
  | trans _ _ h1 h2 => exact h1.trans h2
theorem tot_del {α : Type} {f : α → Int} {x : α} : ∀ {l : List α} {i : Nat}, l[i]? = some x → tot f (l.take i ++ l.drop (i + 1)) + f x = tot f l
  | [], i, h => by simp at h
  | y :: l, 0, h => by simp at h; subst h; simp [tot]; omega
  | y :: l, i + 1, h => by
    have := tot_del (f := f) (l := l) (i := i) (by simpa using h)
    simp only [List.take_succ_cons, List.drop_succ_cons, List.cons_append, tot]
    omega
theorem tot_pos {α : Type} {f : α → Int} : ∀ {l : List α}, (∀ x ∈ l, 0 ≤ f x) → 0 ≤ tot f l
  | [], _ => Int.le_refl _
  | x :: l, h => by
    have := tot_pos (f := f) (l := l) fun y hy => h y (List.mem_cons_of_mem _ hy)
    have := h x List.mem_cons_self
    rw [tot]; omega
theorem tot_le {α : Type} {f : α → Int} {M : Int} : ∀ {l : List α}, (∀ x ∈ l, f x ≤ M) → tot f l ≤ M * l.length
  | [], _ => by simp [tot]
  | x :: l, h => by
    have := tot_le (f := f) (M := M) (l := l) fun y hy => h y (List.mem_cons_of_mem _ hy)
    have := h x List.mem_cons_self
    rw [tot, List.length_cons, Int.natCast_add, Int.mul_add]; omega
theorem fold_tot {α : Type} {f : α → Int} {M : Int} (hM : 0 ≤ M) : ∀ {l : List α} {n : Int}, (∀ x ∈ l, 0 ≤ f x ∧ f x ≤ M) → 0 ≤ n → n + M * l.length ≤ 9223372036854775807 → l.foldl (fun n x => IntKind.i64.wrap (n + f x)) n = n + tot f l
  | [], n, _, _, _ => by simp [tot]
  | x :: l, n, h, h0, h1 => by
    have hx := h x List.mem_cons_self
    rw [List.length_cons, Int.natCast_add, Int.mul_add] at h1
    have h2 : 0 ≤ M * l.length := Int.mul_nonneg hM (Int.natCast_nonneg _)
    have e : IntKind.i64.wrap (n + f x) = n + f x := wrap_eq (by omega)
    rw [List.foldl_cons, e, fold_tot hM (fun y hy => h y (List.mem_cons_of_mem _ hy)) (by omega) (by omega), tot]
    omega
theorem worth_tot {α : Type} {f : α → Int} {l : List α} (h : ∀ x ∈ l, 0 ≤ f x ∧ f x ≤ 2199023255552) (hl : l.length ≤ 60) : worthF f l = tot f l := by
  have := fold_tot (f := f) (M := 2199023255552) (by decide) (n := 0) h (Int.le_refl _) (by omega)
  unfold worthF
  rw [this]; omega
theorem coins_pos {p : List Coin} (h : ∀ c ∈ p, coinOk c = true) : ∀ c ∈ p, 0 ≤ c.out.v ∧ c.out.v ≤ 1099511627776 := fun c hc => by
  have := of_decide_eq_true (h c hc)
  omega
theorem coins_tot {p : List Coin} (h : ∀ c ∈ p, coinOk c = true) (hl : p.length ≤ 48) : 0 ≤ tot (·.out.v) p ∧ tot (·.out.v) p ≤ 52776558133248 := by
  have h := coins_pos h
  refine ⟨tot_pos fun x hx => (h x hx).1, ?_⟩
  have := tot_le (f := fun c : Coin => c.out.v) (M := 1099511627776) (l := p) fun x hx => (h x hx).2
  omega
theorem outs_pos {t : Tx} (h : mayTx t = true) : ∀ o ∈ t.outs, 0 ≤ o.v ∧ o.v ≤ 1099511627776 := fun o ho => by
  have h1 := txOuts_ok h o ho
  unfold outOdd at h1
  have := of_decide_eq_false h1
  omega
theorem outs_tot {t : Tx} (h : mayTx t = true) : worthF (·.v) t.outs = tot (·.v) t.outs ∧ 0 ≤ tot (·.v) t.outs ∧ tot (·.v) t.outs ≤ 3298534883328 := by
  have h1 := outs_pos h
  have h3 := (mayTx_lens h).2.2
  refine ⟨worth_tot (fun x hx => by have := h1 x hx; omega) (by omega), tot_pos fun x hx => (h1 x hx).1, ?_⟩
  have := tot_le (f := fun o : Out => o.v) (M := 1099511627776) (l := t.outs) fun x hx => (h1 x hx).2
  omega
theorem zip_tot {id : Ab.Id} : ∀ {outs : List Out} {k : Nat}, tot (·.out.v) ((outs.zipIdx k).map fun x => (⟨⟨id, (x.2 : Int)⟩, x.1⟩ : Coin)) = tot (·.v) outs
  | [], _ => rfl
  | o :: outs, k => by rw [List.zipIdx_cons, List.map_cons, tot, tot, zip_tot]
theorem newN_tot {id : Ab.Id} {outs : List Out} : tot (·.out.v) (newN id outs outs.length) = tot (·.v) outs := by
  unfold newN
  rw [List.take_length]
  exact zip_tot
theorem madeOf_tot {p : List Coin} {t : Tx} (h : (madeOf p t).2 = 0) : tot (·.out.v) (madeOf p t).1 = tot (·.out.v) p + tot (·.v) t.outs ∧ (madeOf p t).1.length = p.length + t.outs.length := by
  unfold madeOf at h ⊢
  split
  · rename_i e; rw [if_pos e] at h; exact absurd h (by decide)
  · refine ⟨?_, ?_⟩
    · rw [tot_perm (sortC_perm _), tot_append, newN_tot]
    · rw [(sortC_perm _).length_eq, List.length_append, newN_len (Nat.le_refl _)]
theorem takeIns_tot : ∀ {ins : List In} {p rest : List Coin} {n m : Int}, takeIns p n ins = some (rest, m) → (∀ c ∈ p, coinOk c = true) → p.length ≤ 48 → 0 ≤ n → n + tot (·.out.v) p ≤ 52776558133248 → m + tot (·.out.v) rest = n + tot (·.out.v) p ∧ n ≤ m ∧ rest.length + ins.length = p.length
  | [], p, rest, n, m, h, _, _, _, _ => by
    rw [takeIns.eq_1] at h
    injection h with h; injection h with h1 h2; subst h1; subst h2; exact ⟨rfl, Int.le_refl _, rfl⟩
  | x :: ins, p, rest, n, m, h, ho, hl, h0, h1 => by
    rw [takeIns.eq_2] at h
    split at h
    · cases h
    · rename_i c hc
      split at h
      · have hd := tot_del (f := fun c : Coin => c.out.v) hc
        have hcm := coins_pos ho c (List.mem_of_getElem? hc)
        have hlt := (List.getElem?_eq_some_iff.1 hc).1
        have hsub : (p.take (placeOf p x) ++ p.drop (placeOf p x + 1)).Sublist p := by
          rw [← List.eraseIdx_eq_take_drop_succ]
          exact List.eraseIdx_sublist _ _
        have hp := tot_pos (f := fun c : Coin => c.out.v) (l := p.take (placeOf p x) ++ p.drop (placeOf p x + 1)) fun y hy => (coins_pos ho y (hsub.subset hy)).1
        have hll : (p.take (placeOf p x) ++ p.drop (placeOf p x + 1)).length + 1 = p.length := by simp; omega
        have e : IntKind.i64.wrap (n + c.out.v) = n + c.out.v := wrap_eq (by omega)
        rw [e] at h
        have := takeIns_tot h (fun y hy => ho y (hsub.subset hy)) (by omega) (by omega) (by omega)
        rw [List.length_cons]
        omega
      · cases h
theorem spendOf_tot {p : List Coin} {t : Tx} (h : mayCoins p = true) : 0 ≤ (spendOf p t).2.1 ∧ tot (·.out.v) (spendOf p t).1 + (spendOf p t).2.1 = tot (·.out.v) p ∧ ((spendOf p t).2.2 ≠ 0 → (spendOf p t).1 = p ∧ (spendOf p t).2.1 = 0) := by
  obtain ⟨h1, h2, h3⟩ := mayCoins_iff.1 h
  have hT := coins_tot h1 h3
  unfold spendOf
  split
  · exact ⟨Int.le_refl _, by simp, fun _ => ⟨rfl, rfl⟩⟩
  · rename_i hn
    have hn := Classical.not_not.1 hn
    split
    · exact ⟨Int.le_refl _, by simp, fun _ => ⟨rfl, rfl⟩⟩
    · rename_i rest n hrest
      have ht := takeIns_tot hrest h1 h3 (Int.le_refl _) (by omega)
      have ho := outs_tot hn.2.1
      have hsub := takeIns_good hrest
      have hr := tot_pos (f := fun c : Coin => c.out.v) (l := rest) fun c hc => (coins_pos h1 c (hsub.subset hc)).1
      split
      · exact ⟨Int.le_refl _, by simp, fun _ => ⟨rfl, rfl⟩⟩
      · rename_i hw
        rw [ho.1] at hw ⊢
        have e : IntKind.i64.wrap (n - tot (·.v) t.outs) = n - tot (·.v) t.outs := wrap_eq (by omega)
        rw [e] at hw ⊢
        split
        · rename_i hm
          have hmt := (madeOf_tot hm).1
          split
          · exact ⟨Int.le_refl _, by simp, fun _ => ⟨rfl, rfl⟩⟩
          · exact ⟨by simp only []; omega, by simp only []; omega, fun h => absurd rfl h⟩
        · exact ⟨Int.le_refl _, by simp, fun _ => ⟨rfl, rfl⟩⟩
theorem runTxs_tot : ∀ {l : List Tx} {p out : List Coin} {r r' : Int}, runTxs p r l = .inr (out, r') → mayCoins p = true → 0 ≤ r → tot (·.out.v) p + r ≤ 52776558133398 → mayCoins out = true ∧ r ≤ r' ∧ tot (·.out.v) out + r' = tot (·.out.v) p + r
  | [], p, out, r, r', h, hp, _, _ => by
    rw [runTxs.eq_1] at h
    injection h with h; injection h with h1 h2; subst h1; subst h2; exact ⟨hp, Int.le_refl _, rfl⟩
  | t :: l, p, out, r, r', h, hp, h0, h1 => by
    rw [runTxs.eq_2] at h
    split at h
    · have hs := spendOf_tot (t := t) hp
      have hm := spendOf_may (t := t) hp
      have hT := coins_tot (mayCoins_iff.1 hm).1 (mayCoins_iff.1 hm).2.2
      have e : IntKind.i64.wrap (r + (spendOf p t).2.1) = r + (spendOf p t).2.1 := wrap_eq (by omega)
      rw [e] at h
      have := runTxs_tot h hm (by omega) (by omega)
      exact ⟨this.1, by omega, by omega⟩
    · cases h
theorem applyOf_tot {p : List Coin} {l : List Tx} (h : mayCoins p = true) : mayCoins (applyOf p l).1 = true ∧ tot (·.out.v) (applyOf p l).1 ≤ tot (·.out.v) p + 50 ∧ ((applyOf p l).2 ≠ 0 → (applyOf p l).1 = p) := by
  have hT := coins_tot (mayCoins_iff.1 h).1 (mayCoins_iff.1 h).2.2
  have same : ∀ e : Int, mayCoins p = true ∧ tot (·.out.v) p ≤ tot (·.out.v) p + 50 ∧ (e ≠ 0 → p = p) := fun _ => ⟨h, by omega, fun _ => rfl⟩
  unfold applyOf
  rw [if_neg (Classical.not_not.2 h)]
  split
  · exact same _
  · split
    · exact same _
    · rename_i out room hr
      have hrt := runTxs_tot hr h (by decide) (by omega)
      split
      · exact ⟨hrt.1, by simp only []; omega, fun h => absurd rfl h⟩
      · rename_i t _
        split
        · exact same _
        · rename_i hmt
          have hmt := Classical.not_not.1 hmt
          have ho := outs_tot hmt
          split
          · exact same _
          · rename_i hm
            have hm := Classical.not_not.1 hm
            split
            · exact same _
            · rename_i hw
              rw [ho.1] at hw
              split
              · exact same _
              · rename_i hl
                have hg := madeOf_good (p := out) (mayCoins_iff.1 hrt.1).1 (mayCoins_iff.1 hrt.1).2.1 hmt
                have hmt := (madeOf_tot hm).1
                exact ⟨mayCoins_iff.2 ⟨hg.1, hg.2, Nat.le_of_not_lt hl⟩, by simp only []; omega, fun h => absurd rfl h⟩
end Go.Proofs.YtgoebfjaaklopaaGreat
set_option maxRecDepth 20000
namespace Go.Proofs.YtgoebfjaaklopaaGreat
set_option linter.unusedVariables false
set_option linter.unusedSimpArgs false
open Go.Ab Go.RowKit
def leafH (h : Head) : Total := leafT (headId h) (headWork h)
def linksT (t : Tip) : List Ab.Id := linkNext t.b.l (headId t.b.h) (headLevel t.b.h)
def nextH (t : Tip) (l : List Tx) (nonce : UInt64) : Head := ⟨IntKind.i64.wrap (t.b.h.height + 1), headId t.b.h, linkRoot (linksT t), txRoot l, (mmrRoot t.p).h, (mmrRoot t.p).w, t.b.h.bits, nonce⟩
def firstH (bits : UInt32) : Head := ⟨0, zId, linkRoot [], txRoot [], (mmrRoot []).h, zWide, bits, 0⟩
def firstTip (bits : UInt32) : Tip := if tgtOk bits = true then ⟨⟨firstH bits, [], []⟩, mmrAppend [] (leafH (firstH bits)), []⟩ else zTip
def behindH (h : Head) : Head := { zHead with height := h.height, prev := h.prev, bits := h.bits }
theorem linkNext_len {l : List Ab.Id} {id : Ab.Id} {level : Int} : (linkNext l id level).length ≤ 64 := by
  unfold linkNext
  split
  · simp
  · split
    · simp
    · split
      · omega
      · simp; omega
def smallTx (t : Tx) : Prop := t.ins.length * 40 ≤ 140737488351232 ∧ t.outs.length * 16 ≤ 140737488351232
def smallL (l : List Tx) : Prop := l.length * 48 ≤ 140737488351232 ∧ ∀ t ∈ l, smallTx t
def smallB (b : Block) : Prop := b.l.length * 32 ≤ 140737488351232 ∧ smallL b.t
def smallTip (t : Tip) : Prop := smallB t.b ∧ t.p.length ≤ 1000 ∧ t.c.length ≤ 1000
theorem set_same {α : Type} {l : List α} {k : Nat} {x : α} (h : l[k]? = some x) : l.set k x = l := by
  obtain ⟨hk, rfl⟩ := List.getElem?_eq_some_iff.1 h
  exact List.set_getElem_self hk
theorem leafH_ok (h : Head) : Tells P 99 [.val headT h] (.val totalT (leafH h)) := by
 refine fn_of_aw Tryz.func99 rfl rfl rfl (fun ext w hext => ?_)
 refine CQR ?_; refine aw_box rfl rfl rfl rfl rfl ?_; refine aw_alloc ze_148 rfl rfl rfl rfl ?_; refine CNQ ?_; refine aw_drawx [some 1, some 1, some 1, some 1, some 1, none] mixed (by decide +kernel) ?_; refine X0 (oLs rfl rfl rfl ty_33) ?_
 refine X0 (oCl (headId_ok _) rfl fn_33 ⟨(arg_v rfl), trivial⟩) ?_; refine X0 (oLs rfl rfl rfl ty_33) ?_; refine X0 (oCl (headWork_ok _) rfl fn_31 ⟨(arg_v rfl), trivial⟩) ?_
 refine X0 (oCl (mleaf_ok _ _) rfl fn_142 ⟨(arg_v rfl), (arg_v rfl), trivial⟩) ?_
 refine XK.e (x := .idk) (fun fr' hfr kk H => by exact aw_store_b rfl rfl rfl ((hfr 2 (by decide +kernel)).trans rfl) rfl (Lens.self _) ty_148 ((hfr 7 (by decide +kernel)).trans rfl) (aw_nil H)) ?_; refine XK.nil' ?_
 exact aw_retc1 rfl rfl rfl rfl ty_148 (rfl)
theorem linksT_ok (t : Tip) : Tells P 119 [.val tipT t] (.fresh 27 idT (linksT t)) := by
 refine fn_of_aw Tryz.func119 rfl rfl rfl (fun ext w hext => ?_)
 refine CQR ?_; refine aw_box rfl rfl rfl rfl rfl ?_; refine A0 aL ?_; refine CNQ ?_; refine aw_drawx [some 1, some 1, some 1, some 1, some 1, some 1, some 1, some 1, some 1, some 1, some 1, none, some 1] mixed (by decide +kernel) ?_
 refine X0 (oFp fd_56_0) ?_; refine X0 (oFp fd_37_1) ?_; refine X0 (oLb (L_Tip_b.comp L_Block_l) ty_34) ?_; refine X0 (oFp fd_56_0) ?_; refine X0 (oFp fd_37_0) ?_; refine X0 (oLb (L_Tip_b.comp L_Block_h) ty_33) ?_
 refine X0 (oCl (headId_ok _) rfl fn_33 ⟨(arg_v rfl), trivial⟩) ?_; refine X0 (oFp fd_56_0) ?_; refine X0 (oFp fd_37_0) ?_; refine X0 (oLb (L_Tip_b.comp L_Block_h) ty_33) ?_
 refine X0 (oCl (headLevel_ok _) rfl fn_159 ⟨(arg_v rfl), trivial⟩) ?_
 refine XK.e (fun fr' hfr kk H => by exact aw_callf (linkNext_ok t.b.l (headId t.b.h) (headLevel t.b.h)) rfl fn_158 ⟨(arg_v ((hfr 5 (by decide +kernel)).trans rfl)), (arg_v ((hfr 9 (by decide +kernel)).trans rfl)), (arg_v ((hfr 13 (by decide +kernel)).trans rfl)), trivial⟩ rfl rfl rfl (aw_nil H)) ?_
 refine X0 aO ?_; refine XK.nil' ?_
 exact aw_ret1 rfl rfl (ret_fresh_eq rfl rfl rfl)
theorem nextH_ok (t : Tip) (l : List Tx) (nonce : UInt64) (hl : l.length ≤ 4000000000000) (hp : t.p.length ≤ 1000000) : Tells P 88 [.val tipT t, .val (bsl txT) l, .val u64T nonce] (.val headT (nextH t l nonce)) := by
 have hlk : (linksT t).length ≤ 64 := linkNext_len
 refine fn_of_aw Tryz.func88 rfl rfl rfl (fun ext w hext => ?_)
 refine aw_fact (d := 1) rfl fact_sl (fun hsl1 => ?_)
 refine CQR ?_; refine aw_box rfl rfl rfl rfl rfl ?_; refine aw_alloc ze_33 rfl rfl rfl rfl ?_; refine CNQR ?_; refine A0 (oFp fd_56_1) ?_; refine A0 (oLb L_Tip_p ty_53) ?_
 refine A0 (oCl (mmrRoot_ok t.p hp) rfl fn_102 ⟨(arg_v rfl), trivial⟩) ?_; refine aw_alloc ze_148 rfl rfl rfl rfl ?_; refine aw_store_b rfl rfl rfl rfl rfl (Lens.self _) ty_148 rfl ?_; refine CNQ ?_
 refine aw_drawx [some 1, some 1, some 1, some 1, some 1, some 1, some 1, some 1, some 1, some 1, some 1, some 1, some 1, some 1, some 1, some 1, some 1, some 1, some 1, some 1, some 1, some 1, some 1, some 1, none] mixed (by decide +kernel) ?_
 refine X0 (oFp fd_56_0) ?_; refine X0 (oFp fd_37_0) ?_; refine X0 (oFp fd_33_0) ?_; refine X0 (oLb ((L_Tip_b.comp L_Block_h).comp L_Head_height) ty_3) ?_; refine X0 o_add ?_; refine X0 (oFp fd_56_0) ?_; refine X0 (oFp fd_37_0) ?_
 refine X0 (oLb (L_Tip_b.comp L_Block_h) ty_33) ?_; refine X0 (oCl (headId_ok _) rfl fn_33 ⟨(arg_v rfl), trivial⟩) ?_; refine X0 (oLs rfl rfl rfl ty_56) ?_; refine X0 (oCl (tells_pub (linksT_ok t)) rfl fn_119 ⟨(arg_v rfl), trivial⟩) ?_
 refine X0 (oCl (linkRoot_ok (linksT t) (by omega)) rfl fn_100 ⟨(arg_v rfl), trivial⟩) ?_; refine X0 mV ?_; refine X0 (oCl (txRoot_ok l hl) rfl fn_101 ⟨(arg_v rfl), trivial⟩) ?_; refine X0 (oFp fd_148_0) ?_; refine X0 (oLb L_Total_h ty_27) ?_
 refine X0 (oFp fd_148_1) ?_; refine X0 (oLb L_Total_w ty_30) ?_; refine X0 (oFp fd_56_0) ?_; refine X0 (oFp fd_37_0) ?_; refine X0 (oFp fd_33_6) ?_; refine X0 (oLb ((L_Tip_b.comp L_Block_h).comp L_Head_bits) ty_31) ?_; refine X0 mV ?_
 refine X0 (g_build rfl ze_33 bd_33 (.cons fd_33_0 L_Head_height ty_3 rfl (.cons fd_33_1 L_Head_prev ty_27 rfl (.cons fd_33_2 L_Head_links ty_27 rfl (.cons fd_33_3 L_Head_txs ty_27 rfl (.cons fd_33_4 L_Head_past ty_27 rfl (.cons fd_33_5 L_Head_work ty_30 rfl (.cons fd_33_6 L_Head_bits ty_31 rfl (.cons fd_33_7 L_Head_nonce ty_28 rfl .nil)))))))) rfl) ?_
 refine XK.e (x := .idk) (fun fr' hfr kk H => by exact aw_store_b rfl rfl rfl ((hfr 6 (by decide +kernel)).trans rfl) rfl (Lens.self _) ty_33 ((hfr 34 (by decide +kernel)).trans rfl) (aw_nil H)) ?_; refine XK.nil' ?_
 exact aw_retc1 rfl rfl rfl rfl ty_33 (rfl)
theorem firstTip_ok (bits : UInt32) : Tells P 55 [.val u32T bits] (.tup2 (.val tipT (firstTip bits)) (.val boolT (tgtOk bits))) := by
 refine fn_of_aw Tryz.func55 rfl rfl rfl (fun ext w hext => ?_)
 refine CQR ?_; refine aw_alloc ze_56 rfl rfl rfl rfl ?_; refine A0 aV ?_; refine CNQQR ?_; refine A0 mV ?_; refine A0 (oCl (target_ok _) rfl fn_60 ⟨(arg_v rfl), trivial⟩) ?_; refine A0 mX ?_
 refine A0 (by first | exact g_x20 rfl rfl | exact g_x30 rfl rfl) ?_; refine A0 (by first | exact g_x21 rfl rfl | exact g_x31 rfl rfl) ?_; refine aw_alloc ze_30 rfl rfl rfl rfl ?_
 refine aw_store_b rfl rfl rfl rfl rfl (Lens.self _) ty_30 rfl ?_; refine A0 aV ?_; refine CNQR ?_; refine A0 mV ?_; refine A0 oN ?_; refine CN ?_
 refine aw_ifc (p := ¬ tgtOk bits = true) rfl (by cases tgtOk bits <;> rfl) (fun ht13 => ?_) (fun ht13 => ?_)
 ·
  refine CQR ?_; refine A0 (g_build rfl ze_56 bd_56 .nil rfl) ?_; refine aw_store_b rfl rfl rfl rfl rfl (Lens.self _) ty_56 rfl ?_; refine A0 aV ?_; refine CN ?_
  exact aw_retr2 rfl rfl (rv_cell rfl rfl ty_56 (by unfold firstTip; rw [if_neg ht13])) (rv_tmp (ret_eq rfl (by simpa using ht13)))
 ·
  refine CSQR ?_
  refine A0 (oCl (linkRoot_ok [] (by decide)) rfl fn_100 ⟨(by first | exact arg_same rfl | exact arg_bsl rfl | exact arg_own rfl rfl | exact arg_nil rfl | exact arg_rptr rfl | exact arg_fn rfl rfl | exact arg_lit rfl), trivial⟩) ?_
  refine A0 (oCl (txRoot_ok [] (by decide)) rfl fn_101 ⟨(by first | exact arg_same rfl | exact arg_bsl rfl | exact arg_own rfl rfl | exact arg_nil rfl | exact arg_rptr rfl | exact arg_fn rfl rfl | exact arg_lit rfl), trivial⟩) ?_
  refine A0 (oCl (mmrRoot_ok [] (by decide)) rfl fn_102 ⟨(by first | exact arg_same rfl | exact arg_bsl rfl | exact arg_own rfl rfl | exact arg_nil rfl | exact arg_rptr rfl | exact arg_fn rfl rfl | exact arg_lit rfl), trivial⟩) ?_
  refine A0 (g_field rfl rfl fd_148_0 L_Total_h ty_27) ?_; refine A0 mV ?_
  refine A0 (g_build rfl ze_33 bd_33 (.cons fd_33_2 L_Head_links ty_27 rfl (.cons fd_33_3 L_Head_txs ty_27 rfl (.cons fd_33_4 L_Head_past ty_27 rfl (.cons fd_33_6 L_Head_bits ty_31 rfl .nil)))) rfl) ?_; refine aw_alloc ze_33 rfl rfl rfl rfl ?_
  refine aw_store_b rfl rfl rfl rfl rfl (Lens.self _) ty_33 rfl ?_; refine CNQ ?_; refine aw_drawx [some 1, some 1, some 1, some 1, some 1, some 1, none, some 1] mixed (by decide +kernel) ?_; refine X0 (oLs rfl rfl rfl ty_33) ?_
  refine X0 (g_build rfl ze_37 bd_37 (.cons fd_37_0 L_Block_h ty_33 rfl .nil) rfl) ?_; refine X0 (oLs rfl rfl rfl ty_33) ?_; refine X0 (oCl (leafH_ok (firstH bits)) rfl fn_99 ⟨(arg_v rfl), trivial⟩) ?_
  refine X0 (oCl (tells_pub (mmrAppend_ok [] (leafH (firstH bits)) (by decide))) rfl fn_98 ⟨(by first | exact arg_same rfl | exact arg_bsl rfl | exact arg_own rfl rfl | exact arg_nil rfl | exact arg_rptr rfl | exact arg_fn rfl rfl | exact arg_lit rfl), (arg_v rfl), trivial⟩) ?_
  refine X0 (g_build rfl ze_56 bd_56 (.cons fd_56_0 L_Tip_b ty_37 rfl (.cons fd_56_1 L_Tip_p ty_53 rfl .nil)) rfl) ?_
  refine XK.e (x := .idk) (fun fr' hfr kk H => by exact aw_store_b rfl rfl rfl ((hfr 2 (by decide +kernel)).trans rfl) rfl (Lens.self _) ty_56 ((hfr 26 (by decide +kernel)).trans rfl) (aw_nil H)) ?_; refine X0 aV ?_; refine XK.nil' ?_
  exact aw_retr2 rfl rfl (rv_cell rfl rfl ty_56 (by unfold firstTip; rw [if_pos (Classical.not_not.1 ht13)]; rfl)) (rv_tmp (ret_eq rfl ((Classical.not_not.1 ht13).symm)))
theorem behindH_ok (h : Head) : Tells P 136 [.val headT h] (.val headT (behindH h)) := by
 refine fn_of_aw Tryz.func136 rfl rfl rfl (fun ext w hext => ?_)
 refine CQR ?_; refine aw_box rfl rfl rfl rfl rfl ?_; refine aw_alloc ze_33 rfl rfl rfl rfl ?_; refine CNQR ?_; refine A0 (oFp fd_33_0) ?_; refine A0 (oLb L_Head_height ty_3) ?_; refine A0 (oFp fd_33_1) ?_; refine A0 (oLb L_Head_prev ty_27) ?_
 refine A0 (oFp fd_33_6) ?_; refine A0 (oLb L_Head_bits ty_31) ?_; refine A0 (g_build rfl ze_33 bd_33 (.cons fd_33_0 L_Head_height ty_3 rfl (.cons fd_33_1 L_Head_prev ty_27 rfl (.cons fd_33_6 L_Head_bits ty_31 rfl .nil))) rfl) ?_
 refine aw_store_b rfl rfl rfl rfl rfl (Lens.self _) ty_33 rfl ?_; refine CN ?_
 exact aw_retc1 rfl rfl rfl rfl ty_33 (rfl)
theorem txs_ok (l : List Tx) (hl : smallL l) : Tells P 120 [.val (bsl txT) l] (.fresh 112 txT l) := by
 obtain ⟨hl1, hl2⟩ := hl
 refine fn_of_aw Tryz.func120 rfl rfl rfl (fun ext w hext => ?_)
 refine aw_fact (d := 0) rfl fact_sl (fun hsl0 => ?_)
 refine CQR ?_; refine A0 aL ?_; refine CNQR ?_; refine A0 mV ?_; refine aw_callf (cloneTx l (by constructor <;> omega)) rfl fn_74 ⟨(arg_v rfl), trivial⟩ rfl rfl rfl ?_; refine A0 aO ?_; refine CNQQR ?_; refine A0 mO ?_
 refine A0 (g_len_o rfl rfl rfl isl_35) ?_; refine A0 mV ?_; refine CNB ?_
 refine Lp (ι := Nat) 1 (fun (k : Nat) => ((((Fr.none).set 3 (.own 0)).set 8 (.own 0)).set 9 (.val i64T (l.length : Int))).set 10 (.val i64T (k : Int))) (fun (k : Nat) => (Hp.none).set 0 (.row 112 txT l)) (fun (k : Nat) => k ≤ l.length) (fun (k : Nat) => l.length - k) (0) (Nat.zero_le _) ?_
 intro k hinv
 refine CQR ?_; refine A0 o_lss ?_; refine CNQ ?_
 refine Cf (p := k < l.length) (fun ht11 => ?_) (fun ht11 => ?_)
 ·
  obtain ⟨x, hx⟩ : ∃ x, l[k]? = some x := ⟨_, List.getElem?_eq_getElem ht11⟩
  have hxm := List.mem_of_getElem? hx
  refine CSQBQR ?_; refine A0 mV ?_; refine A0 (g_ia_o (i := k) rfl rfl rfl rfl (by first | omega | rfl) sl_35 (by first | assumption | omega | (simp; omega))) ?_; refine A0 (g_load_e rfl rfl rfl rfl (by assumption) (Lens.self _) ty_112) ?_
  refine aw_alloc ze_112 rfl rfl rfl rfl ?_; refine A0 aV ?_; refine aw_store_b rfl rfl rfl rfl rfl (Lens.self _) ty_112 rfl ?_; refine CN ?_
  refine aw_drawx [some 1, some 1, some 1, some 1, some 1, some 1, some 1, some 1, some 1, some 1, none] mixed (by decide +kernel) ?_; refine X0 mO ?_; refine X0 mV ?_; refine X0 (oFp fd_112_0) ?_; refine X0 (oLb L_Tx_ins ty_109) ?_
  refine X0 (oCl (tells_pub (cloneIn x.ins (by have := hl2 x hxm; unfold smallTx at this; constructor <;> omega))) rfl fn_75 ⟨(arg_v rfl), trivial⟩) ?_; refine X0 (oFp fd_112_1) ?_; refine X0 (oLb L_Tx_outs ty_110) ?_
  refine X0 (oCl (tells_pub (cloneOut x.outs (by have := hl2 x hxm; unfold smallTx at this; constructor <;> omega))) rfl fn_76 ⟨(arg_v rfl), trivial⟩) ?_
  refine X0 (g_build rfl ze_112 bd_112 (.cons fd_112_0 L_Tx_ins ty_109 rfl (.cons fd_112_1 L_Tx_outs ty_110 rfl .nil)) rfl) ?_
  refine X0 (g_ia_o (i := k) rfl rfl rfl rfl (by first | omega | rfl) sl_35 (by first | assumption | omega | (simp; omega))) ?_
  refine XK.e (x := .idk) (fun fr' hfr kk H => by exact aw_store_e rfl rfl rfl ((hfr 24 (by decide +kernel)).trans rfl) rfl rfl (by assumption) (Lens.self _) ty_112 ((hfr 23 (by decide +kernel)).trans rfl) (aw_nil H)) ?_; refine XK.nil' ?_
  refine CI ?_; refine CR ?_; refine A0 o_add ?_; refine A0 mV ?_; refine CN ?_; refine aw_rerow (n := 0) (y := l) rfl (by rw [show (⟨x.ins, x.outs⟩ : Tx) = x from rfl]; exact set_same hx) ?_
  exact Nx (k + 1) (by omega) (by omega)
 ·
  refine CE ?_; refine CQR ?_; refine A0 mO ?_; refine A0 aO ?_; refine CN ?_
  exact aw_ret1 rfl rfl (ret_fresh_eq rfl rfl rfl)
theorem copied_ok (b : Block) (hb : smallB b) : Tells P 97 [.val blockT b] (.val blockT b) := by
 obtain ⟨hb1, hb2⟩ := hb
 refine fn_of_aw Tryz.func97 rfl rfl rfl (fun ext w hext => ?_)
 refine CQR ?_; refine aw_box rfl rfl rfl rfl rfl ?_; refine aw_alloc ze_37 rfl rfl rfl rfl ?_; refine CNQR ?_; refine A0 (oFp fd_37_1) ?_; refine A0 (oLb L_Block_l ty_34) ?_
 refine A0 (oCl (tells_pub (cloneId b.l (by constructor <;> omega))) rfl fn_73 ⟨(arg_v rfl), trivial⟩) ?_; refine A0 (oFp fd_37_1) ?_; refine aw_store_b rfl rfl rfl rfl rfl L_Block_l ty_34 rfl ?_; refine CNQR ?_; refine A0 (oFp fd_37_2) ?_
 refine A0 (oLb L_Block_t ty_35) ?_; refine A0 (oCl (tells_pub (txs_ok b.t hb2)) rfl fn_120 ⟨(arg_v rfl), trivial⟩) ?_; refine A0 (oFp fd_37_2) ?_; refine aw_store_b rfl rfl rfl rfl rfl L_Block_t ty_35 rfl ?_; refine CNQR ?_
 refine A0 (oLs rfl rfl rfl ty_37) ?_; refine aw_store_b rfl rfl rfl rfl rfl (Lens.self _) ty_37 rfl ?_; refine CN ?_
 exact aw_retc1 rfl rfl rfl rfl ty_37 (rfl)
theorem own_ok (t : Tip) (ht : smallTip t) : Tells P 96 [.val tipT t] (.val tipT t) := by
 obtain ⟨ht1, ht2, ht3⟩ := ht
 refine fn_of_aw Tryz.func96 rfl rfl rfl (fun ext w hext => ?_)
 refine CQR ?_; refine aw_box rfl rfl rfl rfl rfl ?_; refine aw_alloc ze_56 rfl rfl rfl rfl ?_; refine CNQ ?_
 refine aw_drawx [some 1, some 1, some 1, some 1, some 1, some 1, some 1, some 1, some 1, some 1, none, some 1, none, some 1, none] mixed (by decide +kernel) ?_; refine X0 (oFp fd_56_0) ?_; refine X0 (oLb L_Tip_b ty_37) ?_
 refine X0 (oCl (copied_ok t.b ht1) rfl fn_97 ⟨(arg_v rfl), trivial⟩) ?_; refine X0 (oFp fd_56_1) ?_; refine X0 (oLb L_Tip_p ty_53) ?_
 refine X0 (oCl (tells_pub (cloneTotal t.p (by constructor <;> omega))) rfl fn_139 ⟨(arg_v rfl), trivial⟩) ?_; refine X0 (oFp fd_56_2) ?_; refine X0 (oLb L_Tip_c ty_54) ?_
 refine X0 (oCl (tells_pub (cloneCoin t.c (by constructor <;> omega))) rfl fn_140 ⟨(arg_v rfl), trivial⟩) ?_; refine X0 (oFp fd_56_0) ?_
 refine XK.e (x := .idk) (fun fr' hfr kk H => by exact aw_store_b rfl rfl rfl ((hfr 12 (by decide +kernel)).trans rfl) rfl L_Tip_b ty_37 ((hfr 5 (by decide +kernel)).trans rfl) (aw_nil H)) ?_; refine X0 (oFp fd_56_1) ?_
 refine XK.e (x := .idk) (fun fr' hfr kk H => by exact aw_store_b rfl rfl rfl ((hfr 13 (by decide +kernel)).trans rfl) rfl L_Tip_p ty_53 ((hfr 8 (by decide +kernel)).trans rfl) (aw_nil H)) ?_; refine X0 (oFp fd_56_2) ?_
 refine XK.e (x := .idk) (fun fr' hfr kk H => by exact aw_store_b rfl rfl rfl ((hfr 14 (by decide +kernel)).trans rfl) rfl L_Tip_c ty_54 ((hfr 11 (by decide +kernel)).trans rfl) (aw_nil H)) ?_; refine XK.nil' ?_; refine CQR ?_
 refine A0 (oLs rfl rfl rfl ty_56) ?_; refine aw_store_b rfl rfl rfl rfl rfl (Lens.self _) ty_56 rfl ?_; refine CN ?_
 exact aw_retc1 rfl rfl rfl rfl ty_56 (rfl)
theorem sameB_ok (a b : Block) : Tells P 56 [.val blockT a, .val blockT b] (.val boolT (decide (a = b))) := by
 refine fn_of_aw Tryz.func56 rfl rfl rfl (fun ext w hext => ?_)
 refine CQR ?_; refine aw_box rfl rfl rfl rfl rfl ?_; refine aw_box rfl rfl rfl rfl rfl ?_; refine A0 aV ?_; refine CNQR ?_; refine A0 (oFp fd_37_0) ?_; refine A0 (oLb L_Block_h ty_33) ?_; refine A0 (oFp fd_37_0) ?_
 refine A0 (oLb L_Block_h ty_33) ?_; refine A0 (g_eqlS rfl rfl rfl (eqt_33)) ?_
 refine Sp (d := 9) (p := a.h = b.h) (fun g9 => ?_) (fun g9 => ?_)
 ·
  refine A0 mV ?_; refine A1 (oFp fd_37_1) ?_; refine A1 (oLb L_Block_l ty_34) ?_; refine A1 (oFp fd_37_1) ?_; refine A1 (oLb L_Block_l ty_34) ?_; refine A1 (oCl (equalId _ _) rfl fn_103 ⟨(arg_v rfl), (arg_v rfl), trivial⟩) ?_
  refine Sp (d := 15) (p := a.l = b.l) (fun g15 => ?_) (fun g15 => ?_)
  ·
   refine A0 oK ?_; refine A0 mV ?_; refine A1 (oFp fd_37_2) ?_; refine A1 (oLb L_Block_t ty_35) ?_; refine A1 (oFp fd_37_2) ?_; refine A1 (oLb L_Block_t ty_35) ?_
   refine A1 (oCl (equalFTx _ _) rfl fn_104 ⟨(arg_v rfl), (arg_v rfl), (by first | exact arg_fn1 (Cs := []) rfl fn_105 (by intro n hn; cases hn) trivial rfl (fun x => coinSame_ok x y) | exact arg_fn2 (Cs := []) rfl fn_105 (by intro n hn; cases hn) trivial rfl (fun x y => coinSame_ok x y) | exact arg_clo rfl), trivial⟩) ?_
   refine A0 oK ?_; refine A0 aV ?_; refine CN ?_
   exact aw_ret1 rfl rfl (ret_eq rfl (by rw [decide_eq_decide]; exact ⟨fun h => by cases a; cases b; simp_all, fun h => by rw [h]⟩))
  ·
   refine A0 oK ?_; refine A0 mV ?_; refine A2 ?_; refine A2 ?_; refine A2 ?_; refine A2 ?_; refine A2 ?_; refine A0 oK ?_; refine A0 aV ?_; refine CN ?_
   exact aw_ret1 rfl rfl (ret_eq rfl (by symm; apply decide_eq_false; intro h; exact g15 (by rw [h])))
 ·
  refine A0 mV ?_; refine A2 ?_; refine A2 ?_; refine A2 ?_; refine A2 ?_; refine A2 ?_; refine A0 oK ?_; refine A0 mV ?_; refine A2 ?_; refine A2 ?_; refine A2 ?_; refine A2 ?_; refine A2 ?_; refine A0 oK ?_; refine A0 aV ?_; refine CN ?_
  exact aw_ret1 rfl rfl (ret_eq rfl (by symm; apply decide_eq_false; intro h; exact g9 (by rw [h])))
end Go.Proofs.YtgoebfjaaklopaaGreat
set_option maxRecDepth 20000
namespace Go.Proofs.YtgoebfjaaklopaaGreat
set_option linter.unusedVariables false
set_option linter.unusedSimpArgs false
open Go.Ab Go.RowKit
def smallTrial (x : Trial) : Prop := smallTip x.t ∧ x.b.t.length ≤ 4000000000000
def sizeE (x : Trial) : Int := if 48 ≤ x.b.h.height then 3 else 0
def prevE (x : Trial) : Int := if ¬ behindH x.b.h = behindH x.want then 5 else 0
def linkE (x : Trial) : Int := if ¬ x.b.h.links = x.want.links ∨ ¬ x.b.l = linksT x.t then 6 else 0
def rootE (x : Trial) : Int := if ¬ x.b.h = x.want then 7 else 0
def workE (x : Trial) : Int := if ¬ headMay x.b.h = true then 4 else 0
def coinsE (x : Trial) : Int := (applyOf x.t.c x.b.t).2
def coinsX (x : Trial) : Trial := { x with c := (applyOf x.t.c x.b.t).1 }
def askOf (f : Option Nat) (x : Trial) : Int := if f = some 89 then sizeE x else if f = some 90 then prevE x else if f = some 91 then linkE x else if f = some 92 then rootE x else if f = some 93 then workE x else coinsE x
def askX (f : Option Nat) (x : Trial) : Trial := if f = some 94 then coinsX x else x
def firstE : List (Option Nat) → Trial → Int
  | [], _ => 0
  | f :: l, x => if askOf f x = 0 then firstE l (askX f x) else askOf f x
def firstX : List (Option Nat) → Trial → Trial
  | [], x => x
  | f :: l, x => if askOf f x = 0 then firstX l (askX f x) else askX f x
def Asks (f : Option Nat) : Prop := f = some 89 ∨ f = some 90 ∨ f = some 91 ∨ f = some 92 ∨ f = some 93 ∨ f = some 94
theorem first_step {l : List (Option Nat)} {k : Nat} {f : Option Nat} {x : Trial} (h : l[k]? = some f) (h0 : askOf f x = 0) : firstE (l.drop k) x = firstE (l.drop (k + 1)) (askX f x) ∧ firstX (l.drop k) x = firstX (l.drop (k + 1)) (askX f x) := by
  obtain ⟨hk, rfl⟩ := List.getElem?_eq_some_iff.1 h
  rw [List.drop_eq_getElem_cons hk, firstE, firstX, if_pos h0, if_pos h0]
  exact ⟨rfl, rfl⟩
theorem first_stop {l : List (Option Nat)} {k : Nat} {f : Option Nat} {x : Trial} (h : l[k]? = some f) (h0 : ¬ askOf f x = 0) : firstE (l.drop k) x = askOf f x ∧ firstX (l.drop k) x = askX f x := by
  obtain ⟨hk, rfl⟩ := List.getElem?_eq_some_iff.1 h
  rw [List.drop_eq_getElem_cons hk, firstE, firstX, if_neg h0, if_neg h0]
  exact ⟨rfl, rfl⟩
theorem first_end {l : List (Option Nat)} {k : Nat} {x : Trial} (h : l.length ≤ k) : firstE (l.drop k) x = 0 ∧ firstX (l.drop k) x = x := by
  rw [List.drop_of_length_le h]; exact ⟨rfl, rfl⟩
theorem smallTrial_ask {f : Option Nat} {x : Trial} (h : smallTrial x) : smallTrial (askX f x) := by unfold askX; split <;> exact h
theorem ask_size (x : Trial) : Tells P 89 [.rptr trialT x] (.val i64T (sizeE x)) := by
 refine fn_of_aw Tryz.func89 rfl rfl rfl (fun ext w hext => ?_)
 refine CQR ?_; refine A0 aV ?_; refine CNQQR ?_; refine A0 mR ?_; refine A0 (g_nc_r rfl rfl) ?_; refine A0 (oFr fd_139_1 L_Trial_b) ?_; refine A0 (oFr fd_37_0 L_Block_h) ?_; refine A0 (oFr fd_33_0 L_Head_height) ?_
 refine A0 (g_load_r rfl rfl ty_3) ?_; refine A0 o_geq ?_; refine CN ?_
 refine Cf (p := 48 ≤ x.b.h.height) (fun ht9 => ?_) (fun ht9 => ?_)
 ·
  refine CQR ?_; refine A0 aV ?_; refine CN ?_
  exact aw_ret1 rfl rfl (ret_eq rfl (by unfold sizeE; rw [if_pos (ht9)]))
 ·
  refine CSQR ?_; refine A0 aV ?_; refine CN ?_
  exact aw_ret1 rfl rfl (ret_eq rfl (by unfold sizeE; rw [if_neg (ht9)]))
theorem ask_prev (x : Trial) : Tells P 90 [.rptr trialT x] (.val i64T (prevE x)) := by
 refine fn_of_aw Tryz.func90 rfl rfl rfl (fun ext w hext => ?_)
 refine CQR ?_; refine A0 aV ?_; refine CNQ ?_; refine CQ ?_; refine CD mixed ?_; refine G0 mR ?_; refine G0 (g_nc_r rfl rfl) ?_; refine G0 (oFr fd_139_1 L_Trial_b) ?_; refine G0 (oFr fd_37_0 L_Block_h) ?_
 refine G0 (g_load_r rfl rfl ty_33) ?_
 refine G0 (oCl (behindH_ok _) rfl fn_136 ⟨(by first | exact arg_same rfl | exact arg_bsl rfl | exact arg_own rfl rfl | exact arg_nil rfl | exact arg_rptr rfl | exact arg_fn rfl rfl | exact arg_lit rfl), trivial⟩) ?_; refine G0 mR ?_
 refine G0 (g_nc_r rfl rfl) ?_; refine G0 (oFr fd_139_2 L_Trial_want) ?_; refine G0 (g_load_r rfl rfl ty_33) ?_
 refine G0 (oCl (behindH_ok _) rfl fn_136 ⟨(by first | exact arg_same rfl | exact arg_bsl rfl | exact arg_own rfl rfl | exact arg_nil rfl | exact arg_rptr rfl | exact arg_fn rfl rfl | exact arg_lit rfl), trivial⟩) ?_
 refine G0 (g_neqS rfl rfl rfl (eqt_33)) ?_; refine GK.nil ?_
 refine aw_ifc (p := ¬ behindH x.b.h = behindH x.want) rfl (by simp) (fun ht14 => ?_) (fun ht14 => ?_)
 ·
  refine CQR ?_; refine A0 aV ?_; refine CN ?_
  exact aw_ret1 rfl rfl (ret_eq rfl (by unfold prevE; rw [if_pos (ht14)]))
 ·
  refine CSQR ?_; refine A0 aV ?_; refine CN ?_
  exact aw_ret1 rfl rfl (ret_eq rfl (by unfold prevE; rw [if_neg (ht14)]))
theorem ask_link (x : Trial) (hx : smallTrial x) : Tells P 91 [.rptr trialT x] (.val i64T (linkE x)) := by
 refine fn_of_aw Tryz.func91 rfl rfl rfl (fun ext w hext => ?_)
 refine CQR ?_; refine A0 aV ?_; refine CNQ ?_; refine CQ ?_; refine CD mixed ?_; refine G0 mR ?_; refine G0 (g_nc_r rfl rfl) ?_; refine G0 (oFr fd_139_1 L_Trial_b) ?_; refine G0 (oFr fd_37_0 L_Block_h) ?_
 refine G0 (oFr fd_33_2 L_Head_links) ?_; refine G0 (g_load_r rfl rfl ty_27) ?_; refine G0 mR ?_; refine G0 (g_nc_r rfl rfl) ?_; refine G0 (oFr fd_139_2 L_Trial_want) ?_; refine G0 (oFr fd_33_2 L_Head_links) ?_
 refine G0 (g_load_r rfl rfl ty_27) ?_; refine G0 (g_neqS rfl rfl rfl (eqt_27)) ?_
 refine GK_splitp (d := 14) (p := ¬ x.b.h.links = x.want.links) rfl (by simp) (fun g14 => ?_) (fun g14 => ?_)
 ·
  refine G0 mV ?_; refine G2 ?_; refine G2 ?_; refine G2 ?_; refine G2 ?_; refine G2 ?_; refine G2 ?_; refine G2 ?_; refine G2 ?_; refine G2 ?_; refine G2 ?_; refine G2 ?_; refine G2 ?_; refine G0 oK ?_; refine GK.nil ?_; refine Ct ?_
  refine CQR ?_; refine A0 aV ?_; refine CN ?_
  exact aw_ret1 rfl rfl (ret_eq rfl (by unfold linkE; rw [if_pos (.inl g14)]))
 ·
  refine G0 mV ?_; refine G1 mR ?_; refine G1 (g_nc_r rfl rfl) ?_; refine G1 (oFr fd_139_1 L_Trial_b) ?_; refine G1 (oFr fd_37_1 L_Block_l) ?_; refine G1 (g_load_r rfl rfl ty_34) ?_; refine G1 mR ?_; refine G1 (g_nc_r rfl rfl) ?_
  refine G1 (oFr fd_139_0 L_Trial_t) ?_; refine G1 (g_load_r rfl rfl ty_56) ?_
  refine G1 (oCl (tells_pub (linksT_ok x.t)) rfl fn_119 ⟨(by first | exact arg_same rfl | exact arg_bsl rfl | exact arg_own rfl rfl | exact arg_nil rfl | exact arg_rptr rfl | exact arg_fn rfl rfl | exact arg_lit rfl), trivial⟩) ?_
  refine G1 (oCl (equalId _ _) rfl fn_103 ⟨(by first | exact arg_same rfl | exact arg_bsl rfl | exact arg_own rfl rfl | exact arg_nil rfl | exact arg_rptr rfl | exact arg_fn rfl rfl | exact arg_lit rfl), (arg_v rfl), trivial⟩) ?_
  refine G1 oN ?_; refine G0 oK ?_; refine GK.nil ?_
  refine aw_ifc (p := ¬ x.b.l = linksT x.t) rfl (by simp) (fun ht28 => ?_) (fun ht28 => ?_)
  ·
   refine CQR ?_; refine A0 aV ?_; refine CN ?_
   exact aw_ret1 rfl rfl (ret_eq rfl (by unfold linkE; rw [if_pos (.inr ht28)]))
  ·
   refine CSQR ?_; refine A0 aV ?_; refine CN ?_
   exact aw_ret1 rfl rfl (ret_eq rfl (by unfold linkE; rw [if_neg (fun h => h.elim g14 ht28)]))
theorem ask_root (x : Trial) : Tells P 92 [.rptr trialT x] (.val i64T (rootE x)) := by
 refine fn_of_aw Tryz.func92 rfl rfl rfl (fun ext w hext => ?_)
 refine CQR ?_; refine A0 aV ?_; refine CNQ ?_; refine CQ ?_; refine CD mixed ?_; refine G0 mR ?_; refine G0 (g_nc_r rfl rfl) ?_; refine G0 (oFr fd_139_1 L_Trial_b) ?_; refine G0 (oFr fd_37_0 L_Block_h) ?_
 refine G0 (g_load_r rfl rfl ty_33) ?_; refine G0 mR ?_; refine G0 (g_nc_r rfl rfl) ?_; refine G0 (oFr fd_139_2 L_Trial_want) ?_; refine G0 (g_load_r rfl rfl ty_33) ?_; refine G0 (g_neqS rfl rfl rfl (eqt_33)) ?_; refine GK.nil ?_
 refine aw_ifc (p := ¬ x.b.h = x.want) rfl (by simp) (fun ht12 => ?_) (fun ht12 => ?_)
 ·
  refine CQR ?_; refine A0 aV ?_; refine CN ?_
  exact aw_ret1 rfl rfl (ret_eq rfl (by unfold rootE; rw [if_pos (ht12)]))
 ·
  refine CSQR ?_; refine A0 aV ?_; refine CN ?_
  exact aw_ret1 rfl rfl (ret_eq rfl (by unfold rootE; rw [if_neg (ht12)]))
theorem ask_work (x : Trial) : Tells P 93 [.rptr trialT x] (.val i64T (workE x)) := by
 refine fn_of_aw Tryz.func93 rfl rfl rfl (fun ext w hext => ?_)
 refine CQR ?_; refine A0 aV ?_; refine CNQQR ?_; refine A0 mR ?_; refine A0 (g_nc_r rfl rfl) ?_; refine A0 (oFr fd_139_1 L_Trial_b) ?_; refine A0 (oFr fd_37_0 L_Block_h) ?_; refine A0 (g_load_r rfl rfl ty_33) ?_
 refine A0 (oCl (headMay_ok _) rfl fn_137 ⟨(by first | exact arg_same rfl | exact arg_bsl rfl | exact arg_own rfl rfl | exact arg_nil rfl | exact arg_rptr rfl | exact arg_fn rfl rfl | exact arg_lit rfl), trivial⟩) ?_; refine A0 oN ?_
 refine CN ?_
 refine aw_ifc (p := ¬ headMay x.b.h = true) rfl (by simp) (fun ht9 => ?_) (fun ht9 => ?_)
 ·
  refine CQR ?_; refine A0 aV ?_; refine CN ?_
  exact aw_ret1 rfl rfl (ret_eq rfl (by unfold workE; rw [if_pos (ht9)]))
 ·
  refine CSQR ?_; refine A0 aV ?_; refine CN ?_
  exact aw_ret1 rfl rfl (ret_eq rfl (by unfold workE; rw [if_neg (ht9)]))
theorem ask_coins (x : Trial) (hx : smallTrial x) : TellsM P 94 (.box 139 trialT x) [.ptr 0 0] (.val i64T (coinsE x)) (.box 139 trialT (coinsX x)) := by
 refine fnm_of_aw trivial Tryz.func94 rfl rfl ⟨Nat.one_pos, trivial⟩ (fun ext pg w hext hgr => ?_)
 refine CQR ?_; refine A0 aV ?_; refine CNQ ?_; refine CD mixed ?_; refine G0 mP ?_; refine G0 (g_nc rfl rfl) ?_; refine G0 (oFp fd_139_0) ?_; refine G0 (oFp fd_56_2) ?_; refine G0 (oLb (L_Trial_t.comp L_Tip_c) ty_54) ?_; refine G0 mP ?_
 refine G0 (g_nc rfl rfl) ?_; refine G0 (oFp fd_139_1) ?_; refine G0 (oFp fd_37_2) ?_; refine G0 (oLb (L_Trial_b.comp L_Block_t) ty_35) ?_
 refine G0 (oCl (tells_pub2 (apply_ok x.t.c x.b.t (by have := hx.1.2.2; omega))) rfl fn_138 ⟨(arg_v rfl), (arg_v rfl), trivial⟩) ?_; refine G0 mX ?_; refine G0 (by first | exact g_x20 rfl rfl | exact g_x30 rfl rfl) ?_
 refine G0 (by first | exact g_x21 rfl rfl | exact g_x31 rfl rfl) ?_; refine G0 aV ?_; refine G0 aV ?_; refine GK.nil ?_; refine CQR ?_; refine A0 mP ?_; refine A0 mV ?_; refine A0 (g_nc rfl rfl) ?_; refine A0 (oFp fd_139_3) ?_
 refine aw_store_b rfl rfl rfl rfl rfl L_Trial_c ty_54 rfl ?_; refine CNQR ?_; refine A0 mV ?_; refine A0 aV ?_; refine CN ?_
 exact aw_retm1 rfl rfl rfl rfl rfl (give_box rfl rfl) (retm_eq (give_box (x := coinsX x) rfl rfl) rfl rfl)
theorem first_ok (x0 : Trial) (l : List (Option Nat)) (hx0 : smallTrial x0) (hl : ∀ f ∈ l, Asks f) : TellsM P 95 (.box 139 trialT x0) [.ptr 0 0, .val (bsl fnoT) l] (.val i64T (firstE l x0)) (.box 139 trialT (firstX l x0)) := by
 refine fnm_of_aw trivial Tryz.func95 rfl rfl ⟨Nat.one_pos, ⟨trivial, trivial⟩⟩ (fun ext pg w hext hgr => ?_)
 refine aw_fact (d := 1) rfl fact_sl (fun hsl1 => ?_)
 refine CQR ?_; refine A0 aV ?_; refine CNQQR ?_; refine A0 mV ?_; refine A0 (g_len rfl rfl isl_144) ?_; refine A0 mV ?_; refine CNB ?_
 refine Lp (ι := Nat × Trial) 1 (fun (i : Nat × Trial) => match i with | (k, x) => ((((Fr.none).set 0 (.ptr 0 0)).set 8 (.val (bsl fnoT) l)).set 9 (.val i64T (l.length : Int))).set 10 (.val i64T (k : Int))) (fun (i : Nat × Trial) => match i with | (k, x) => (Hp.none).set 0 (.box 139 trialT x)) (fun (i : Nat × Trial) => match i with | (k, x) => k ≤ l.length ∧ smallTrial x ∧ firstE l x0 = firstE (l.drop k) x ∧ firstX l x0 = firstX (l.drop k) x) (fun (i : Nat × Trial) => match i with | (k, x) => l.length - k) ((0, x0)) (⟨Nat.zero_le _, hx0, rfl, rfl⟩) ?_
 intro ⟨k, x⟩ hinv
 dsimp only at hinv
 refine CQR ?_; refine A0 o_lss ?_; refine CNQ ?_
 refine Cf (p := k < l.length) (fun ht11 => ?_) (fun ht11 => ?_)
 ·
  obtain ⟨f, hf⟩ : ∃ f, l[k]? = some f := ⟨_, List.getElem?_eq_getElem ht11⟩
  have hask := hl f (List.mem_of_getElem? hf)
  rcases hask with he | he | he | he | he | he
  ·
   refine CSQBQR ?_; refine A0 (g_ia_n rfl rfl rfl sl_144 (by assumption)) ?_; refine A0 (g_load_r rfl rfl ty_140) ?_; refine A0 aX ?_; refine CNQR ?_; refine A0 mX ?_; refine aw_reval (d := 14) rfl he ?_
   refine aw_fnclo (d := 14) (f := 89) rfl ?_; refine A0 mP ?_
   refine A0 (g_callc (As := [_]) (Cs := []) (ask_size x) rfl rfl fn_89 ⟨(by first | exact arg_ptr rfl rfl (Lens.self _) | exact arg_ptrw rfl rfl), trivial⟩ (by intro n hn; cases hn) trivial rfl) ?_; refine A0 aX ?_; refine CNQR ?_
   refine A0 mX ?_; refine A0 o_neq ?_; refine CN ?_
   refine aw_ifc (p := ¬ askOf f x = 0) rfl (by simp [askOf, he, IntL.toI]) (fun ht18 => ?_) (fun ht18 => ?_)
   ·
    refine CQR ?_; refine A0 mX ?_; refine A0 aX ?_; refine CN ?_; refine aw_reheap (n := 0) (y := askX f x) rfl (by rw [he]; rfl) ?_
    exact aw_retm1 rfl rfl rfl rfl rfl (give_box rfl (hinv.2.2.2.trans (first_stop hf ht18).2).symm) (retm_eq (give_box rfl (hinv.2.2.2.trans (first_stop hf ht18).2).symm) rfl (by rw [hinv.2.2.1, (first_stop hf ht18).1, he]; rfl))
   ·
    refine CSIR ?_; refine A0 o_add ?_; refine A0 mV ?_; refine CN ?_; refine aw_reheap (n := 0) (y := askX f x) rfl (by rw [he]; rfl) ?_
    exact Nx ((k + 1, askX f x)) (⟨by omega, smallTrial_ask hinv.2.1, hinv.2.2.1.trans (first_step hf (Classical.not_not.1 ht18)).1, hinv.2.2.2.trans (first_step hf (Classical.not_not.1 ht18)).2⟩) (by show l.length - (k + 1) < l.length - k; omega)
  ·
   refine CSQBQR ?_; refine A0 (g_ia_n rfl rfl rfl sl_144 (by assumption)) ?_; refine A0 (g_load_r rfl rfl ty_140) ?_; refine A0 aX ?_; refine CNQR ?_; refine A0 mX ?_; refine aw_reval (d := 14) rfl he ?_
   refine aw_fnclo (d := 14) (f := 90) rfl ?_; refine A0 mP ?_
   refine A0 (g_callc (As := [_]) (Cs := []) (ask_prev x) rfl rfl fn_90 ⟨(by first | exact arg_ptr rfl rfl (Lens.self _) | exact arg_ptrw rfl rfl), trivial⟩ (by intro n hn; cases hn) trivial rfl) ?_; refine A0 aX ?_; refine CNQR ?_
   refine A0 mX ?_; refine A0 o_neq ?_; refine CN ?_
   refine aw_ifc (p := ¬ askOf f x = 0) rfl (by simp [askOf, he, IntL.toI]) (fun ht18 => ?_) (fun ht18 => ?_)
   ·
    refine CQR ?_; refine A0 mX ?_; refine A0 aX ?_; refine CN ?_; refine aw_reheap (n := 0) (y := askX f x) rfl (by rw [he]; rfl) ?_
    exact aw_retm1 rfl rfl rfl rfl rfl (give_box rfl (hinv.2.2.2.trans (first_stop hf ht18).2).symm) (retm_eq (give_box rfl (hinv.2.2.2.trans (first_stop hf ht18).2).symm) rfl (by rw [hinv.2.2.1, (first_stop hf ht18).1, he]; rfl))
   ·
    refine CSIR ?_; refine A0 o_add ?_; refine A0 mV ?_; refine CN ?_; refine aw_reheap (n := 0) (y := askX f x) rfl (by rw [he]; rfl) ?_
    exact Nx ((k + 1, askX f x)) (⟨by omega, smallTrial_ask hinv.2.1, hinv.2.2.1.trans (first_step hf (Classical.not_not.1 ht18)).1, hinv.2.2.2.trans (first_step hf (Classical.not_not.1 ht18)).2⟩) (by show l.length - (k + 1) < l.length - k; omega)
  ·
   refine CSQBQR ?_; refine A0 (g_ia_n rfl rfl rfl sl_144 (by assumption)) ?_; refine A0 (g_load_r rfl rfl ty_140) ?_; refine A0 aX ?_; refine CNQR ?_; refine A0 mX ?_; refine aw_reval (d := 14) rfl he ?_
   refine aw_fnclo (d := 14) (f := 91) rfl ?_; refine A0 mP ?_
   refine A0 (g_callc (As := [_]) (Cs := []) (ask_link x hinv.2.1) rfl rfl fn_91 ⟨(by first | exact arg_ptr rfl rfl (Lens.self _) | exact arg_ptrw rfl rfl), trivial⟩ (by intro n hn; cases hn) trivial rfl) ?_; refine A0 aX ?_; refine CNQR ?_
   refine A0 mX ?_; refine A0 o_neq ?_; refine CN ?_
   refine aw_ifc (p := ¬ askOf f x = 0) rfl (by simp [askOf, he, IntL.toI]) (fun ht18 => ?_) (fun ht18 => ?_)
   ·
    refine CQR ?_; refine A0 mX ?_; refine A0 aX ?_; refine CN ?_; refine aw_reheap (n := 0) (y := askX f x) rfl (by rw [he]; rfl) ?_
    exact aw_retm1 rfl rfl rfl rfl rfl (give_box rfl (hinv.2.2.2.trans (first_stop hf ht18).2).symm) (retm_eq (give_box rfl (hinv.2.2.2.trans (first_stop hf ht18).2).symm) rfl (by rw [hinv.2.2.1, (first_stop hf ht18).1, he]; rfl))
   ·
    refine CSIR ?_; refine A0 o_add ?_; refine A0 mV ?_; refine CN ?_; refine aw_reheap (n := 0) (y := askX f x) rfl (by rw [he]; rfl) ?_
    exact Nx ((k + 1, askX f x)) (⟨by omega, smallTrial_ask hinv.2.1, hinv.2.2.1.trans (first_step hf (Classical.not_not.1 ht18)).1, hinv.2.2.2.trans (first_step hf (Classical.not_not.1 ht18)).2⟩) (by show l.length - (k + 1) < l.length - k; omega)
  ·
   refine CSQBQR ?_; refine A0 (g_ia_n rfl rfl rfl sl_144 (by assumption)) ?_; refine A0 (g_load_r rfl rfl ty_140) ?_; refine A0 aX ?_; refine CNQR ?_; refine A0 mX ?_; refine aw_reval (d := 14) rfl he ?_
   refine aw_fnclo (d := 14) (f := 92) rfl ?_; refine A0 mP ?_
   refine A0 (g_callc (As := [_]) (Cs := []) (ask_root x) rfl rfl fn_92 ⟨(by first | exact arg_ptr rfl rfl (Lens.self _) | exact arg_ptrw rfl rfl), trivial⟩ (by intro n hn; cases hn) trivial rfl) ?_; refine A0 aX ?_; refine CNQR ?_
   refine A0 mX ?_; refine A0 o_neq ?_; refine CN ?_
   refine aw_ifc (p := ¬ askOf f x = 0) rfl (by simp [askOf, he, IntL.toI]) (fun ht18 => ?_) (fun ht18 => ?_)
   ·
    refine CQR ?_; refine A0 mX ?_; refine A0 aX ?_; refine CN ?_; refine aw_reheap (n := 0) (y := askX f x) rfl (by rw [he]; rfl) ?_
    exact aw_retm1 rfl rfl rfl rfl rfl (give_box rfl (hinv.2.2.2.trans (first_stop hf ht18).2).symm) (retm_eq (give_box rfl (hinv.2.2.2.trans (first_stop hf ht18).2).symm) rfl (by rw [hinv.2.2.1, (first_stop hf ht18).1, he]; rfl))
   ·
    refine CSIR ?_; refine A0 o_add ?_; refine A0 mV ?_; refine CN ?_; refine aw_reheap (n := 0) (y := askX f x) rfl (by rw [he]; rfl) ?_
    exact Nx ((k + 1, askX f x)) (⟨by omega, smallTrial_ask hinv.2.1, hinv.2.2.1.trans (first_step hf (Classical.not_not.1 ht18)).1, hinv.2.2.2.trans (first_step hf (Classical.not_not.1 ht18)).2⟩) (by show l.length - (k + 1) < l.length - k; omega)
  ·
   refine CSQBQR ?_; refine A0 (g_ia_n rfl rfl rfl sl_144 (by assumption)) ?_; refine A0 (g_load_r rfl rfl ty_140) ?_; refine A0 aX ?_; refine CNQR ?_; refine A0 mX ?_; refine aw_reval (d := 14) rfl he ?_
   refine aw_fnclo (d := 14) (f := 93) rfl ?_; refine A0 mP ?_
   refine A0 (g_callc (As := [_]) (Cs := []) (ask_work x) rfl rfl fn_93 ⟨(by first | exact arg_ptr rfl rfl (Lens.self _) | exact arg_ptrw rfl rfl), trivial⟩ (by intro n hn; cases hn) trivial rfl) ?_; refine A0 aX ?_; refine CNQR ?_
   refine A0 mX ?_; refine A0 o_neq ?_; refine CN ?_
   refine aw_ifc (p := ¬ askOf f x = 0) rfl (by simp [askOf, he, IntL.toI]) (fun ht18 => ?_) (fun ht18 => ?_)
   ·
    refine CQR ?_; refine A0 mX ?_; refine A0 aX ?_; refine CN ?_; refine aw_reheap (n := 0) (y := askX f x) rfl (by rw [he]; rfl) ?_
    exact aw_retm1 rfl rfl rfl rfl rfl (give_box rfl (hinv.2.2.2.trans (first_stop hf ht18).2).symm) (retm_eq (give_box rfl (hinv.2.2.2.trans (first_stop hf ht18).2).symm) rfl (by rw [hinv.2.2.1, (first_stop hf ht18).1, he]; rfl))
   ·
    refine CSIR ?_; refine A0 o_add ?_; refine A0 mV ?_; refine CN ?_; refine aw_reheap (n := 0) (y := askX f x) rfl (by rw [he]; rfl) ?_
    exact Nx ((k + 1, askX f x)) (⟨by omega, smallTrial_ask hinv.2.1, hinv.2.2.1.trans (first_step hf (Classical.not_not.1 ht18)).1, hinv.2.2.2.trans (first_step hf (Classical.not_not.1 ht18)).2⟩) (by show l.length - (k + 1) < l.length - k; omega)
  ·
   refine CSQBQR ?_; refine A0 (g_ia_n rfl rfl rfl sl_144 (by assumption)) ?_; refine A0 (g_load_r rfl rfl ty_140) ?_; refine A0 aX ?_; refine CNQR ?_; refine A0 mX ?_; refine aw_reval (d := 14) rfl he ?_
   refine aw_fnclo (d := 14) (f := 94) rfl ?_; refine A0 mP ?_
   refine aw_calluv (ask_coins x hinv.2.1) rfl rfl fn_94 rfl trivial trivial rfl ⟨(by first | exact argm_own rfl | exact argm_ptr rfl | exact argm_same rfl | exact argm_bsl rfl | exact argm_lit rfl | exact argm_clo rfl | exact argm_row rfl rfl (by decide)), trivial⟩ rfl rfl rfl ?_
   refine A0 aX ?_; refine CNQR ?_; refine A0 mX ?_; refine A0 o_neq ?_; refine CN ?_
   refine aw_ifc (p := ¬ askOf f x = 0) rfl (by simp [askOf, he, IntL.toI]) (fun ht18 => ?_) (fun ht18 => ?_)
   ·
    refine CQR ?_; refine A0 mX ?_; refine A0 aX ?_; refine CN ?_; refine aw_reheap (n := 0) (y := askX f x) rfl (by rw [he]; rfl) ?_
    exact aw_retm1 rfl rfl rfl rfl rfl (give_box rfl (hinv.2.2.2.trans (first_stop hf ht18).2).symm) (retm_eq (give_box rfl (hinv.2.2.2.trans (first_stop hf ht18).2).symm) rfl (by rw [hinv.2.2.1, (first_stop hf ht18).1, he]; rfl))
   ·
    refine CSIR ?_; refine A0 o_add ?_; refine A0 mV ?_; refine CN ?_; refine aw_reheap (n := 0) (y := askX f x) rfl (by rw [he]; rfl) ?_
    exact Nx ((k + 1, askX f x)) (⟨by omega, smallTrial_ask hinv.2.1, hinv.2.2.1.trans (first_step hf (Classical.not_not.1 ht18)).1, hinv.2.2.2.trans (first_step hf (Classical.not_not.1 ht18)).2⟩) (by show l.length - (k + 1) < l.length - k; omega)
 ·
  refine CE ?_; refine CQR ?_; refine A0 aV ?_; refine CN ?_
  exact aw_retm1 rfl rfl rfl rfl rfl (give_box rfl (hinv.2.2.2.trans (first_end (by omega)).2).symm) (retm_eq (give_box rfl (hinv.2.2.2.trans (first_end (by omega)).2).symm) rfl (hinv.2.2.1.trans (first_end (by omega)).1).symm)
end Go.Proofs.YtgoebfjaaklopaaGreat
set_option maxRecDepth 20000
namespace Go.Proofs.YtgoebfjaaklopaaGreat
set_option linter.unusedVariables false
set_option linter.unusedSimpArgs false
open Go.Ab Go.RowKit
def pushE (t : Tip) (b : Block) : Int :=
  if 48 ≤ b.h.height then 3 else if ¬ behindH b.h = behindH (nextH t b.t b.h.nonce) then 5 else
  if ¬ b.h.links = (nextH t b.t b.h.nonce).links ∨ ¬ b.l = linksT t then 6 else if ¬ b.h = nextH t b.t b.h.nonce then 7 else
  if ¬ headMay b.h = true then 4 else (applyOf t.c b.t).2
def pushT (t : Tip) (b : Block) : Tip := if pushE t b = 0 then ⟨b, mmrAppend t.p (leafH b.h), (applyOf t.c b.t).1⟩ else t
def mineBE (t : Tip) (l : List Tx) (nonce : UInt64) (tries : Int) : Int :=
  if 48 ≤ (nextH t l nonce).height then 3 else if ¬ (applyOf t.c l).2 = 0 then (applyOf t.c l).2 else if (mineOf (nextH t l nonce) tries).isSome = true then 0 else 4
def mineB (t : Tip) (l : List Tx) (nonce : UInt64) (tries : Int) : Block :=
  if mineBE t l nonce tries = 0 then ⟨(mineOf (nextH t l nonce) tries).getD (nextH t l nonce), linksT t, l⟩ else zBlock
theorem ask_two {x : Trial} : firstE [some 89, some 94] x = if 48 ≤ x.b.h.height then 3 else (applyOf x.t.c x.b.t).2 := by
  show (if sizeE x = 0 then (if coinsE x = 0 then 0 else coinsE x) else sizeE x) = _
  unfold sizeE coinsE
  by_cases h : 48 ≤ x.b.h.height
  · rw [if_pos h, if_pos h, if_neg (by decide)]
  · rw [if_neg h, if_neg h, if_pos rfl]; split <;> simp_all
theorem ite_stop {p : Prop} [Decidable p] {e r : Int} (he : e ≠ 0) : (if (if p then e else 0) = 0 then r else (if p then e else 0)) = if p then e else r := by
  by_cases h : p
  · rw [if_pos h, if_pos h, if_neg he]
  · rw [if_neg h, if_neg h, if_pos rfl]
theorem ask_all {t : Tip} {b : Block} {c : List Coin} : firstE [some 89, some 90, some 91, some 92, some 93, some 94] ⟨t, b, nextH t b.t b.h.nonce, c⟩ = pushE t b := by
  obtain ⟨x, hx⟩ : ∃ x : Trial, x = ⟨t, b, nextH t b.t b.h.nonce, c⟩ := ⟨_, rfl⟩
  have e : pushE t b = pushE x.t x.b := by rw [hx]
  have hw : x.want = nextH x.t x.b.t x.b.h.nonce := by rw [hx]
  rw [e, ← hx]
  show (if sizeE x = 0 then (if prevE x = 0 then (if linkE x = 0 then (if rootE x = 0 then (if workE x = 0 then (if coinsE x = 0 then 0 else coinsE x) else workE x) else rootE x) else linkE x) else prevE x) else sizeE x) = _
  have hc : (if coinsE x = 0 then 0 else coinsE x) = coinsE x := by split <;> simp_all
  rw [hc]
  unfold sizeE prevE linkE rootE workE coinsE pushE
  rw [ite_stop (by decide), ite_stop (by decide), ite_stop (by decide), ite_stop (by decide), ite_stop (by decide), hw]
theorem ask_allX {t : Tip} {b : Block} {c : List Coin} (h : pushE t b = 0) : (firstX [some 89, some 90, some 91, some 92, some 93, some 94] ⟨t, b, nextH t b.t b.h.nonce, c⟩).c = (applyOf t.c b.t).1 := by
  obtain ⟨x, hx⟩ : ∃ x : Trial, x = ⟨t, b, nextH t b.t b.h.nonce, c⟩ := ⟨_, rfl⟩
  have hw : x.want = nextH x.t x.b.t x.b.h.nonce := by rw [hx]
  have h : pushE x.t x.b = 0 := by rw [hx]; exact h
  have e : (applyOf t.c b.t).1 = (applyOf x.t.c x.b.t).1 := by rw [hx]
  rw [e, ← hx]
  show (if sizeE x = 0 then (if prevE x = 0 then (if linkE x = 0 then (if rootE x = 0 then (if workE x = 0 then (if coinsE x = 0 then coinsX x else coinsX x) else x) else x) else x) else x) else x).c = _
  unfold pushE at h
  rw [← hw] at h
  by_cases h1 : 48 ≤ x.b.h.height
  · rw [if_pos h1] at h; exact absurd h (by decide)
  rw [if_neg h1] at h
  by_cases h2 : ¬ behindH x.b.h = behindH x.want
  · rw [if_pos h2] at h; exact absurd h (by decide)
  rw [if_neg h2] at h
  by_cases h3 : ¬ x.b.h.links = x.want.links ∨ ¬ x.b.l = linksT x.t
  · rw [if_pos h3] at h; exact absurd h (by decide)
  rw [if_neg h3] at h
  by_cases h4 : ¬ x.b.h = x.want
  · rw [if_pos h4] at h; exact absurd h (by decide)
  rw [if_neg h4] at h
  by_cases h5 : ¬ headMay x.b.h = true
  · rw [if_pos h5] at h; exact absurd h (by decide)
  rw [if_neg h5] at h
  unfold sizeE prevE linkE rootE workE coinsE
  rw [if_neg h1, if_neg h2, if_neg h3, if_neg h4, if_neg h5, if_pos rfl, if_pos rfl, if_pos rfl, if_pos rfl, if_pos rfl, if_pos h]
  rfl
theorem asks_all : ∀ f ∈ ([some 89, some 90, some 91, some 92, some 93, some 94] : List (Option Nat)), Asks f := by intro f hf; simp at hf; unfold Asks; exact hf
theorem asks_two : ∀ f ∈ ([some 89, some 94] : List (Option Nat)), Asks f := by intro f hf; simp at hf; unfold Asks; rcases hf with h | h <;> simp [h]
theorem mineBE_err {t : Tip} {l : List Tx} {nonce : UInt64} {tries : Int} (h : ¬ (if 48 ≤ (nextH t l nonce).height then 3 else (applyOf t.c l).2) = 0) : mineBE t l nonce tries = (if 48 ≤ (nextH t l nonce).height then 3 else (applyOf t.c l).2) := by
  unfold mineBE
  split
  · rfl
  · rename_i h1; rw [if_neg h1] at h; rw [if_pos h]
theorem mineBE_work {t : Tip} {l : List Tx} {nonce : UInt64} {tries : Int} (h : (if 48 ≤ (nextH t l nonce).height then 3 else (applyOf t.c l).2) = 0) (h2 : ¬ (mineOf (nextH t l nonce) tries).isSome = true) : mineBE t l nonce tries = 4 := by
  unfold mineBE
  split
  · rename_i h1; rw [if_pos h1] at h; exact absurd h (by decide)
  · rename_i h1; rw [if_neg h1] at h; simp only [h, h2, not_true_eq_false, if_false]
theorem mineBE_ok {t : Tip} {l : List Tx} {nonce : UInt64} {tries : Int} (h : (if 48 ≤ (nextH t l nonce).height then 3 else (applyOf t.c l).2) = 0) (h2 : (mineOf (nextH t l nonce) tries).isSome = true) : mineBE t l nonce tries = 0 := by
  unfold mineBE
  split
  · rename_i h1; rw [if_pos h1] at h; exact absurd h (by decide)
  · rename_i h1; rw [if_neg h1] at h; simp only [h, h2, not_true_eq_false, if_false]
theorem push_ok (t : Tip) (b : Block) (ht : smallTip t) (hb : smallB b) : Tells P 53 [.val tipT t, .val blockT b] (.tup2 (.val tipT (pushT t b)) (.val i64T (pushE t b))) := by
 have hbt := hb.2.1
 have htp := ht.2.1
 refine fn_of_aw Tryz.func53 rfl rfl rfl (fun ext w hext => ?_)
 refine CQR ?_; refine aw_box rfl rfl rfl rfl rfl ?_; refine aw_box rfl rfl rfl rfl rfl ?_; refine aw_alloc ze_56 rfl rfl rfl rfl ?_; refine A0 aV ?_; refine CNQ ?_
 refine aw_drawx [some 1, some 1, some 1, some 1, some 1, some 1, some 1, some 1, some 1, some 1, none, some 1] mixed (by decide +kernel) ?_; refine X0 (oLs rfl rfl rfl ty_56) ?_; refine X0 (oLs rfl rfl rfl ty_37) ?_
 refine X0 (oLs rfl rfl rfl ty_56) ?_; refine X0 (oFp fd_37_2) ?_; refine X0 (oLb L_Block_t ty_35) ?_; refine X0 (oFp fd_37_0) ?_; refine X0 (oFp fd_33_7) ?_; refine X0 (oLb (L_Block_h.comp L_Head_nonce) ty_28) ?_
 refine X0 (oCl (nextH_ok t b.t b.h.nonce (by omega) (by omega)) rfl fn_88 ⟨(arg_v rfl), (arg_v rfl), (arg_v rfl), trivial⟩) ?_
 refine X0 (g_build rfl ze_139 bd_139 (.cons fd_139_0 L_Trial_t ty_56 rfl (.cons fd_139_1 L_Trial_b ty_37 rfl (.cons fd_139_2 L_Trial_want ty_33 rfl .nil))) rfl) ?_
 refine XK.e (fun fr' hfr kk H => by exact aw_box rfl rfl rfl rfl ((hfr 18 (by decide +kernel)).trans rfl) (aw_nil H)) ?_; refine X0 aP ?_; refine XK.nil' ?_; refine CQR ?_
 refine A0 (g_buildF (xs := [_, _, _, _, _, _]) rfl ar_142 ze_142 ⟨rfl, ⟨_, rfl, rfl⟩, rfl, ⟨_, rfl, rfl⟩, rfl, ⟨_, rfl, rfl⟩, rfl, ⟨_, rfl, rfl⟩, rfl, ⟨_, rfl, rfl⟩, rfl, ⟨_, rfl, rfl⟩, trivial⟩ rfl) ?_
 refine aw_alloc ze_142 rfl rfl rfl rfl ?_; refine aw_store_b rfl rfl rfl rfl rfl (Lens.self _) ty_142 rfl ?_; refine CNQ ?_; refine CQ ?_; refine aw_freeze (d := 7) rfl rfl (Lens.self _) ?_; refine CR ?_; refine A0 mP ?_
 refine A0 (g_slice_r rfl rfl ar_142 rfl rfl) ?_
 refine aw_callu (first_ok ⟨t, b, nextH t b.t b.h.nonce, []⟩ [some 89, some 90, some 91, some 92, some 93, some 94] ⟨ht, by show b.t.length ≤ 4000000000000; omega⟩ asks_all) rfl fn_95 rfl trivial trivial rfl ⟨(by first | exact argm_own rfl | exact argm_ptr rfl | exact argm_same rfl | exact argm_bsl rfl | exact argm_lit rfl | exact argm_clo rfl | exact argm_row rfl rfl (by decide)), (by first | exact argm_own rfl | exact argm_ptr rfl | exact argm_same rfl | exact argm_bsl rfl | exact argm_lit rfl | exact argm_clo rfl | exact argm_row rfl rfl (by decide)), trivial⟩ rfl rfl rfl ?_
 refine aw_reval (d := 23) rfl ask_all ?_; refine A0 aV ?_; refine CNQR ?_; refine A0 mV ?_; refine A0 o_neq ?_; refine CN ?_
 refine aw_ifc (p := ¬ pushE t b = 0) rfl (by simp [IntL.toI]) (fun ht25 => ?_) (fun ht25 => ?_)
 ·
  refine CQR ?_; refine A0 (oLs rfl rfl rfl ty_56) ?_; refine A0 (oCl (own_ok t ht) rfl fn_96 ⟨(arg_v rfl), trivial⟩) ?_; refine A0 mV ?_; refine aw_store_b rfl rfl rfl rfl rfl (Lens.self _) ty_56 rfl ?_; refine A0 aV ?_; refine CN ?_
  exact aw_retr2 rfl rfl (rv_cell rfl rfl ty_56 (by unfold pushT; rw [if_neg ht25])) (rv_tmp (ret_eq rfl (rfl)))
 ·
  refine CS ?_; refine CQ ?_; refine aw_drawx [some 1, some 1, some 1, some 1, some 1, some 1, some 1, some 1, some 1, some 1, some 1, some 1, some 1, none, some 1] mixed (by decide +kernel) ?_; refine X0 (oLs rfl rfl rfl ty_37) ?_
  refine X0 (oCl (copied_ok b hb) rfl fn_97 ⟨(arg_v rfl), trivial⟩) ?_; refine X0 (oFp fd_56_1) ?_; refine X0 (oLb L_Tip_p ty_53) ?_; refine X0 (oFp fd_37_0) ?_; refine X0 (oLb L_Block_h ty_33) ?_
  refine X0 (oCl (leafH_ok _) rfl fn_99 ⟨(arg_v rfl), trivial⟩) ?_; refine X0 (oCl (tells_pub (mmrAppend_ok t.p (leafH b.h) (by omega))) rfl fn_98 ⟨(arg_v rfl), (arg_v rfl), trivial⟩) ?_; refine X0 mP ?_; refine X0 (g_nc rfl rfl) ?_
  refine X0 (oFp fd_139_3) ?_; refine X0 (oLb L_Trial_c ty_54) ?_; refine X0 (g_build rfl ze_56 bd_56 (.cons fd_56_0 L_Tip_b ty_37 rfl (.cons fd_56_1 L_Tip_p ty_53 rfl (.cons fd_56_2 L_Tip_c ty_54 rfl .nil))) rfl) ?_
  refine XK.e (x := .idk) (fun fr' hfr kk H => by exact aw_store_b rfl rfl rfl ((hfr 4 (by decide +kernel)).trans rfl) rfl (Lens.self _) ty_56 ((hfr 41 (by decide +kernel)).trans rfl) (aw_nil H)) ?_; refine X0 aV ?_; refine XK.nil' ?_
  exact aw_retr2 rfl rfl (rv_cell rfl rfl ty_56 (by unfold pushT; rw [if_pos (Classical.not_not.1 ht25), ask_allX (Classical.not_not.1 ht25)])) (rv_tmp (ret_eq rfl ((Classical.not_not.1 ht25).symm)))
theorem mineB_ok (t : Tip) (l : List Tx) (nonce : UInt64) (tries : Int) (ht : smallTip t) (hl : smallL l) : Tells P 67 [.val tipT t, .val (sl txT) l, .val u64T nonce, .val i64T tries] (.tup2 (.val blockT (mineB t l nonce tries)) (.val i64T (mineBE t l nonce tries))) := by
 have hbt := hl.1
 have htp := ht.2.1
 refine fn_of_aw Tryz.func67 rfl rfl rfl (fun ext w hext => ?_)
 refine aw_fact (d := 1) rfl fact_sl (fun hsl1 => ?_)
 refine aw_fact (d := 3) rfl fact_int (fun hin3 => ?_)
 refine CQR ?_; refine aw_box rfl rfl rfl rfl rfl ?_; refine aw_alloc ze_37 rfl rfl rfl rfl ?_; refine A0 aV ?_; refine CNQR ?_; refine A0 (oLs rfl rfl rfl ty_56) ?_; refine A0 mV ?_; refine A0 mV ?_
 refine A0 (oCl (nextH_ok t l nonce (by omega) (by omega)) rfl fn_88 ⟨(arg_v rfl), (arg_v rfl), (arg_v rfl), trivial⟩) ?_; refine aw_alloc ze_33 rfl rfl rfl rfl ?_; refine aw_store_b rfl rfl rfl rfl rfl (Lens.self _) ty_33 rfl ?_
 refine CNQR ?_; refine A0 (oLs rfl rfl rfl ty_56) ?_; refine A0 (oLs rfl rfl rfl ty_33) ?_; refine A0 mV ?_; refine A0 (g_build rfl ze_37 bd_37 (.cons fd_37_0 L_Block_h ty_33 rfl (.cons fd_37_2 L_Block_t ty_35 rfl .nil)) rfl) ?_
 refine A0 (oLs rfl rfl rfl ty_33) ?_; refine A0 (g_build rfl ze_139 bd_139 (.cons fd_139_0 L_Trial_t ty_56 rfl (.cons fd_139_1 L_Trial_b ty_37 rfl (.cons fd_139_2 L_Trial_want ty_33 rfl .nil))) rfl) ?_; refine aw_box rfl rfl rfl rfl rfl ?_
 refine A0 aP ?_; refine CNQQR ?_; refine A0 mP ?_; refine A0 (g_bslF (xs := [_, _]) rfl sl_144 row_144 ⟨rfl, ⟨_, rfl, rfl⟩, rfl, ⟨_, rfl, rfl⟩, trivial⟩ rfl rfl) ?_
 refine aw_callu (first_ok ⟨t, ⟨nextH t l nonce, [], l⟩, nextH t l nonce, []⟩ [some 89, some 94] ⟨ht, by show l.length ≤ 4000000000000; omega⟩ asks_two) rfl fn_95 rfl trivial trivial rfl ⟨(by first | exact argm_own rfl | exact argm_ptr rfl | exact argm_same rfl | exact argm_bsl rfl | exact argm_lit rfl | exact argm_clo rfl | exact argm_row rfl rfl (by decide)), (by first | exact argm_own rfl | exact argm_ptr rfl | exact argm_same rfl | exact argm_bsl rfl | exact argm_lit rfl | exact argm_clo rfl | exact argm_row rfl rfl (by decide)), trivial⟩ rfl rfl rfl ?_
 refine aw_reval (d := 27) rfl ask_two ?_; refine A0 aV ?_; refine CNQR ?_; refine A0 mV ?_; refine A0 o_neq ?_; refine CN ?_
 refine aw_ifc (p := ¬ (if 48 ≤ (nextH t l nonce).height then 3 else (applyOf t.c l).2) = 0) rfl (by simp [IntL.toI]) (fun ht29 => ?_) (fun ht29 => ?_)
 ·
  have hE : mineBE t l nonce tries = (if 48 ≤ (nextH t l nonce).height then 3 else (applyOf t.c l).2) := mineBE_err ht29
  refine CQR ?_; refine A0 (g_build rfl ze_37 bd_37 .nil rfl) ?_; refine A0 mV ?_; refine aw_store_b rfl rfl rfl rfl rfl (Lens.self _) ty_37 rfl ?_; refine A0 aV ?_; refine CN ?_
  exact aw_retr2 rfl rfl (rv_cell rfl rfl ty_37 (by unfold mineB; rw [hE, if_neg ht29])) (rv_tmp (ret_eq rfl (hE.symm)))
 ·
  refine CSQR ?_; refine A0 (oLs rfl rfl rfl ty_33) ?_; refine A0 mV ?_; refine A0 (oCl (mine_ok (nextH t l nonce) tries) rfl fn_118 ⟨(arg_v rfl), (arg_v rfl), trivial⟩) ?_; refine A0 mX ?_
  refine A0 (by first | exact g_x20 rfl rfl | exact g_x30 rfl rfl) ?_; refine A0 (by first | exact g_x21 rfl rfl | exact g_x31 rfl rfl) ?_; refine aw_store_b rfl rfl rfl rfl rfl (Lens.self _) ty_33 rfl ?_; refine A0 aV ?_; refine CNQQR ?_
  refine A0 mV ?_; refine A0 oN ?_; refine CN ?_
  refine aw_ifc (p := ¬ (mineOf (nextH t l nonce) tries).isSome = true) rfl (by cases (mineOf (nextH t l nonce) tries).isSome <;> rfl) (fun ht39 => ?_) (fun ht39 => ?_)
  ·
   have hE : mineBE t l nonce tries = 4 := mineBE_work (Classical.not_not.1 ht29) ht39
   refine CQR ?_; refine A0 (g_build rfl ze_37 bd_37 .nil rfl) ?_; refine aw_store_b rfl rfl rfl rfl rfl (Lens.self _) ty_37 rfl ?_; refine A0 aV ?_; refine CN ?_
   exact aw_retr2 rfl rfl (rv_cell rfl rfl ty_37 (by unfold mineB; rw [hE]; rfl)) (rv_tmp (ret_eq rfl (hE.symm)))
  ·
   have hE : mineBE t l nonce tries = 0 := mineBE_ok (Classical.not_not.1 ht29) (Classical.not_not.1 ht39)
   refine CS ?_; refine CQ ?_; refine aw_drawx [some 1, some 1, some 1, some 1, some 1, some 1, none, some 1] mixed (by decide +kernel) ?_; refine X0 (oLs rfl rfl rfl ty_33) ?_; refine X0 (oLs rfl rfl rfl ty_56) ?_
   refine X0 (oCl (tells_pub (linksT_ok t)) rfl fn_119 ⟨(arg_v rfl), trivial⟩) ?_; refine X0 mV ?_; refine X0 (oCl (tells_pub (txs_ok l hl)) rfl fn_120 ⟨(arg_v rfl), trivial⟩) ?_
   refine X0 (g_build rfl ze_37 bd_37 (.cons fd_37_0 L_Block_h ty_33 rfl (.cons fd_37_1 L_Block_l ty_34 rfl (.cons fd_37_2 L_Block_t ty_35 rfl .nil))) rfl) ?_
   refine XK.e (x := .idk) (fun fr' hfr kk H => by exact aw_store_b rfl rfl rfl ((hfr 8 (by decide +kernel)).trans rfl) rfl (Lens.self _) ty_37 ((hfr 46 (by decide +kernel)).trans rfl) (aw_nil H)) ?_; refine X0 aV ?_; refine XK.nil' ?_
   exact aw_retr2 rfl rfl (rv_cell rfl rfl ty_37 (by unfold mineB; rw [hE, if_pos rfl])) (rv_tmp (ret_eq rfl (hE.symm)))
end Go.Proofs.YtgoebfjaaklopaaGreat
set_option maxRecDepth 20000
namespace Go.Proofs.YtgoebfjaaklopaaGreat
set_option linter.unusedVariables false
set_option linter.unusedSimpArgs false
open Go.Ab Go.RowKit
def few (t : Tx) : Bool := decide (t.ins.length ≤ 6 ∧ t.outs.length ≤ 6)
theorem few_ok (t : Tx) : Tells P 68 [.val txT t] (.val boolT (few t)) := by
 refine fn_of_aw Tryz.func68 rfl rfl rfl (fun ext w hext => ?_)
 refine CQR ?_; refine aw_box rfl rfl rfl rfl rfl ?_; refine A0 aV ?_; refine CNQR ?_; refine A0 (oFp fd_112_0) ?_; refine A0 (oLb L_Tx_ins ty_109) ?_; refine A0 (g_len rfl rfl isl_109) ?_; refine A0 o_leq ?_
 refine Sp (d := 6) (p := t.ins.length ≤ 6) (fun g6 => ?_) (fun g6 => ?_)
 ·
  refine A0 mV ?_; refine A1 (oFp fd_112_1) ?_; refine A1 (oLb L_Tx_outs ty_110) ?_; refine A1 (g_len rfl rfl isl_110) ?_; refine A1 o_leq ?_; refine A0 oK ?_; refine A0 aV ?_; refine CN ?_
  exact aw_ret1 rfl rfl (ret_eq rfl (by unfold few; symm; first | (rw [decide_eq_decide]; simp only [IntL.toI, id_eq]; omega) | (apply decide_eq_false; omega) | (simp [g6]; done) | (simp [g6]; omega)))
 ·
  refine A0 mV ?_; refine A2 ?_; refine A2 ?_; refine A2 ?_; refine A2 ?_; refine A0 oK ?_; refine A0 aV ?_; refine CN ?_
  exact aw_ret1 rfl rfl (ret_eq rfl (by unfold few; symm; first | (rw [decide_eq_decide]; simp only [IntL.toI, id_eq]; omega) | (apply decide_eq_false; omega) | (simp [g6]; done) | (simp [g6]; omega)))
theorem fewAll_ok (l : List Tx) (m : Int) : Tells P 35 [.val (bsl txT) l, .val i64T m] (.val boolT (l.all few && decide ((l.length : Int) ≤ m))) := by
 refine fn_of_aw Tryz.func35 rfl rfl rfl (fun ext w hext => ?_)
 refine aw_fact (d := 0) rfl fact_sl (fun hsl0 => ?_)
 refine aw_fact (d := 1) rfl fact_int (fun hin1 => ?_)
 refine CQR ?_; refine A0 aV ?_; refine CNQQR ?_; refine A0 aV ?_; refine CNB ?_
 refine Lp (ι := Nat) 0 (fun (k : Nat) => (((Fr.none).set 0 (.val (bsl txT) l)).set 1 (.val i64T m)).set 5 (.val i64T (k : Int))) (fun (k : Nat) => Hp.none) (fun (k : Nat) => k ≤ l.length ∧ (l.take k).all few = true) (fun (k : Nat) => l.length - k) (0) (⟨Nat.zero_le _, rfl⟩) ?_
 intro k hinv
 refine CQQR ?_; refine A0 mV ?_; refine A0 mV ?_; refine A0 (g_len rfl rfl isl_35) ?_; refine A0 o_lss ?_; refine CN ?_
 refine Cf (p := k < l.length) (fun ht10 => ?_) (fun ht10 => ?_)
 ·
  obtain ⟨t, ht⟩ : ∃ t, l[k]? = some t := ⟨_, List.getElem?_eq_getElem ht10⟩
  refine CSQBQR ?_; refine A0 mV ?_; refine A0 mV ?_; refine A0 (g_ia_n rfl rfl rfl sl_35 (by assumption)) ?_; refine A0 (g_load_r rfl rfl ty_112) ?_
  refine A0 (oCl (few_ok _) rfl fn_68 ⟨(by first | exact arg_same rfl | exact arg_bsl rfl | exact arg_own rfl rfl | exact arg_nil rfl | exact arg_rptr rfl | exact arg_fn rfl rfl | exact arg_lit rfl), trivial⟩) ?_; refine A0 aV ?_
  refine CNQR ?_; refine A0 mV ?_; refine A0 oN ?_; refine CN ?_
  refine aw_ifc (p := ¬ few t = true) rfl (by simp) (fun ht19 => ?_) (fun ht19 => ?_)
  ·
   refine CQR ?_; refine A0 aV ?_; refine CN ?_
   exact aw_ret1 rfl rfl (ret_eq rfl (by symm; rw [Bool.and_eq_false_iff]; left; rw [List.all_eq_false]; exact ⟨t, List.mem_of_getElem? ht, ht19⟩))
  ·
   refine CSIR ?_; refine A0 mV ?_; refine A0 o_add ?_; refine A0 aV ?_; refine CN ?_
   exact Nx (k + 1) (⟨by omega, by rw [List.take_add_one, ht, List.all_append, hinv.2]; simp [Classical.not_not.1 ht19]⟩) (by omega)
 ·
  refine CE ?_; refine CQR ?_; refine A0 mV ?_; refine A0 (g_len rfl rfl isl_35) ?_; refine A0 mV ?_; refine A0 o_leq ?_; refine A0 aV ?_; refine CN ?_
  exact aw_ret1 rfl rfl (ret_eq rfl (by rw [List.take_of_length_le (by omega)] at hinv; rw [hinv.2, Bool.true_and]; rfl))
end Go.Proofs.YtgoebfjaaklopaaGreat
set_option maxRecDepth 20000
namespace Go.Proofs.YtgoebfjaaklopaaGreat
set_option linter.unusedVariables false
set_option linter.unusedSimpArgs false
open Go.Ab Go.RowKit
def s2 : Ab.Id := [219, 193, 180, 201, 0, 255, 228, 141, 87, 91, 93, 165, 198, 56, 4, 1, 37, 246, 93, 176, 254, 62, 36, 73, 75, 118, 234, 152, 100, 87, 217, 134]
def s4 : Ab.Id := [229, 45, 156, 80, 140, 80, 35, 71, 52, 77, 140, 7, 173, 145, 203, 214, 6, 138, 252, 117, 255, 98, 146, 240, 98, 160, 156, 163, 129, 200, 158, 113]
def id0 : Ab.Id := [204, 117, 100, 156, 217, 35, 11, 173, 35, 93, 199, 149, 159, 68, 227, 45, 148, 39, 20, 174, 85, 27, 122, 223, 187, 132, 2, 33, 173, 199, 16, 195]
def lk0 : Ab.Id := [191, 122, 202, 251, 39, 175, 213, 3, 220, 82, 240, 192, 217, 1, 99, 0, 242, 60, 209, 156, 152, 127, 176, 94, 46, 148, 67, 11, 109, 16, 112, 47]
def easyH : Head := ⟨0, zId, s2, s2, s4, zWide, 545259519, 0⟩
def easyN (n : UInt64) : Head := ⟨1, id0, lk0, s2, id0, [2, 0, 0, 0], 545259519, n⟩
theorem sum_s2 : shaSum [2] = s2 := by kernel_rfl
theorem sum_s4 : shaSum [4] = s4 := by kernel_rfl
theorem root_nil : rootOf [] = s2 := by rw [rootOf, if_pos (show ([] : List Ab.Id).length = 0 from rfl), sum_s2]
theorem root_one (x : Ab.Id) : rootOf [x] = x := by rw [rootOf, if_neg (show ¬ [x].length = 0 by simp), dif_pos (show [x].length ≤ 1 by simp)]; rfl
theorem easy_first : firstH 545259519 = easyH := by
  have e1 : linkRoot [] = s2 := root_nil
  have e2 : txRoot [] = s2 := root_nil
  have e3 : (mmrRoot []).h = s4 := sum_s4
  unfold firstH; rw [e1, e2, e3]; rfl
theorem easy_id : headId easyH = id0 := by kernel_rfl
theorem easy_work : headWork easyH = [2, 0, 0, 0] := by kernel_rfl
theorem easy_ok : tgtOk 545259519 = true := by kernel_rfl
theorem easy_lk : leafOf id0 = lk0 := by kernel_rfl
theorem easy_may0 : headMay (easyN 0) = false := by kernel_rfl
theorem easy_may1 : headMay (easyN 1) = true := by kernel_rfl
end Go.Proofs.YtgoebfjaaklopaaGreat
set_option maxRecDepth 20000
namespace Go.Proofs.YtgoebfjaaklopaaGreat
set_option linter.unusedVariables false
set_option linter.unusedSimpArgs false
open Go.Ab Go.RowKit
def leaf0 : Total := leafT id0 [2, 0, 0, 0]
def easyTip : Tip := ⟨⟨easyH, [], []⟩, [leaf0], []⟩
def easyB : Block := ⟨easyN 1, [id0], []⟩
def leaf1 : Total := leafH (easyN 1)
def easyTip2 : Tip := ⟨easyB, mmrAppend [leaf0] leaf1, []⟩
theorem easy_leaf : leafH easyH = leaf0 := by unfold leafH leaf0; rw [easy_id, easy_work]
theorem easy_tip : firstTip 545259519 = easyTip := by unfold firstTip; rw [if_pos easy_ok, easy_first, easy_leaf]; rfl
theorem easy_links : linksT easyTip = [id0] := by
  show linkNext [] (headId easyH) (headLevel easyH) = _
  rw [easy_id]; unfold linkNext; rw [if_neg (show ¬ 32 < ([] : List Ab.Id).length by decide), if_pos (show ([] : List Ab.Id).length = 0 from rfl)]
theorem easy_next (n : UInt64) : nextH easyTip [] n = easyN n := by
  have e1 : linkRoot [id0] = lk0 := (root_one _).trans easy_lk
  have e2 : txRoot [] = s2 := root_nil
  unfold nextH
  rw [easy_links, e1, e2]
  show (⟨_, headId easyH, _, _, _, _, _, _⟩ : Head) = _
  rw [easy_id]; rfl
theorem easy_mine : mineOf (easyN 0) 200 = some (easyN 1) := by
  unfold mineOf
  rw [mineFrom_step (by decide) (by rw [easy_may0]; decide)]
  exact mineFrom_yes (by decide) easy_may1
theorem apply_nil : applyOf [] [] = ([], 0) := by kernel_rfl
theorem easy_mineE : mineBE easyTip [] 0 200 = 0 := by
  unfold mineBE
  rw [easy_next, if_neg (by decide), show (applyOf easyTip.c []).2 = 0 from congrArg (·.2) apply_nil, if_neg (by decide), easy_mine]; rfl
theorem easy_mineB : mineB easyTip [] 0 200 = easyB := by
  unfold mineB
  rw [easy_mineE, if_pos rfl, easy_next, easy_mine, easy_links]; rfl
theorem easy_pushE : pushE easyTip easyB = 0 := by
  unfold pushE
  have e : nextH easyTip easyB.t easyB.h.nonce = easyB.h := easy_next 1
  rw [e, if_neg (by decide), if_neg (by simp), if_neg (by rw [easy_links]; simp [easyB]), if_neg (by simp), if_neg (by rw [show headMay easyB.h = true from easy_may1]; simp)]
  exact congrArg (·.2) apply_nil
theorem easy_pushT : pushT easyTip easyB = easyTip2 := by
  unfold pushT
  rw [easy_pushE, if_pos rfl, show (applyOf easyTip.c easyB.t).1 = [] from congrArg (·.1) apply_nil]; rfl
theorem small_easyB : smallB easyB := by refine ⟨by decide, by decide, fun t ht => by cases ht⟩
def fewB (b : Block) : Bool := (b.t.all few && decide ((b.t.length : Int) ≤ 6)) && decide (b.l.length ≤ 40)
theorem few_small {l : List Tx} (h : (l.all few && decide ((l.length : Int) ≤ 6)) = true) : smallL l := by
  rw [Bool.and_eq_true, decide_eq_true_eq] at h
  refine ⟨by omega, fun t ht => ?_⟩
  have := List.all_eq_true.1 h.1 t ht
  unfold few at this
  rw [decide_eq_true_eq] at this
  exact ⟨by omega, by omega⟩
theorem fewB_small {b : Block} (h : fewB b = true) : smallB b := by
  unfold fewB at h
  rw [Bool.and_eq_true, decide_eq_true_eq] at h
  exact ⟨by omega, few_small h.1⟩
end Go.Proofs.YtgoebfjaaklopaaGreat
set_option maxRecDepth 20000
namespace Go.Proofs.YtgoebfjaaklopaaGreat
set_option linter.unusedVariables false
set_option linter.unusedSimpArgs false
open Go.Ab Go.RowKit
theorem eq_u32 {x y : UInt32} : decide (IntL.toI u32T x = IntL.toI u32T y) = decide (x = y) := by rw [decide_eq_decide]; show ((x.toNat : Nat) : Int) = ((y.toNat : Nat) : Int) ↔ _; rw [Int.ofNat_inj, UInt32.toNat_inj]
theorem pushR_len : ∀ (r : List Total) (x : Total), (pushR r x).length ≤ r.length + 1
  | [], _ => Nat.le_refl _
  | y :: r, x => by
    rw [pushR]
    split
    · have := pushR_len r (joinT y x); rw [List.length_cons]; omega
    · rw [List.length_cons]; omega
theorem mmrAppend_len {p : List Total} {x : Total} : (mmrAppend p x).length ≤ p.length + 1 := by
  unfold mmrAppend
  have := pushR_len p.reverse x
  rw [List.length_reverse] at this ⊢; exact this
theorem apply_may {p : List Coin} {l : List Tx} (h : (applyOf p l).2 = 0) : mayCoins p = true := by
  refine Classical.byContradiction fun hn => ?_
  unfold applyOf at h
  rw [if_pos hn] at h
  exact absurd h (show ¬ (1 : Int) = 0 by decide)
theorem push_iff {t : Tip} {b : Block} : pushE t b = 0 ↔ b.h.height < 48 ∧ b.h = nextH t b.t b.h.nonce ∧ b.l = linksT t ∧ headMay b.h = true ∧ (applyOf t.c b.t).2 = 0 := by
  constructor
  · intro h
    unfold pushE at h
    by_cases h1 : 48 ≤ b.h.height
    · rw [if_pos h1] at h; exact absurd h (by decide)
    rw [if_neg h1] at h
    by_cases h2 : ¬ behindH b.h = behindH (nextH t b.t b.h.nonce)
    · rw [if_pos h2] at h; exact absurd h (by decide)
    rw [if_neg h2] at h
    by_cases h3 : ¬ b.h.links = (nextH t b.t b.h.nonce).links ∨ ¬ b.l = linksT t
    · rw [if_pos h3] at h; exact absurd h (by decide)
    rw [if_neg h3] at h
    by_cases h4 : ¬ b.h = nextH t b.t b.h.nonce
    · rw [if_pos h4] at h; exact absurd h (by decide)
    rw [if_neg h4] at h
    by_cases h5 : ¬ headMay b.h = true
    · rw [if_pos h5] at h; exact absurd h (by decide)
    rw [if_neg h5] at h
    exact ⟨by omega, Classical.not_not.1 h4, Classical.not_not.1 fun hc => h3 (.inr hc), Classical.not_not.1 h5, h⟩
  · rintro ⟨h1, h2, h3, h4, h5⟩
    unfold pushE
    rw [if_neg (by omega), if_neg (Classical.not_not.2 (congrArg behindH h2)), if_neg (fun h => h.elim (fun h => h (congrArg (·.links) h2)) fun h => h h3), if_neg (Classical.not_not.2 h2), if_neg (Classical.not_not.2 h4)]
    exact h5
theorem firstTip_is {a : UInt32} (h : tgtOk a = true) : firstTip a = ⟨⟨firstH a, [], []⟩, [leafH (firstH a)], []⟩ := by unfold firstTip; rw [if_pos h]; rfl
end Go.Proofs.YtgoebfjaaklopaaGreat
set_option maxRecDepth 20000
namespace Go.Proofs.YtgoebfjaaklopaaGreat
set_option linter.unusedVariables false
set_option linter.unusedSimpArgs false
open Go.Ab Go.RowKit
theorem pushT_eq {t : Tip} {b : Block} (h : pushE t b = 0) : pushT t b = ⟨b, mmrAppend t.p (leafH b.h), (applyOf t.c b.t).1⟩ := by unfold pushT; rw [if_pos h]
def GoodT (x : Total) : Prop := x.w.length = 4 ∧ -9223372036854775808 ≤ x.n ∧ x.n ≤ 9223372036854775807
theorem wrap_q (n : Int) : ∃ q, IntKind.i64.wrap n = n + 18446744073709551616 * q ∧ -9223372036854775808 ≤ IntKind.i64.wrap n ∧ IntKind.i64.wrap n ≤ 9223372036854775807 := by
  have h := i64_in.1 (wrap_in n)
  refine ⟨(IntKind.i64.wrap n - n) / 18446744073709551616, ?_, h⟩
  simp only [IntKind.wrap, IntKind.signed, IntKind.bits]
  simp
  split <;> omega
def nS (l : List Total) : Nat := (l.map fun x => nW x.w).sum
def iS (l : List Total) : Int := (l.map (·.n)).sum
theorem join_good {y x : Total} (hy : GoodT y) (hx : GoodT x) : GoodT (joinT y x) := ⟨addW_len hy.1 hx.1, (wrap_q _).choose_spec.2⟩
theorem join_sum {y x : Total} (hy : GoodT y) (hx : GoodT x) : nW (joinT y x).w = (nW y.w + nW x.w) % W256 ∧ ∃ q, (joinT y x).n = y.n + x.n + 18446744073709551616 * q := ⟨nW_add hy.1 hx.1, let ⟨q, h, _⟩ := wrap_q (y.n + x.n); ⟨q, h⟩⟩
theorem rootFrom_sum : ∀ {r : List Total} {x : Total}, (∀ y ∈ r, GoodT y) → GoodT x → GoodT (rootFrom r x) ∧ nW (rootFrom r x).w = (nS r + nW x.w) % W256 ∧ ∃ q, (rootFrom r x).n = iS r + x.n + 18446744073709551616 * q
  | [], x, _, hx => ⟨hx, by have := nW_lt hx.1; show nW x.w = (0 + nW x.w) % W256; unfold W256 at *; omega, 0, by show x.n = 0 + x.n + _; omega⟩
  | y :: r, x, hr, hx => by
    have hy := hr y (by simp)
    obtain ⟨h1, h2, q, h3⟩ := rootFrom_sum (r := r) (fun z hz => hr z (by simp [hz])) (join_good hy hx)
    obtain ⟨h4, q', h5⟩ := join_sum hy hx
    refine ⟨h1, ?_, q + q', ?_⟩
    · show nW (rootFrom r (joinT y x)).w = (nS (y :: r) + nW x.w) % W256
      have e : nS (y :: r) = nW y.w + nS r := by unfold nS; simp
      rw [h2, h4, e]; unfold W256; omega
    · show (rootFrom r (joinT y x)).n = iS (y :: r) + x.n + _
      have e : iS (y :: r) = y.n + iS r := by unfold iS; simp
      rw [h3, h5, e]; omega
theorem pushR_sum : ∀ {r : List Total} {x : Total}, (∀ y ∈ r, GoodT y) → GoodT x → (∀ y ∈ pushR r x, GoodT y) ∧ nS (pushR r x) % W256 = (nS r + nW x.w) % W256 ∧ ∃ q, iS (pushR r x) = iS r + x.n + 18446744073709551616 * q
  | [], x, _, hx => ⟨fun y hy => by simp [pushR] at hy; rw [hy]; exact hx, by simp [pushR, nS], 0, by simp [pushR, iS]⟩
  | y :: r, x, hr, hx => by
    have hy := hr y (by simp)
    have e : nS (y :: r) = nW y.w + nS r := by unfold nS; simp
    have e' : iS (y :: r) = y.n + iS r := by unfold iS; simp
    rw [pushR]
    split
    · obtain ⟨h1, h2, q, h3⟩ := pushR_sum (r := r) (fun z hz => hr z (by simp [hz])) (join_good hy hx)
      obtain ⟨h4, q', h5⟩ := join_sum hy hx
      refine ⟨h1, ?_, q + q', ?_⟩
      · rw [h2, h4, e]; unfold W256; omega
      · rw [h3, h5, e']; omega
    · refine ⟨fun z hz => ?_, ?_, 0, ?_⟩
      · rcases List.mem_cons.1 hz with h | h
        · rw [h]; exact hx
        · exact hr z h
      · have : nS (x :: y :: r) = nW x.w + (nW y.w + nS r) := by unfold nS; simp
        rw [this, e]; congr 1; omega
      · have : iS (x :: y :: r) = x.n + (y.n + iS r) := by unfold iS; simp
        rw [this, e']; omega
theorem rootR_sum {r : List Total} (hr : ∀ y ∈ r, GoodT y) : GoodT (mmrRoot r.reverse) ∧ nW (mmrRoot r.reverse).w = nS r % W256 ∧ ∃ q, (mmrRoot r.reverse).n = iS r + 18446744073709551616 * q := by
  unfold mmrRoot
  rw [List.reverse_reverse]
  cases r with
  | nil => exact ⟨⟨rfl, by decide, by decide⟩, rfl, 0, rfl⟩
  | cons x r =>
    obtain ⟨h1, h2, q, h3⟩ := rootFrom_sum (r := r) (fun z hz => hr z (by simp [hz])) (hr x (by simp))
    refine ⟨h1, ?_, q, ?_⟩
    · show nW (rootFrom r x).w = _
      rw [h2]; unfold nS; simp; congr 1; omega
    · show (rootFrom r x).n = _
      rw [h3]; unfold iS; simp; omega
theorem headWork_len (h : Head) : (headWork h).length = 4 := by
  unfold headWork
  split
  · unfold workW
    split
    · refine addW_len ?_ rfl
      unfold divW divP
      split
      · rfl
      · simp only []
        have : ∀ (b : Wide) (n : Nat) (x : Wide × Wide), x.2.length = 4 → (divN b n x).2.length = 4 := fun b n => by
          induction n with
          | zero => intro x hx; exact hx
          | succ n ih =>
            intro x hx
            rw [divN]
            refine ih _ ?_
            unfold divStep
            split
            · simp only [orBit, List.length_set]; exact hx
            · exact hx
        exact this _ _ _ rfl
    · rfl
  · rfl
theorem append_sum {p : List Total} {h : Head} (hp : ∀ x ∈ p, GoodT x) : (mmrRoot (mmrAppend p (leafH h))).w = addW (mmrRoot p).w (headWork h) ∧ (mmrRoot (mmrAppend p (leafH h))).n = IntKind.i64.wrap ((mmrRoot p).n + 1) := by
  have hr : ∀ x ∈ p.reverse, GoodT x := fun x hx => hp x (by simpa using hx)
  have hx : GoodT (leafH h) := ⟨headWork_len h, by show (-9223372036854775808 : Int) ≤ 1; decide, by show (1 : Int) ≤ 9223372036854775807; decide⟩
  obtain ⟨a1, a2, q1, a3⟩ := pushR_sum hr hx
  obtain ⟨b1, b2, q2, b3⟩ := rootR_sum a1
  obtain ⟨c1, c2, q3, c3⟩ := rootR_sum hr
  rw [List.reverse_reverse] at c1 c2 c3
  constructor
  · refine nW_inj b1.1 (addW_len c1.1 (headWork_len h)) ?_
    rw [nW_add c1.1 (headWork_len h), c2]
    show nW (mmrRoot (pushR p.reverse (leafH h)).reverse).w = _
    rw [b2, a2]
    show (nS p.reverse + nW (headWork h)) % W256 = _
    unfold W256; omega
  · show (mmrRoot (pushR p.reverse (leafH h)).reverse).n = _
    obtain ⟨q4, d1, d2⟩ := wrap_q ((mmrRoot p).n + 1)
    have e : (leafH h).n = 1 := rfl
    have := b1.2
    omega
end Go.Proofs.YtgoebfjaaklopaaGreat
set_option maxRecDepth 20000
namespace Go.Proofs.YtgoebfjaaklopaaGreat
set_option linter.unusedVariables false
set_option linter.unusedSimpArgs false
open Go.Ab Go.RowKit
def checkFrom : Tip → List Block → Tip × Int
  | t, [] => (t, 0)
  | t, b :: l => if pushE t b = 0 then checkFrom (pushT t b) l else (zTip, pushE t b)
def checkOf (l : List Block) : Tip × Int :=
  match l with
  | [] => (zTip, 9)
  | g :: r => if tgtOk g.h.bits = true ∧ (firstTip g.h.bits).b = g then checkFrom (firstTip g.h.bits) r else (zTip, 12)
def growE (l : List Block) (t : List Tx) (nonce : UInt64) : Int := if (checkOf l).2 = 0 then mineBE (checkOf l).1 t nonce 200 else (checkOf l).2
def growOf (l : List Block) (t : List Tx) (nonce : UInt64) : List Block := if growE l t nonce = 0 then l ++ [mineB (checkOf l).1 t nonce 200] else l
def findOf (l : List Block) (id : Ab.Id) : Int := idx (fun b => decide (headId b.h = id)) l
def leavesOf (l : List Block) : List Total := l.map fun b => leafH b.h
def smallC (l : List Block) : Prop := l.length * 232 ≤ 140737488351232 ∧ ∀ b ∈ l, smallB b
def Chain (l : List Block) (t : Tip) : Prop := checkOf l = (t, 0)
theorem checkFrom_app : ∀ {l m : List Block} {t : Tip}, checkFrom t (l ++ m) = if (checkFrom t l).2 = 0 then checkFrom (checkFrom t l).1 m else checkFrom t l
  | [], m, t => by simp [checkFrom]
  | b :: l, m, t => by
    rw [List.cons_append, checkFrom, checkFrom]
    by_cases h : pushE t b = 0
    · rw [if_pos h, if_pos h]; exact checkFrom_app
    · rw [if_neg h, if_neg h, if_neg h]
theorem checkOf_app {l m : List Block} (h : ¬ l = []) : checkOf (l ++ m) = if (checkOf l).2 = 0 then checkFrom (checkOf l).1 m else checkOf l := by
  cases l with
  | nil => exact absurd rfl h
  | cons g r =>
    rw [List.cons_append]
    unfold checkOf
    simp only []
    by_cases h : tgtOk g.h.bits = true ∧ (firstTip g.h.bits).b = g
    · rw [if_pos h, if_pos h]; exact checkFrom_app
    · rw [if_neg h, if_neg h]; rfl
theorem chain_ne {l : List Block} (h : (checkOf l).2 = 0) : ¬ l = [] := fun e => by rw [e] at h; exact absurd h (by decide)
theorem checkOf_snoc {l : List Block} {b : Block} (h : (checkOf l).2 = 0) : checkOf (l ++ [b]) = if pushE (checkOf l).1 b = 0 then (pushT (checkOf l).1 b, 0) else (zTip, pushE (checkOf l).1 b) := by
  rw [checkOf_app (chain_ne h), if_pos h]; rfl
theorem chain_of {l : List Block} (h : (checkOf l).2 = 0) : Chain l (checkOf l).1 := by unfold Chain; rw [← h]
theorem chain_one {b : Block} {t : Tip} (h : Chain [b] t) : tgtOk b.h.bits = true ∧ b = ⟨firstH b.h.bits, [], []⟩ ∧ t = firstTip b.h.bits := by
  unfold Chain checkOf at h
  simp only [] at h
  by_cases c : tgtOk b.h.bits = true ∧ (firstTip b.h.bits).b = b
  · rw [if_pos c] at h
    refine ⟨c.1, ?_, (congrArg (·.1) h).symm⟩
    have := c.2
    rw [firstTip_is c.1] at this
    exact this.symm
  · rw [if_neg c] at h; exact absurd (congrArg (·.2) h) (by show ¬ (12 : Int) = 0; decide)
theorem chain_snoc {l : List Block} {b : Block} {t : Tip} (hl : ¬ l = []) (h : Chain (l ++ [b]) t) : ∃ t', Chain l t' ∧ pushE t' b = 0 ∧ t = pushT t' b := by
  unfold Chain at h
  rw [checkOf_app hl] at h
  by_cases c : (checkOf l).2 = 0
  · rw [if_pos c] at h
    rw [checkFrom] at h
    by_cases d : pushE (checkOf l).1 b = 0
    · rw [if_pos d, checkFrom] at h
      exact ⟨_, chain_of c, d, (congrArg (·.1) h).symm⟩
    · rw [if_neg d] at h; exact absurd (congrArg (·.2) h) d
  · rw [if_neg c] at h; exact absurd (congrArg (·.2) h) c
theorem chain_ind {P : List Block → Tip → Prop} (h1 : ∀ bits, tgtOk bits = true → P [⟨firstH bits, [], []⟩] (firstTip bits)) (h2 : ∀ l t b, Chain l t → P l t → pushE t b = 0 → P (l ++ [b]) (pushT t b)) : ∀ (n : Nat) (l : List Block) (t : Tip), l.length = n → Chain l t → P l t
  | 0, l, t, hn, h => absurd (List.eq_nil_of_length_eq_zero hn) (chain_ne (congrArg (·.2) h))
  | n + 1, l, t, hn, h => by
    have hl : ¬ l = [] := fun e => by rw [e] at hn; cases hn
    obtain ⟨r, b, rfl⟩ : ∃ r b, l = r ++ [b] := ⟨l.dropLast, l.getLast hl, (List.dropLast_concat_getLast hl).symm⟩
    by_cases hr : r = []
    · subst hr
      obtain ⟨e1, e2, e3⟩ := chain_one h
      rw [e3, List.nil_append]
      have := h1 b.h.bits e1
      rw [← e2] at this; exact this
    · obtain ⟨t', e1, e2, e3⟩ := chain_snoc hr h
      rw [e3]
      exact h2 _ _ _ e1 (chain_ind h1 h2 n r t' (by simp at hn; omega) e1) e2
theorem chain_tip {l : List Block} {t : Tip} (h : Chain l t) : l.getLast? = some t.b ∧ t.b.h.height = (l.length : Int) - 1 ∧ l.length ≤ 48 ∧ t.p = (leavesOf l).foldl mmrAppend [] ∧ (∃ g, l[0]? = some g ∧ t.b.h.bits = g.h.bits) := by
  refine chain_ind (P := fun l t => l.getLast? = some t.b ∧ t.b.h.height = (l.length : Int) - 1 ∧ l.length ≤ 48 ∧ t.p = (leavesOf l).foldl mmrAppend [] ∧ (∃ g, l[0]? = some g ∧ t.b.h.bits = g.h.bits)) (fun bits hb => ?_) (fun l t b hc hi hp => ?_) l.length l t rfl h
  · rw [firstTip_is hb]
    exact ⟨rfl, rfl, Nat.le_of_ble_eq_true rfl, rfl, _, rfl, rfl⟩
  · obtain ⟨i1, i2, i3, i4, g, i5, i6⟩ := hi
    obtain ⟨p1, p2, _⟩ := push_iff.1 hp
    have hne : 0 < l.length := List.length_pos_iff.2 (chain_ne (congrArg (·.2) hc))
    have e : b.h.height = IntKind.i64.wrap (t.b.h.height + 1) := congrArg (·.height) p2
    rw [i2, wrap_eq (by omega)] at e
    rw [pushT_eq hp]
    refine ⟨by simp, ?_, ?_, ?_, g, ?_, ?_⟩
    · show b.h.height = _
      rw [e, List.length_append, List.length_singleton]; omega
    · rw [List.length_append, List.length_singleton]; omega
    · show mmrAppend t.p (leafH b.h) = _
      rw [i4]; unfold leavesOf; rw [List.map_append, List.foldl_append]; rfl
    · rw [List.getElem?_append_left hne]; exact i5
    · show b.h.bits = _
      rw [show b.h.bits = t.b.h.bits from congrArg (·.bits) p2, i6]
theorem chain_take {l : List Block} {t : Tip} {i : Nat} (h : Chain l t) (hi : 1 ≤ i) (hl : i ≤ l.length) : ∃ t', Chain (l.take i) t' ∧ checkFrom t' (l.drop i) = (t, 0) := by
  have hne : ¬ l.take i = [] := fun e => by have := congrArg List.length e; rw [List.length_take] at this; change min i l.length = 0 at this; omega
  have h0 : checkOf (l.take i ++ l.drop i) = (t, 0) := by rw [List.take_append_drop]; exact h
  rw [checkOf_app hne] at h0
  by_cases c : (checkOf (l.take i)).2 = 0
  · rw [if_pos c] at h0; exact ⟨_, chain_of c, h0⟩
  · rw [if_neg c] at h0; exact absurd (congrArg (·.2) h0) c
theorem chain_at {l : List Block} {t : Tip} {i : Nat} {b : Block} (h : Chain l t) (hi : 1 ≤ i) (hb : l[i]? = some b) : ∃ t', Chain (l.take i) t' ∧ pushE t' b = 0 ∧ l[i - 1]? = some t'.b := by
  obtain ⟨hl, e⟩ := List.getElem?_eq_some_iff.1 hb
  obtain ⟨t', h1, h2⟩ := chain_take h hi (Nat.le_of_lt hl)
  rw [List.drop_eq_getElem_cons hl, e, checkFrom] at h2
  refine ⟨t', h1, ?_, ?_⟩
  · by_cases c : pushE t' b = 0
    · exact c
    · rw [if_neg c] at h2; exact absurd (congrArg (·.2) h2) c
  · have := (chain_tip h1).1
    have h5 : (l.take i)[i - 1]? = l[i - 1]? := by rw [List.getElem?_take]; split <;> first | rfl | omega
    rw [List.getLast?_eq_getElem?, List.length_take, Nat.min_eq_left (Nat.le_of_lt hl), h5] at this
    exact this
theorem smallC_snoc {l : List Block} {b : Block} (h : smallC l) (hl : l.length ≤ 99) (hb : smallB b) : smallC (l ++ [b]) := ⟨by rw [List.length_append, List.length_singleton]; omega, fun x hx => by
  rcases List.mem_append.1 hx with h1 | h1
  · exact h.2 x h1
  · rw [List.mem_singleton.1 h1]; exact hb⟩
theorem small_nil {t : Tip} (h1 : t.b.l = []) (h2 : t.b.t = []) (h3 : Nat.ble t.p.length 1 = true) (h4 : t.c = []) : smallTip t := by
  have := Nat.le_of_ble_eq_true h3
  refine ⟨⟨by rw [h1]; decide, by rw [h2]; decide, fun x hx => by rw [h2] at hx; cases hx⟩, by omega, by rw [h4]; decide⟩
def smallN (t : Tip) (n : Nat) : Prop := smallTip t ∧ t.p.length ≤ n + 1 ∧ t.b.h.height = n
theorem push_smallN {t : Tip} {b : Block} {n : Nat} (ht : smallN t n) (hn : n ≤ 1000000000000) (hb : smallB b) (h : pushE t b = 0) : smallN (pushT t b) (n + 1) := by
  obtain ⟨h6, h7, _, _, h5⟩ := push_iff.1 h
  rw [pushT_eq h]
  have h1 := mmrAppend_len (p := t.p) (x := leafH b.h)
  have h2 := mayCoins_len (applyOf_tot (l := b.t) (apply_may h5)).1
  obtain ⟨_, h3, h4⟩ := ht
  have e : b.h.height = IntKind.i64.wrap (t.b.h.height + 1) := congrArg (·.height) h7
  rw [h4, wrap_eq (by omega)] at e
  refine ⟨⟨hb, ?_, ?_⟩, ?_, ?_⟩
  · show (mmrAppend t.p (leafH b.h)).length ≤ 1000
    omega
  · show (applyOf t.c b.t).1.length ≤ 1000
    omega
  · show (mmrAppend t.p (leafH b.h)).length ≤ n + 1 + 1
    omega
  · show b.h.height = _
    rw [e]; omega
theorem first_small {bits : UInt32} : smallN (firstTip bits) 0 := by
  by_cases h : tgtOk bits = true
  · rw [firstTip_is h]; exact ⟨small_nil rfl rfl rfl rfl, Nat.le_of_ble_eq_true rfl, rfl⟩
  · have : firstTip bits = zTip := by unfold firstTip; rw [if_neg h]
    rw [this]; exact ⟨small_nil rfl rfl rfl rfl, Nat.le_of_ble_eq_true rfl, rfl⟩
theorem checkFrom_small : ∀ {l : List Block} {t : Tip} {n : Nat}, smallN t n → n + l.length ≤ 1000000000000 → (∀ b ∈ l, smallB b) → smallTip (checkFrom t l).1
  | [], t, n, ht, _, _ => ht.1
  | b :: l, t, n, ht, hn, hl => by
    rw [checkFrom]
    rw [List.length_cons] at hn
    split
    · rename_i h
      exact checkFrom_small (push_smallN ht (by omega) (hl b (by simp)) h) (by omega) fun x hx => hl x (by simp [hx])
    · exact small_nil rfl rfl rfl rfl
theorem check_small {l : List Block} (h : smallC l) : smallTip (checkOf l).1 := by
  cases l with
  | nil => exact small_nil rfl rfl rfl rfl
  | cons g r =>
    unfold checkOf
    simp only []
    split
    · refine checkFrom_small first_small ?_ fun x hx => h.2 x (by simp [hx])
      have := h.1
      rw [List.length_cons] at this
      omega
    · exact small_nil rfl rfl rfl rfl
end Go.Proofs.YtgoebfjaaklopaaGreat
set_option maxRecDepth 20000
namespace Go.Proofs.YtgoebfjaaklopaaGreat
set_option linter.unusedVariables false
set_option linter.unusedSimpArgs false
open Go.Ab Go.RowKit
theorem chain_total {l : List Block} {t : Tip} (h : Chain l t) : (∀ x ∈ t.p, GoodT x) ∧ (mmrRoot t.p).n = l.length := by
  refine chain_ind (P := fun l t => (∀ x ∈ t.p, GoodT x) ∧ (mmrRoot t.p).n = l.length) (fun bits hb => ?_) (fun l t b hc hi hp => ?_) l.length l t rfl h
  · rw [firstTip_is hb]
    refine ⟨fun x hx => ?_, rfl⟩
    rw [List.mem_singleton.1 hx]
    exact ⟨headWork_len _, by show (-9223372036854775808 : Int) ≤ 1; decide, by show (1 : Int) ≤ 9223372036854775807; decide⟩
  · have hlen := (chain_tip hc).2.2.1
    rw [pushT_eq hp]
    obtain ⟨i1, i2⟩ := hi
    refine ⟨fun x hx => ?_, ?_⟩
    · have hr : ∀ y ∈ t.p.reverse, GoodT y := fun y hy => i1 y (by simpa using hy)
      have hg : GoodT (leafH b.h) := ⟨headWork_len _, by show (-9223372036854775808 : Int) ≤ 1; decide, by show (1 : Int) ≤ 9223372036854775807; decide⟩
      refine (pushR_sum hr hg).1 x ?_
      have hx : x ∈ mmrAppend t.p (leafH b.h) := hx
      unfold mmrAppend at hx
      simpa using hx
    · show (mmrRoot (mmrAppend t.p (leafH b.h))).n = _
      rw [(append_sum i1).2, i2, wrap_eq (by omega), List.length_append, List.length_singleton]; omega
theorem leaves_take {l : List Block} {i : Nat} : leavesOf (l.take i) = (leavesOf l).take i := by unfold leavesOf; rw [List.map_take]
theorem chain_stands {l : List Block} {t : Tip} {i : Nat} {b a g : Block} (h : Chain l t) (hi : 1 ≤ i) (hb : l[i]? = some b) (ha : l[i - 1]? = some a) (hg : l[0]? = some g) : b.h.height = i ∧ b.h.prev = headId a.h ∧ b.h.past = (mmrRoot (((leavesOf l).take i).foldl mmrAppend [])).h ∧ b.h.work = (mmrRoot (((leavesOf l).take i).foldl mmrAppend [])).w ∧ (mmrRoot (((leavesOf l).take i).foldl mmrAppend [])).n = i ∧ b.h.bits = g.h.bits ∧ b.h.links = linkRoot b.l ∧ headMay b.h = true := by
  obtain ⟨t', h1, h2, h3⟩ := chain_at h hi hb
  obtain ⟨hl, _⟩ := List.getElem?_eq_some_iff.1 hb
  obtain ⟨c1, c2, c3, c4, g', c5, c6⟩ := chain_tip h1
  obtain ⟨_, p2, p3, p4, _⟩ := push_iff.1 h2
  have hlt : (l.take i).length = i := by rw [List.length_take]; omega
  rw [leaves_take] at c4
  rw [ha] at h3; injection h3 with h3
  rw [List.getElem?_take, if_pos (by omega), hg] at c5; injection c5 with c5
  rw [← c4]
  refine ⟨?_, ?_, congrArg (·.past) p2, congrArg (·.work) p2, ?_, ?_, ?_, p4⟩
  · rw [show b.h.height = IntKind.i64.wrap (t'.b.h.height + 1) from congrArg (·.height) p2, c2, hlt, wrap_eq (by omega)]; omega
  · rw [h3]; exact congrArg (·.prev) p2
  · rw [(chain_total h1).2, hlt]
  · rw [c5, ← c6]; exact congrArg (·.bits) p2
  · rw [p3]; exact congrArg (·.links) p2
end Go.Proofs.YtgoebfjaaklopaaGreat
set_option maxRecDepth 20000
namespace Go.Proofs.YtgoebfjaaklopaaGreat
set_option linter.unusedVariables false
set_option linter.unusedSimpArgs false
open Go.Ab Go.RowKit
def easyB0 : Block := ⟨easyH, [], []⟩
theorem easy_chain0 : checkOf [easyB0] = (easyTip, 0) := by
  unfold checkOf
  simp only []
  have e : firstTip easyB0.h.bits = easyTip := easy_tip
  rw [e, if_pos ⟨easy_ok, rfl⟩]; rfl
theorem easy_growE : growE [easyB0] [] 0 = 0 := by
  unfold growE; rw [easy_chain0, if_pos rfl]; exact easy_mineE
theorem easy_grown : growOf [easyB0] [] 0 = [easyB0, easyB] := by
  unfold growOf; rw [easy_growE, if_pos rfl, easy_chain0, easy_mineB]; rfl
theorem easy_chain1 : checkOf [easyB0, easyB] = (easyTip2, 0) := by
  rw [show [easyB0, easyB] = [easyB0] ++ [easyB] from rfl, checkOf_snoc (by rw [easy_chain0]), easy_chain0, easy_pushE, if_pos rfl, easy_pushT]
theorem easy_two : decide (headId easyH = headId easyB.h) = false := by kernel_rfl
theorem small_easyB0 : smallB easyB0 := by refine ⟨by decide, by decide, fun t ht => by cases ht⟩
theorem small_easyC0 : smallC [easyB0] := ⟨by decide, fun b hb => by rw [List.mem_singleton.1 hb]; exact small_easyB0⟩
theorem small_easyC : smallC [easyB0, easyB] := ⟨by decide, fun b hb => by
  rcases List.mem_cons.1 hb with h | h
  · rw [h]; exact small_easyB0
  · rw [List.mem_singleton.1 h]; exact small_easyB⟩
def fewC (l : List Block) : Bool := l.all fewB && decide ((l.length : Int) ≤ 50)
theorem fewC_small {l : List Block} (h : fewC l = true) : smallC l := by
  unfold fewC at h
  rw [Bool.and_eq_true, decide_eq_true_eq] at h
  exact ⟨by omega, fun b hb => fewB_small (List.all_eq_true.1 h.1 b hb)⟩
end Go.Proofs.YtgoebfjaaklopaaGreat
set_option maxRecDepth 20000
namespace Go.Proofs.YtgoebfjaaklopaaGreat
set_option linter.unusedVariables false
set_option linter.unusedSimpArgs false
open Go.Ab Go.RowKit
theorem indexFuncBlock (l : List Block) (p : Block → Bool) : Tells P 71 [.val (bsl blockT) l, .fn1 P blockT boolT p] (.val i64T (idx p l)) := by
 refine fn_of_aw Tryz.func71 rfl rfl rfl (fun ext w hext => ?_)
 refine aw_fact (d := 0) rfl fact_sl (fun hsl0 => ?_)
 refine CQR ?_; refine A0 aV ?_; refine CNQQR ?_; refine A0 mV ?_; refine A0 (g_len rfl rfl isl_22) ?_; refine A0 mV ?_; refine CNB ?_
 refine Lp (ι := Nat) 0 (fun (k : Nat) => (((((Fr.none).set 0 (.val (bsl blockT) l)).set 1 (.fn1 P blockT boolT p)).set 6 (.val (bsl blockT) l)).set 7 (.val i64T (l.length : Int))).set 8 (.val i64T (k : Int))) (fun (k : Nat) => Hp.none) (fun (k : Nat) => k ≤ l.length ∧ idx p l = shift k (idx p (l.drop k))) (fun (k : Nat) => l.length - k) (0) (⟨Nat.zero_le _, shift_zero p l⟩) ?_
 intro k hinv
 refine CQR ?_; refine A0 o_lss ?_; refine CNQ ?_
 refine Cf (p := k < l.length) (fun ht9 => ?_) (fun ht9 => ?_)
 ·
  obtain ⟨x, hx⟩ : ∃ x, l[k]? = some x := ⟨_, List.getElem?_eq_getElem ht9⟩
  refine CSQBQR ?_; refine A0 mV ?_; refine A0 aV ?_; refine CNQR ?_; refine A0 mF ?_; refine A0 mV ?_; refine A0 mV ?_; refine A0 (g_ia_n rfl rfl rfl sl_22 (by assumption)) ?_; refine A0 (g_load_r rfl rfl ty_37) ?_
  refine A0 (g_callf1 rfl rfl (by first | exact arg_same rfl | exact arg_bsl rfl | exact arg_own rfl rfl | exact arg_nil rfl | exact arg_rptr rfl | exact arg_fn rfl rfl | exact arg_lit rfl)) ?_; refine CN ?_
  refine aw_ifc (p := p x = true) rfl (by simp) (fun ht16 => ?_) (fun ht16 => ?_)
  ·
   refine CQR ?_; refine A0 mV ?_; refine A0 aV ?_; refine CN ?_
   exact aw_ret1 rfl rfl (ret_eq rfl (hinv.2.trans (idx_yes hx ht16)).symm)
  ·
   refine CSIR ?_; refine A0 o_add ?_; refine A0 mV ?_; refine CN ?_
   exact Nx (k + 1) (⟨by omega, hinv.2.trans (idx_no hx ht16)⟩) (by omega)
 ·
  refine CE ?_; refine CQR ?_; refine A0 aV ?_; refine CN ?_
  exact aw_ret1 rfl rfl (ret_eq rfl (hinv.2.trans (idx_end (by omega))).symm)
theorem equalFBlock (l m : List Block) : Tells P 57 [.val (bsl blockT) l, .val (bsl blockT) m, .fn2 P blockT blockT boolT (fun x y => decide (x = y))] (.val boolT (decide (l = m))) := by
 refine fn_of_aw Tryz.func57 rfl rfl rfl (fun ext w hext => ?_)
 refine aw_fact (d := 0) rfl fact_sl (fun hsl0 => ?_)
 refine aw_fact (d := 1) rfl fact_sl (fun hsl1 => ?_)
 refine CQR ?_; refine A0 aV ?_; refine CNQQR ?_; refine A0 mV ?_; refine A0 (g_len rfl rfl isl_22) ?_; refine A0 mV ?_; refine A0 (g_len rfl rfl isl_22) ?_; refine A0 o_neq ?_; refine CN ?_
 refine Cf (p := ¬ l.length = m.length) (fun ht14 => ?_) (fun ht14 => ?_)
 ·
  refine CQR ?_; refine A0 aV ?_; refine CN ?_
  exact aw_ret1 rfl rfl (ret_eq rfl (decide_eq_false (fun e => ht14 (by rw [e]))).symm)
 ·
  refine CSQQR ?_; refine A0 mV ?_; refine A0 (g_len rfl rfl isl_22) ?_; refine A0 mV ?_; refine CNB ?_
  refine Lp (ι := Nat) 0 (fun (k : Nat) => ((((((Fr.none).set 0 (.val (bsl blockT) l)).set 1 (.val (bsl blockT) m)).set 2 (.fn2 P blockT blockT boolT (fun x y => decide (x = y)))).set 15 (.val (bsl blockT) l)).set 16 (.val i64T (l.length : Int))).set 17 (.val i64T (k : Int))) (fun (k : Nat) => Hp.none) (fun (k : Nat) => k ≤ l.length ∧ l.take k = m.take k) (fun (k : Nat) => l.length - k) (0) (⟨Nat.zero_le _, by simp⟩) ?_
  intro k hinv
  refine CQR ?_; refine A0 o_lss ?_; refine CNQ ?_
  refine Cf (p := k < l.length) (fun ht18 => ?_) (fun ht18 => ?_)
  ·
   obtain ⟨x, hx⟩ : ∃ x, l[k]? = some x := ⟨_, List.getElem?_eq_getElem ht18⟩
   obtain ⟨y, hy⟩ : ∃ y, m[k]? = some y := ⟨_, List.getElem?_eq_getElem (by omega)⟩
   refine CSQBQR ?_; refine A0 mV ?_; refine A0 (g_ia_n rfl rfl rfl sl_22 (by assumption)) ?_; refine A0 (g_load_r rfl rfl ty_37) ?_; refine aw_alloc ze_37 rfl rfl rfl rfl ?_; refine A0 aV ?_
   refine aw_store_b rfl rfl rfl rfl rfl (Lens.self _) ty_37 rfl ?_; refine CNQR ?_; refine A0 mV ?_; refine A0 mV ?_; refine A0 (g_ia_n rfl rfl rfl sl_22 (by assumption)) ?_; refine A0 (g_load_r rfl rfl ty_37) ?_
   refine aw_alloc ze_37 rfl rfl rfl rfl ?_; refine aw_store_b rfl rfl rfl rfl rfl (Lens.self _) ty_37 rfl ?_; refine CNQR ?_; refine A0 mH ?_; refine A0 (oLs rfl rfl rfl ty_37) ?_; refine A0 (oLs rfl rfl rfl ty_37) ?_
   refine A0 (g_callf2 rfl rfl (arg_v rfl) (arg_v rfl)) ?_; refine A0 oN ?_; refine CN ?_
   refine aw_ifc (p := ¬ x = y) rfl (by simp) (fun ht30 => ?_) (fun ht30 => ?_)
   ·
    refine CQR ?_; refine A0 aV ?_; refine CN ?_
    exact aw_ret1 rfl rfl (ret_eq rfl (decide_eq_false (ne_of_at hx hy ht30)).symm)
   ·
    refine CSIR ?_; refine A0 o_add ?_; refine A0 mV ?_; refine CN ?_
    exact Nx (k + 1) (⟨by omega, beq_all_succ hx hy hinv.2 (by simpa using ht30)⟩) (by omega)
  ·
   refine CE ?_; refine CQR ?_; refine A0 aV ?_; refine CN ?_
   exact aw_ret1 rfl rfl (ret_eq rfl (decide_eq_true (by have h := hinv.2; rw [List.take_of_length_le (by omega), List.take_of_length_le (by omega)] at h; exact h)).symm)
theorem checkOf_start {l : List Block} {g : Block} (h : l[0]? = some g) (h1 : tgtOk g.h.bits = true) (h2 : (firstTip g.h.bits).b = g) : checkOf l = checkFrom (firstTip g.h.bits) (l.drop 1) := by
  cases l with
  | nil => cases h
  | cons x r =>
    injection h with h; subst h
    unfold checkOf; simp only []; rw [if_pos ⟨h1, h2⟩]; rfl
theorem checkOf_other {l : List Block} {g : Block} (h : l[0]? = some g) (h1 : ¬ (tgtOk g.h.bits = true ∧ (firstTip g.h.bits).b = g)) : checkOf l = (zTip, 12) := by
  cases l with
  | nil => cases h
  | cons x r =>
    injection h with h; subst h
    unfold checkOf; simp only []; rw [if_neg h1]
theorem check_step {r : List Block} {k : Nat} {b : Block} {t : Tip} (hb : r[k]? = some b) (h : pushE t b = 0) : checkFrom t (r.drop k) = checkFrom (pushT t b) (r.drop (k + 1)) := by
  obtain ⟨hk, rfl⟩ := List.getElem?_eq_some_iff.1 hb
  rw [List.drop_eq_getElem_cons hk, checkFrom, if_pos h]
theorem check_stop {r : List Block} {k : Nat} {b : Block} {t : Tip} (hb : r[k]? = some b) (h : ¬ pushE t b = 0) : checkFrom t (r.drop k) = (zTip, pushE t b) := by
  obtain ⟨hk, rfl⟩ := List.getElem?_eq_some_iff.1 hb
  rw [List.drop_eq_getElem_cons hk, checkFrom, if_neg h]
theorem check_end {r : List Block} {k : Nat} {t : Tip} (h : r.length ≤ k) : checkFrom t (r.drop k) = (t, 0) := by
  rw [List.drop_of_length_le h]; rfl
theorem checkOf_nil {l : List Block} (h : l.length = 0) : checkOf l = (zTip, 9) := by rw [List.eq_nil_of_length_eq_zero h]; rfl
def newOf (bits : UInt32) : List Block := if tgtOk bits = true then [(firstTip bits).b] else []
theorem own11_ok (t : Tx) (ht : smallTx t) : Tells P 117 [.val txT t] (.val txT t) := by
 refine fn_of_aw Tryz.func117 rfl rfl rfl (fun ext w hext => ?_)
 refine CQR ?_; refine aw_box rfl rfl rfl rfl rfl ?_; refine aw_alloc ze_112 rfl rfl rfl rfl ?_; refine CNQ ?_; refine aw_drawx [some 1, some 1, some 1, some 1, some 1, some 1, some 1, none] mixed (by decide +kernel) ?_
 refine X0 (oFp fd_112_0) ?_; refine X0 (oLb L_Tx_ins ty_109) ?_; refine X0 (oCl (tells_pub (cloneIn t.ins (by unfold smallTx at ht; constructor <;> omega))) rfl fn_75 ⟨(arg_v rfl), trivial⟩) ?_; refine X0 (oFp fd_112_1) ?_
 refine X0 (oLb L_Tx_outs ty_110) ?_; refine X0 (oCl (tells_pub (cloneOut t.outs (by unfold smallTx at ht; constructor <;> omega))) rfl fn_76 ⟨(arg_v rfl), trivial⟩) ?_
 refine X0 (g_build rfl ze_112 bd_112 (.cons fd_112_0 L_Tx_ins ty_109 rfl (.cons fd_112_1 L_Tx_outs ty_110 rfl .nil)) rfl) ?_
 refine XK.e (x := .idk) (fun fr' hfr kk H => by exact aw_store_b rfl rfl rfl ((hfr 2 (by decide +kernel)).trans rfl) rfl (Lens.self _) ty_112 ((hfr 9 (by decide +kernel)).trans rfl) (aw_nil H)) ?_; refine XK.nil' ?_
 exact aw_retc1 rfl rfl rfl rfl ty_112 (rfl)
theorem toldTx_ok (l : List Tx) (hl : smallL l) : Tells P 116 [.val (bsl txT) l, .clo 117 []] (.fresh 112 txT l) := by
 have hll := hl.1
 refine fn_of_aw Tryz.func116 rfl rfl rfl (fun ext w hext => ?_)
 refine aw_fact (d := 0) rfl fact_sl (fun hsl0 => ?_)
 refine CQR ?_; refine A0 aL ?_; refine CNQR ?_; refine A0 aL ?_; refine CNQQR ?_; refine A0 mV ?_; refine A0 (g_len rfl rfl isl_35) ?_; refine A0 mV ?_; refine CNB ?_; refine aw_nilrow (T := txT) (d := 5) 112 rfl ?_
 refine Lp (ι := Nat) 1 (fun (k : Nat) => ((((((Fr.none).set 0 (.val (bsl txT) l)).set 1 (.clo 117 [])).set 5 (.own 0)).set 8 (.val (bsl txT) l)).set 9 (.val i64T (l.length : Int))).set 10 (.val i64T (k : Int))) (fun (k : Nat) => (Hp.none).set 0 (.row 112 txT (l.take k))) (fun (k : Nat) => k ≤ l.length) (fun (k : Nat) => l.length - k) (0) (Nat.zero_le _) ?_
 intro k hinv
 refine CQR ?_; refine A0 o_lss ?_; refine CNQ ?_
 refine Cf (p := k < l.length) (fun ht11 => ?_) (fun ht11 => ?_)
 ·
  obtain ⟨x, hx⟩ : ∃ x, l[k]? = some x := ⟨_, List.getElem?_eq_getElem ht11⟩
  have hxm := List.mem_of_getElem? hx
  refine CSQBQR ?_; refine A0 (g_ia_n rfl rfl rfl sl_35 (by assumption)) ?_; refine A0 (g_load_r rfl rfl ty_112) ?_; refine aw_alloc ze_112 rfl rfl rfl rfl ?_; refine aw_store_b rfl rfl rfl rfl rfl (Lens.self _) ty_112 rfl ?_; refine CNR ?_
  refine A0 mO ?_; refine A0 mC ?_; refine A0 (oLs rfl rfl rfl ty_112) ?_; refine A0 (g_callc (As := [_]) (Cs := []) (own11_ok x (hl.2 x hxm)) rfl rfl fn_117 ⟨(arg_v rfl), trivial⟩ (by intro n hn; cases hn) trivial rfl) ?_
  refine A0 (g_bslice (T := txT) (xs := [_]) rfl sl_35 row_35 ⟨rfl, rfl, trivial⟩ rfl rfl) ?_; refine aw_append rfl rfl rfl rfl rfl rfl rfl row_35 (by simp; omega) ?_; refine A0 aO ?_; refine CNIR ?_; refine A0 o_add ?_; refine A0 mV ?_
  refine CN ?_; refine aw_ren 2 0 3 rfl rfl rfl rfl rfl rfl ?_; refine aw_rerow (n := 0) (y := l.take (k + 1)) rfl (by rw [List.take_add_one, hx]; rfl) ?_
  exact Nx (k + 1) (by omega) (by omega)
 ·
  refine CE ?_; refine CQR ?_; refine A0 mO ?_; refine A0 aO ?_; refine CN ?_
  exact aw_ret1 rfl rfl (ret_fresh_eq rfl rfl (by rw [List.take_of_length_le (by omega)]))
theorem own1_ok (b : Block) (hb : smallB b) : Tells P 115 [.val blockT b] (.val blockT b) := by
 have hb1 := hb.1
 refine fn_of_aw Tryz.func115 rfl rfl rfl (fun ext w hext => ?_)
 refine CQR ?_; refine aw_box rfl rfl rfl rfl rfl ?_; refine aw_alloc ze_37 rfl rfl rfl rfl ?_; refine CNQR ?_; refine A0 (oFp fd_37_1) ?_; refine A0 (oLb L_Block_l ty_34) ?_
 refine A0 (oCl (tells_pub (cloneId b.l (by constructor <;> omega))) rfl fn_73 ⟨(arg_v rfl), trivial⟩) ?_; refine A0 (oFp fd_37_1) ?_; refine aw_store_b rfl rfl rfl rfl rfl L_Block_l ty_34 rfl ?_; refine CNQR ?_; refine A0 (oFp fd_37_2) ?_
 refine A0 (oLb L_Block_t ty_35) ?_
 refine A0 (oCl (tells_pub (toldTx_ok b.t hb.2)) rfl fn_116 ⟨(arg_v rfl), (by first | exact arg_fn1 (Cs := []) rfl fn_117 (by intro n hn; cases hn) trivial rfl (fun x => own11_ok _ (by assumption)) | exact arg_fn2 (Cs := []) rfl fn_117 (by intro n hn; cases hn) trivial rfl (fun x y => own11_ok _ (by assumption)) | exact arg_clo rfl), trivial⟩) ?_
 refine A0 (oFp fd_37_2) ?_; refine aw_store_b rfl rfl rfl rfl rfl L_Block_t ty_35 rfl ?_; refine CNQR ?_; refine A0 (oLs rfl rfl rfl ty_37) ?_; refine aw_store_b rfl rfl rfl rfl rfl (Lens.self _) ty_37 rfl ?_; refine CN ?_
 exact aw_retc1 rfl rfl rfl rfl ty_37 (rfl)
theorem toldBlock_ok (l : List Block) (hl : smallC l) : Tells P 114 [.val (bsl blockT) l, .clo 115 []] (.fresh 37 blockT l) := by
 have hll := hl.1
 refine fn_of_aw Tryz.func114 rfl rfl rfl (fun ext w hext => ?_)
 refine aw_fact (d := 0) rfl fact_sl (fun hsl0 => ?_)
 refine CQR ?_; refine A0 aL ?_; refine CNQR ?_; refine A0 aL ?_; refine CNQQR ?_; refine A0 mV ?_; refine A0 (g_len rfl rfl isl_22) ?_; refine A0 mV ?_; refine CNB ?_; refine aw_nilrow (T := blockT) (d := 5) 37 rfl ?_
 refine Lp (ι := Nat) 1 (fun (k : Nat) => ((((((Fr.none).set 0 (.val (bsl blockT) l)).set 1 (.clo 115 [])).set 5 (.own 0)).set 8 (.val (bsl blockT) l)).set 9 (.val i64T (l.length : Int))).set 10 (.val i64T (k : Int))) (fun (k : Nat) => (Hp.none).set 0 (.row 37 blockT (l.take k))) (fun (k : Nat) => k ≤ l.length) (fun (k : Nat) => l.length - k) (0) (Nat.zero_le _) ?_
 intro k hinv
 refine CQR ?_; refine A0 o_lss ?_; refine CNQ ?_
 refine Cf (p := k < l.length) (fun ht11 => ?_) (fun ht11 => ?_)
 ·
  obtain ⟨x, hx⟩ : ∃ x, l[k]? = some x := ⟨_, List.getElem?_eq_getElem ht11⟩
  have hxm := List.mem_of_getElem? hx
  refine CSQBQR ?_; refine A0 (g_ia_n rfl rfl rfl sl_22 (by assumption)) ?_; refine A0 (g_load_r rfl rfl ty_37) ?_; refine aw_alloc ze_37 rfl rfl rfl rfl ?_; refine aw_store_b rfl rfl rfl rfl rfl (Lens.self _) ty_37 rfl ?_; refine CNR ?_
  refine A0 mO ?_; refine A0 mC ?_; refine A0 (oLs rfl rfl rfl ty_37) ?_; refine A0 (g_callc (As := [_]) (Cs := []) (own1_ok x (hl.2 x hxm)) rfl rfl fn_115 ⟨(arg_v rfl), trivial⟩ (by intro n hn; cases hn) trivial rfl) ?_
  refine A0 (g_bslice (T := blockT) (xs := [_]) rfl sl_22 row_22 ⟨rfl, rfl, trivial⟩ rfl rfl) ?_; refine aw_append rfl rfl rfl rfl rfl rfl rfl row_22 (by simp; omega) ?_; refine A0 aO ?_; refine CNIR ?_; refine A0 o_add ?_; refine A0 mV ?_
  refine CN ?_; refine aw_ren 2 0 3 rfl rfl rfl rfl rfl rfl ?_; refine aw_rerow (n := 0) (y := l.take (k + 1)) rfl (by rw [List.take_add_one, hx]; rfl) ?_
  exact Nx (k + 1) (by omega) (by omega)
 ·
  refine CE ?_; refine CQR ?_; refine A0 mO ?_; refine A0 aO ?_; refine CN ?_
  exact aw_ret1 rfl rfl (ret_fresh_eq rfl rfl (by rw [List.take_of_length_le (by omega)]))
theorem ownC_ok (l : List Block) (hl : smallC l) : Tells P 66 [.val (bsl blockT) l] (.fresh 37 blockT l) := by
 refine fn_of_aw Tryz.func66 rfl rfl rfl (fun ext w hext => ?_)
 refine aw_fact (d := 0) rfl fact_sl (fun hsl0 => ?_)
 refine CQR ?_; refine A0 aL ?_; refine CNQR ?_; refine A0 mV ?_
 refine aw_callf (toldBlock_ok l hl) rfl fn_114 ⟨(arg_v rfl), (by first | exact arg_fn1 (Cs := []) rfl fn_115 (by intro n hn; cases hn) trivial rfl (fun x => own1_ok _ (by assumption)) | exact arg_fn2 (Cs := []) rfl fn_115 (by intro n hn; cases hn) trivial rfl (fun x y => own1_ok _ (by assumption)) | exact arg_clo rfl), trivial⟩ rfl rfl rfl ?_
 refine A0 aO ?_; refine CN ?_
 exact aw_ret1 rfl rfl (ret_fresh_eq rfl rfl rfl)
theorem findC1_ok (id : Ab.Id) (b : Block) : Tells P 72 [.val blockT b, .rptr idT id] (.val boolT (decide (headId b.h = id))) := by
 refine fn_of_aw Tryz.func72 rfl rfl rfl (fun ext w hext => ?_)
 refine CQR ?_; refine aw_box rfl rfl rfl rfl rfl ?_; refine A0 aV ?_; refine CNQ ?_; refine CD mixed ?_; refine G0 (oFp fd_37_0) ?_; refine G0 (oLb L_Block_h ty_33) ?_; refine G0 (oCl (headId_ok _) rfl fn_33 ⟨(arg_v rfl), trivial⟩) ?_
 refine G0 (g_load_r rfl rfl ty_27) ?_; refine G0 (g_eqlS rfl rfl rfl (eqt_27)) ?_; refine G0 aV ?_; refine GK.nil ?_
 exact aw_ret1 rfl rfl (by first | exact ret_val rfl | exact ret_own rfl rfl | exact ret_nil rfl | exact ret_fresh rfl rfl | exact ret_fresh_nil rfl | exact ret_lit rfl)
theorem findC_ok (l : List Block) (id : Ab.Id) : Tells P 37 [.val (bsl blockT) l, .val idT id] (.val i64T (findOf l id)) := by
 refine fn_of_aw Tryz.func37 rfl rfl rfl (fun ext w hext => ?_)
 refine aw_fact (d := 0) rfl fact_sl (fun hsl0 => ?_)
 refine CQR ?_; refine aw_box rfl rfl rfl rfl rfl ?_; refine A0 aV ?_; refine CNQR ?_; refine A0 mV ?_; refine A0 (g_mkf (caps := [_]) rfl rfl) ?_
 refine A0 (oCl (indexFuncBlock l (fun b => decide (headId b.h = id))) rfl fn_71 ⟨(arg_v rfl), (by first | exact arg_fn1 (Cs := [_]) rfl fn_72 (by intro n hn; simp only [List.mem_cons, List.not_mem_nil, or_false] at hn; rcases hn with rfl <;> exact ⟨_, _, _, _, rfl⟩) ⟨(by exact arg_cap rfl), trivial⟩ rfl (fun x => findC1_ok id x) | exact arg_fn2 (Cs := [_]) rfl fn_72 (by intro n hn; simp only [List.mem_cons, List.not_mem_nil, or_false] at hn; rcases hn with rfl <;> exact ⟨_, _, _, _, rfl⟩) ⟨(by exact arg_cap rfl), trivial⟩ rfl (fun x y => findC1_ok id x) | exact arg_clo rfl), trivial⟩) ?_
 refine A0 aV ?_; refine CN ?_
 exact aw_ret1 rfl rfl (ret_eq rfl rfl)
theorem sameC_ok (a b : List Block) : Tells P 29 [.val (bsl blockT) a, .val (bsl blockT) b] (.val boolT (decide (a = b))) := by
 refine fn_of_aw Tryz.func29 rfl rfl rfl (fun ext w hext => ?_)
 refine aw_fact (d := 0) rfl fact_sl (fun hsl0 => ?_)
 refine aw_fact (d := 1) rfl fact_sl (fun hsl1 => ?_)
 refine CQR ?_; refine A0 aV ?_; refine CNQR ?_; refine A0 mV ?_; refine A0 mV ?_
 refine A0 (oCl (equalFBlock _ _) rfl fn_57 ⟨(arg_v rfl), (arg_v rfl), (by first | exact arg_fn1 (Cs := []) rfl fn_56 (by intro n hn; cases hn) trivial rfl (fun x => sameB_ok x y) | exact arg_fn2 (Cs := []) rfl fn_56 (by intro n hn; cases hn) trivial rfl (fun x y => sameB_ok x y) | exact arg_clo rfl), trivial⟩) ?_
 refine A0 aV ?_; refine CN ?_
 exact aw_ret1 rfl rfl (by first | exact ret_val rfl | exact ret_own rfl rfl | exact ret_nil rfl | exact ret_fresh rfl rfl | exact ret_fresh_nil rfl | exact ret_lit rfl)
theorem check_ok (l : List Block) (hl : smallC l) : Tells P 28 [.val (bsl blockT) l] (.tup2 (.val tipT (checkOf l).1) (.val i64T (checkOf l).2)) := by
 have hll := hl.1
 refine fn_of_aw Tryz.func28 rfl rfl rfl (fun ext w hext => ?_)
 refine aw_fact (d := 0) rfl fact_sl (fun hsl0 => ?_)
 refine CQR ?_; refine aw_alloc ze_56 rfl rfl rfl rfl ?_; refine A0 aV ?_; refine CN ?_
 refine aw_scope (ι := Block) 2 0 rfl rfl rfl (fun (g : Block) => ((((Fr.none).set 0 (.val (bsl blockT) l)).set 2 (.ptr 0 0)).set 4 (.ptr 1 0)).set 6 (.val i64T 0)) (fun (g : Block) => ((Hp.none).set 0 (.box 56 tipT zTip)).set 1 (.box 56 tipT (firstTip g.h.bits))) (fun (g : Block) => l[0]? = some g ∧ tgtOk g.h.bits = true ∧ (firstTip g.h.bits).b = g) (fun (g : Block) => 0) ?_ (fun hreach => ?_)
 ·
  intro g hinv
  have hl1 := (List.getElem?_eq_some_iff.1 hinv.1).1
  refine CQQR ?_; refine A0 mV ?_; refine A0 (g_sl_l rfl rfl rfl sl_22 (by first | assumption | omega | (simp; omega))) ?_; refine A0 (g_len rfl rfl isl_22) ?_; refine A0 mV ?_; refine CNB ?_
  refine Lp (ι := Nat × Tip) 2 (fun (i : Nat × Tip) => match i with | (k, t) => (((((((Fr.none).set 0 (.val (bsl blockT) l)).set 2 (.ptr 0 0)).set 4 (.ptr 1 0)).set 6 (.val i64T 0)).set 35 (.val (bsl blockT) (l.drop 1))).set 36 (.val i64T ((l.drop 1).length : Int))).set 37 (.val i64T (k : Int))) (fun (i : Nat × Tip) => match i with | (k, t) => ((Hp.none).set 0 (.box 56 tipT zTip)).set 1 (.box 56 tipT t)) (fun (i : Nat × Tip) => match i with | (k, t) => k ≤ (l.drop 1).length ∧ smallN t k ∧ checkOf l = checkFrom t ((l.drop 1).drop k)) (fun (i : Nat × Tip) => match i with | (k, t) => (l.drop 1).length - k) ((0, firstTip g.h.bits)) (⟨Nat.zero_le _, first_small, checkOf_start hinv.1 hinv.2.1 hinv.2.2⟩) ?_
  intro ⟨k, t⟩ hin
  dsimp only at hin
  refine CQR ?_; refine A0 o_lss ?_; refine CNQ ?_
  refine Cf (p := k < (l.drop 1).length) (fun ht38 => ?_) (fun ht38 => ?_)
  ·
   have hk38 : k < l.length := by rw [List.length_drop] at ht38; omega
   obtain ⟨b, hb⟩ : ∃ b, (l.drop 1)[k]? = some b := ⟨_, List.getElem?_eq_getElem ht38⟩
   have hbm := hl.2 b (List.mem_of_mem_drop (List.mem_of_getElem? hb))
   refine CSQBQR ?_; refine A0 (g_ia_i (i := k) rfl rfl rfl (by omega) sl_22 (by assumption)) ?_; refine A0 (g_load_r rfl rfl ty_37) ?_; refine aw_alloc ze_37 rfl rfl rfl rfl ?_; refine aw_store_b rfl rfl rfl rfl rfl (Lens.self _) ty_37 rfl ?_
   refine CNQR ?_; refine A0 (oLs rfl rfl rfl ty_56) ?_; refine A0 (oLs rfl rfl rfl ty_37) ?_; refine A0 (oCl (push_ok t b hin.2.1.1 hbm) rfl fn_53 ⟨(arg_v rfl), (arg_v rfl), trivial⟩) ?_; refine A0 mX ?_
   refine A0 (by first | exact g_x20 rfl rfl | exact g_x30 rfl rfl) ?_; refine A0 (by first | exact g_x21 rfl rfl | exact g_x31 rfl rfl) ?_; refine aw_store_b rfl rfl rfl rfl rfl (Lens.self _) ty_56 rfl ?_; refine A0 aV ?_; refine CNQR ?_
   refine A0 mV ?_; refine A0 o_neq ?_; refine CN ?_
   refine aw_ifc (p := ¬ pushE t b = 0) rfl (by simp [IntL.toI]) (fun ht48 => ?_) (fun ht48 => ?_)
   ·
    refine CE ?_; refine CQQR ?_; refine A0 mV ?_; refine A0 o_neq ?_; refine CN ?_; refine aw_if_t rfl (by simpa [IntL.toI] using ht48) ?_; refine CQR ?_; refine A0 (g_build rfl ze_56 bd_56 .nil rfl) ?_; refine A0 mV ?_
    refine aw_store_b rfl rfl rfl rfl rfl (Lens.self _) ty_56 rfl ?_; refine A0 aV ?_; refine CN ?_
    exact aw_retr2 rfl rfl (rv_cell rfl rfl ty_56 (by rw [hin.2.2, check_stop hb ht48])) (rv_tmp (ret_eq rfl (by rw [hin.2.2, check_stop hb ht48])))
   ·
    refine CSIR ?_; refine A0 o_add ?_; refine A0 mV ?_; refine CN ?_; refine aw_reval (d := 6) (y := (0 : Int)) rfl (Classical.not_not.1 ht48) ?_
    exact Nx ((k + 1, pushT t b)) (⟨by omega, push_smallN hin.2.1 (by rw [List.length_drop] at ht38; omega) hbm (Classical.not_not.1 ht48), hin.2.2.trans (check_step hb (Classical.not_not.1 ht48))⟩) (by show (l.drop 1).length - (k + 1) < (l.drop 1).length - k; omega)
  ·
   refine CE ?_; refine CQQR ?_; refine A0 mV ?_; refine A0 o_neq ?_; refine CN ?_; refine Cg ?_; refine CSQR ?_; refine A0 (oLs rfl rfl rfl ty_56) ?_; refine aw_store_b rfl rfl rfl rfl rfl (Lens.self _) ty_56 rfl ?_; refine A0 aV ?_
   refine CN ?_
   exact aw_retr2 rfl rfl (rv_cell rfl rfl ty_56 (by rw [hin.2.2, check_end (by omega)])) (rv_tmp (ret_eq rfl (by rw [hin.2.2, check_end (by omega)])))
 ·
  refine CQQR ?_; refine A0 mV ?_; refine A0 (g_len rfl rfl isl_22) ?_; refine A0 o_eql ?_; refine CN ?_
  refine Cf (p := l.length = 0) (fun ht11 => ?_) (fun ht11 => ?_)
  ·
   refine CQR ?_; refine A0 (g_build rfl ze_56 bd_56 .nil rfl) ?_; refine aw_store_b rfl rfl rfl rfl rfl (Lens.self _) ty_56 rfl ?_; refine A0 aV ?_; refine CN ?_
   exact aw_retr2 rfl rfl (rv_cell rfl rfl ty_56 (by rw [checkOf_nil ht11])) (rv_tmp (ret_eq rfl (by rw [checkOf_nil ht11])))
  ·
   obtain ⟨g, hg⟩ : ∃ g, l[0]? = some g := ⟨_, List.getElem?_eq_getElem (by omega)⟩
   refine CSQR ?_; refine A0 mV ?_; refine A0 (g_ia_i (i := 0) rfl rfl rfl (by omega) sl_22 (by assumption)) ?_; refine A0 (oFr fd_37_0 L_Block_h) ?_; refine A0 (oFr fd_33_6 L_Head_bits) ?_; refine A0 (g_load_r rfl rfl ty_31) ?_
   refine A0 (oCl (firstTip_ok g.h.bits) rfl fn_55 ⟨(by first | exact arg_same rfl | exact arg_bsl rfl | exact arg_own rfl rfl | exact arg_nil rfl | exact arg_rptr rfl | exact arg_fn rfl rfl | exact arg_lit rfl), trivial⟩) ?_; refine A0 mX ?_
   refine A0 (by first | exact g_x20 rfl rfl | exact g_x30 rfl rfl) ?_; refine A0 (by first | exact g_x21 rfl rfl | exact g_x31 rfl rfl) ?_; refine aw_alloc ze_56 rfl rfl rfl rfl ?_
   refine aw_store_b rfl rfl rfl rfl rfl (Lens.self _) ty_56 rfl ?_; refine A0 aV ?_; refine CNQ ?_; refine CQ ?_; refine CD mixed ?_; refine G0 mV ?_; refine G0 oN ?_; refine G0 mV ?_
   refine GK_splitp (d := 24) (p := ¬ tgtOk g.h.bits = true) rfl (by cases tgtOk g.h.bits <;> rfl) (fun g24 => ?_) (fun g24 => ?_)
   ·
    refine G2 ?_; refine G2 ?_; refine G2 ?_; refine G2 ?_; refine G2 ?_; refine G2 ?_; refine G2 ?_; refine G0 oK ?_; refine GK.nil ?_; refine Ct ?_; refine CQR ?_; refine A0 (g_build rfl ze_56 bd_56 .nil rfl) ?_
    refine aw_store_b rfl rfl rfl rfl rfl (Lens.self _) ty_56 rfl ?_; refine A0 aV ?_; refine CN ?_
    exact aw_retr2 rfl rfl (rv_cell rfl rfl ty_56 (by rw [checkOf_other hg fun h => g24 h.1])) (rv_tmp (ret_eq rfl (by rw [checkOf_other hg fun h => g24 h.1])))
   ·
    refine G1 (oFp fd_56_0) ?_; refine G1 (oLb L_Tip_b ty_37) ?_; refine G1 mV ?_; refine G1 (g_ia_i (i := 0) rfl rfl rfl (by omega) sl_22 (by assumption)) ?_; refine G1 (g_load_r rfl rfl ty_37) ?_
    refine G1 (oCl (sameB_ok _ _) rfl fn_56 ⟨(arg_v rfl), (by first | exact arg_same rfl | exact arg_bsl rfl | exact arg_own rfl rfl | exact arg_nil rfl | exact arg_rptr rfl | exact arg_fn rfl rfl | exact arg_lit rfl), trivial⟩) ?_
    refine G1 oN ?_; refine G0 oK ?_; refine GK.nil ?_
    refine aw_ifc (p := ¬ (firstTip g.h.bits).b = g) rfl (by simp) (fun ht32 => ?_) (fun ht32 => ?_)
    ·
     refine CQR ?_; refine A0 (g_build rfl ze_56 bd_56 .nil rfl) ?_; refine aw_store_b rfl rfl rfl rfl rfl (Lens.self _) ty_56 rfl ?_; refine A0 aV ?_; refine CN ?_
     exact aw_retr2 rfl rfl (rv_cell rfl rfl ty_56 (by rw [checkOf_other hg fun h => ht32 h.2])) (rv_tmp (ret_eq rfl (by rw [checkOf_other hg fun h => ht32 h.2])))
    ·
     refine CSQR ?_; refine A0 aV ?_; refine CNQ ?_
     exact aw_reach hreach (g) rfl (⟨hg, Classical.not_not.1 g24, Classical.not_not.1 ht32⟩) rfl (by (repeat refine Fr.le_set ?_ (by first | rfl | (simp; done))); exact Fr.le_none _) (by (repeat refine Hp.le_set ?_ rfl); exact Hp.le_none _) (by (repeat refine Fr.below_setB ?_ rfl); exact Fr.below_none _) (by (repeat refine Hp.below_set ?_ (by decide)); exact Hp.below_none _)
theorem newC_ok (bits : UInt32) : Tells P 42 [.val u32T bits] (.tup2 (.val (sl blockT) (newOf bits)) (.val boolT (tgtOk bits))) := by
 refine fn_of_aw Tryz.func42 rfl rfl rfl (fun ext w hext => ?_)
 refine CQR ?_; refine A0 aL ?_; refine A0 aV ?_; refine CNQR ?_; refine A0 mV ?_; refine A0 (oCl (firstTip_ok bits) rfl fn_55 ⟨(arg_v rfl), trivial⟩) ?_; refine A0 mX ?_; refine A0 (by first | exact g_x20 rfl rfl | exact g_x30 rfl rfl) ?_
 refine A0 (by first | exact g_x21 rfl rfl | exact g_x31 rfl rfl) ?_; refine aw_alloc ze_56 rfl rfl rfl rfl ?_; refine aw_store_b rfl rfl rfl rfl rfl (Lens.self _) ty_56 rfl ?_; refine A0 aV ?_; refine CNQQR ?_; refine A0 mV ?_
 refine A0 oN ?_; refine CN ?_
 refine aw_ifc (p := ¬ tgtOk bits = true) rfl (by cases tgtOk bits <;> rfl) (fun ht12 => ?_) (fun ht12 => ?_)
 ·
  refine CQR ?_; refine A0 aL ?_; refine A0 aV ?_; refine CN ?_
  exact aw_ret2 rfl rfl (by unfold newOf; rw [if_neg ht12]; exact ret_nil rfl) (ret_eq rfl (by simpa using ht12))
 ·
  refine CSQR ?_; refine A0 (oFp fd_56_0) ?_; refine A0 (oLb L_Tip_b ty_37) ?_; refine A0 (g_bslice (T := blockT) (xs := [_]) rfl sl_22 row_22 ⟨rfl, rfl, trivial⟩ rfl rfl) ?_; refine A0 aV ?_; refine A0 aV ?_; refine CN ?_
  exact aw_ret2 rfl rfl (ret_eq rfl (by unfold newOf; rw [if_pos (Classical.not_not.1 ht12)])) (ret_eq rfl (Classical.not_not.1 ht12).symm)
theorem growC_ok (l : List Block) (t : List Tx) (nonce : UInt64) (hl : smallC l) (ht : smallL t) : Tells P 34 [.val (bsl blockT) l, .val (sl txT) t, .val u64T nonce] (.tup2 (.fresh 37 blockT (growOf l t nonce)) (.val i64T (growE l t nonce))) := by
 have hll := hl.1
 refine fn_of_aw Tryz.func34 rfl rfl rfl (fun ext w hext => ?_)
 refine aw_fact (d := 0) rfl fact_sl (fun hsl0 => ?_)
 refine aw_fact (d := 1) rfl fact_sl (fun hsl1 => ?_)
 refine CQR ?_; refine A0 aL ?_; refine A0 aV ?_; refine CNQR ?_; refine A0 mV ?_; refine aw_callf (ownC_ok l hl) rfl fn_66 ⟨(arg_v rfl), trivial⟩ rfl rfl rfl ?_; refine A0 aO ?_; refine CNQR ?_; refine A0 mV ?_
 refine A0 (oCl (check_ok l hl) rfl fn_28 ⟨(arg_v rfl), trivial⟩) ?_; refine A0 mX ?_; refine A0 (by first | exact g_x20 rfl rfl | exact g_x30 rfl rfl) ?_; refine A0 (by first | exact g_x21 rfl rfl | exact g_x31 rfl rfl) ?_
 refine aw_alloc ze_56 rfl rfl rfl rfl ?_; refine aw_store_b rfl rfl rfl rfl rfl (Lens.self _) ty_56 rfl ?_; refine A0 aV ?_; refine CNQQR ?_; refine A0 mV ?_; refine A0 o_neq ?_; refine CN ?_
 refine aw_ifc (p := ¬ (checkOf l).2 = 0) rfl (by simp [IntL.toI]) (fun ht20 => ?_) (fun ht20 => ?_)
 ·
  have hE : growE l t nonce = (checkOf l).2 := by unfold growE; rw [if_neg ht20]
  have hG : growOf l t nonce = l := by unfold growOf; rw [hE, if_neg ht20]
  refine CQR ?_; refine A0 mO ?_; refine A0 mV ?_; refine A0 aO ?_; refine A0 aV ?_; refine CN ?_
  exact aw_ret2 rfl rfl (ret_fresh_eq rfl rfl (by rw [hG])) (ret_eq rfl hE.symm)
 ·
  refine CSQR ?_; refine A0 (oLs rfl rfl rfl ty_56) ?_; refine A0 mV ?_; refine A0 mV ?_; refine A0 (oCl (mineB_ok (checkOf l).1 t nonce 200 (check_small hl) ht) rfl fn_67 ⟨(arg_v rfl), (arg_v rfl), (arg_v rfl), (arg_v rfl), trivial⟩) ?_
  refine A0 mX ?_; refine A0 (by first | exact g_x20 rfl rfl | exact g_x30 rfl rfl) ?_; refine A0 (by first | exact g_x21 rfl rfl | exact g_x31 rfl rfl) ?_; refine aw_alloc ze_37 rfl rfl rfl rfl ?_
  refine aw_store_b rfl rfl rfl rfl rfl (Lens.self _) ty_37 rfl ?_; refine A0 aV ?_; refine CNQQR ?_; refine A0 mV ?_; refine A0 o_neq ?_; refine CN ?_
  refine aw_ifc (p := ¬ mineBE (checkOf l).1 t nonce 200 = 0) rfl (by simp [IntL.toI]) (fun ht31 => ?_) (fun ht31 => ?_)
  ·
   have hE : growE l t nonce = mineBE (checkOf l).1 t nonce 200 := by unfold growE; rw [if_pos (Classical.not_not.1 ht20)]
   have hG : growOf l t nonce = l := by unfold growOf; rw [hE, if_neg ht31]
   refine CQR ?_; refine A0 mO ?_; refine A0 mV ?_; refine A0 aO ?_; refine A0 aV ?_; refine CN ?_
   exact aw_ret2 rfl rfl (ret_fresh_eq rfl rfl (by rw [hG])) (ret_eq rfl hE.symm)
  ·
   have hE : growE l t nonce = 0 := by unfold growE; rw [if_pos (Classical.not_not.1 ht20)]; exact Classical.not_not.1 ht31
   have hG : growOf l t nonce = l ++ [mineB (checkOf l).1 t nonce 200] := by unfold growOf; rw [if_pos hE]
   refine CSQR ?_; refine A0 mO ?_; refine A0 (oLs rfl rfl rfl ty_37) ?_; refine A0 (g_bslice (T := blockT) (xs := [_]) rfl sl_22 row_22 ⟨rfl, rfl, trivial⟩ rfl rfl) ?_; refine aw_append rfl rfl rfl rfl rfl rfl rfl row_22 (by simp; omega) ?_
   refine A0 aO ?_; refine A0 aV ?_; refine CN ?_
   exact aw_ret2 rfl rfl (ret_fresh_eq rfl rfl (by rw [hG])) (ret_eq rfl hE.symm)
end Go.Proofs.YtgoebfjaaklopaaGreat
set_option maxRecDepth 20000
namespace Go.Proofs.YtgoebfjaaklopaaGreat
set_option linter.unusedVariables false
set_option linter.unusedSimpArgs false
open Go.Ab Go.RowKit
theorem fewC_no {l : List Block} {k : Nat} {x : Block} (hx : l[k]? = some x) (h : ¬ fewB x = true) : fewC l = false := by
  unfold fewC
  rw [Bool.and_eq_false_iff]
  left
  rw [List.all_eq_false]
  exact ⟨x, List.mem_of_getElem? hx, h⟩
theorem fewB_all {x : Block} (h : ¬ (x.t.all few && decide ((x.t.length : Int) ≤ 6)) = true) : ¬ fewB x = true := fun h2 => by unfold fewB at h2; rw [Bool.and_eq_true] at h2; exact h h2.1
theorem fewB_links {x : Block} (h : 40 < x.l.length) : ¬ fewB x = true := fun h2 => by unfold fewB at h2; rw [Bool.and_eq_true, decide_eq_true_eq] at h2; omega
theorem fewB_yes {x : Block} (h : (x.t.all few && decide ((x.t.length : Int) ≤ 6)) = true) (h2 : ¬ 40 < x.l.length) : fewB x = true := by unfold fewB; rw [h, Bool.true_and]; exact decide_eq_true (by omega)
theorem all_take_succ {α : Type} {p : α → Bool} {l : List α} {k : Nat} {x : α} (h : (l.take k).all p = true) (hx : l[k]? = some x) (hp : p x = true) : (l.take (k + 1)).all p = true := by
  rw [List.take_add_one, hx, List.all_append, h]; simp [hp]
theorem fewC_end {l : List Block} {k : Nat} (h : (l.take k).all fewB = true) (hk : l.length ≤ k) : fewC l = decide ((l.length : Int) ≤ 50) := by
  rw [List.take_of_length_le hk] at h
  unfold fewC; rw [h, Bool.true_and]
theorem easy_newOf : newOf 545259519 = [easyB0] := by unfold newOf; rw [if_pos easy_ok, easy_tip]; rfl
theorem fewC_ok (l : List Block) : Tells P 11 [.val (bsl blockT) l] (.val boolT (fewC l)) := by
 refine fn_of_aw Tryz.func11 rfl rfl rfl (fun ext w hext => ?_)
 refine aw_fact (d := 0) rfl fact_sl (fun hsl0 => ?_)
 refine CQR ?_; refine A0 aV ?_; refine CNQQR ?_; refine A0 aV ?_; refine CNB ?_
 refine Lp (ι := Nat) 0 (fun (k : Nat) => ((Fr.none).set 0 (.val (bsl blockT) l)).set 3 (.val i64T (k : Int))) (fun (k : Nat) => Hp.none) (fun (k : Nat) => k ≤ l.length ∧ (l.take k).all fewB = true) (fun (k : Nat) => l.length - k) (0) (⟨Nat.zero_le _, by simp⟩) ?_
 intro k hinv
 refine CQQR ?_; refine A0 mV ?_; refine A0 mV ?_; refine A0 (g_len rfl rfl isl_22) ?_; refine A0 o_lss ?_; refine CN ?_
 refine Cf (p := k < l.length) (fun ht8 => ?_) (fun ht8 => ?_)
 ·
  obtain ⟨x, hx⟩ : ∃ x, l[k]? = some x := ⟨_, List.getElem?_eq_getElem ht8⟩
  refine CSQBQR ?_; refine A0 mV ?_; refine A0 mV ?_; refine A0 (g_ia_i (i := k) rfl rfl rfl (by omega) sl_22 (by assumption)) ?_; refine A0 (oFr fd_37_2 L_Block_t) ?_; refine A0 (g_load_r rfl rfl ty_35) ?_
  refine A0 (oCl (fewAll_ok _ _) rfl fn_35 ⟨(by first | exact arg_same rfl | exact arg_bsl rfl | exact arg_own rfl rfl | exact arg_nil rfl | exact arg_rptr rfl | exact arg_fn rfl rfl | exact arg_lit rfl), (arg_v rfl), trivial⟩) ?_
  refine A0 aV ?_; refine CNQR ?_; refine A0 mV ?_; refine A0 oN ?_; refine A0 mV ?_
  refine aw_splitp (d := 19) (p := ¬ (x.t.all few && decide ((x.t.length : Int) ≤ 6)) = true) rfl (by cases (x.t.all few && decide ((x.t.length : Int) ≤ 6)) <;> rfl) (fun g19 => ?_) (fun g19 => ?_)
  ·
   refine A2 ?_; refine A2 ?_; refine A2 ?_; refine A2 ?_; refine A2 ?_; refine A2 ?_; refine A2 ?_; refine A0 oK ?_; refine CN ?_; refine Ct ?_; refine CQR ?_; refine A0 aV ?_; refine CN ?_
   exact aw_ret1 rfl rfl (ret_eq rfl (fewC_no hx (fewB_all g19)).symm)
  ·
   refine A1 mV ?_; refine A1 mV ?_; refine A1 (g_ia_i (i := k) rfl rfl rfl (by omega) sl_22 (by assumption)) ?_; refine A1 (oFr fd_37_1 L_Block_l) ?_; refine A1 (g_load_r rfl rfl ty_34) ?_
   refine A1 (by first | exact g_len rfl rfl isl_34 | exact g_len_o rfl rfl rfl isl_34 | exact g_len_nil rfl rfl isl_34) ?_; refine A1 o_gtr ?_; refine A0 oK ?_; refine CN ?_
   refine Cf (p := 40 < x.l.length) (fun ht27 => ?_) (fun ht27 => ?_)
   ·
    refine CQR ?_; refine A0 aV ?_; refine CN ?_
    exact aw_ret1 rfl rfl (ret_eq rfl (fewC_no hx (fewB_links ht27)).symm)
   ·
    refine CSIR ?_; refine A0 mV ?_; refine A0 o_add ?_; refine A0 aV ?_; refine CN ?_
    exact Nx (k + 1) (⟨by omega, all_take_succ hinv.2 hx (fewB_yes (Classical.not_not.1 g19) ht27)⟩) (by omega)
 ·
  refine CE ?_; refine CQR ?_; refine A0 mV ?_; refine A0 (g_len rfl rfl isl_22) ?_; refine A0 o_leq ?_; refine A0 aV ?_; refine CN ?_
  exact aw_ret1 rfl rfl (ret_eq rfl (by rw [fewC_end hinv.2 (by omega), decide_eq_decide]; rfl))
end Go.Proofs.YtgoebfjaaklopaaGreat
set_option maxRecDepth 20000
namespace Go.Proofs.YtgoebfjaaklopaaGreat
set_option linter.unusedVariables false
set_option linter.unusedSimpArgs false
open Go.Ab Go.RowKit
theorem pow_split {r : Nat} (h : r ≤ 64) : 2 ^ r * 2 ^ (64 - r) = 18446744073709551616 := by
  rw [← Nat.pow_add, show r + (64 - r) = 64 by omega]
theorem shl_n {x : UInt64} {r : Nat} (h : r < 64) : (shl64 x r).toNat = x.toNat * 2 ^ r % 18446744073709551616 := by
  unfold shl64; rw [UInt64.toNat_ofNat', Nat.min_eq_left (by omega)]
theorem shr_n {x : UInt64} {r : Nat} (h : r < 64) : (shr64 x r).toNat = x.toNat / 2 ^ r := by
  unfold shr64
  have hx : x.toNat < 18446744073709551616 := x.toNat_lt
  rw [Nat.min_eq_left (by omega), UInt64.toNat_ofNat_of_lt' (by show _ < 18446744073709551616; have := Nat.div_le_self x.toNat (2 ^ r); omega)]
def upU (x y : UInt64) (r : Nat) : UInt64 := shl64 x r ||| shr64 (shr64 y 1) (63 - r)
theorem or_sum {a b i : Nat} (h : b < 2 ^ i) : (a * 2 ^ i) ||| b = a * 2 ^ i + b := by
  rw [← Nat.shiftLeft_eq, Nat.shiftLeft_add_eq_or_of_lt h]
theorem upU_n {x y : UInt64} {r : Nat} (h : r < 64) : (upU x y r).toNat = x.toNat % 2 ^ (64 - r) * 2 ^ r + y.toNat / 2 ^ (64 - r) := by
  have hy : y.toNat < 18446744073709551616 := y.toNat_lt
  unfold upU
  rw [UInt64.toNat_or, shl_n h, shr_n (by omega), shr_n (by omega), Nat.div_div_eq_div_mul, ← Nat.pow_add, show 1 + (63 - r) = 64 - r by omega]
  have e : x.toNat * 2 ^ r % 18446744073709551616 = x.toNat % 2 ^ (64 - r) * 2 ^ r := by
    rw [← pow_split (r := r) (by omega), Nat.mul_comm (2 ^ r) (2 ^ (64 - r)), Nat.mul_mod_mul_right]
  rw [e, or_sum]
  rw [Nat.div_lt_iff_lt_mul (Nat.two_pow_pos _), pow_split (by omega)]; exact hy
theorem up_small {a0 a1 a2 a3 : UInt64} {r : Nat} (h : r < 64) : nW [upU a0 0 r, upU a1 a0 r, upU a2 a1 r, upU a3 a2 r] = nW [a0, a1, a2, a3] * 2 ^ r % W256 := by
  have hs := pow_split (r := r) (by omega)
  unfold nW
  simp only [List.getD_cons_zero, List.getD_cons_succ]
  rw [upU_n h, upU_n h, upU_n h, upU_n h]
  have hz : (0 : UInt64).toNat = 0 := rfl
  rw [hz, Nat.zero_div]
  obtain ⟨p, hp⟩ : ∃ p, p = 2 ^ r := ⟨_, rfl⟩
  obtain ⟨s, hs'⟩ : ∃ s, s = 2 ^ (64 - r) := ⟨_, rfl⟩
  rw [← hp, ← hs'] at hs ⊢
  have key : ∀ x : UInt64, ∃ t c : Nat, x.toNat * p = t + 18446744073709551616 * c ∧ x.toNat % s * p = t ∧ x.toNat / s = c ∧ c < 18446744073709551616 := fun x => by
    have hx : x.toNat < 18446744073709551616 := x.toNat_lt
    refine ⟨_, _, ?_, rfl, rfl, ?_⟩
    · have e := Nat.mod_add_div x.toNat s
      conv => lhs; rw [← e]
      rw [Nat.add_mul, ← hs, Nat.mul_comm s (x.toNat / s), Nat.mul_assoc, Nat.mul_comm s p, Nat.mul_comm (x.toNat / s)]
    · exact Nat.lt_of_le_of_lt (Nat.div_le_self _ _) hx
  obtain ⟨t0, c0, e0, f0, g0, l0⟩ := key a0
  obtain ⟨t1, c1, e1, f1, g1, l1⟩ := key a1
  obtain ⟨t2, c2, e2, f2, g2, l2⟩ := key a2
  obtain ⟨t3, c3, e3, f3, g3, l3⟩ := key a3
  have b3 : t3 < 18446744073709551616 := by
    rw [← f3, ← hs, Nat.mul_comm p s]
    exact Nat.mul_lt_mul_of_pos_right (Nat.mod_lt _ (by rw [hs']; exact Nat.two_pow_pos _)) (by rw [hp]; exact Nat.two_pow_pos _)
  have b : ∀ {x : UInt64} {t : Nat}, x.toNat % s * p = t → t < 18446744073709551616 := fun {x t} f => by
    rw [← f, ← hs, Nat.mul_comm p s]
    exact Nat.mul_lt_mul_of_pos_right (Nat.mod_lt _ (by rw [hs']; exact Nat.two_pow_pos _)) (by rw [hp]; exact Nat.two_pow_pos _)
  have b0 := b f0
  have b1 := b f1
  have b2 := b f2
  have hd : ∀ {x : UInt64} {c : Nat}, x.toNat / s = c → c < p := fun {x c} f => by
    rw [← f, Nat.div_lt_iff_lt_mul (by rw [hs']; exact Nat.two_pow_pos _), hs]; exact x.toNat_lt
  have hm : ∀ {x : UInt64} {t : Nat}, x.toNat % s * p = t → t + p ≤ 18446744073709551616 := fun {x t} f => by
    rw [← f, ← hs, Nat.mul_comm p s]
    have h1 : x.toNat % s + 1 ≤ s := Nat.mod_lt _ (by rw [hs']; exact Nat.two_pow_pos _)
    have h2 := Nat.mul_le_mul_right p h1
    rw [Nat.add_mul, Nat.one_mul] at h2; exact h2
  have d0 := hd g0
  have d1 := hd g1
  have d2 := hd g2
  have m1 := hm f1
  have m2 := hm f2
  have m3 := hm f3
  rw [f0, f1, f2, f3, g0, g1, g2]
  have e : (a0.toNat + 18446744073709551616 * a1.toNat + 340282366920938463463374607431768211456 * a2.toNat + 6277101735386680763835789423207666416102355444464034512896 * a3.toNat) * p = a0.toNat * p + 18446744073709551616 * (a1.toNat * p) + 340282366920938463463374607431768211456 * (a2.toNat * p) + 6277101735386680763835789423207666416102355444464034512896 * (a3.toNat * p) := by
    rw [Nat.add_mul, Nat.add_mul, Nat.add_mul, Nat.mul_assoc, Nat.mul_assoc, Nat.mul_assoc]
  rw [e, e0, e1, e2, e3]
  unfold W256
  omega
theorem wide4 {a : Wide} (h : a.length = 4) : ∃ a0 a1 a2 a3, a = [a0, a1, a2, a3] := by
  match a, h with
  | [a0, a1, a2, a3], _ => exact ⟨a0, a1, a2, a3, rfl⟩
theorem upW_len {a : Wide} {n : Int} (h : a.length = 4) : (upW a n).length = 4 := by
  unfold upW; split
  · exact h
  · split
    · rfl
    · simp
theorem nW_up {a : Wide} {n : Nat} (h : a.length = 4) (hn : n < 256) : nW (upW a n) = nW a * 2 ^ n % W256 := by
  obtain ⟨a0, a1, a2, a3, rfl⟩ := wide4 h
  obtain ⟨q, r, rfl, hr⟩ : ∃ q r, n = 64 * q + r ∧ r < 64 := ⟨n / 64, n % 64, by omega, by omega⟩
  have h1 : ((64 * q + r : Nat) : Int) / 64 = q := by omega
  have h2 : (((64 * q + r : Nat) : Int) % 64).toNat = r := by omega
  have hz := UInt64.toNat_lt a0
  have h3 : q < 4 := by omega
  have h4 : (63 - ((64 * q + r : Nat) : Int) % 64).toNat = 63 - r := by omega
  have e : ∀ b : Wide, b.length = 4 → (∀ i : Nat, i < 4 → atW [a0, a1, a2, a3] ((i : Int) - q) = b.getD i 0 ∧ atW [a0, a1, a2, a3] ((i : Int) - q - 1) = if i = 0 then 0 else b.getD (i - 1) 0) → nW b = nW [a0, a1, a2, a3] * 18446744073709551616 ^ q % W256 → nW (upW [a0, a1, a2, a3] ((64 * q + r : Nat) : Int)) = nW [a0, a1, a2, a3] * 2 ^ (64 * q + r) % W256 := fun b hb hat hnb => by
    obtain ⟨b0, b1, b2, b3, rfl⟩ := wide4 hb
    unfold upW
    rw [if_neg (by omega), if_neg (by omega)]
    have hF : (List.range 4).map (upF [a0, a1, a2, a3] ((64 * q + r : Nat) : Int)) = [upU b0 0 r, upU b1 b0 r, upU b2 b1 r, upU b3 b2 r] := by
      have hu : ∀ i, upF [a0, a1, a2, a3] ((64 * q + r : Nat) : Int) i = upU (atW [a0, a1, a2, a3] ((i : Int) - q)) (atW [a0, a1, a2, a3] ((i : Int) - q - 1)) r := fun i => by unfold upF upU; rw [h1, h2, h4]
      show [upF _ _ 0, upF _ _ 1, upF _ _ 2, upF _ _ 3] = _
      rw [hu, hu, hu, hu, (hat 0 (by decide)).1, (hat 0 (by decide)).2, (hat 1 (by decide)).1, (hat 1 (by decide)).2, (hat 2 (by decide)).1, (hat 2 (by decide)).2, (hat 3 (by decide)).1, (hat 3 (by decide)).2]
      rfl
    rw [hF, up_small hr, hnb, Nat.mod_mul_mod, Nat.pow_add, Nat.pow_mul, Nat.mul_assoc]
  have hb0 : a0.toNat < 18446744073709551616 := a0.toNat_lt
  have hb1 : a1.toNat < 18446744073709551616 := a1.toNat_lt
  have hb2 : a2.toNat < 18446744073709551616 := a2.toNat_lt
  have hb3 : a3.toNat < 18446744073709551616 := a3.toNat_lt
  have hq : q = 0 ∨ q = 1 ∨ q = 2 ∨ q = 3 := by omega
  rcases hq with rfl | rfl | rfl | rfl
  · refine e [a0, a1, a2, a3] rfl (fun i hi => ?_) ?_
    · match i, hi with
      | 0, _ => exact ⟨rfl, rfl⟩
      | 1, _ => exact ⟨rfl, rfl⟩
      | 2, _ => exact ⟨rfl, rfl⟩
      | 3, _ => exact ⟨rfl, rfl⟩
    · rw [Nat.pow_zero, Nat.mul_one, Nat.mod_eq_of_lt (nW_lt h)]
  · refine e [0, a0, a1, a2] rfl (fun i hi => ?_) ?_
    · match i, hi with
      | 0, _ => exact ⟨rfl, rfl⟩
      | 1, _ => exact ⟨rfl, rfl⟩
      | 2, _ => exact ⟨rfl, rfl⟩
      | 3, _ => exact ⟨rfl, rfl⟩
    · unfold nW W256; simp only [List.getD_cons_zero, List.getD_cons_succ]; have : (0 : UInt64).toNat = 0 := rfl; omega
  · refine e [0, 0, a0, a1] rfl (fun i hi => ?_) ?_
    · match i, hi with
      | 0, _ => exact ⟨rfl, rfl⟩
      | 1, _ => exact ⟨rfl, rfl⟩
      | 2, _ => exact ⟨rfl, rfl⟩
      | 3, _ => exact ⟨rfl, rfl⟩
    · unfold nW W256; simp only [List.getD_cons_zero, List.getD_cons_succ]; have : (0 : UInt64).toNat = 0 := rfl; omega
  · refine e [0, 0, 0, a0] rfl (fun i hi => ?_) ?_
    · match i, hi with
      | 0, _ => exact ⟨rfl, rfl⟩
      | 1, _ => exact ⟨rfl, rfl⟩
      | 2, _ => exact ⟨rfl, rfl⟩
      | 3, _ => exact ⟨rfl, rfl⟩
    · unfold nW W256; simp only [List.getD_cons_zero, List.getD_cons_succ]; have : (0 : UInt64).toNat = 0 := rfl; omega
theorem cmpW_n {a b : Wide} (ha : a.length = 4) (hb : b.length = 4) : cmpW a b = if nW a < nW b then -1 else if nW b < nW a then 1 else 0 := by
  obtain ⟨a0, a1, a2, a3, rfl⟩ := wide4 ha
  obtain ⟨b0, b1, b2, b3, rfl⟩ := wide4 hb
  have h0 : a0.toNat < 18446744073709551616 := a0.toNat_lt
  have h1 : a1.toNat < 18446744073709551616 := a1.toNat_lt
  have h2 : a2.toNat < 18446744073709551616 := a2.toNat_lt
  have h3 : a3.toNat < 18446744073709551616 := a3.toNat_lt
  have k0 : b0.toNat < 18446744073709551616 := b0.toNat_lt
  have k1 : b1.toNat < 18446744073709551616 := b1.toNat_lt
  have k2 : b2.toNat < 18446744073709551616 := b2.toNat_lt
  have k3 : b3.toNat < 18446744073709551616 := b3.toNat_lt
  show orL [cmpU a3 b3, cmpU a2 b2, cmpU a1 b1, cmpU a0 b0] = if a0.toNat + 18446744073709551616 * a1.toNat + 340282366920938463463374607431768211456 * a2.toNat + 6277101735386680763835789423207666416102355444464034512896 * a3.toNat < b0.toNat + 18446744073709551616 * b1.toNat + 340282366920938463463374607431768211456 * b2.toNat + 6277101735386680763835789423207666416102355444464034512896 * b3.toNat then -1 else if b0.toNat + 18446744073709551616 * b1.toNat + 340282366920938463463374607431768211456 * b2.toNat + 6277101735386680763835789423207666416102355444464034512896 * b3.toNat < a0.toNat + 18446744073709551616 * a1.toNat + 340282366920938463463374607431768211456 * a2.toNat + 6277101735386680763835789423207666416102355444464034512896 * a3.toNat then 1 else 0
  have c : ∀ x y : UInt64, cmpU x y = if x.toNat < y.toNat then -1 else if y.toNat < x.toNat then 1 else 0 := fun x y => by unfold cmpU; simp only [UInt64.lt_iff_toNat_lt]
  rw [c, c, c, c]
  by_cases d3 : a3.toNat = b3.toNat
  · by_cases d2 : a2.toNat = b2.toNat
    · by_cases d1 : a1.toNat = b1.toNat
      · rw [d3, d2, d1, if_neg (Nat.lt_irrefl _), if_neg (Nat.lt_irrefl _), if_neg (Nat.lt_irrefl _), if_neg (Nat.lt_irrefl _), if_neg (Nat.lt_irrefl _), if_neg (Nat.lt_irrefl _)]
        by_cases l : a0.toNat < b0.toNat
        · rw [if_pos l]; show (-1 : Int) = _; rw [if_pos (by omega)]
        · rw [if_neg l]
          by_cases l2 : b0.toNat < a0.toNat
          · rw [if_pos l2]; show (1 : Int) = _; rw [if_neg (by omega), if_pos (by omega)]
          · rw [if_neg l2]; show (0 : Int) = _; rw [if_neg (by omega), if_neg (by omega)]
      · rw [d3, d2, if_neg (Nat.lt_irrefl _), if_neg (Nat.lt_irrefl _), if_neg (Nat.lt_irrefl _), if_neg (Nat.lt_irrefl _)]
        by_cases l : a1.toNat < b1.toNat
        · rw [if_pos l]; show (-1 : Int) = _; rw [if_pos (by omega)]
        · rw [if_neg l, if_pos (show b1.toNat < a1.toNat by omega)]; show (1 : Int) = _; rw [if_neg (by omega), if_pos (by omega)]
    · rw [d3, if_neg (Nat.lt_irrefl _), if_neg (Nat.lt_irrefl _)]
      by_cases l : a2.toNat < b2.toNat
      · rw [if_pos l]; show (-1 : Int) = _; rw [if_pos (by omega)]
      · rw [if_neg l, if_pos (show b2.toNat < a2.toNat by omega)]; show (1 : Int) = _; rw [if_neg (by omega), if_pos (by omega)]
  · by_cases l : a3.toNat < b3.toNat
    · rw [if_pos l]; show (-1 : Int) = _; rw [if_pos (by omega)]
    · rw [if_neg l, if_pos (show b3.toNat < a3.toNat by omega)]; show (1 : Int) = _; rw [if_neg (by omega), if_pos (by omega)]
end Go.Proofs.YtgoebfjaaklopaaGreat
set_option maxRecDepth 20000
namespace Go.Proofs.YtgoebfjaaklopaaGreat
set_option linter.unusedVariables false
set_option linter.unusedSimpArgs false
open Go.Ab Go.RowKit
theorem subS_n (a b : UInt64) {c : UInt64} (h : c.toNat ≤ 1) : (subS a b c).toNat = (a.toNat + 18446744073709551616 - b.toNat - c.toNat) % 18446744073709551616 := by unfold subS; rw [UInt64.toNat_ofNat']
theorem subC_n (a b c : UInt64) : (subC a b c).toNat = if a.toNat < b.toNat + c.toNat then 1 else 0 := by unfold subC; split <;> rfl
theorem carry_sub (a0 a1 a2 a3 b0 b1 b2 b3 : UInt64) : carryN subS subC [a0, a1, a2, a3] [b0, b1, b2, b3] 4 = ([subS a0 b0 0, subS a1 b1 (subC a0 b0 0), subS a2 b2 (subC a1 b1 (subC a0 b0 0)), subS a3 b3 (subC a2 b2 (subC a1 b1 (subC a0 b0 0)))], subC a3 b3 (subC a2 b2 (subC a1 b1 (subC a0 b0 0)))) := rfl
theorem subW_len {a b : Wide} (ha : a.length = 4) (hb : b.length = 4) : (subW a b).length = 4 := by
  obtain ⟨a0, a1, a2, a3, rfl⟩ := wide4 ha
  obtain ⟨b0, b1, b2, b3, rfl⟩ := wide4 hb
  unfold subW; rw [carry_sub]; rfl
theorem nW_sub {a b : Wide} (ha : a.length = 4) (hb : b.length = 4) : nW (subW a b) = (nW a + W256 - nW b) % W256 ∧ (subOk a b = true ↔ nW b ≤ nW a) := by
  obtain ⟨a0, a1, a2, a3, rfl⟩ := wide4 ha
  obtain ⟨b0, b1, b2, b3, rfl⟩ := wide4 hb
  have h0 : a0.toNat < 18446744073709551616 := a0.toNat_lt
  have h1 : a1.toNat < 18446744073709551616 := a1.toNat_lt
  have h2 : a2.toNat < 18446744073709551616 := a2.toNat_lt
  have h3 : a3.toNat < 18446744073709551616 := a3.toNat_lt
  have k0 : b0.toNat < 18446744073709551616 := b0.toNat_lt
  have k1 : b1.toNat < 18446744073709551616 := b1.toNat_lt
  have k2 : b2.toNat < 18446744073709551616 := b2.toNat_lt
  have k3 : b3.toNat < 18446744073709551616 := b3.toNat_lt
  have z0 : (0 : UInt64).toNat = 0 := rfl
  have c1 := subC_n a0 b0 0
  have c2 := subC_n a1 b1 (subC a0 b0 0)
  have c3 := subC_n a2 b2 (subC a1 b1 (subC a0 b0 0))
  have c4 := subC_n a3 b3 (subC a2 b2 (subC a1 b1 (subC a0 b0 0)))
  have s0 := subS_n a0 b0 (show (0 : UInt64).toNat ≤ 1 by decide)
  have s1 := subS_n a1 b1 (subC_le a0 b0 0)
  have s2 := subS_n a2 b2 (subC_le a1 b1 (subC a0 b0 0))
  have s3 := subS_n a3 b3 (subC_le a2 b2 (subC a1 b1 (subC a0 b0 0)))
  unfold subW subOk
  rw [carry_sub]
  unfold nW W256
  simp only [List.getD_cons_zero, List.getD_cons_succ, decide_eq_true_eq]
  rw [z0] at c1 s0
  generalize subC a3 b3 (subC a2 b2 (subC a1 b1 (subC a0 b0 0))) = x4 at *
  generalize subS a3 b3 (subC a2 b2 (subC a1 b1 (subC a0 b0 0))) = y3 at *
  generalize subS a2 b2 (subC a1 b1 (subC a0 b0 0)) = y2 at *
  generalize subC a2 b2 (subC a1 b1 (subC a0 b0 0)) = x3 at *
  generalize subS a1 b1 (subC a0 b0 0) = y1 at *
  generalize subC a1 b1 (subC a0 b0 0) = x2 at *
  generalize subS a0 b0 0 = y0 at *
  generalize subC a0 b0 0 = x1 at *
  have e0 : y0.toNat + b0.toNat = a0.toNat + 18446744073709551616 * x1.toNat := by split at c1 <;> omega
  have e1 : y1.toNat + b1.toNat + x1.toNat = a1.toNat + 18446744073709551616 * x2.toNat := by split at c1 <;> split at c2 <;> omega
  have e2 : y2.toNat + b2.toNat + x2.toNat = a2.toNat + 18446744073709551616 * x3.toNat := by split at c2 <;> split at c3 <;> omega
  have e3 : y3.toNat + b3.toNat + x3.toNat = a3.toNat + 18446744073709551616 * x4.toNat := by split at c3 <;> split at c4 <;> omega
  have l0 : y0.toNat < 18446744073709551616 := y0.toNat_lt
  have l1 : y1.toNat < 18446744073709551616 := y1.toNat_lt
  have l2 : y2.toNat < 18446744073709551616 := y2.toNat_lt
  have l3 : y3.toNat < 18446744073709551616 := y3.toNat_lt
  have l4 : x4.toNat ≤ 1 := by split at c4 <;> omega
  clear c1 c2 c3 c4 s0 s1 s2 s3
  constructor
  · omega
  · constructor <;> intro h <;> omega
theorem limb_n {a : Wide} {q : Nat} (h : a.length = 4) (hq : q < 4) : (a.getD q 0).toNat = nW a / 18446744073709551616 ^ q % 18446744073709551616 := by
  obtain ⟨a0, a1, a2, a3, rfl⟩ := wide4 h
  have h0 : a0.toNat < 18446744073709551616 := a0.toNat_lt
  have h1 : a1.toNat < 18446744073709551616 := a1.toNat_lt
  have h2 : a2.toNat < 18446744073709551616 := a2.toNat_lt
  have h3 : a3.toNat < 18446744073709551616 := a3.toNat_lt
  unfold nW
  simp only [List.getD_cons_zero, List.getD_cons_succ]
  match q, hq with
  | 0, _ => simp only [List.getD_cons_zero]; omega
  | 1, _ => simp only [List.getD_cons_zero, List.getD_cons_succ]; omega
  | 2, _ => simp only [List.getD_cons_zero, List.getD_cons_succ]; omega
  | 3, _ => simp only [List.getD_cons_zero, List.getD_cons_succ]; omega
theorem set_n {a : Wide} {q : Nat} {v : UInt64} (h : a.length = 4) (hq : q < 4) : nW (a.set q v) + (a.getD q 0).toNat * 18446744073709551616 ^ q = nW a + v.toNat * 18446744073709551616 ^ q := by
  obtain ⟨a0, a1, a2, a3, rfl⟩ := wide4 h
  unfold nW
  match q, hq with
  | 0, _ => simp only [List.set_cons_zero, List.getD_cons_zero, List.getD_cons_succ]; omega
  | 1, _ => simp only [List.set_cons_zero, List.set_cons_succ, List.getD_cons_zero, List.getD_cons_succ]; omega
  | 2, _ => simp only [List.set_cons_zero, List.set_cons_succ, List.getD_cons_zero, List.getD_cons_succ]; omega
  | 3, _ => simp only [List.set_cons_zero, List.set_cons_succ, List.getD_cons_zero, List.getD_cons_succ]; omega
theorem orBit_n {a : Wide} {n K : Nat} (h : a.length = 4) (hn : n < 256) (hd : nW a = K * 2 ^ (n + 1)) : nW (orBit a n) = nW a + 2 ^ n := by
  obtain ⟨q, r, rfl, hr⟩ : ∃ q r, n = 64 * q + r ∧ r < 64 := ⟨n / 64, n % 64, by omega, by omega⟩
  have hq : q < 4 := by omega
  have e1 : (64 * q + r) / 64 = q := by omega
  have e2 : (64 * q + r) % 64 = r := by omega
  unfold orBit
  rw [e1, e2]
  have hs := set_n (v := a.getD q default ||| shl64 1 r) h hq
  have hl := limb_n h hq
  have ep : 2 ^ (64 * q + r + 1) = 18446744073709551616 ^ q * 2 ^ (r + 1) := by rw [Nat.add_assoc, Nat.pow_add, Nat.pow_mul]
  have epn : 2 ^ (64 * q + r) = 18446744073709551616 ^ q * 2 ^ r := by rw [Nat.pow_add, Nat.pow_mul]
  have hb : 0 < 18446744073709551616 ^ q := Nat.pow_pos (by decide)
  have hl2 : (a.getD q 0).toNat = K % 2 ^ (63 - r) * 2 ^ (r + 1) := by
    rw [hl, hd, ep, Nat.mul_left_comm, Nat.mul_div_cancel_left _ hb, ← pow_split (r := r + 1) (by omega), show 64 - (r + 1) = 63 - r by omega, Nat.mul_comm (2 ^ (r + 1)) (2 ^ (63 - r)), Nat.mul_mod_mul_right]
  have hv : (a.getD q default ||| shl64 1 r).toNat = (a.getD q 0).toNat + 2 ^ r := by
    have h1 : (shl64 1 r).toNat = 2 ^ r := by
      rw [shl_n hr]
      show 1 * 2 ^ r % _ = _
      rw [Nat.one_mul, Nat.mod_eq_of_lt]
      exact Nat.pow_lt_pow_right (by decide) hr
    rw [UInt64.toNat_or, h1]
    show (a.getD q 0).toNat ||| 2 ^ r = _
    rw [hl2, or_sum (Nat.pow_lt_pow_right (by decide) (by omega))]
  rw [hv, Nat.add_mul, Nat.mul_comm (2 ^ r), ← epn] at hs
  omega
theorem bitLen_n (n : Nat) : n < 2 ^ bitLen n ∧ (0 < n → 2 ^ (bitLen n - 1) ≤ n) := by
  unfold bitLen
  split
  · rename_i h; subst h; exact ⟨by decide, fun h => absurd h (by decide)⟩
  · rename_i h
    exact ⟨Nat.lt_log2_self, fun _ => by rw [Nat.add_sub_cancel]; exact Nat.log2_self_le h⟩
theorem longW_n {a : Wide} (h : a.length = 4) : nW a < 2 ^ longW a ∧ (0 < nW a → 1 ≤ longW a ∧ 2 ^ (longW a - 1) ≤ nW a) := by
  obtain ⟨a0, a1, a2, a3, rfl⟩ := wide4 h
  have h0 : a0.toNat < 18446744073709551616 := a0.toNat_lt
  have h1 : a1.toNat < 18446744073709551616 := a1.toNat_lt
  have h2 : a2.toNat < 18446744073709551616 := a2.toNat_lt
  have h3 : a3.toNat < 18446744073709551616 := a3.toNat_lt
  have key : ∀ (x k R : Nat) , 0 < x → R < 18446744073709551616 ^ k → R + 18446744073709551616 ^ k * x < 2 ^ (k * 64 + bitLen x) ∧ 1 ≤ k * 64 + bitLen x ∧ 2 ^ (k * 64 + bitLen x - 1) ≤ R + 18446744073709551616 ^ k * x := fun x k R hx hR => by
    obtain ⟨b1, b2⟩ := bitLen_n x
    have b2 := b2 hx
    have b3 : 1 ≤ bitLen x := bitLen_pos hx
    have e : 2 ^ (k * 64 + bitLen x) = 18446744073709551616 ^ k * 2 ^ bitLen x := by rw [Nat.mul_comm k 64, Nat.pow_add, Nat.pow_mul]
    have e' : 2 ^ (k * 64 + bitLen x - 1) = 18446744073709551616 ^ k * 2 ^ (bitLen x - 1) := by rw [Nat.add_sub_assoc b3, Nat.mul_comm k 64, Nat.pow_add, Nat.pow_mul]
    refine ⟨?_, by omega, ?_⟩
    · rw [e]
      have := Nat.mul_le_mul_left (18446744073709551616 ^ k) (show x + 1 ≤ 2 ^ bitLen x from b1)
      rw [Nat.mul_add, Nat.mul_one] at this; omega
    · rw [e']
      have := Nat.mul_le_mul_left (18446744073709551616 ^ k) b2
      omega
  unfold longW
  simp only [longN, List.getD_cons_succ, List.getD_cons_zero]
  unfold nW
  simp only [List.getD_cons_succ, List.getD_cons_zero]
  by_cases c3 : 0 < a3.toNat
  · rw [if_pos c3]
    obtain ⟨x, y, z⟩ := key a3.toNat 3 (a0.toNat + 18446744073709551616 * a1.toNat + 340282366920938463463374607431768211456 * a2.toNat) c3 (by omega)
    exact ⟨x, fun _ => ⟨y, z⟩⟩
  rw [if_neg c3]
  have z3 : a3.toNat = 0 := by omega
  rw [z3]
  by_cases c2 : 0 < a2.toNat
  · rw [if_pos c2]
    obtain ⟨x, y, z⟩ := key a2.toNat 2 (a0.toNat + 18446744073709551616 * a1.toNat) c2 (by omega)
    exact ⟨x, fun _ => ⟨y, z⟩⟩
  rw [if_neg c2]
  have z2 : a2.toNat = 0 := by omega
  rw [z2]
  by_cases c1 : 0 < a1.toNat
  · rw [if_pos c1]
    obtain ⟨x, y, z⟩ := key a1.toNat 1 a0.toNat c1 (by omega)
    rw [Nat.pow_one] at x z
    exact ⟨x, fun _ => ⟨y, z⟩⟩
  rw [if_neg c1]
  have z1 : a1.toNat = 0 := by omega
  rw [z1]
  by_cases c0 : 0 < a0.toNat
  · rw [if_pos c0]
    obtain ⟨x, y, z⟩ := key a0.toNat 0 0 c0 (by decide)
    exact ⟨by simpa using x, fun _ => ⟨y, by simpa using z⟩⟩
  rw [if_neg c0]
  have z0 : a0.toNat = 0 := by omega
  rw [z0]
  exact ⟨by decide, fun h => absurd h (by decide)⟩
theorem divN_n {b : Wide} (hb : b.length = 4) {A : Nat} : ∀ (n : Nat) (x : Wide × Wide), x.1.length = 4 → x.2.length = 4 → nW b * 2 ^ n ≤ 2 * W256 → n ≤ 256 → A = nW x.2 * nW b + nW x.1 → nW x.1 < nW b * 2 ^ n → (∃ K, nW x.2 = K * 2 ^ n) → (∀ k, k < n → nW b * 2 ^ k < W256) →
    (divN b n x).1.length = 4 ∧ (divN b n x).2.length = 4 ∧ A = nW (divN b n x).2 * nW b + nW (divN b n x).1 ∧ nW (divN b n x).1 < nW b
  | 0, x, h1, h2, _, _, h3, h4, _, _ => ⟨h1, h2, h3, by rw [Nat.pow_zero, Nat.mul_one] at h4; exact h4⟩
  | n + 1, x, h1, h2, h5, h6, h3, h4, ⟨K, hK⟩, h8 => by
    have hup := nW_up (a := b) (n := n) hb (by omega)
    have hlt := h8 n (by omega)
    rw [Nat.mod_eq_of_lt hlt] at hup
    have hul := upW_len (n := (n : Int)) hb
    obtain ⟨s1, s2⟩ := nW_sub h1 hul
    have hx1 := nW_lt h1
    have ep : 2 ^ (n + 1) = 2 * 2 ^ n := by rw [Nat.pow_succ, Nat.mul_comm]
    have eb : nW b * 2 ^ (n + 1) = 2 * (nW b * 2 ^ n) := by rw [ep, Nat.mul_left_comm]
    rw [divN]
    unfold divStep
    by_cases c : subOk x.1 (upW b n) = true
    · rw [if_pos c]
      have hle := s2.1 c
      rw [hup] at hle s1
      have e1 : nW (subW x.1 (upW b n)) = nW x.1 - nW b * 2 ^ n := by rw [s1, show nW x.1 + W256 - nW b * 2 ^ n = (nW x.1 - nW b * 2 ^ n) + W256 by omega, Nat.add_mod_right, Nat.mod_eq_of_lt (by omega)]
      have e2 := orBit_n h2 (show n < 256 by omega) hK
      refine divN_n hb n (subW x.1 (upW b n), orBit x.2 n) (show (subW x.1 (upW b n)).length = 4 from subW_len h1 hul) (by show (orBit x.2 n).length = 4; unfold orBit; rw [List.length_set]; exact h2) (by omega) (by omega) ?_ ?_ ⟨2 * K + 1, ?_⟩ (fun k hk => h8 k (by omega))
      · show A = nW (orBit x.2 n) * nW b + nW (subW x.1 (upW b n))
        rw [e1, e2, Nat.add_mul, Nat.mul_comm (2 ^ n)]; omega
      · show nW (subW x.1 (upW b n)) < _
        rw [e1]; omega
      · show nW (orBit x.2 n) = _
        rw [e2, hK, ep, Nat.add_mul, Nat.one_mul, Nat.mul_comm 2 K, Nat.mul_assoc]
    · rw [if_neg c]
      have hgt : nW x.1 < nW b * 2 ^ n := by
        rw [← hup]; exact Nat.lt_of_not_le fun hh => c (s2.2 hh)
      exact divN_n hb n x h1 h2 (by omega) (by omega) h3 hgt ⟨K * 2, by rw [hK, ep, Nat.mul_assoc]⟩ (fun k hk => h8 k (by omega))
theorem nW_zero : nW zWide = 0 := rfl
theorem nW_pos {b : Wide} (hb : b.length = 4) (h : b ≠ zWide) : 0 < nW b := by
  refine Nat.pos_of_ne_zero fun e => h (nW_inj hb rfl (by rw [e]; rfl))
theorem nW_div {a b : Wide} (ha : a.length = 4) (hb : b.length = 4) (h : b ≠ zWide) : (divW a b).length = 4 ∧ (remW a b).length = 4 ∧ nW (divW a b) = nW a / nW b ∧ nW (remW a b) = nW a % nW b := by
  have hp := nW_pos hb h
  obtain ⟨la, _⟩ := longW_n ha
  obtain ⟨lb, lb2⟩ := longW_n hb
  obtain ⟨lb3, lb4⟩ := lb2 hp
  have wa := longW_le a
  have pw : 2 ^ 256 = W256 := by decide
  have hn : longW a + 1 - longW b ≤ 256 := by omega
  have hover : ∀ k, k < longW a + 1 - longW b → nW b * 2 ^ k < W256 := fun k hk => by
    have h1 : nW b * 2 ^ k < 2 ^ longW b * 2 ^ k := Nat.mul_lt_mul_of_pos_right lb (Nat.two_pow_pos k)
    rw [← Nat.pow_add] at h1
    have h2 : 2 ^ (longW b + k) ≤ 2 ^ 256 := Nat.pow_le_pow_right (by decide) (by omega)
    rw [pw] at h2; omega
  have hstart : nW a < nW b * 2 ^ (longW a + 1 - longW b) := by
    have h1 : 2 ^ (longW b - 1) * 2 ^ (longW a + 1 - longW b) ≤ nW b * 2 ^ (longW a + 1 - longW b) := Nat.mul_le_mul_right _ lb4
    rw [← Nat.pow_add] at h1
    have h2 : 2 ^ longW a ≤ 2 ^ (longW b - 1 + (longW a + 1 - longW b)) := Nat.pow_le_pow_right (by decide) (by omega)
    omega
  obtain ⟨N, hN⟩ : ∃ N, N = longW a + 1 - longW b := ⟨_, rfl⟩
  unfold divW remW divP
  rw [if_neg h]
  rw [← hN] at hn hover hstart ⊢
  show (divN b N (a, zWide)).2.length = 4 ∧ (divN b N (a, zWide)).1.length = 4 ∧ nW (divN b N (a, zWide)).2 = _ ∧ nW (divN b N (a, zWide)).1 = _
  have hbound : nW b * 2 ^ N ≤ 2 * W256 := by
    cases N with
    | zero => rw [Nat.pow_zero, Nat.mul_one]; have := nW_lt hb; omega
    | succ n => have := hover n (by omega); rw [Nat.pow_succ, ← Nat.mul_assoc]; omega
  obtain ⟨g1, g2, g3, g4⟩ := divN_n hb (A := nW a) N (a, zWide) ha rfl hbound hn (by show nW a = nW zWide * nW b + nW a; rw [nW_zero, Nat.zero_mul, Nat.zero_add]) hstart ⟨0, by rw [Nat.zero_mul]; rfl⟩ hover
  refine ⟨g2, g1, ?_, ?_⟩
  · conv => rhs; rw [g3]
    rw [Nat.add_comm, Nat.add_mul_div_right _ _ hp, Nat.div_eq_of_lt g4, Nat.zero_add]
  · conv => rhs; rw [g3]
    rw [Nat.add_comm, Nat.add_mul_mod_self_right, Nat.mod_eq_of_lt g4]
end Go.Proofs.YtgoebfjaaklopaaGreat
set_option maxRecDepth 20000
namespace Go.Proofs.YtgoebfjaaklopaaGreat
set_option linter.unusedVariables false
set_option linter.unusedSimpArgs false
open Go.Ab Go.RowKit
def wholeT (l : List Total) : Total := if h : l.length < 2 then l.headD zTotal else joinT (wholeT (l.take (halfN l.length))) (wholeT (l.drop (halfN l.length)))
termination_by l.length
decreasing_by
  all_goals
    have h1 := half_pos l.length
    have h2 := half_lt (n := l.length) (by omega)
    first | (rw [List.length_take]; omega) | (rw [List.length_drop]; omega)
theorem whole_one {x : Total} : wholeT [x] = x := by rw [wholeT, dif_pos (show [x].length < 2 from Nat.lt_succ_self 1)]; rfl
theorem half_two {n : Nat} (h : 2 ≤ n) : ∃ a, halfN n = 2 ^ a ∧ 2 ^ a < n ∧ n ≤ 2 ^ (a + 1) := by
  refine ⟨bitLen (n - 1) - 1, rfl, half_lt h, ?_⟩
  have h1 := bitLen_pos (n := n - 1) (by omega)
  have h2 := (bitLen_n (n - 1)).1
  rw [show bitLen (n - 1) - 1 + 1 = bitLen (n - 1) by omega]
  omega
theorem pow_between {a b n : Nat} (h1 : 2 ^ a < n) (h2 : n ≤ 2 ^ (a + 1)) (h3 : 2 ^ b < n) (h4 : n ≤ 2 ^ (b + 1)) : a = b := by
  have e1 : a < b + 1 := (Nat.pow_lt_pow_iff_right (by decide : 1 < 2)).1 (Nat.lt_of_lt_of_le h1 h4)
  have e2 : b < a + 1 := (Nat.pow_lt_pow_iff_right (by decide : 1 < 2)).1 (Nat.lt_of_lt_of_le h3 h2)
  omega
theorem half_is {n a : Nat} (h1 : 2 ^ a < n) (h2 : n ≤ 2 ^ (a + 1)) : halfN n = 2 ^ a := by
  have hp := Nat.two_pow_pos a
  obtain ⟨b, e, h3, h4⟩ := half_two (n := n) (by omega)
  rw [e, pow_between h1 h2 h3 h4]
theorem whole_app {l m : List Total} {a : Nat} (hl : l.length = 2 ^ a) (h1 : 1 ≤ m.length) (h2 : m.length ≤ 2 ^ a) : wholeT (l ++ m) = joinT (wholeT l) (wholeT m) := by
  have hp := Nat.two_pow_pos a
  have e : halfN (l ++ m).length = l.length := by
    rw [hl]
    exact half_is (by rw [List.length_append]; omega) (by rw [List.length_append, Nat.pow_succ]; omega)
  rw [wholeT, dif_neg (by rw [List.length_append]; omega), e, List.take_left' rfl, List.drop_left' rfl]
theorem whole_cut {l : List Total} (h : 2 ≤ l.length) : wholeT l = joinT (wholeT (l.take (halfN l.length))) (wholeT (l.drop (halfN l.length))) := by
  conv => lhs; rw [wholeT]
  rw [dif_neg (by omega)]
def wsum : List Total → Nat
  | [] => 0
  | x :: l => nW x.w + wsum l
theorem wsum_app : ∀ {l m : List Total}, wsum (l ++ m) = wsum l + wsum m
  | [], m => by simp [wsum]
  | x :: l, m => by rw [List.cons_append, wsum, wsum, wsum_app]; omega
theorem wsum_cut (l : List Total) (k : Nat) : wsum l = wsum (l.take k) + wsum (l.drop k) := by rw [← wsum_app, List.take_append_drop]
def Leafs (l : List Total) : Prop := ∀ x ∈ l, x.n = 1 ∧ x.w.length = 4
theorem Leafs.take {l : List Total} {k : Nat} (h : Leafs l) : Leafs (l.take k) := fun x hx => h x (List.mem_of_mem_take hx)
theorem Leafs.drop {l : List Total} {k : Nat} (h : Leafs l) : Leafs (l.drop k) := fun x hx => h x (List.mem_of_mem_drop hx)
theorem whole_facts : ∀ (n : Nat) (l : List Total), l.length = n → 1 ≤ n → n ≤ 1000000000000 → Leafs l → (wholeT l).n = n ∧ (wholeT l).w.length = 4 ∧ nW (wholeT l).w = wsum l % W256 := by
  intro n
  induction n using Nat.strongRecOn with
  | ind n ih =>
    intro l hn h1 h2 hl
    by_cases c : n < 2
    · obtain ⟨x, rfl⟩ : ∃ x, l = [x] := by
        match l, hn with
        | [x], _ => exact ⟨x, rfl⟩
        | [], e => simp at e; omega
        | _ :: _ :: _, e => simp at e; omega
      rw [whole_one]
      obtain ⟨e1, e2⟩ := hl x (by simp)
      refine ⟨by rw [e1]; omega, e2, ?_⟩
      rw [wsum, wsum, Nat.add_zero, Nat.mod_eq_of_lt (nW_lt e2)]
    · have hp := half_pos l.length
      have hlt := half_lt (n := l.length) (by omega)
      obtain ⟨a1, a2, a3⟩ := ih (halfN l.length) (by omega) (l.take (halfN l.length)) (by rw [List.length_take]; omega) (by omega) (by omega) hl.take
      obtain ⟨b1, b2, b3⟩ := ih (l.length - halfN l.length) (by omega) (l.drop (halfN l.length)) (by rw [List.length_drop]) (by omega) (by omega) hl.drop
      rw [whole_cut (by omega)]
      refine ⟨?_, addW_len a2 b2, ?_⟩
      · show IntKind.i64.wrap (_ + _) = _
        rw [a1, b1, wrap_eq (by omega)]; omega
      · show nW (addW _ _) = _
        rw [nW_add a2 b2, a3, b3, ← Nat.add_mod, ← wsum_cut]
inductive PK : List Total → List Total → Prop
  | nil : PK [] []
  | cons {r l s : List Total} {a : Nat} (h : PK r l) (hs : s.length = 2 ^ a) (hn : (wholeT s).n = ((2 ^ a : Nat) : Int)) (hr : ∀ y, r.head? = some y → ((2 ^ a : Nat) : Int) < y.n) : PK (wholeT s :: r) (l ++ s)
theorem pk_root : ∀ {r l : List Total}, PK r l → ∀ s : List Total, 1 ≤ s.length → (∀ y, r.head? = some y → (s.length : Int) ≤ y.n) → rootFrom r (wholeT s) = wholeT (l ++ s) := by
  intro r l h
  induction h with
  | nil => intro s _ _; rfl
  | cons h hs hn hr ih =>
    rename_i r l t a
    intro s h1 h2
    have h3 := h2 _ rfl
    rw [hn] at h3
    rw [rootFrom, ← whole_app hs h1 (by omega), ih (t ++ s) (by rw [List.length_append]; omega), List.append_assoc]
    intro y hy
    have h4 := hr y hy
    cases h with
    | nil => cases hy
    | cons h' hs' hn' hr' =>
      rename_i r' l' t' b
      injection hy with hy
      subst hy
      rw [hn'] at h4 ⊢
      have h5 : 2 ^ a < 2 ^ b := by omega
      have h6 : a + 1 ≤ b := (Nat.pow_lt_pow_iff_right (by decide : 1 < 2)).1 h5
      have h7 : 2 ^ (a + 1) ≤ 2 ^ b := Nat.pow_le_pow_right (by decide) h6
      rw [List.length_append, hs]
      rw [Nat.pow_succ] at h7
      omega
theorem pk_push : ∀ {r l : List Total}, PK r l → ∀ (s : List Total) (a : Nat), s.length = 2 ^ a → (wholeT s).n = ((2 ^ a : Nat) : Int) → l.length + s.length ≤ 1000000000000 → (∀ y, r.head? = some y → ((2 ^ a : Nat) : Int) ≤ y.n) → PK (pushR r (wholeT s)) (l ++ s) := by
  intro r l h
  induction h with
  | nil => intro s a hs hn _ _; exact .cons .nil hs hn (fun y hy => by cases hy)
  | cons h hs hn hr ih =>
    rename_i r l t b
    intro s a hs' hn' hlen h2
    have h3 := h2 _ rfl
    rw [hn] at h3
    rw [pushR]
    by_cases e : (wholeT t).n = (wholeT s).n
    · rw [if_pos e]
      have eab : 2 ^ b = 2 ^ a := by rw [hn, hn'] at e; omega
      rw [List.length_append] at hlen
      rw [← whole_app hs (by rw [hs', ← eab]; exact Nat.two_pow_pos b) (by omega), List.append_assoc]
      refine ih (t ++ s) (b + 1) (by rw [List.length_append, Nat.pow_succ]; omega) ?_ (by rw [List.length_append]; omega) ?_
      · rw [whole_app hs (by rw [hs', ← eab]; exact Nat.two_pow_pos b) (by omega)]
        show IntKind.i64.wrap (_ + _) = _
        rw [hn, hn', ← eab, wrap_eq (by omega), Nat.pow_succ]; omega
      · intro y hy
        have h4 := hr y hy
        cases h with
        | nil => cases hy
        | cons h' hs'' hn'' hr' =>
          rename_i r' l' t' c
          injection hy with hy
          subst hy
          rw [hn''] at h4 ⊢
          have h5 : 2 ^ b < 2 ^ c := by omega
          have h6 : b + 1 ≤ c := (Nat.pow_lt_pow_iff_right (by decide : 1 < 2)).1 h5
          have h7 : 2 ^ (b + 1) ≤ 2 ^ c := Nat.pow_le_pow_right (by decide) h6
          omega
    · rw [if_neg e]
      refine .cons (.cons h hs hn hr) hs' hn' fun y hy => ?_
      injection hy with hy
      subst hy
      rw [hn, hn'] at e
      rw [hn]
      omega
theorem pk_fold : ∀ {L p l : List Total}, PK p.reverse l → Leafs L → l.length + L.length ≤ 1000000000000 → PK (L.foldl mmrAppend p).reverse (l ++ L)
  | [], p, l, h, _, _ => by rw [List.append_nil]; exact h
  | x :: L, p, l, h, hl, hlen => by
    rw [List.foldl_cons]
    rw [List.length_cons] at hlen
    have h1 := (hl x (by simp)).1
    have h2 := pk_push h [x] 0 rfl (by rw [whole_one, h1]; rfl) (by rw [List.length_singleton]; omega) (fun y hy => by
      cases h' : p.reverse with
      | nil => rw [h'] at hy; cases hy
      | cons z r =>
        rw [h'] at h hy
        injection hy with hy
        subst hy
        cases h with
        | cons h'' hs hn hr =>
          rename_i l' t a
          rw [hn]
          have := Nat.two_pow_pos a
          omega)
    rw [whole_one] at h2
    have h3 : (mmrAppend p x).reverse = pushR p.reverse x := by unfold mmrAppend; rw [List.reverse_reverse]
    rw [← h3] at h2
    have := pk_fold (L := L) h2 (fun y hy => hl y (by simp [hy])) (by rw [List.length_append, List.length_singleton]; omega)
    rw [List.append_assoc] at this
    exact this
theorem root_whole {L : List Total} (h : Leafs L) (hne : 1 ≤ L.length) (hlen : L.length ≤ 1000000000000) : mmrRoot (L.foldl mmrAppend []) = wholeT L := by
  have hp := pk_fold (p := []) PK.nil h (by simpa using hlen)
  rw [List.nil_append] at hp
  unfold mmrRoot
  obtain ⟨q, hq⟩ : ∃ q, q = (L.foldl mmrAppend []).reverse := ⟨_, rfl⟩
  rw [← hq] at hp ⊢
  cases hp with
  | nil => simp at hne
  | cons h' hs hn hr =>
    rename_i r l s a
    refine pk_root h' s (by rw [hs]; exact Nat.two_pow_pos a) fun y hy => ?_
    have := hr y hy
    omega
end Go.Proofs.YtgoebfjaaklopaaGreat
set_option maxRecDepth 20000
namespace Go.Proofs.YtgoebfjaaklopaaGreat
set_option linter.unusedVariables false
set_option linter.unusedSimpArgs false
open Go.Ab Go.RowKit
theorem ofW_n (x : UInt64) : nW (ofW x) = x.toNat := by
  show nW [x, 0, 0, 0] = _
  unfold nW; simp
theorem snotW_n {t : Wide} (ht : t.length = 4) : nW [~~~ t.getD 0 default, ~~~ t.getD 1 default, ~~~ t.getD 2 default, ~~~ t.getD 3 default] = W256 - 1 - nW t := by
  obtain ⟨a0, a1, a2, a3, rfl⟩ := wide4 ht
  have e : ∀ x : UInt64, (~~~ x).toNat = 18446744073709551615 - x.toNat := fun x => by rw [UInt64.toNat_not]; rfl
  have h0 : a0.toNat < 18446744073709551616 := a0.toNat_lt
  have h1 : a1.toNat < 18446744073709551616 := a1.toNat_lt
  have h2 : a2.toNat < 18446744073709551616 := a2.toNat_lt
  have h3 : a3.toNat < 18446744073709551616 := a3.toNat_lt
  unfold nW W256
  simp only [List.getD_cons_zero, List.getD_cons_succ, e]
  omega
theorem work_bounds {t : Wide} (ht : t.length = 4) (h : 32768 ≤ nW t) : (workW t).length = 4 ∧ 1 ≤ nW (workW t) ∧ nW (workW t) ≤ 2 ^ 241 := by
  have l1 : (ofW 1).length = 4 := rfl
  have h1 : nW (ofW 1) = 1 := rfl
  unfold workW
  by_cases c : addOk t (ofW 1) = true
  · rw [if_pos c]
    obtain ⟨n1, n2⟩ := nW_add2 ht l1
    have hlt := n2.1 c
    rw [h1] at n1 hlt
    rw [Nat.mod_eq_of_lt hlt] at n1
    have nl := addW_len ht l1
    have hz : addW t (ofW 1) ≠ zWide := fun e => by rw [e, nW_zero] at n1; omega
    obtain ⟨e1, e2, e3, _⟩ := nW_div (a := [~~~ t.getD 0 default, ~~~ t.getD 1 default, ~~~ t.getD 2 default, ~~~ t.getD 3 default]) rfl nl hz
    rw [snotW_n ht, n1] at e3
    have hd : (W256 - 1 - nW t) / (nW t + 1) ≤ (2 ^ 256 - 1) / 32768 := by
      refine Nat.le_trans (Nat.div_le_div_right (c := nW t + 1) (show W256 - 1 - nW t ≤ 2 ^ 256 - 1 by have : W256 = 2 ^ 256 := rfl; omega)) ?_
      exact Nat.div_le_div_left (by omega) (by decide)
    have hk : (2 ^ 256 - 1) / 32768 = 2 ^ 241 - 1 := by decide
    rw [hk] at hd
    obtain ⟨D, hD⟩ : ∃ D, D = (W256 - 1 - nW t) / (nW t + 1) := ⟨_, rfl⟩
    rw [← hD] at hd e3
    have hW : 2 ^ 241 < W256 := by decide
    refine ⟨addW_len e1 l1, ?_, ?_⟩ <;> rw [nW_add e1 l1, e3, h1, Nat.mod_eq_of_lt (by omega)] <;> omega
  · rw [if_neg c]; exact ⟨rfl, by rw [h1]; exact Nat.le_refl _, by rw [h1]; decide⟩
theorem tgt_low {bits : UInt32} (h : tgtOk bits = true) : (tgtW bits).length = 4 ∧ 32768 ≤ nW (tgtW bits) := by
  unfold tgtW
  rw [if_pos h]
  unfold tgtOk at h
  obtain ⟨h1, h2, h3, h4⟩ := of_decide_eq_true h
  refine ⟨upW_len rfl, ?_⟩
  obtain ⟨k, hk⟩ : ∃ k : Nat, 8 * (tgtE bits - 3) = (k : Int) := ⟨(8 * (tgtE bits - 3)).toNat, by omega⟩
  rw [hk, nW_up rfl (by omega), ofW_n]
  have hle : 2 ^ k ≤ 2 ^ 232 := Nat.pow_le_pow_right (by decide) (by omega)
  have hp := Nat.two_pow_pos k
  have hm : (tgtM bits).toNat * 2 ^ k ≤ 8388607 * 2 ^ 232 := Nat.mul_le_mul (by omega) hle
  rw [Nat.mod_eq_of_lt (Nat.lt_of_le_of_lt hm (by decide))]
  have := Nat.mul_le_mul (Nat.le_refl (tgtM bits).toNat) hp
  omega
theorem headWork_bounds {h : Head} (ho : tgtOk h.bits = true) : (headWork h).length = 4 ∧ 1 ≤ nW (headWork h) ∧ nW (headWork h) ≤ 2 ^ 241 := by
  unfold headWork
  rw [if_pos ho]
  exact work_bounds (tgt_low ho).1 (tgt_low ho).2
theorem chain_bits {l : List Block} {t : Tip} (h : Chain l t) : ∀ b ∈ l, tgtOk b.h.bits = true := by
  have hg : ∀ g, l[0]? = some g → tgtOk g.h.bits = true := fun g hg => by
    cases hc : tgtOk g.h.bits with
    | true => rfl
    | false =>
      cases l with
      | nil => cases hg
      | cons x r =>
        injection hg with hg
        subst hg
        unfold Chain checkOf at h
        simp only [] at h
        rw [if_neg (by rw [hc]; simp)] at h
        injection h with _ h
        exact absurd h (by decide)
  intro b hb
  obtain ⟨i, hi⟩ := List.mem_iff_getElem?.1 hb
  obtain ⟨hlt, _⟩ := List.getElem?_eq_some_iff.1 hi
  cases i with
  | zero => exact hg b hi
  | succ i =>
    obtain ⟨g, hg0⟩ : ∃ g, l[0]? = some g := ⟨_, List.getElem?_eq_getElem (by omega)⟩
    obtain ⟨a, ha⟩ : ∃ a, l[i]? = some a := ⟨_, List.getElem?_eq_getElem (by omega)⟩
    rw [(chain_stands h (i := i + 1) (by omega) hi (by simpa using ha) hg0).2.2.2.2.2.1]
    exact hg g hg0
theorem chain_leafs {l : List Block} {t : Tip} (h : Chain l t) : Leafs (leavesOf l) := fun x hx => by
  obtain ⟨b, hb, rfl⟩ := List.mem_map.1 hx
  exact ⟨rfl, (headWork_bounds (chain_bits h b hb)).1⟩
theorem wsum_bound {M : Nat} : ∀ {l : List Total}, (∀ x ∈ l, nW x.w ≤ M) → wsum l ≤ l.length * M
  | [], _ => by simp [wsum]
  | x :: l, h => by
    have h1 := wsum_bound (M := M) (l := l) fun y hy => h y (by simp [hy])
    have h2 := h x (by simp)
    rw [wsum, List.length_cons, Nat.add_mul, Nat.one_mul]; omega
theorem wsum_pos {x : Total} : ∀ {l : List Total}, x ∈ l → nW x.w ≤ wsum l
  | y :: l, h => by
    rw [wsum]
    rcases List.mem_cons.1 h with rfl | h
    · omega
    · have := wsum_pos (l := l) h; omega
theorem chain_wsum {l : List Block} {t : Tip} (h : Chain l t) : wsum (leavesOf l) < W256 := by
  have h1 := wsum_bound (M := 2 ^ 241) (l := leavesOf l) fun x hx => by
    obtain ⟨b, hb, rfl⟩ := List.mem_map.1 hx
    exact (headWork_bounds (chain_bits h b hb)).2.2
  have h2 := (chain_tip h).2.2.1
  have h3 : (leavesOf l).length = l.length := by unfold leavesOf; rw [List.length_map]
  rw [h3] at h1
  have h4 : l.length * 2 ^ 241 ≤ 48 * 2 ^ 241 := Nat.mul_le_mul_right _ h2
  have h5 : 48 * 2 ^ 241 < W256 := by decide
  omega
theorem chain_ahead {l : List Block} {t : Tip} {n : Nat} (h : Chain l t) (hn : l.length = n + 2) : t.b.h.height = (n + 1 : Nat) ∧ t.b.h.past = (wholeT (leavesOf (l.take (n + 1)))).h ∧ t.b.h.work = (wholeT (leavesOf (l.take (n + 1)))).w ∧ (wholeT (leavesOf (l.take (n + 1)))).n = (n + 1 : Nat) ∧
    t.b.h.work.length = 4 ∧ nW t.b.h.work = wsum (leavesOf (l.take (n + 1))) ∧ 1 ≤ nW t.b.h.work ∧ headMay t.b.h = true ∧ l[n + 1]? = some t.b := by
  have hlast : l[n + 1]? = some t.b := by
    have := (chain_tip h).1
    rw [List.getLast?_eq_getElem?, hn] at this
    exact this
  obtain ⟨g, hg0⟩ : ∃ g, l[0]? = some g := ⟨_, List.getElem?_eq_getElem (by omega)⟩
  obtain ⟨a, ha⟩ : ∃ a, l[n]? = some a := ⟨_, List.getElem?_eq_getElem (by omega)⟩
  obtain ⟨c1, c2, c3, c4, c5, c6, c7, c8⟩ := chain_stands h (i := n + 1) (by omega) hlast (by simpa using ha) hg0
  rw [← leaves_take] at c3 c4
  have hL : Leafs (leavesOf (l.take (n + 1))) := by rw [leaves_take]; exact (chain_leafs h).take
  have hlen : (leavesOf (l.take (n + 1))).length = n + 1 := by unfold leavesOf; rw [List.length_map, List.length_take]; omega
  have h48 := (chain_tip h).2.2.1
  have hr := root_whole hL (by omega) (by omega)
  rw [hr] at c3 c4
  obtain ⟨w1, w2, w3⟩ := whole_facts (n + 1) _ hlen (by omega) (by omega) hL
  have hlt := chain_wsum h
  have hcut := wsum_cut (leavesOf l) (n + 1)
  rw [← leaves_take] at hcut
  have hmod : wsum (leavesOf (l.take (n + 1))) % W256 = wsum (leavesOf (l.take (n + 1))) := Nat.mod_eq_of_lt (by omega)
  refine ⟨c1, c3, c4, w1, by rw [c4]; exact w2, by rw [c4, w3, hmod], ?_, c8, hlast⟩
  rw [c4, w3, hmod]
  have hm : leafH a.h ∈ leavesOf (l.take (n + 1)) := by
    refine List.mem_map.2 ⟨a, List.mem_of_getElem? (i := n) ?_, rfl⟩
    rw [List.getElem?_take, if_pos (by omega)]; exact ha
  have h1 := wsum_pos hm
  have h2 := (headWork_bounds (chain_bits h a (List.mem_of_getElem? ha))).2.1
  have h3 : (leafH a.h).w = headWork a.h := rfl
  rw [h3] at h1
  omega
end Go.Proofs.YtgoebfjaaklopaaGreat
set_option maxRecDepth 20000
namespace Go.Proofs.YtgoebfjaaklopaaGreat
set_option linter.unusedVariables false
set_option linter.unusedSimpArgs false
open Go.Ab Go.RowKit
def parS (s : Store) (i : Nat) : Int := s.par.getD i 0
def blkS (s : Store) (i : Nat) : Block := s.b.getD i default
def pathP (p : List Int) (i : Nat) : List Nat := if _h : 0 ≤ p.getD i 0 ∧ p.getD i 0 < (i : Int) then pathP p (p.getD i 0).toNat ++ [i] else [i]
termination_by i
decreasing_by omega
def lineS (s : Store) (i : Nat) : List Block := (pathP s.par i).map (blkS s)
def chainS (s : Store) (i : Int) : List Block := if ¬ s.b.length = s.par.length ∨ i < 0 ∨ (s.b.length : Int) ≤ i then [] else lineS s i.toNat
theorem path_up {p : List Int} {i : Nat} (h : 0 ≤ p.getD i 0 ∧ p.getD i 0 < (i : Int)) : pathP p i = pathP p (p.getD i 0).toNat ++ [i] := by rw [pathP, dif_pos h]
theorem path_first {p : List Int} {i : Nat} (h : ¬ (0 ≤ p.getD i 0 ∧ p.getD i 0 < (i : Int))) : pathP p i = [i] := by rw [pathP, dif_neg h]
theorem path_le (p : List Int) : ∀ (s i : Nat), i ≤ s → ∀ j ∈ pathP p i, j ≤ i := by
  intro s
  induction s with
  | zero =>
    intro i hi j hj
    rw [path_first (by omega)] at hj
    rw [List.mem_singleton.1 hj]; exact Nat.le_refl _
  | succ s ih =>
    intro i hi j hj
    by_cases c : 0 ≤ p.getD i 0 ∧ p.getD i 0 < (i : Int)
    · rw [path_up c] at hj
      rcases List.mem_append.1 hj with hj | hj
      · have := ih (p.getD i 0).toNat (by omega) j hj; omega
      · rw [List.mem_singleton.1 hj]; exact Nat.le_refl _
    · rw [path_first c] at hj
      rw [List.mem_singleton.1 hj]; exact Nat.le_refl _
theorem path_more (p : List Int) (x : Int) : ∀ (s i : Nat), i ≤ s → i < p.length → pathP (p ++ [x]) i = pathP p i := by
  intro s
  induction s with
  | zero =>
    intro i hi hl
    have e : (p ++ [x]).getD i 0 = p.getD i 0 := by rw [List.getD_eq_getElem?_getD, List.getD_eq_getElem?_getD, List.getElem?_append_left hl]
    rw [path_first (by rw [e]; omega), path_first (by omega)]
  | succ s ih =>
    intro i hi hl
    have e : (p ++ [x]).getD i 0 = p.getD i 0 := by rw [List.getD_eq_getElem?_getD, List.getD_eq_getElem?_getD, List.getElem?_append_left hl]
    by_cases c : 0 ≤ p.getD i 0 ∧ p.getD i 0 < (i : Int)
    · rw [path_up (by rw [e]; exact c), path_up c, e, ih _ (by omega) (by omega)]
    · rw [path_first (by rw [e]; exact c), path_first c]
structure MayS (s : Store) : Prop where
  n1 : 0 < s.b.length
  n2 : s.b.length ≤ 40
  pl : s.par.length = s.b.length
  p0 : s.par[0]? = some (-1)
  id : ∀ i j, i < j → j < s.b.length → ¬ headId (blkS s i).h = headId (blkS s j).h
  par : ∀ i, 0 < i → i < s.b.length → 0 ≤ parS s i ∧ parS s i < i
  ok : ∀ i, i < s.b.length → (checkOf (lineS s i)).2 = 0
def okS (s : Store) (i : Nat) : Bool := (List.range i).all (fun j => !decide (headId (blkS s j).h = headId (blkS s i).h)) && (decide (i = 0) || decide (0 ≤ parS s i ∧ parS s i < (i : Int))) && decide ((checkOf (lineS s i)).2 = 0)
def mayS (s : Store) : Bool := decide (0 < s.b.length ∧ s.b.length ≤ 40 ∧ s.par.length = s.b.length ∧ s.par[0]? = some (-1)) && (List.range s.b.length).all (okS s)
theorem may_iff {s : Store} : mayS s = true ↔ MayS s := by
  unfold mayS okS
  simp only [Bool.and_eq_true, Bool.or_eq_true, decide_eq_true_eq, List.all_eq_true, List.mem_range, Bool.not_eq_true', decide_eq_false_iff_not]
  constructor
  · rintro ⟨⟨h1, h2, h3, h4⟩, h5⟩
    exact ⟨h1, h2, h3, h4, fun i j hij hj => (h5 j hj).1.1 i hij, fun i h0 hi => (h5 i hi).1.2.resolve_left (by omega), fun i hi => (h5 i hi).2⟩
  · intro h
    exact ⟨⟨h.n1, h.n2, h.pl, h.p0⟩, fun i hi => ⟨⟨fun j hj => h.id j i hj hi, (Nat.eq_zero_or_pos i).imp id fun h0 => h.par i h0 hi⟩, h.ok i hi⟩⟩
section
variable {s : Store}
theorem blk_at {i : Nat} (hi : i < s.b.length) : s.b[i]? = some (blkS s i) := by unfold blkS; rw [List.getD_eq_getElem?_getD, List.getElem?_eq_getElem hi]; rfl
theorem par_at (h : MayS s) {i : Nat} (hi : i < s.b.length) : s.par[i]? = some (parS s i) := by unfold parS; rw [List.getD_eq_getElem?_getD, List.getElem?_eq_getElem (by rw [h.pl]; exact hi)]; rfl
theorem par_zero (h : MayS s) : parS s 0 = -1 := by unfold parS; rw [List.getD_eq_getElem?_getD, h.p0]; rfl
theorem line_up (h : MayS s) {i : Nat} (h0 : 0 < i) (hi : i < s.b.length) : lineS s i = lineS s (parS s i).toNat ++ [blkS s i] := by
  unfold lineS
  rw [path_up (h.par i h0 hi), List.map_append]; rfl
theorem line_zero (h : MayS s) : lineS s 0 = [blkS s 0] := by
  unfold lineS
  rw [path_first (by have := par_zero h; unfold parS at this; omega)]; rfl
theorem line_last (i : Nat) : (lineS s i).getLast? = some (blkS s i) := by
  unfold lineS
  by_cases c : 0 ≤ s.par.getD i 0 ∧ s.par.getD i 0 < (i : Int)
  · rw [path_up c]; simp
  · rw [path_first c]; rfl
theorem line_first (h : MayS s) : ∀ (n i : Nat), i ≤ n → i < s.b.length → (lineS s i)[0]? = some (blkS s 0) := by
  intro n
  induction n with
  | zero =>
    intro i hi _
    rw [show i = 0 by omega, line_zero h]; rfl
  | succ n ih =>
    intro i hi hl
    by_cases c : 0 < i
    · have hp := h.par i c hl
      have := ih (parS s i).toNat (by omega) (by omega)
      rw [line_up h c hl, List.getElem?_append_left (List.getElem?_eq_some_iff.1 this).1]; exact this
    · rw [show i = 0 by omega, line_zero h]; rfl
theorem line_tip (h : MayS s) {i : Nat} (hi : i < s.b.length) : ∃ t, Chain (lineS s i) t ∧ t.b = blkS s i ∧ (blkS s i).h.height = ((lineS s i).length : Int) - 1 ∧ (lineS s i).length ≤ 48 := by
  have hc := chain_of (h.ok i hi)
  obtain ⟨h1, h2, h3, _⟩ := chain_tip hc
  rw [line_last i] at h1
  injection h1 with h1
  exact ⟨_, hc, h1.symm, by rw [h1]; exact h2, h3⟩
theorem first_is (h : MayS s) : tgtOk (blkS s 0).h.bits = true ∧ newOf (blkS s 0).h.bits = [blkS s 0] := by
  have hc := chain_of (h.ok 0 h.n1)
  rw [line_zero h] at hc
  obtain ⟨h1, h2, _⟩ := chain_one hc
  refine ⟨h1, ?_⟩
  unfold newOf
  rw [if_pos h1, firstTip_is h1, ← h2]
theorem behind (h : MayS s) {i : Nat} (h0 : 0 < i) (hi : i < s.b.length) : ∃ t, Chain (lineS s (parS s i).toNat) t ∧ t.b = blkS s (parS s i).toNat ∧ pushE t (blkS s i) = 0 := by
  have hp := h.par i h0 hi
  have hc := chain_of (h.ok i hi)
  obtain ⟨t, g1, g2, _⟩ := line_tip h (i := (parS s i).toNat) (by omega)
  rw [line_up h h0 hi] at hc
  obtain ⟨t', c1, c2, _⟩ := chain_snoc (chain_ne (h.ok _ (by omega))) hc
  have e : t' = t := by
    have a : checkOf _ = _ := c1
    have b : checkOf _ = _ := g1
    rw [a] at b
    exact congrArg (·.1) b
  rw [e] at c2
  exact ⟨t, g1, g2, c2⟩
theorem store_unlike (h : MayS s) {i : Nat} (h0 : 0 < i) (hi : i < s.b.length) : (blkS s i).h.prev = headId (blkS s (parS s i).toNat).h ∧ (blkS s i).h.height = (blkS s (parS s i).toNat).h.height + 1 := by
  obtain ⟨t, g1, g2, g3⟩ := behind h h0 hi
  have hp := h.par i h0 hi
  have e : (blkS s i).h = _ := (push_iff.1 g3).2.1
  obtain ⟨_, _, _, a1, _⟩ := line_tip h hi
  obtain ⟨_, _, _, b1, _⟩ := line_tip h (i := (parS s i).toNat) (by omega)
  refine ⟨?_, ?_⟩
  · rw [e]
    show headId t.b.h = _
    rw [g2]
  · rw [a1, b1, line_up h h0 hi, List.length_append, List.length_singleton]; omega
def putE (s : Store) (b : Block) : Int :=
  if ¬ mayS s = true then 1
  else if ¬ findOf s.b (headId b.h) = -1 then 10
  else if findOf s.b b.h.prev = -1 then 9
  else if s.b.length = 40 then 11
  else (checkOf (chainS s (findOf s.b b.h.prev) ++ [b])).2
def putS (s : Store) (b : Block) : Store := if putE s b = 0 then ⟨s.b ++ [b], s.par ++ [findOf s.b b.h.prev]⟩ else s
theorem put_ok_ {b : Block} (h : putE s b = 0) : MayS s ∧ findOf s.b (headId b.h) = -1 ∧ ∃ p : Nat, findOf s.b b.h.prev = (p : Int) ∧ p < s.b.length ∧ s.b.length < 40 ∧ (checkOf (lineS s p ++ [b])).2 = 0 ∧ putS s b = ⟨s.b ++ [b], s.par ++ [(p : Int)]⟩ := by
  have h' := h
  unfold putE at h
  by_cases a : mayS s = true
  · rw [if_neg (fun c => c a)] at h
    by_cases c : findOf s.b (headId b.h) = -1
    · rw [if_neg (fun d => d c)] at h
      by_cases d : findOf s.b b.h.prev = -1
      · rw [if_pos d] at h; cases h
      · rw [if_neg d] at h
        by_cases e : s.b.length = 40
        · rw [if_pos e] at h; cases h
        · rw [if_neg e] at h
          have hm := may_iff.1 a
          have h0 : 0 ≤ findOf s.b b.h.prev := by have := idx_ge (fun c : Block => decide (headId c.h = b.h.prev)) s.b; unfold findOf at d ⊢; omega
          obtain ⟨x, hx, _⟩ := idx_some h0
          have hxl := (List.getElem?_eq_some_iff.1 hx).1
          have hn2 := hm.n2
          refine ⟨hm, c, (findOf s.b b.h.prev).toNat, (Int.toNat_of_nonneg h0).symm, hxl, by omega, ?_, ?_⟩
          · unfold chainS at h
            rw [if_neg (by rw [hm.pl]; unfold findOf at *; omega)] at h
            exact h
          · unfold putS
            rw [if_pos h', Int.toNat_of_nonneg h0]
    · rw [if_pos c] at h; cases h
  · rw [if_pos a] at h; cases h
end
section
variable {s : Store} {b : Block}
theorem find_not {l : List Block} {id : Ab.Id} (h : findOf l id = -1) {i : Nat} (hi : i < l.length) : ¬ headId (l.getD i default).h = id := fun e => by
  unfold findOf at h
  have hx : l[i]? = some (l.getD i default) := by rw [List.getD_eq_getElem?_getD, List.getElem?_eq_getElem hi]; rfl
  have := idx_none (p := fun c : Block => decide (headId c.h = id)) (by omega) _ (List.mem_of_getElem? hx)
  simp at this
  exact this e
theorem more_blk (x : Int) {i : Nat} (hi : i < s.b.length) : blkS ⟨s.b ++ [b], s.par ++ [x]⟩ i = blkS s i := by
  unfold blkS
  rw [List.getD_eq_getElem?_getD, List.getD_eq_getElem?_getD, List.getElem?_append_left hi]
theorem more_last (x : Int) : blkS ⟨s.b ++ [b], s.par ++ [x]⟩ s.b.length = b := by
  unfold blkS
  rw [List.getD_eq_getElem?_getD, List.getElem?_append_right (Nat.le_refl _)]; simp
theorem more_par (h : MayS s) (x : Int) {i : Nat} (hi : i < s.b.length) : parS ⟨s.b ++ [b], s.par ++ [x]⟩ i = parS s i := by
  unfold parS
  rw [List.getD_eq_getElem?_getD, List.getD_eq_getElem?_getD, List.getElem?_append_left (by rw [h.pl]; exact hi)]
theorem more_parl (h : MayS s) (x : Int) : parS ⟨s.b ++ [b], s.par ++ [x]⟩ s.b.length = x := by
  unfold parS
  rw [List.getD_eq_getElem?_getD, List.getElem?_append_right (by rw [h.pl]; exact Nat.le_refl _), h.pl]; simp
theorem more_line (h : MayS s) (x : Int) {i : Nat} (hi : i < s.b.length) : lineS ⟨s.b ++ [b], s.par ++ [x]⟩ i = lineS s i := by
  unfold lineS
  rw [show (⟨s.b ++ [b], s.par ++ [x]⟩ : Store).par = s.par ++ [x] from rfl, path_more s.par x i i (Nat.le_refl _) (by rw [h.pl]; exact hi)]
  refine List.map_congr_left fun j hj => more_blk x ?_
  have := path_le s.par i i (Nat.le_refl _) j hj
  omega
theorem more_linel (h : MayS s) {p : Nat} (hp : p < s.b.length) : lineS ⟨s.b ++ [b], s.par ++ [(p : Int)]⟩ s.b.length = lineS s p ++ [b] := by
  have e : (s.par ++ [(p : Int)]).getD s.b.length 0 = (p : Int) := more_parl (b := b) h (p : Int)
  have hl := more_line (b := b) h (p : Int) hp
  unfold lineS at hl ⊢
  rw [show (⟨s.b ++ [b], s.par ++ [(p : Int)]⟩ : Store).par = s.par ++ [(p : Int)] from rfl] at hl ⊢
  rw [path_up (by rw [e]; omega), e, List.map_append, show ((p : Int)).toNat = p by omega, hl]
  show _ ++ [blkS _ s.b.length] = _
  rw [more_last]
theorem put_may (h : putE s b = 0) : MayS (putS s b) := by
  obtain ⟨hm, hf, p, hp, hpl, hlt, hc, e⟩ := put_ok_ h
  rw [e]
  have hn : (⟨s.b ++ [b], s.par ++ [(p : Int)]⟩ : Store).b.length = s.b.length + 1 := by show (s.b ++ [b]).length = _; rw [List.length_append]; rfl
  refine ⟨by rw [hn]; omega, by rw [hn]; omega, ?_, ?_, fun i j hij hj => ?_, fun i h0 hi => ?_, fun i hi => ?_⟩
  · show (s.par ++ [(p : Int)]).length = (s.b ++ [b]).length
    rw [List.length_append, List.length_append, hm.pl]; rfl
  · show (s.par ++ [(p : Int)])[0]? = _
    rw [List.getElem?_append_left (by rw [hm.pl]; exact hm.n1)]; exact hm.p0
  · rw [hn] at hj
    by_cases c : j = s.b.length
    · rw [c, more_last, more_blk _ (by omega)]
      exact find_not hf (by omega)
    · rw [more_blk _ (by omega), more_blk _ (by omega)]
      exact hm.id i j hij (by omega)
  · rw [hn] at hi
    by_cases c : i = s.b.length
    · rw [c, more_parl hm]; omega
    · rw [more_par hm _ (by omega)]; exact hm.par i h0 (by omega)
  · rw [hn] at hi
    by_cases c : i = s.b.length
    · rw [c, more_linel hm hpl]; exact hc
    · rw [more_line hm _ (by omega)]; exact hm.ok i (by omega)
theorem put_twice (h : putE s b = 0) : putE (putS s b) b = 10 := by
  have hm := put_may h
  obtain ⟨_, _, p, _, _, _, _, e⟩ := put_ok_ h
  unfold putE
  rw [if_neg (fun c => c (may_iff.2 hm)), if_pos]
  rw [e]
  intro c
  have := find_not c (i := s.b.length) (by show s.b.length < (s.b ++ [b]).length; rw [List.length_append, List.length_singleton]; omega)
  exact this (congrArg (fun x : Block => headId x.h) (more_last (s := s) (b := b) (p : Int)))
theorem put_line (h : putE s b = 0) : ∃ p : Nat, chainS (putS s b) s.b.length = lineS s p ++ [b] ∧ (checkOf (lineS s p ++ [b])).2 = 0 ∧ ((lineS s p ++ [b]).length : Int) = b.h.height + 1 := by
  have hm' := put_may h
  obtain ⟨hm, hf, p, hp, hpl, hlt, hc, e⟩ := put_ok_ h
  have hl : s.b.length < (putS s b).b.length := by rw [e]; show s.b.length < (s.b ++ [b]).length; rw [List.length_append, List.length_singleton]; omega
  have h1 : lineS (putS s b) s.b.length = lineS s p ++ [b] := by rw [e]; exact more_linel hm hpl
  obtain ⟨t, g1, g2, g3, g4⟩ := line_tip hm' hl
  refine ⟨p, ?_, hc, ?_⟩
  · unfold chainS
    rw [if_neg (by rw [hm'.pl]; omega)]
    exact h1
  · have e2 : blkS (putS s b) s.b.length = b := by rw [e]; exact more_last _
    rw [e2, h1] at g3
    omega
theorem put_no (h : ¬ putE s b = 0) : putS s b = s := by unfold putS; rw [if_neg h]
end
section
variable {α : Type} [Inhabited α] (less : α → α → Bool)
def atH (l : List α) (i : Nat) : α := l.getD i default
def swapH (l : List α) (i j : Nat) : List α := (l.set i (atH l j)).set j (atH l i)
def upH (j : Nat) (l : List α) : List α :=
  if _h : 0 < j then (if less (atH l j) (atH l ((j - 1) / 2)) = true then upH ((j - 1) / 2) (swapH l ((j - 1) / 2) j) else l) else l
termination_by j
decreasing_by omega
def childH (n i : Nat) (l : List α) : Nat := if 2 * i + 2 < n ∧ less (atH l (2 * i + 2)) (atH l (2 * i + 1)) = true then 2 * i + 2 else 2 * i + 1
theorem child_or (n i : Nat) (l : List α) : childH less n i l = 2 * i + 2 ∨ childH less n i l = 2 * i + 1 := by
  unfold childH
  split
  · exact .inl rfl
  · exact .inr rfl
def downH (n i : Nat) (l : List α) : List α :=
  if _h : 2 * i + 1 < n then (if less (atH l (childH less n i l)) (atH l i) = true then downH n (childH less n i l) (swapH l i (childH less n i l)) else l) else l
termination_by n - i
decreasing_by
  have := child_or less n i l
  omega
def pushH (l : List α) (x : α) : List α := upH less l.length (l ++ [x])
def popH (l : List α) : α × List α := (atH (downH less (l.length - 1) 0 (swapH l 0 (l.length - 1))) (l.length - 1), (downH less (l.length - 1) 0 (swapH l 0 (l.length - 1))).take (l.length - 1))
theorem swap_len (l : List α) (i j : Nat) : (swapH l i j).length = l.length := by unfold swapH; rw [List.length_set, List.length_set]
theorem swap_at {l : List α} {i j : Nat} (hi : i < l.length) (hj : j < l.length) (k : Nat) : atH (swapH l i j) k = if k = j then atH l i else if k = i then atH l j else atH l k := by
  unfold swapH
  generalize hx : atH l i = x
  generalize hy : atH l j = y
  unfold atH
  rw [List.getD_eq_getElem?_getD, List.getD_eq_getElem?_getD, List.getElem?_set, List.length_set, List.getElem?_set]
  by_cases c : j = k
  · subst c; simp [hj]
  · have c' : ¬ k = j := fun e => c e.symm
    by_cases d : i = k
    · subst d; simp [c, c', hi]
    · have d' : ¬ k = i := fun e => d e.symm
      simp [c, c', d, d']
theorem at_get {l : List α} {i : Nat} {x : α} (h : l[i]? = some x) : atH l i = x := by
  unfold atH; rw [List.getD_eq_getElem?_getD, h]; rfl
theorem swap_perm {l : List α} {i j : Nat} (hi : i < l.length) (hj : j < l.length) : (swapH l i j).Perm l := by
  have ei : atH l i = l[i] := at_get (List.getElem?_eq_getElem hi)
  have ej : atH l j = l[j] := at_get (List.getElem?_eq_getElem hj)
  unfold swapH
  rw [ei, ej]
  exact List.set_set_perm hi hj
def HeapTo (n : Nat) (l : List α) : Prop := ∀ k, 0 < k → k < n → less (atH l k) (atH l ((k - 1) / 2)) = false
structure Ordered (less : α → α → Bool) : Prop where
  tr : ∀ {a b c}, less b a = false → less c b = false → less c a = false
  asy : ∀ {a b}, less a b = true → less b a = false
variable {less}
def HeapUp (less : α → α → Bool) (n j : Nat) (l : List α) : Prop := (∀ k, 0 < k → k < n → k ≠ j → less (atH l k) (atH l ((k - 1) / 2)) = false) ∧ ∀ k, 0 < j → 0 < k → k < n → (k - 1) / 2 = j → less (atH l k) (atH l ((j - 1) / 2)) = false
theorem up_ok_ (o : Ordered less) (n : Nat) : ∀ (s j : Nat) (l : List α), j ≤ s → j < n → n ≤ l.length → HeapUp less n j l → HeapTo less n (upH less j l) ∧ (upH less j l).Perm l
  | s, j, l, hs, hj, hn, ⟨h1, h2⟩ => by
    unfold upH
    by_cases c : 0 < j
    · rw [dif_pos c]
      by_cases d : less (atH l j) (atH l ((j - 1) / 2)) = true
      · rw [if_pos d]
        obtain ⟨p, hp⟩ : ∃ p, p = (j - 1) / 2 := ⟨_, rfl⟩
        rw [← hp] at d ⊢
        have hpj : p < j := by omega
        have ha := swap_at (l := l) (i := p) (j := j) (by omega) (by omega)
        match s, hs with
        | 0, hs => omega
        | s + 1, hs =>
          obtain ⟨g1, g2⟩ := up_ok_ o n s p (swapH l p j) (by omega) (by omega) (by rw [swap_len]; exact hn) ⟨fun k k0 kn kp => by
            rw [ha, ha]
            by_cases e : k = j
            · rw [if_pos e, e, ← hp, if_neg (by omega), if_pos rfl]
              exact o.asy d
            · rw [if_neg e, if_neg kp]
              by_cases f : (k - 1) / 2 = j
              · rw [if_pos f]
                have := h2 k c k0 kn f
                rw [← hp] at this
                exact this
              · rw [if_neg f]
                by_cases q : (k - 1) / 2 = p
                · rw [if_pos q]
                  have := h1 k k0 kn e
                  rw [q] at this
                  exact o.tr (o.asy d) this
                · rw [if_neg q]; exact h1 k k0 kn e, fun k p0 k0 kn kp => by
            rw [ha, ha]
            have hpp : (p - 1) / 2 ≠ j := by omega
            have hpq : (p - 1) / 2 ≠ p := by omega
            rw [if_neg hpp, if_neg hpq]
            have hpar := h1 p p0 (by omega) (by omega)
            by_cases e : k = j
            · rw [if_pos e]; exact hpar
            · rw [if_neg e, if_neg (by omega)]
              have := h1 k k0 kn e
              rw [kp] at this
              exact o.tr hpar this⟩
          exact ⟨g1, g2.trans (swap_perm (by omega) (by omega))⟩
      · rw [if_neg d]
        exact ⟨fun k k0 kn => by
          by_cases e : k = j
          · rw [e]; exact Bool.eq_false_iff.2 d
          · exact h1 k k0 kn e, List.Perm.refl _⟩
    · rw [dif_neg c]
      exact ⟨fun k k0 kn => h1 k k0 kn (by omega), List.Perm.refl _⟩
theorem push_heap (o : Ordered less) {l : List α} (h : HeapTo less l.length l) (x : α) : HeapTo less (l.length + 1) (pushH less l x) ∧ (pushH less l x).Perm (l ++ [x]) := by
  have ha : ∀ k, k < l.length → atH (l ++ [x]) k = atH l k := fun k hk => by
    unfold atH
    rw [List.getD_eq_getElem?_getD, List.getD_eq_getElem?_getD, List.getElem?_append_left hk]
  exact up_ok_ o (l.length + 1) l.length l.length (l ++ [x]) (Nat.le_refl _) (by omega) (by simp) ⟨fun k k0 kn kl => by
    rw [ha k (by omega), ha _ (by omega)]; exact h k k0 (by omega), fun k _ _ _ _ => by omega⟩
def HeapDown (less : α → α → Bool) (n i : Nat) (l : List α) : Prop := (∀ k, 0 < k → k < n → (k - 1) / 2 ≠ i → less (atH l k) (atH l ((k - 1) / 2)) = false) ∧ ∀ k, 0 < i → 0 < k → k < n → (k - 1) / 2 = i → less (atH l k) (atH l ((i - 1) / 2)) = false
theorem down_ok_ (o : Ordered less) (n : Nat) : ∀ (s i : Nat) (l : List α), n ≤ i + s → n ≤ l.length → HeapDown less n i l → HeapTo less n (downH less n i l) ∧ (downH less n i l).Perm l ∧ (∀ k, n ≤ k → atH (downH less n i l) k = atH l k)
  | s, i, l, hs, hn, ⟨h1, h2⟩ => by
    unfold downH
    by_cases c : 2 * i + 1 < n
    · rw [dif_pos c]
      obtain ⟨j, hj⟩ : ∃ j, j = childH less n i l := ⟨_, rfl⟩
      have hjo := child_or less n i l
      rw [← hj] at hjo ⊢
      have hjn : j < n := by
        rw [hj]; unfold childH
        split
        · rename_i e; exact e.1
        · exact c
      have hmin : ∀ k, 0 < k → k < n → (k - 1) / 2 = i → less (atH l k) (atH l j) = false := fun k k0 kn kp => by
        have hk : k = 2 * i + 1 ∨ k = 2 * i + 2 := by omega
        have irr : ∀ a, less a a = false := fun a => by
          cases e : less a a
          · rfl
          · have := o.asy e; rw [e] at this; cases this
        have ej : j = childH less n i l := hj
        unfold childH at ej
        split at ej
        · rename_i e
          rcases hk with hk | hk
          · rw [hk, ej]; exact o.asy e.2
          · rw [hk, ej]; exact irr _
        · rename_i e
          rcases hk with hk | hk
          · rw [hk, ej]; exact irr _
          · rw [hk, ej]
            exact Bool.eq_false_iff.2 fun q => e ⟨by omega, q⟩
      by_cases d : less (atH l j) (atH l i) = true
      · rw [if_pos d]
        have ha := swap_at (l := l) (i := i) (j := j) (by omega) (by omega)
        match s, hs with
        | 0, hs => omega
        | s + 1, hs =>
          obtain ⟨g1, g2, g3⟩ := down_ok_ o n s j (swapH l i j) (by omega) (by rw [swap_len]; exact hn) ⟨fun k k0 kn kp => by
            rw [ha, ha, if_neg kp]
            by_cases e : k = j
            · rw [if_pos e, if_pos (by omega)]; exact o.asy d
            · rw [if_neg e]
              by_cases f : k = i
              · rw [if_pos f, if_neg (by omega)]
                have := h2 j (by omega) (by omega) hjn (by omega)
                rw [f]; exact this
              · rw [if_neg f]
                by_cases q : (k - 1) / 2 = i
                · rw [if_pos q]; exact hmin k k0 kn q
                · rw [if_neg q]; exact h1 k k0 kn q, fun k _ k0 kn kp => by
            rw [ha, ha, if_neg (by omega), if_neg (by omega), if_neg (by omega), if_pos (by omega)]
            have := h1 k k0 kn (by omega)
            rw [kp] at this
            exact this⟩
          refine ⟨g1, g2.trans (swap_perm (by omega) (by omega)), fun k hk => ?_⟩
          rw [g3 k hk, ha, if_neg (by omega), if_neg (by omega)]
      · rw [if_neg d]
        have d := Bool.eq_false_iff.2 d
        exact ⟨fun k k0 kn => by
          by_cases e : (k - 1) / 2 = i
          · rw [e]; exact o.tr d (hmin k k0 kn e)
          · exact h1 k k0 kn e, List.Perm.refl _, fun _ _ => rfl⟩
    · rw [dif_neg c]
      exact ⟨fun k k0 kn => h1 k k0 kn (by omega), List.Perm.refl _, fun _ _ => rfl⟩
theorem heap_least (o : Ordered less) {n : Nat} {l : List α} (h : HeapTo less n l) (irr : ∀ a, less a a = false) : ∀ k, k < n → less (atH l k) (atH l 0) = false := by
  intro k
  induction k using Nat.strongRecOn with
  | ind k ih =>
    intro hk
    by_cases c : 0 < k
    · exact o.tr (ih ((k - 1) / 2) (by omega) (by omega)) (h k c hk)
    · rw [show k = 0 by omega]; exact irr _
theorem pop_heap (o : Ordered less) (irr : ∀ a, less a a = false) {l : List α} (h : HeapTo less l.length l) (hl : 0 < l.length) :
    (popH less l).1 = atH l 0 ∧ HeapTo less (l.length - 1) (popH less l).2 ∧ ((popH less l).2 ++ [(popH less l).1]).Perm l ∧ (popH less l).2.length = l.length - 1 ∧ ∀ y ∈ (popH less l).2, less y (popH less l).1 = false := by
  obtain ⟨n, hn⟩ : ∃ n, n = l.length - 1 := ⟨_, rfl⟩
  have ha := swap_at (l := l) (i := 0) (j := n) (by omega) (by omega)
  obtain ⟨g1, g2, g3⟩ := down_ok_ o n n 0 (swapH l 0 n) (by omega) (by rw [swap_len]; omega) ⟨fun k k0 kn kp => by
    rw [ha, ha, if_neg (by omega), if_neg (by omega), if_neg (by omega), if_neg (by omega)]
    exact h k k0 (by omega), fun k h0 => by omega⟩
  obtain ⟨D, hD⟩ : ∃ D, D = downH less n 0 (swapH l 0 n) := ⟨_, rfl⟩
  rw [← hD] at g1 g2 g3
  have hlen : D.length = n + 1 := by rw [g2.length_eq, swap_len]; omega
  have hv : (popH less l).1 = atH D n := by unfold popH; rw [← hn, ← hD]
  have hr : (popH less l).2 = D.take n := by unfold popH; rw [← hn, ← hD]
  have h0 : atH D n = atH l 0 := by rw [g3 n (Nat.le_refl _), ha, if_pos rfl]
  have hp : (D.take n ++ [atH D n]).Perm l := by
    have e : D.take n ++ [atH D n] = D := by
      have hx : D[n]? = some D[n] := List.getElem?_eq_getElem (by omega)
      have e2 : D.take (n + 1) = D.take n ++ [D[n]] := by rw [List.take_add_one, hx]; rfl
      rw [at_get hx, ← e2, List.take_of_length_le (by omega)]
    rw [e]
    exact g2.trans (swap_perm (by omega) (by omega))
  rw [hv, hr, ← hn]
  refine ⟨h0, fun k k0 kn => ?_, hp, by rw [List.length_take]; omega, fun y hy => ?_⟩
  · have e : ∀ i, i < n → atH (D.take n) i = atH D i := fun i hi => by
      unfold atH
      rw [List.getD_eq_getElem?_getD, List.getD_eq_getElem?_getD, List.getElem?_take, if_pos hi]
    rw [e k kn, e _ (by omega)]
    exact g1 k k0 kn
  · have hm : y ∈ l := hp.subset (List.mem_append_left _ hy)
    obtain ⟨k, hk⟩ := List.getElem?_of_mem hm
    have hkl := (List.getElem?_eq_some_iff.1 hk).1
    have := heap_least o h irr k hkl
    rw [at_get hk] at this
    rw [h0]; exact this
variable (less) in
def fillH (L : List α) : List α := L.foldl (pushH less) []
variable (less) in
def drainH : Nat → List α → List α
  | 0, _ => []
  | n + 1, l => (popH less l).1 :: drainH n (popH less l).2
theorem fill_snoc (L : List α) (x : α) : fillH less (L ++ [x]) = pushH less (fillH less L) x := by unfold fillH; rw [List.foldl_append]; rfl
theorem push_len (l : List α) (x : α) (o : Ordered less) (h : HeapTo less l.length l) : (pushH less l x).length = l.length + 1 := by
  rw [(push_heap o h x).2.length_eq, List.length_append]; rfl
theorem foldl_heap (o : Ordered less) : ∀ (L l : List α), HeapTo less l.length l → HeapTo less (L.foldl (pushH less) l).length (L.foldl (pushH less) l) ∧ (L.foldl (pushH less) l).Perm (l ++ L)
  | [], l, h => ⟨h, by rw [List.append_nil]; exact List.Perm.refl _⟩
  | x :: L, l, h => by
    have h1 := push_heap o h x
    have h2 := push_len l x o h
    obtain ⟨g1, g2⟩ := foldl_heap o L (pushH less l x) (by rw [h2]; exact h1.1)
    refine ⟨g1, g2.trans ?_⟩
    have := h1.2.append_right L
    rw [List.append_assoc] at this
    exact this
theorem fill_heap (o : Ordered less) (L : List α) : HeapTo less (fillH less L).length (fillH less L) ∧ (fillH less L).Perm L := by
  have := foldl_heap o L [] (fun k _ h => by cases h)
  rw [List.nil_append] at this
  exact this
theorem drain_ok (o : Ordered less) (irr : ∀ a, less a a = false) : ∀ (n : Nat) (l : List α), l.length = n → HeapTo less n l → (drainH less n l).Perm l ∧ (drainH less n l).Pairwise fun a b => less b a = false
  | 0, l, hl, _ => by
    have : l = [] := List.length_eq_zero_iff.1 hl
    rw [this]; exact ⟨List.Perm.refl _, List.Pairwise.nil⟩
  | n + 1, l, hl, h => by
    obtain ⟨g1, g2, g3, g4, g5⟩ := pop_heap o irr (by rw [hl]; exact h) (by omega)
    rw [hl] at g2 g4
    obtain ⟨k1, k2⟩ := drain_ok o irr n (popH less l).2 (by omega) g2
    refine ⟨?_, ?_⟩
    · show ((popH less l).1 :: drainH less n (popH less l).2).Perm l
      exact ((k1.cons _).trans (List.perm_append_singleton _ _).symm).trans g3
    · exact List.Pairwise.cons (fun y hy => g5 y (k1.subset hy)) k2
end
end Go.Proofs.YtgoebfjaaklopaaGreat
