/- Layer 9 (coin): a transaction's bytes, and its sum. -/
import Derived.Test.YtmfgemnmelbflaaBytes3
set_option maxRecDepth 20000
namespace Go.Proofs.Ytmfgemnmelbflaa
set_option linter.unusedVariables false
set_option linter.unusedSimpArgs false
open Go.Ab Go.RowKit

def putIn (x : In) : List UInt8 := x.tx ++ [u8OfI (IntL.toI i64T x.i)]
def putOut (o : Out) : List UInt8 := numBytes (u64OfI (IntL.toI i64T o.v)) 6 ++ [u8OfI (IntL.toI i64T o.to)]
/-- A transaction's bytes, of some of its Ins; then of some of its Outs. -/
def putIns (t : Tx) (k : Nat) : List UInt8 := u8OfI (IntL.toI i64T (t.ins.length : Int)) :: ((t.ins.take k).map putIn).flatten
def putOuts (t : Tx) (k : Nat) : List UInt8 := putIns t t.ins.length ++ [u8OfI (IntL.toI i64T (t.outs.length : Int))] ++ ((t.outs.take k).map putOut).flatten
def putTx (t : Tx) : List UInt8 := putOuts t t.outs.length
theorem putIns_step {t : Tx} {k : Nat} {x : In} (h : t.ins[k]? = some x) : putIns t (k + 1) = putIns t k ++ x.tx ++ [u8OfI (IntL.toI i64T x.i)] := by
  unfold putIns
  rw [List.take_add_one, h]; simp [putIn]
theorem putOuts_step {t : Tx} {k : Nat} {x : Out} (h : t.outs[k]? = some x) : putOuts t (k + 1) = putOuts t k ++ numBytes (u64OfI (IntL.toI i64T x.v)) 6 ++ [u8OfI (IntL.toI i64T x.to)] := by
  unfold putOuts
  rw [List.take_add_one, h]; simp [putOut]
theorem fact_in {U N : Nat → Prop} {w : World} {x : In} {cs : List Value} (h : inT.rel U N w x cs) : x.tx.length = 32 := by
  obtain ⟨c1, c2, _, h1, _⟩ := h
  exact h1.1
theorem numBytes_len (n : UInt64) (s : Nat) : (numBytes n s).length = s := by simp [numBytes]
theorem mayTx_lens {t : Tx} (h : mayTx t = true) : t.ins.length ≤ 3 ∧ 0 < t.outs.length ∧ t.outs.length ≤ 3 := by
  unfold mayTx at h
  simp only [Bool.and_eq_true, decide_eq_true_eq] at h
  exact ⟨h.2.1, h.2.2.1, h.2.2.2.1⟩

theorem put_ok (t : Tx) : Tells P 45 [.val txT t] (.tup2 (.fresh 5 u8T (if mayTx t = true then putTx t else [])) (.val boolT (mayTx t))) := by
  refine fn_of_aw Try.func45 rfl rfl rfl (fun ext w hext => ?_)
  refine aw_seq ?_
  refine aw_region ?_
  refine aw_box rfl rfl rfl rfl rfl ?_
  refine aw_g (g_ml (.inr rfl) rfl) rfl rfl rfl ?_
  refine aw_g (g_mv (.inr rfl) rfl) rfl rfl rfl ?_
  refine aw_nil ?_
  refine aw_seq ?_
  refine aw_seq ?_
  refine aw_region ?_
  refine aw_g (g_load_b rfl rfl rfl (Lens.self _) ty_26) rfl rfl rfl ?_
  refine aw_g (g_call (mayTx_ok _) rfl fn_27 ⟨(arg_v rfl), trivial⟩ rfl) rfl rfl rfl ?_
  refine aw_g (g_not rfl rfl) rfl rfl rfl ?_
  refine aw_nil ?_
  refine aw_ifc (p := ¬ mayTx t = true) rfl (by simp) (fun ht11 => ?_) (fun ht11 => ?_)
  · skip
    refine aw_seq ?_
    refine aw_region ?_
    refine aw_g (g_ml (.inr rfl) rfl) rfl rfl rfl ?_
    refine aw_g (g_mv (.inr rfl) rfl) rfl rfl rfl ?_
    refine aw_nil ?_
    exact aw_ret2 rfl rfl (by rw [if_neg ht11]; exact ret_fresh_nil rfl) (ret_eq rfl (by simpa using ht11))
  · skip
    have hmay := Classical.not_not.1 ht11
    obtain ⟨hmi, hm0, hmo⟩ := mayTx_lens hmay
    refine aw_skip ?_
    refine aw_seq ?_
    refine aw_region ?_
    refine aw_g (g_fa_p rfl rfl fd_26_0 rfl) rfl rfl rfl ?_
    refine aw_g (g_load_b rfl rfl rfl L_Tx_ins ty_23) rfl rfl rfl ?_
    refine aw_g (g_len rfl rfl isl_23) rfl rfl rfl ?_
    refine aw_g (g_cv8 rfl (ui_5) (us_3) rfl) rfl rfl rfl ?_
    refine aw_bslice (T := u8T) (xs := [_]) rfl rfl rfl rfl sl_71 row_71 ⟨rfl, rfl, trivial⟩ rfl rfl ?_
    refine aw_g (g_mo (.inr rfl) rfl) rfl rfl rfl ?_
    refine aw_nil ?_
    refine aw_seq ?_
    refine aw_seq ?_
    refine aw_region ?_
    refine aw_g (g_fa_p rfl rfl fd_26_0 rfl) rfl rfl rfl ?_
    refine aw_g (g_load_b rfl rfl rfl L_Tx_ins ty_23) rfl rfl rfl ?_
    refine aw_g (g_len rfl rfl isl_23) rfl rfl rfl ?_
    refine aw_g (g_mv (.inl rfl) rfl) rfl rfl rfl ?_
    refine aw_nil ?_
    refine aw_block ?_
    refine aw_loopI (ι := Nat) 2 rfl (fun (k : Nat) => (((((Fr.none).set 1 (.ptr 0 0)).set 4 (.own 1)).set 18 (.val (sl inT) t.ins)).set 19 (.val i64T (t.ins.length : Int))).set 20 (.val i64T (k : Int))) (fun (k : Nat) => ((Hp.none).set 0 (.box 26 txT t)).set 1 (.row 5 u8T (putIns t k))) (fun (k : Nat) => k ≤ t.ins.length ∧ (putIns t k).length = 33 * k + 1) (fun (k : Nat) => t.ins.length - k) (0) (⟨Nat.zero_le _, by simp [putIns]⟩) (by (repeat refine Fr.le_set ?_ (by first | rfl | (simp; done))); exact Fr.le_none _) (by (repeat refine Hp.le_set ?_ rfl); exact Hp.le_none _) (by (repeat refine Fr.below_setB ?_ rfl); exact Fr.below_none _) (by (repeat refine Hp.below_set ?_ (by decide)); exact Hp.below_none _) ?_
    intro k hinv
    obtain ⟨hk, hpl⟩ := hinv
    have hinv := And.intro hk hpl
    refine aw_seq ?_
    refine aw_region ?_
    refine aw_g (g_lss rfl rfl rfl rfl) rfl rfl rfl ?_
    refine aw_nil ?_
    refine aw_seq ?_
    refine aw_ifc (p := k < t.ins.length) rfl (by first | rfl | (rw [decide_eq_decide]; simp only [IntL.toI, id_eq]; omega) | (simp [IntL.toI]; done) | (simp [IntL.toI]; omega)) (fun ht21 => ?_) (fun ht21 => ?_)
    · skip
      obtain ⟨x, hx⟩ : ∃ x, t.ins[k]? = some x := ⟨_, List.getElem?_eq_getElem ht21⟩
      refine aw_skip ?_
      refine aw_seq ?_
      refine aw_block ?_
      refine aw_seq ?_
      refine aw_region ?_
      refine aw_g (g_ia_n rfl rfl rfl sl_23 (by assumption)) rfl rfl rfl ?_
      refine aw_g (g_load_r rfl rfl ty_42) rfl rfl rfl ?_
      refine aw_alloc ze_42 rfl rfl rfl rfl ?_
      refine aw_store_b rfl rfl rfl rfl rfl (Lens.self _) ty_42 rfl ?_
      refine aw_nil ?_
      refine aw_factb (n := 2) rfl fact_in (fun hx32 => ?_)
      refine aw_drawx [some 1, some 1, some 1, none, some 2, some 2, some 2, some 2, none, some 1] mixed (by decide +kernel) ?_
      refine XK.g (g_mo (.inl rfl) rfl) rfl rfl rfl ?_
      refine XK.g (g_fa_p rfl rfl fd_42_0 rfl) rfl rfl rfl ?_
      refine XK.g (g_slice_b rfl rfl ar_40 rfl rfl) rfl rfl rfl ?_
      refine XK.e (fun fr' hfr kk H => by exact aw_append_v rfl rfl rfl rfl ((hfr 24 (by decide +kernel)).trans rfl) rfl ((hfr 26 (by decide +kernel)).trans rfl) rfl L_In_tx row_71 (by show (_ + x.tx.length) * 1 ≤ _ ∧ _ + x.tx.length ≤ _; omega) (aw_nil H)) ?_
      refine XK.g2 (g_fa_p rfl rfl fd_42_1 rfl) (g_fa_p rfl rfl fd_42_1 rfl) rfl rfl rfl ?_
      refine XK.g2 (g_load_b rfl rfl rfl L_In_i ty_3) (g_load_b rfl rfl rfl L_In_i ty_3) rfl rfl rfl ?_
      refine XK.g2 (g_cv8 rfl (ui_5) (us_3) rfl) (g_cv8 rfl (ui_5) (us_3) rfl) rfl rfl rfl ?_
      refine XK.g2 (g_bslice (T := u8T) (xs := [_]) rfl sl_71 row_71 ⟨rfl, rfl, trivial⟩ rfl rfl) (g_bslice (T := u8T) (xs := [_]) rfl sl_71 row_71 ⟨rfl, rfl, trivial⟩ rfl rfl) rfl rfl rfl ?_
      refine XK.e (fun fr' hfr kk H => by exact aw_append rfl rfl rfl rfl ((hfr 27 (by decide +kernel)).trans rfl) rfl ((hfr 31 (by decide +kernel)).trans rfl) row_71 (by simp only [List.length_append, List.length_cons, List.length_nil, hx32]; omega) (aw_nil H)) ?_
      refine XK.g (g_mo (.inr rfl) rfl) rfl rfl rfl ?_
      refine XK.nil' ?_
      refine aw_inBlock ?_
      refine aw_region ?_
      refine aw_g (by first | exact g_add rfl rfl rfl (wrap_eq (by first | omega | (simp; omega))) | exact g_add rfl rfl rfl rfl) rfl rfl rfl ?_
      refine aw_g (g_mv (.inl rfl) rfl) rfl rfl rfl ?_
      refine aw_nil ?_
      refine aw_ren 4 1 5 rfl rfl rfl rfl rfl rfl ?_
      refine aw_rerow (n := 1) rfl (putIns_step hx).symm ?_
      exact aw_next (k + 1) (⟨by omega, by rw [putIns_step hx]; simp only [List.length_append, List.length_cons, List.length_nil, hx32]; omega⟩) (by omega) rfl (by (repeat refine Fr.le_set ?_ (by first | rfl | (simp; done))); exact Fr.le_none _) (by (repeat refine Hp.le_set ?_ rfl); exact Hp.le_none _) (by (repeat refine Fr.below_setB ?_ rfl); exact Fr.below_none _) (by (repeat refine Hp.below_set ?_ (by decide)); exact Hp.below_none _)
    · skip
      obtain rfl : k = t.ins.length := (by omega)
      obtain ⟨hli, _⟩ := hinv
      refine aw_exit rfl ?_
      refine aw_seq ?_
      refine aw_region ?_
      refine aw_g (g_mo (.inl rfl) rfl) rfl rfl rfl ?_
      refine aw_g (g_fa_p rfl rfl fd_26_1 rfl) rfl rfl rfl ?_
      refine aw_g (g_load_b rfl rfl rfl L_Tx_outs ty_24) rfl rfl rfl ?_
      refine aw_g (g_len rfl rfl isl_24) rfl rfl rfl ?_
      refine aw_g (g_cv8 rfl (ui_5) (us_3) rfl) rfl rfl rfl ?_
      refine aw_g (g_bslice (T := u8T) (xs := [_]) rfl sl_71 row_71 ⟨rfl, rfl, trivial⟩ rfl rfl) rfl rfl rfl ?_
      refine aw_append rfl rfl rfl rfl rfl rfl rfl row_71 (by simp only [List.length_append, List.length_cons, List.length_nil]; omega) ?_
      refine aw_g (g_mo (.inr rfl) rfl) rfl rfl rfl ?_
      refine aw_nil ?_
      refine aw_seq ?_
      refine aw_seq ?_
      refine aw_region ?_
      refine aw_g (g_fa_p rfl rfl fd_26_1 rfl) rfl rfl rfl ?_
      refine aw_g (g_load_b rfl rfl rfl L_Tx_outs ty_24) rfl rfl rfl ?_
      refine aw_g (g_len rfl rfl isl_24) rfl rfl rfl ?_
      refine aw_g (g_mv (.inl rfl) rfl) rfl rfl rfl ?_
      refine aw_nil ?_
      refine aw_block ?_
      refine aw_ren 2 1 3 rfl rfl rfl rfl rfl rfl ?_
      refine aw_rerow (y := putOuts t 0) (n := 1) rfl (by simp [putOuts]) ?_
      refine aw_loopI (ι := Nat) 2 rfl (fun (k : Nat) => (((((Fr.none).set 1 (.ptr 0 0)).set 4 (.own 1)).set 42 (.val (sl outT) t.outs)).set 43 (.val i64T (t.outs.length : Int))).set 44 (.val i64T (k : Int))) (fun (k : Nat) => ((Hp.none).set 0 (.box 26 txT t)).set 1 (.row 5 u8T (putOuts t k))) (fun (k : Nat) => k ≤ t.outs.length ∧ (putOuts t k).length = 7 * k + 2 + 33 * t.ins.length) (fun (k : Nat) => t.outs.length - k) (0) (⟨Nat.zero_le _, by simp [putOuts, hpl]; omega⟩) (by (repeat refine Fr.le_set ?_ (by first | rfl | (simp; done))); exact Fr.le_none _) (by (repeat refine Hp.le_set ?_ rfl); exact Hp.le_none _) (by (repeat refine Fr.below_setB ?_ rfl); exact Fr.below_none _) (by (repeat refine Hp.below_set ?_ (by decide)); exact Hp.below_none _) ?_
      intro k hinv
      refine aw_seq ?_
      refine aw_region ?_
      refine aw_g (g_lss rfl rfl rfl rfl) rfl rfl rfl ?_
      refine aw_nil ?_
      refine aw_seq ?_
      refine aw_ifc (p := k < t.outs.length) rfl (by first | rfl | (rw [decide_eq_decide]; simp only [IntL.toI, id_eq]; omega) | (simp [IntL.toI]; done) | (simp [IntL.toI]; omega)) (fun ht45 => ?_) (fun ht45 => ?_)
      · skip
        obtain ⟨x, hx⟩ : ∃ x, t.outs[k]? = some x := ⟨_, List.getElem?_eq_getElem ht45⟩
        refine aw_skip ?_
        refine aw_seq ?_
        refine aw_block ?_
        refine aw_seq ?_
        refine aw_region ?_
        refine aw_g (g_ia_n rfl rfl rfl sl_24 (by assumption)) rfl rfl rfl ?_
        refine aw_g (g_load_r rfl rfl ty_48) rfl rfl rfl ?_
        refine aw_alloc ze_48 rfl rfl rfl rfl ?_
        refine aw_store_b rfl rfl rfl rfl rfl (Lens.self _) ty_48 rfl ?_
        refine aw_nil ?_
        refine aw_drawx [some 1, some 1, some 1, some 1, some 1, none, some 2, some 2, some 2, some 2, none, some 1] mixed (by decide +kernel) ?_
        refine XK.g (g_mo (.inl rfl) rfl) rfl rfl rfl ?_
        refine XK.g (g_fa_p rfl rfl fd_48_0 rfl) rfl rfl rfl ?_
        refine XK.g (g_load_b rfl rfl rfl L_Out_v ty_3) rfl rfl rfl ?_
        refine XK.g (g_cv64 rfl (ui_93) (us_3) rfl) rfl rfl rfl ?_
        refine XK.g (g_call (tells_pub (binPut_ok _ 6 (by decide))) rfl fn_65 ⟨(arg_v rfl), (arg_v rfl), trivial⟩ rfl) rfl rfl rfl ?_
        refine XK.e (fun fr' hfr kk H => by exact aw_append rfl rfl rfl rfl ((hfr 48 (by decide +kernel)).trans rfl) rfl ((hfr 52 (by decide +kernel)).trans rfl) row_71 (by simp only [List.length_append, List.length_cons, List.length_nil, numBytes_len]; omega) (aw_nil H)) ?_
        refine XK.g2 (g_fa_p rfl rfl fd_48_1 rfl) (g_fa_p rfl rfl fd_48_1 rfl) rfl rfl rfl ?_
        refine XK.g2 (g_load_b rfl rfl rfl L_Out_to ty_3) (g_load_b rfl rfl rfl L_Out_to ty_3) rfl rfl rfl ?_
        refine XK.g2 (g_cv8 rfl (ui_5) (us_3) rfl) (g_cv8 rfl (ui_5) (us_3) rfl) rfl rfl rfl ?_
        refine XK.g2 (g_bslice (T := u8T) (xs := [_]) rfl sl_71 row_71 ⟨rfl, rfl, trivial⟩ rfl rfl) (g_bslice (T := u8T) (xs := [_]) rfl sl_71 row_71 ⟨rfl, rfl, trivial⟩ rfl rfl) rfl rfl rfl ?_
        refine XK.e (fun fr' hfr kk H => by exact aw_append rfl rfl rfl rfl ((hfr 53 (by decide +kernel)).trans rfl) rfl ((hfr 57 (by decide +kernel)).trans rfl) row_71 (by simp only [List.length_append, List.length_cons, List.length_nil, numBytes_len]; omega) (aw_nil H)) ?_
        refine XK.g (g_mo (.inr rfl) rfl) rfl rfl rfl ?_
        refine XK.nil' ?_
        refine aw_inBlock ?_
        refine aw_region ?_
        refine aw_g (by first | exact g_add rfl rfl rfl (wrap_eq (by first | omega | (simp; omega))) | exact g_add rfl rfl rfl rfl) rfl rfl rfl ?_
        refine aw_g (g_mv (.inl rfl) rfl) rfl rfl rfl ?_
        refine aw_nil ?_
        refine aw_ren 4 1 5 rfl rfl rfl rfl rfl rfl ?_
        refine aw_rerow (n := 1) rfl (putOuts_step hx).symm ?_
        exact aw_next (k + 1) (⟨by omega, by rw [putOuts_step hx]; simp only [List.length_append, List.length_cons, List.length_nil, numBytes_len]; omega⟩) (by omega) rfl (by (repeat refine Fr.le_set ?_ (by first | rfl | (simp; done))); exact Fr.le_none _) (by (repeat refine Hp.le_set ?_ rfl); exact Hp.le_none _) (by (repeat refine Fr.below_setB ?_ rfl); exact Fr.below_none _) (by (repeat refine Hp.below_set ?_ (by decide)); exact Hp.below_none _)
      · skip
        refine aw_exit rfl ?_
        refine aw_seq ?_
        refine aw_region ?_
        refine aw_g (g_mo (.inl rfl) rfl) rfl rfl rfl ?_
        refine aw_g (g_mo (.inr rfl) rfl) rfl rfl rfl ?_
        refine aw_g (g_mv (.inr rfl) rfl) rfl rfl rfl ?_
        refine aw_nil ?_
        exact aw_ret2 rfl rfl (ret_fresh_eq rfl rfl (by rw [if_pos hmay, show k = t.outs.length by omega]; rfl)) (ret_eq rfl hmay.symm)

end Go.Proofs.Ytmfgemnmelbflaa
