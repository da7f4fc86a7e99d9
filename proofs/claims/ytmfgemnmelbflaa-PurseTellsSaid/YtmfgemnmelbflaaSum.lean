/- Layers 1 and 9: what bytes are summed to . -/
import Derived.Test.YtmfgemnmelbflaaSha
set_option maxRecDepth 20000
namespace Go.Proofs.Ytmfgemnmelbflaa
set_option linter.unusedVariables false
set_option linter.unusedSimpArgs false
open Go.Ab Go.RowKit

theorem padOf_len (b : List UInt8) : (padOf b).length = 64 * ((b.length + padZ b.length + 9) / 64) := by
  have h : (padOf b).length = b.length + padZ b.length + 9 := by
    unfold padOf
    rw [List.length_append, padOf_pre]
    unfold numBytes
    simp; omega
  rw [h]; unfold padZ; omega
def shaH : List UInt32 := [1779033703, 3144134277, 1013904242, 2773480762, 1359893119, 2600822924, 528734635, 1541459225]
/-- The words behind some rows of 64 bytes. -/
def shaN (p : List UInt8) (n : Nat) : List UInt32 := (List.range n).foldl (fun s i => addOf s ((p.take (64 * i + 64)).drop (64 * i))) shaH
def shaWords (b : List UInt8) : List UInt32 := shaN (padOf b) ((padOf b).length / 64)
def shaByte (v : List UInt32) (i : Nat) : UInt8 := u8OfI (IntL.toI u32T (shr32 (v.getD (i / 4) default) (24 - 8 * (i % 4))))
/-- What bytes are summed to. -/
def shaSum (b : List UInt8) : Ab.Id := (List.range 32).map (shaByte (shaWords b))
def shaOut (v : List UInt32) (k : Nat) : Ab.Id := (List.range k).foldl (fun l i => l.set i (shaByte v i)) zId
theorem fold_set_get {α : Type} (f : Nat → α) (l : List α) : ∀ k j, ((List.range k).foldl (fun l i => l.set i (f i)) l)[j]? = if j < k ∧ j < l.length then some (f j) else l[j]?
  | 0, j => by simp
  | k + 1, j => by
    rw [List.range_succ, List.foldl_append]
    show (List.set _ k (f k))[j]? = _
    have hl : ∀ k, ((List.range k).foldl (fun l i => l.set i (f i)) l).length = l.length := fun k => by
      induction k with
      | zero => rfl
      | succ k ih => rw [List.range_succ, List.foldl_append]; simp only [List.foldl_cons, List.foldl_nil, List.length_set]; exact ih
    rw [List.getElem?_set, fold_set_get f l k j, hl]
    by_cases c : k = j
    · subst c
      by_cases d : k < l.length
      · simp [d]
      · simp [d]
    · rw [if_neg c]
      by_cases d : j < k
      · have : j < k + 1 := by omega
        simp [d, this]
      · have : ¬ j < k + 1 := by omega
        simp [d, this]
theorem shaOut_all (v : List UInt32) : shaOut v 32 = (List.range 32).map (shaByte v) := by
  apply List.ext_getElem?
  intro j
  unfold shaOut
  rw [fold_set_get, List.getElem?_map]
  have hz : zId.length = 32 := rfl
  rw [hz]
  by_cases c : j < 32
  · rw [if_pos ⟨c, c⟩, List.getElem?_range c]; rfl
  · rw [if_neg (fun h => c h.1), List.getElem?_eq_none (by first | (rw [hz]; omega) | (rw [List.length_range]; omega)), List.getElem?_eq_none (by first | (rw [hz]; omega) | (rw [List.length_range]; omega))]; rfl
theorem shaOut_succ {v : List UInt32} {k : Nat} {x : UInt8} (h : x = shaByte v k) : (shaOut v k).set k x = shaOut v (k + 1) := by
  subst h
  unfold shaOut
  rw [List.range_succ, List.foldl_append]; rfl
theorem shaN_succ {p : List UInt8} {k : Nat} : addOf (shaN p k) ((p.take (64 * k + 64)).drop (64 * k)) = shaN p (k + 1) := by
  unfold shaN
  rw [List.range_succ, List.foldl_append]; rfl
theorem sumN_len {v s : List UInt32} : ∀ k, (sumN v s k).length = s.length
  | 0 => rfl
  | k + 1 => by
    unfold sumN
    rw [List.range_succ, List.foldl_append]
    simp only [List.foldl_cons, List.foldl_nil, List.length_set]
    exact sumN_len k
theorem shaN_len (p : List UInt8) : ∀ k, (shaN p k).length = 8
  | 0 => rfl
  | k + 1 => by rw [← shaN_succ]; unfold addOf; rw [sumN_len]; exact shaN_len p k

theorem sum_ok (b : List UInt8) (hb : b.length ≤ 70368744177664) : Tells P 66 [.val (sl u8T) b] (.val idT (shaSum b)) := by
  obtain ⟨m, hm⟩ : ∃ m, m = (b.length + padZ b.length + 9) / 64 := ⟨_, rfl⟩
  have hz2 : padZ b.length < 64 := by unfold padZ; omega
  have hpl : (padOf b).length = 64 * m := by rw [padOf_len, hm]
  have hmb : m ≤ 2000000000000 := by omega
  refine fn_of_aw Try.func66 rfl rfl rfl (fun ext w hext => ?_)
  refine aw_fact (d := 0) rfl fact_sl (fun hsl0 => ?_)
  refine aw_seq ?_
  refine aw_region ?_
  refine aw_alloc ze_40 rfl rfl rfl rfl ?_
  refine aw_nil ?_
  refine aw_seq ?_
  refine aw_region ?_
  refine aw_g (g_buildA (T := u32T) (xs := [_, _, _, _, _, _, _, _]) rfl ar_106 ze_106 ⟨rfl, rfl, rfl, rfl, rfl, rfl, rfl, rfl, rfl, rfl, rfl, rfl, rfl, rfl, rfl, rfl, trivial⟩ rfl) rfl rfl rfl ?_
  refine aw_box rfl rfl rfl rfl rfl ?_
  refine aw_alloc_p zp_103 rfl rfl rfl rfl rfl rfl ?_
  refine aw_store_p rfl rfl rfl rfl rfl rfl rfl rfl rfl rfl ty_103 ?_
  refine aw_nil ?_
  refine aw_seq ?_
  refine aw_seq ?_
  refine aw_region ?_
  refine aw_g (g_mv (.inl rfl) rfl) rfl rfl rfl ?_
  refine aw_g (g_call (tells_pub (pad_ok b hb)) rfl fn_77 ⟨(arg_v rfl), trivial⟩ rfl) rfl rfl rfl ?_
  refine aw_inline rfl rfl rfl rfl Try.func76 fn_76 rfl rfl (fun ia2 iok2 => ?_)
  refine aw_seq ?_
  refine aw_region ?_
  refine aw_box rfl rfl rfl rfl rfl ?_
  refine aw_box rfl rfl rfl rfl rfl ?_
  refine aw_g (g_ml (.inr rfl) rfl) rfl rfl rfl ?_
  refine aw_nil ?_
  refine aw_seq ?_
  refine aw_seq ?_
  refine aw_region ?_
  refine aw_g (g_load_b rfl rfl rfl (Lens.self _) ty_3) rfl rfl rfl ?_
  refine aw_g (g_lss rfl rfl rfl rfl) rfl rfl rfl ?_
  refine aw_nil ?_
  refine aw_if_f rfl (by decide) ?_
  refine aw_skip ?_
  refine aw_seq ?_
  refine aw_region ?_
  refine aw_g (g_mkf (caps := [_, _]) rfl rfl) rfl rfl rfl ?_
  refine aw_g (g_mc (.inr rfl) rfl) rfl rfl rfl ?_
  refine aw_nil ?_
  refine aw_back1 rfl ?_
  refine aw_nil ?_
  refine aw_block ?_
  refine aw_range rfl rfl rfl Try.func94 fn_94 rfl rfl (by intro n hn; simp only [List.mem_cons, List.not_mem_nil, or_false] at hn; rcases hn with rfl | rfl <;> rfl) (fun fid3 ca3 lN3 DN3 cok3 rc3 hrc3 => ?_)
  refine aw_seq ?_
  refine aw_region ?_
  refine aw_g (g_mv (.inr rfl) rfl) rfl rfl rfl ?_
  refine aw_nil ?_
  refine aw_block ?_
  refine aw_loopI (ι := Nat) 7 rfl (fun (k : Nat) => ((((Fr.none).set 0 (.lit (.func (.yield lN3) #[] #[]))).set 1 (.ptr 3 0)).set 2 (.ptr 4 0)).set 4 (.val i64T ((64 * k : Nat) : Int))) (fun (k : Nat) => (((((((Hp.none).set 0 (.box 40 idT zId)).set 1 (.box 106 (arrT 8 (by decide) u32T) (shaN (padOf b) k))).set 2 (.parts 103 [.ptr 1 0])).set 3 (.box 71 (sl u8T) (padOf b))).set 4 (.box 3 i64T 64)).set 5 (.objAt DN3 (.deferred (some [])))).set 6 (.objAt lN3 (rc3 .ready none))) (fun (k : Nat) => k ≤ m) (fun (k : Nat) => m - k) (0) (Nat.zero_le _) (by (repeat refine Fr.le_set ?_ (by first | rfl | (simp; done))); exact Fr.le_none _) (by (repeat refine Hp.le_set ?_ rfl); exact Hp.le_none _) (by (repeat refine Fr.below_setB ?_ rfl); exact Fr.below_none _) (by (repeat refine Hp.below_set ?_ (by decide)); exact Hp.below_none _) ?_
  intro k hinv
  refine aw_seq ?_
  refine aw_seq ?_
  refine aw_region ?_
  refine aw_g (g_mv (.inl rfl) rfl) rfl rfl rfl ?_
  refine aw_g (g_load_b rfl rfl rfl (Lens.self _) ty_71) rfl rfl rfl ?_
  refine aw_g (g_len rfl rfl isl_71) rfl rfl rfl ?_
  refine aw_g (g_lss rfl rfl rfl rfl) rfl rfl rfl ?_
  refine aw_nil ?_
  refine aw_ifc (p := 64 * k < (padOf b).length) rfl (by first | rfl | (rw [decide_eq_decide]; simp only [IntL.toI, id_eq]; omega) | (simp [IntL.toI]; done) | (simp [IntL.toI]; omega)) (fun ht9 => ?_) (fun ht9 => ?_)
  · skip
    refine aw_skip ?_
    refine aw_seq ?_
    refine aw_block ?_
    refine aw_seq ?_
    refine aw_draw mixed (by decide +kernel) ?_
    refine GK.g (g_load_b rfl rfl rfl (Lens.self _) ty_3) rfl rfl rfl ?_
    refine GK.g (g_load_b rfl rfl rfl (Lens.self _) ty_71) rfl rfl rfl ?_
    refine GK.g (g_mv (.inl rfl) rfl) rfl rfl rfl ?_
    refine GK.g (g_sl_l rfl rfl rfl sl_71 (by first | assumption | omega | (simp; omega))) rfl rfl rfl ?_
    refine GK.g (g_len rfl rfl isl_71) rfl rfl rfl ?_
    refine GK.g (g_min rfl rfl rfl) rfl rfl rfl ?_
    refine GK.g (g_mv (.inr rfl) rfl) rfl rfl rfl ?_
    refine GK.nil ?_
    refine aw_reval (d := 5) (y := (64 : Int)) rfl (by simp; omega) ?_
    refine aw_seq ?_
    refine aw_region ?_
    refine aw_g (g_ml (.inl rfl) rfl) rfl rfl rfl ?_
    refine aw_g (g_load_b rfl rfl rfl (Lens.self _) ty_71) rfl rfl rfl ?_
    refine aw_g (g_mv (.inl rfl) rfl) rfl rfl rfl ?_
    refine aw_g (g_mv (.inl rfl) rfl) rfl rfl rfl ?_
    refine aw_g (g_mv (.inl rfl) rfl) rfl rfl rfl ?_
    refine aw_g (by first | exact g_add rfl rfl rfl (wrap_eq (by first | omega | (simp; omega))) | exact g_add rfl rfl rfl rfl) rfl rfl rfl ?_
    refine aw_g (g_mv (.inl rfl) rfl) rfl rfl rfl ?_
    refine aw_g (g_mv (.inl rfl) rfl) rfl rfl rfl ?_
    refine aw_g (by first | exact g_add rfl rfl rfl (wrap_eq (by first | omega | (simp; omega))) | exact g_add rfl rfl rfl rfl) rfl rfl rfl ?_
    refine aw_g (g_sl_lhm rfl rfl rfl rfl rfl sl_71 (by simp; omega)) rfl rfl rfl ?_
    refine aw_reval (d := 28) (y := ((padOf b).take (64 * k + 64)).drop (64 * k)) rfl (by congr 1) ?_
    refine aw_yield (nL := 6) rfl rfl rfl rfl rfl hrc3 rfl rfl rfl (fun ya4 yok4 => ?_)
    refine aw_region ?_
    refine aw_g (g_mv (.inr rfl) rfl) rfl rfl rfl ?_
    refine aw_nil ?_
    refine aw_begin (nL := 6) hrc3 rfl ?_
    refine aw_block ?_
    refine aw_region ?_
    refine aw_g (by first | exact g_load_p rfl rfl rfl rfl rfl ty_103 | exact g_load_pv rfl rfl rfl rfl ty_103) rfl rfl rfl ?_
    refine aw_g (g_mv (.inl rfl) rfl) rfl rfl rfl ?_
    refine aw_callu (add_ok (shaN (padOf b) k) (((padOf b).take (64 * k + 64)).drop (64 * k)) (by rw [List.length_drop, List.length_take]; omega) (shaN_len _ k)) rfl fn_78 rfl trivial trivial rfl ⟨(by first | exact argm_own rfl | exact argm_ptr rfl | exact argm_same rfl | exact argm_bsl rfl | exact argm_lit rfl | exact argm_clo rfl | exact argm_row rfl rfl (by decide)), (by first | exact argm_own rfl | exact argm_ptr rfl | exact argm_same rfl | exact argm_bsl rfl | exact argm_lit rfl | exact argm_clo rfl | exact argm_row rfl rfl (by decide)), trivial⟩ rfl rfl rfl ?_
    refine aw_nil ?_
    refine aw_inBlock ?_
    refine aw_round_end (nL := 6) hrc3 rfl ?_
    refine aw_g (g_not rfl rfl) rfl rfl rfl ?_
    refine aw_nil ?_
    refine aw_if_f rfl (rfl) ?_
    refine aw_skip ?_
    refine aw_inBlock ?_
    refine aw_region ?_
    refine aw_g (g_mv (.inl rfl) rfl) rfl rfl rfl ?_
    refine aw_g (g_load_b rfl rfl rfl (Lens.self _) ty_3) rfl rfl rfl ?_
    refine aw_g (by first | exact g_add rfl rfl rfl (wrap_eq (by first | omega | (simp; omega))) | exact g_add rfl rfl rfl rfl) rfl rfl rfl ?_
    refine aw_g (g_mv (.inr rfl) rfl) rfl rfl rfl ?_
    refine aw_nil ?_
    refine aw_reval (d := 4) (y := ((64 * (k + 1) : Nat) : Int)) rfl (by omega) ?_
    refine aw_reheap (n := 1) (y := shaN (padOf b) (k + 1)) rfl shaN_succ ?_
    exact aw_next (k + 1) (by omega) (by omega) rfl (by (repeat refine Fr.le_set ?_ (by first | rfl | (simp; done))); exact Fr.le_none _) (by (repeat refine Hp.le_set ?_ rfl); exact Hp.le_none _) (by (repeat refine Fr.below_setB ?_ rfl); exact Fr.below_none _) (by (repeat refine Hp.below_set ?_ (by decide)); exact Hp.below_none _)
  · skip
    obtain rfl : m = k := (by omega)
    refine aw_exit rfl ?_
    refine aw_iter_fall (nL := 6) rfl hrc3 rfl (by decide) ?_
    refine aw_inBlock ?_
    refine aw_seq ?_
    refine aw_region ?_
    refine aw_alloc ze_40 rfl rfl rfl rfl ?_
    refine aw_nil ?_
    refine aw_seq ?_
    refine aw_seq ?_
    refine aw_region ?_
    refine aw_g (g_mv (.inl rfl) rfl) rfl rfl rfl ?_
    refine aw_nil ?_
    refine aw_block ?_
    refine aw_loopI (ι := Nat) 8 rfl (fun (j : Nat) => ((((Fr.none).set 2 (.ptr 0 0)).set 3 (.ptr 2 0)).set 5 (.ptr 7 0)).set 16 (.val i64T (j : Int))) (fun (j : Nat) => (((((Hp.none).set 0 (.box 40 idT zId)).set 1 (.box 106 (arrT 8 (by decide) u32T) (shaN (padOf b) m))).set 2 (.parts 103 [.ptr 1 0])).set 5 (.objAt DN3 (.deferred (some [])))).set 7 (.box 40 idT (shaOut (shaN (padOf b) m) j))) (fun (j : Nat) => j ≤ 32) (fun (j : Nat) => 32 - j) (0) (Nat.zero_le _) (by (repeat refine Fr.le_set ?_ (by first | rfl | (simp; done))); exact Fr.le_none _) (by (repeat refine Hp.le_set ?_ rfl); exact Hp.le_none _) (by (repeat refine Fr.below_setB ?_ rfl); exact Fr.below_none _) (by (repeat refine Hp.below_set ?_ (by decide)); exact Hp.below_none _) ?_
    intro j hinv
    refine aw_seq ?_
    refine aw_region ?_
    refine aw_g (g_lss rfl rfl rfl rfl) rfl rfl rfl ?_
    refine aw_nil ?_
    refine aw_seq ?_
    refine aw_ifc (p := j < 32) rfl (by first | rfl | (rw [decide_eq_decide]; simp only [IntL.toI, id_eq]; omega) | (simp [IntL.toI]; done) | (simp [IntL.toI]; omega)) (fun ht17 => ?_) (fun ht17 => ?_)
    · skip
      refine aw_skip ?_
      refine aw_seq ?_
      refine aw_block ?_
      refine aw_seq ?_
      refine aw_region ?_
      refine aw_g (g_mv (.inl rfl) rfl) rfl rfl rfl ?_
      refine aw_g (g_mv (.inr rfl) rfl) rfl rfl rfl ?_
      refine aw_nil ?_
      refine aw_region ?_
      refine aw_g (g_mv (.inl rfl) rfl) rfl rfl rfl ?_
      refine aw_g (by first | exact g_load_p rfl rfl rfl rfl rfl ty_103 | exact g_load_pv rfl rfl rfl rfl ty_103) rfl rfl rfl ?_
      refine aw_g (g_mv (.inl rfl) rfl) rfl rfl rfl ?_
      refine aw_g (g_quo rfl rfl rfl (by first | omega | assumption) (by first | decide | omega) rfl) rfl rfl rfl ?_
      refine aw_g (g_nc rfl rfl) rfl rfl rfl ?_
      refine aw_g (g_ia_b0 (i := j / 4) rfl rfl rfl (by first | omega | rfl) ar_106 (by omega)) rfl rfl rfl ?_
      refine aw_g (g_load_b rfl rfl rfl (Lens.elem (i := j / 4) (by omega) u32T) ty_104) rfl rfl rfl ?_
      refine aw_g (g_mv (.inl rfl) rfl) rfl rfl rfl ?_
      refine aw_g (g_rem rfl rfl rfl (by first | omega | assumption) (by first | decide | omega) rfl) rfl rfl rfl ?_
      refine aw_g (by first | exact g_mul rfl rfl rfl (wrap_eq (by first | omega | (simp; omega))) | exact g_mul rfl rfl rfl rfl) rfl rfl rfl ?_
      refine aw_g (by first | exact g_sub rfl rfl rfl (wrap_eq (by first | omega | (simp; omega))) | exact g_sub rfl rfl rfl rfl) rfl rfl rfl ?_
      refine aw_g (g_shr32 rfl rfl rfl (by first | decide | (simp [IntL.toI]; done) | (simp [IntL.toI]; omega)) rfl) rfl rfl rfl ?_
      refine aw_g (g_cv8 rfl (ui_5) (us_104) rfl) rfl rfl rfl ?_
      refine aw_g (g_ia_b0 (i := j) rfl rfl rfl (by first | omega | rfl) ar_40 (by omega)) rfl rfl rfl ?_
      refine aw_store_b rfl rfl rfl rfl rfl (Lens.elem (i := j) (by omega) u8T) ty_5 rfl ?_
      refine aw_nil ?_
      refine aw_inBlock ?_
      refine aw_region ?_
      refine aw_g (by first | exact g_add rfl rfl rfl (wrap_eq (by first | omega | (simp; omega))) | exact g_add rfl rfl rfl rfl) rfl rfl rfl ?_
      refine aw_g (g_mv (.inl rfl) rfl) rfl rfl rfl ?_
      refine aw_nil ?_
      refine aw_reheap (n := 7) (y := shaOut (shaN (padOf b) m) (j + 1)) rfl (shaOut_succ (by unfold shaByte; congr 3; simp only [IntL.toI, id_eq]; omega)) ?_
      exact aw_next (j + 1) (by omega) (by omega) rfl (by (repeat refine Fr.le_set ?_ (by first | rfl | (simp; done))); exact Fr.le_none _) (by (repeat refine Hp.le_set ?_ rfl); exact Hp.le_none _) (by (repeat refine Fr.below_setB ?_ rfl); exact Fr.below_none _) (by (repeat refine Hp.below_set ?_ (by decide)); exact Hp.below_none _)
    · skip
      obtain rfl : j = 32 := (by omega)
      refine aw_exit rfl ?_
      refine aw_seq ?_
      refine aw_region ?_
      refine aw_g (g_load_b rfl rfl rfl (Lens.self _) ty_40) rfl rfl rfl ?_
      refine aw_store_b rfl rfl rfl rfl rfl (Lens.self _) ty_40 rfl ?_
      refine aw_nil ?_
      refine aw_of_ar (ar_unmark (nD := 5) rfl rfl rfl ?_)
      exact ar_retc1 rfl rfl rfl rfl ty_40 (by rw [shaOut_all]; unfold shaSum shaWords; rw [hpl, Nat.mul_div_cancel_left m (by decide)])

/-- A transaction's sum. -/
def idOf (t : Tx) : Ab.Id := if mayTx t = true then shaSum ([6] ++ putTx t) else zId
theorem relAll_mem {α : Type} {T : GoT α} {U N : Nat → Prop} {w : World} : ∀ {l : List α} {cs : List Value}, relAll T U N w l cs → ∀ x ∈ l, ∃ c, T.rel U N w x c
  | [], _, _, x, hx => by cases hx
  | y :: l, _, ⟨c1, c2, _, h1, h2⟩, x, hx => by
    rcases List.mem_cons.1 hx with e | e
    · exact ⟨c1, e ▸ h1⟩
    · exact relAll_mem h2 x e
theorem fact_tx {t : Tx} {ρ : Nat → Value} {B : Nat → Prop} {U N : Nat → Prop} {w : World} {v : Value} (h : (AV.val txT t).rel ρ B U N w v) : ∀ x ∈ t.ins, x.tx.length = 32 := fun x hx => by
  obtain ⟨cs, ⟨c1, c2, _, ⟨ad, cap, _, _, _, h3⟩, _⟩, _⟩ := h
  obtain ⟨_, ds, _, _, hr, _⟩ := h3 (List.ne_nil_of_mem hx)
  obtain ⟨c, hc⟩ := relAll_mem hr x hx
  exact fact_in hc
theorem flat_len {α β : Type} {f : α → List β} {n : Nat} : ∀ {l : List α}, (∀ x ∈ l, (f x).length = n) → (l.map f).flatten.length = l.length * n
  | [], _ => by simp
  | x :: l, h => by
    rw [List.map_cons, List.flatten_cons, List.length_append, h x (by simp), flat_len (fun y hy => h y (by simp [hy])), List.length_cons, Nat.add_mul]; omega
theorem putTx_len {t : Tx} (h : mayTx t = true) (h32 : ∀ x ∈ t.ins, x.tx.length = 32) : (putTx t).length ≤ 200 := by
  obtain ⟨h1, _, h2⟩ := mayTx_lens h
  unfold putTx putOuts putIns
  have e1 := flat_len (f := putIn) (n := 33) (l := t.ins.take t.ins.length) (fun x hx => by
    rw [List.take_length] at hx
    unfold putIn
    rw [List.length_append, h32 x hx]; rfl)
  have e2 := flat_len (f := putOut) (n := 7) (l := t.outs.take t.outs.length) (fun x hx => by
    unfold putOut
    rw [List.length_append, numBytes_len]; rfl)
  rw [List.take_length] at e1 e2
  simp only [List.length_append, List.length_cons, List.length_nil, List.take_length, e1, e2]
  omega

theorem of_ok (ls : List (List UInt8)) (hl : ls.flatten.length ≤ 70368744177664) : Tells P 46 [.val (bsl (sl u8T)) ls] (.val idT (shaSum ls.flatten)) := by
  refine fn_of_aw Try.func46 rfl rfl rfl (fun ext w hext => ?_)
  refine aw_fact (d := 0) rfl fact_sl (fun hsl0 => ?_)
  refine aw_seq ?_
  refine aw_region ?_
  refine aw_alloc ze_40 rfl rfl rfl rfl ?_
  refine aw_nil ?_
  refine aw_seq ?_
  refine aw_region ?_
  refine aw_g (g_mv (.inl rfl) rfl) rfl rfl rfl ?_
  refine aw_g (g_call (tells_pub (concat_ok ls (by omega))) rfl fn_67 ⟨(arg_v rfl), trivial⟩ rfl) rfl rfl rfl ?_
  refine aw_g (g_call (sum_ok ls.flatten hl) rfl fn_66 ⟨(arg_v rfl), trivial⟩ rfl) rfl rfl rfl ?_
  refine aw_store_b rfl rfl rfl rfl rfl (Lens.self _) ty_40 rfl ?_
  refine aw_nil ?_
  exact aw_retc1 rfl rfl rfl rfl ty_40 (rfl)

theorem id_ok (t : Tx) : Tells P 24 [.val txT t] (.val idT (idOf t)) := by
  refine fn_of_aw Try.func24 rfl rfl rfl (fun ext w hext => ?_)
  refine aw_fact (d := 0) rfl fact_tx (fun h32 => ?_)
  refine aw_seq ?_
  refine aw_region ?_
  refine aw_box rfl rfl rfl rfl rfl ?_
  refine aw_alloc ze_40 rfl rfl rfl rfl ?_
  refine aw_nil ?_
  refine aw_seq ?_
  refine aw_region ?_
  refine aw_g (g_load_b rfl rfl rfl (Lens.self _) ty_26) rfl rfl rfl ?_
  refine aw_g (g_call (tells_pub2 (put_ok t)) rfl fn_45 ⟨(arg_v rfl), trivial⟩ rfl) rfl rfl rfl ?_
  refine aw_g (by first | exact g_mv (.inl rfl) rfl | exact g_mp (.inl rfl) rfl | exact g_mo (.inl rfl) rfl | exact g_ml (.inl rfl) rfl | exact g_mc (.inl rfl) rfl | exact g_mr (.inl rfl) rfl | exact g_mf1 (.inl rfl) rfl | exact g_mf2 (.inl rfl) rfl | exact g_mw (.inl rfl) rfl | exact g_me (.inl rfl) rfl | exact g_ms (.inl rfl) rfl | exact g_mt2 (.inl rfl) rfl | exact g_mt3 (.inl rfl) rfl | exact g_mi (.inl rfl) rfl) rfl rfl rfl ?_
  refine aw_g (by first | exact g_x20 rfl rfl | exact g_x30 rfl rfl) rfl rfl rfl ?_
  refine aw_g (by first | exact g_x21 rfl rfl | exact g_x31 rfl rfl) rfl rfl rfl ?_
  refine aw_g (g_mv (.inr rfl) rfl) rfl rfl rfl ?_
  refine aw_g (g_mv (.inr rfl) rfl) rfl rfl rfl ?_
  refine aw_nil ?_
  refine aw_seq ?_
  refine aw_seq ?_
  refine aw_region ?_
  refine aw_g (g_mv (.inl rfl) rfl) rfl rfl rfl ?_
  refine aw_g (g_not rfl rfl) rfl rfl rfl ?_
  refine aw_nil ?_
  refine aw_ifc (p := ¬ mayTx t = true) rfl (by simp) (fun ht11 => ?_) (fun ht11 => ?_)
  · skip
    refine aw_seq ?_
    refine aw_region ?_
    refine aw_g (g_buildZ rfl ar_40 ze_40 rfl) rfl rfl rfl ?_
    refine aw_store_b rfl rfl rfl rfl rfl (Lens.self _) ty_40 rfl ?_
    refine aw_nil ?_
    exact aw_retc1 rfl rfl rfl rfl ty_40 (by unfold idOf; rw [if_neg ht11])
  · skip
    refine aw_reval (d := 3) rfl (if_pos (Classical.not_not.1 ht11)) ?_
    refine aw_skip ?_
    refine aw_seq ?_
    refine aw_region ?_
    refine aw_g (g_bslice (T := u8T) (xs := [_]) rfl sl_71 row_71 ⟨rfl, rfl, trivial⟩ rfl rfl) rfl rfl rfl ?_
    refine aw_g (g_mv (.inl rfl) rfl) rfl rfl rfl ?_
    refine aw_g (g_bslice (T := (sl u8T)) (xs := [_, _]) rfl sl_86 row_86 ⟨rfl, rfl, rfl, rfl, trivial⟩ rfl rfl) rfl rfl rfl ?_
    refine aw_g (g_call (of_ok [[6], putTx t] (by have := putTx_len (Classical.not_not.1 ht11) h32; simp; omega)) rfl fn_46 ⟨(arg_v rfl), trivial⟩ rfl) rfl rfl rfl ?_
    refine aw_store_b rfl rfl rfl rfl rfl (Lens.self _) ty_40 rfl ?_
    refine aw_nil ?_
    exact aw_retc1 rfl rfl rfl rfl ty_40 (by unfold idOf; rw [if_pos (Classical.not_not.1 ht11)]; simp)

end Go.Proofs.Ytmfgemnmelbflaa
