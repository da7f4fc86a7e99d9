/- Layer 1 (sha): one step of the sum. -/
import Derived.Test.YtmfgemnmelbflaaCoin
set_option maxRecDepth 20000
namespace Go.Proofs.Ytmfgemnmelbflaa
set_option linter.unusedVariables false
set_option linter.unusedSimpArgs false
open Go.Ab Go.RowKit

/-- A word turned to the right. -/
def rr (x : UInt32) (n : Int) : UInt32 := rotl x (IntKind.i64.wrap (0 - n))
def beWord (x0 x1 x2 x3 : UInt8) : UInt32 := shl32 (u32OfI (IntL.toI u8T x0)) 24 ||| shl32 (u32OfI (IntL.toI u8T x1)) 16 ||| shl32 (u32OfI (IntL.toI u8T x2)) 8 ||| u32OfI (IntL.toI u8T x3)
def schedWord (a b x y : UInt32) : UInt32 := a + b + (rr x 7 ^^^ rr x 18 ^^^ shr32 x 3) + (rr y 17 ^^^ rr y 19 ^^^ shr32 y 10)
/-- One of the 64 words. -/
def schedStep (b : List UInt8) (w : List UInt32) (i : Nat) : List UInt32 :=
  if i < 16 then w.set i (beWord (b.getD (4 * i) default) (b.getD (4 * i + 1) default) (b.getD (4 * i + 2) default) (b.getD (4 * i + 3) default))
  else w.set i (schedWord (w.getD (i - 16) default) (w.getD (i - 7) default) (w.getD (i - 15) default) (w.getD (i - 2) default))
def schedN (b : List UInt8) (k : Nat) : List UInt32 := (List.range k).foldl (schedStep b) (List.replicate 64 0)
def roundX (v w : List UInt32) (i : Nat) : UInt32 := v.getD 7 default + (rr (v.getD 4 default) 6 ^^^ rr (v.getD 4 default) 11 ^^^ rr (v.getD 4 default) 25) + ((v.getD 4 default &&& v.getD 5 default) ^^^ (~~~ (v.getD 4 default) &&& v.getD 6 default)) + shaK.getD i default + w.getD i default
def roundY (v : List UInt32) : UInt32 := (rr (v.getD 0 default) 2 ^^^ rr (v.getD 0 default) 13 ^^^ rr (v.getD 0 default) 22) + ((v.getD 0 default &&& v.getD 1 default) ^^^ (v.getD 0 default &&& v.getD 2 default) ^^^ (v.getD 1 default &&& v.getD 2 default))
/-- One of the 64 rounds. -/
def roundStep (w v : List UInt32) (i : Nat) : List UInt32 := [roundX v w i + roundY v, v.getD 0 default, v.getD 1 default, v.getD 2 default, v.getD 3 default + roundX v w i, v.getD 4 default, v.getD 5 default, v.getD 6 default]
def roundN (w s : List UInt32) (k : Nat) : List UInt32 := (List.range k).foldl (roundStep w) s
def sumN (v s : List UInt32) (k : Nat) : List UInt32 := (List.range k).foldl (fun s i => s.set i (s.getD i default + v.getD i default)) s
/-- The words behind 64 bytes. -/
def addOf (s : List UInt32) (b : List UInt8) : List UInt32 := sumN (roundN (schedN b 64) s 64) s 8
theorem fold_succ {α : Type} {f : α → Nat → α} {z : α} {k : Nat} : (List.range (k + 1)).foldl f z = f ((List.range k).foldl f z) k := by rw [List.range_succ, List.foldl_append]; rfl
theorem sched_lo {b : List UInt8} {k : Nat} {x0 x1 x2 x3 : UInt8} (hk : k < 16) (h0 : b[4 * k]? = some x0) (h1 : b[4 * k + 1]? = some x1) (h2 : b[4 * k + 2]? = some x2) (h3 : b[4 * k + 3]? = some x3) : (schedN b k).set k (beWord x0 x1 x2 x3) = schedN b (k + 1) := by
  unfold schedN
  rw [fold_succ]
  unfold schedStep
  rw [if_pos hk]
  simp only [List.getD_eq_getElem?_getD, h0, h1, h2, h3, Option.getD_some]
theorem sched_hi {b : List UInt8} {k : Nat} (hk : ¬ k < 16) : (schedN b k).set k (schedWord ((schedN b k).getD (k - 16) default) ((schedN b k).getD (k - 7) default) ((schedN b k).getD (k - 15) default) ((schedN b k).getD (k - 2) default)) = schedN b (k + 1) := by
  have e : schedN b (k + 1) = schedStep b (schedN b k) k := fold_succ
  rw [e]; unfold schedStep; rw [if_neg hk]
theorem round_succ {w s : List UInt32} {k : Nat} : roundStep w (roundN w s k) k = roundN w s (k + 1) := fold_succ.symm
theorem sum_succ {v s : List UInt32} {k : Nat} {x : UInt32} (h : v[k]? = some x) : (sumN v s k).set k ((sumN v s k).getD k default + x) = sumN v s (k + 1) := by
  have e : sumN v s (k + 1) = _ := fold_succ
  rw [e]
  show _ = (sumN v s k).set k ((sumN v s k).getD k default + v.getD k default)
  rw [List.getD_eq_getElem?_getD (l := v), h]; rfl
theorem roundN_len {w s : List UInt32} (hs : s.length = 8) : ∀ k, (roundN w s k).length = 8
  | 0 => hs
  | k + 1 => by rw [← round_succ]; rfl

theorem add_ok (s : List UInt32) (b : List UInt8) (hb : b.length = 64) (hs : s.length = 8) : TellsM P 78 (.box 106 (arrT 8 (by decide) u32T) s) [.ptr 0 0, .val (bsl u8T) b] (.lit (.tuple #[])) (.box 106 (arrT 8 (by decide) u32T) (addOf s b)) := by
  refine fnm_of_aw trivial Try.func78 rfl rfl ⟨Nat.one_pos, ⟨trivial, trivial⟩⟩ (fun ext pg w hext hgr => ?_)
  refine aw_fact (d := 1) rfl fact_sl (fun hsl1 => ?_)
  refine aw_seq ?_
  refine aw_region ?_
  refine aw_alloc ze_127 rfl rfl rfl rfl ?_
  refine aw_nil ?_
  refine aw_seq ?_
  refine aw_seq ?_
  refine aw_region ?_
  refine aw_g (g_mv (.inl rfl) rfl) rfl rfl rfl ?_
  refine aw_nil ?_
  refine aw_block ?_
  refine aw_loopI (ι := Nat) 2 rfl (fun (k : Nat) => ((((Fr.none).set 0 (.ptr 0 0)).set 1 (.val (bsl u8T) b)).set 4 (.ptr 1 0)).set 17 (.val i64T (k : Int))) (fun (k : Nat) => ((Hp.none).set 0 (.box 106 (arrT 8 (by decide) u32T) s)).set 1 (.box 127 (arrT 64 (by decide) u32T) (schedN b k))) (fun (k : Nat) => k ≤ 64) (fun (k : Nat) => 64 - k) (0) (Nat.zero_le _) (by (repeat refine Fr.le_set ?_ (by first | rfl | (simp; done))); exact Fr.le_none _) (by (repeat refine Hp.le_set ?_ rfl); exact Hp.le_none _) (by (repeat refine Fr.below_setB ?_ rfl); exact Fr.below_none _) (by (repeat refine Hp.below_set ?_ (by decide)); exact Hp.below_none _) ?_
  intro k hinv
  refine aw_seq ?_
  refine aw_region ?_
  refine aw_g (g_lss rfl rfl rfl rfl) rfl rfl rfl ?_
  refine aw_nil ?_
  refine aw_seq ?_
  refine aw_ifc (p := k < 64) rfl (by first | rfl | (rw [decide_eq_decide]; simp only [IntL.toI, id_eq]; omega) | (simp [IntL.toI]; done) | (simp [IntL.toI]; omega)) (fun ht18 => ?_) (fun ht18 => ?_)
  · skip
    refine aw_skip ?_
    refine aw_seq ?_
    refine aw_block ?_
    refine aw_seq ?_
    refine aw_region ?_
    refine aw_g (g_mv (.inl rfl) rfl) rfl rfl rfl ?_
    refine aw_g (g_mv (.inr rfl) rfl) rfl rfl rfl ?_
    refine aw_nil ?_
    refine aw_seq ?_
    refine aw_seq ?_
    refine aw_region ?_
    refine aw_g (g_mv (.inl rfl) rfl) rfl rfl rfl ?_
    refine aw_g (g_lss rfl rfl rfl rfl) rfl rfl rfl ?_
    refine aw_nil ?_
    refine aw_ifc (p := k < 16) rfl (by first | rfl | (rw [decide_eq_decide]; simp only [IntL.toI, id_eq]; omega) | (simp [IntL.toI]; done) | (simp [IntL.toI]; omega)) (fun ht21 => ?_) (fun ht21 => ?_)
    · skip
      obtain ⟨x0, hx0⟩ : ∃ x, b[4 * k]? = some x := ⟨_, List.getElem?_eq_getElem (by omega)⟩
      obtain ⟨x1, hx1⟩ : ∃ x, b[4 * k + 1]? = some x := ⟨_, List.getElem?_eq_getElem (by omega)⟩
      obtain ⟨x2, hx2⟩ : ∃ x, b[4 * k + 2]? = some x := ⟨_, List.getElem?_eq_getElem (by omega)⟩
      obtain ⟨x3, hx3⟩ : ∃ x, b[4 * k + 3]? = some x := ⟨_, List.getElem?_eq_getElem (by omega)⟩
      refine aw_seq ?_
      refine aw_drawx [some 1, some 1, some 1, some 1, some 1, some 1, some 1, some 1, some 1, some 1, some 1, some 1, some 1, some 1, some 1, some 1, some 1, some 1, some 1, some 1, some 1, some 1, some 1, some 1, some 1, some 1, some 1, some 1, some 1, some 1, some 1, some 1, some 1, some 1, some 1, none] mixed (by decide +kernel) ?_
      refine XK.g (g_mv (.inl rfl) rfl) rfl rfl rfl ?_
      refine XK.g (g_mv (.inl rfl) rfl) rfl rfl rfl ?_
      refine XK.g (g_mv (.inl rfl) rfl) rfl rfl rfl ?_
      refine XK.g (by first | exact g_mul rfl rfl rfl (wrap_eq (by first | omega | (simp; omega))) | exact g_mul rfl rfl rfl rfl) rfl rfl rfl ?_
      refine XK.g (g_ia_i (i := 4 * k) rfl rfl rfl (by omega) sl_71 (by assumption)) rfl rfl rfl ?_
      refine XK.g (g_load_r rfl rfl ty_5) rfl rfl rfl ?_
      refine XK.g (g_cv32 rfl (ui_104) (us_5) rfl) rfl rfl rfl ?_
      refine XK.g (g_shl32 rfl rfl rfl (by first | decide | (simp [IntL.toI]; done) | (simp [IntL.toI]; omega)) rfl) rfl rfl rfl ?_
      refine XK.g (g_mv (.inl rfl) rfl) rfl rfl rfl ?_
      refine XK.g (g_mv (.inl rfl) rfl) rfl rfl rfl ?_
      refine XK.g (by first | exact g_mul rfl rfl rfl (wrap_eq (by first | omega | (simp; omega))) | exact g_mul rfl rfl rfl rfl) rfl rfl rfl ?_
      refine XK.g (by first | exact g_add rfl rfl rfl (wrap_eq (by first | omega | (simp; omega))) | exact g_add rfl rfl rfl rfl) rfl rfl rfl ?_
      refine XK.g (g_ia_i (i := 4 * k + 1) rfl rfl rfl (by omega) sl_71 (by assumption)) rfl rfl rfl ?_
      refine XK.g (g_load_r rfl rfl ty_5) rfl rfl rfl ?_
      refine XK.g (g_cv32 rfl (ui_104) (us_5) rfl) rfl rfl rfl ?_
      refine XK.g (g_shl32 rfl rfl rfl (by first | decide | (simp [IntL.toI]; done) | (simp [IntL.toI]; omega)) rfl) rfl rfl rfl ?_
      refine XK.g (g_or32 rfl rfl rfl) rfl rfl rfl ?_
      refine XK.g (g_mv (.inl rfl) rfl) rfl rfl rfl ?_
      refine XK.g (g_mv (.inl rfl) rfl) rfl rfl rfl ?_
      refine XK.g (by first | exact g_mul rfl rfl rfl (wrap_eq (by first | omega | (simp; omega))) | exact g_mul rfl rfl rfl rfl) rfl rfl rfl ?_
      refine XK.g (by first | exact g_add rfl rfl rfl (wrap_eq (by first | omega | (simp; omega))) | exact g_add rfl rfl rfl rfl) rfl rfl rfl ?_
      refine XK.g (g_ia_i (i := 4 * k + 2) rfl rfl rfl (by omega) sl_71 (by assumption)) rfl rfl rfl ?_
      refine XK.g (g_load_r rfl rfl ty_5) rfl rfl rfl ?_
      refine XK.g (g_cv32 rfl (ui_104) (us_5) rfl) rfl rfl rfl ?_
      refine XK.g (g_shl32 rfl rfl rfl (by first | decide | (simp [IntL.toI]; done) | (simp [IntL.toI]; omega)) rfl) rfl rfl rfl ?_
      refine XK.g (g_or32 rfl rfl rfl) rfl rfl rfl ?_
      refine XK.g (g_mv (.inl rfl) rfl) rfl rfl rfl ?_
      refine XK.g (g_mv (.inl rfl) rfl) rfl rfl rfl ?_
      refine XK.g (by first | exact g_mul rfl rfl rfl (wrap_eq (by first | omega | (simp; omega))) | exact g_mul rfl rfl rfl rfl) rfl rfl rfl ?_
      refine XK.g (by first | exact g_add rfl rfl rfl (wrap_eq (by first | omega | (simp; omega))) | exact g_add rfl rfl rfl rfl) rfl rfl rfl ?_
      refine XK.g (g_ia_i (i := 4 * k + 3) rfl rfl rfl (by omega) sl_71 (by assumption)) rfl rfl rfl ?_
      refine XK.g (g_load_r rfl rfl ty_5) rfl rfl rfl ?_
      refine XK.g (g_cv32 rfl (ui_104) (us_5) rfl) rfl rfl rfl ?_
      refine XK.g (g_or32 rfl rfl rfl) rfl rfl rfl ?_
      refine XK.g (g_ia_b0 (i := k) rfl rfl rfl (by first | omega | rfl) ar_127 (by omega)) rfl rfl rfl ?_
      refine XK.e (x := .idk) (fun fr' hfr kk H => by exact aw_store_b rfl rfl rfl ((hfr 56 (by decide +kernel)).trans rfl) rfl (Lens.elem (i := k) (by omega) u32T) ty_104 ((hfr 55 (by decide +kernel)).trans rfl) (aw_nil H)) ?_
      refine XK.nil' ?_
      refine aw_exit rfl ?_
      refine aw_region ?_
      refine aw_g (by first | exact g_add rfl rfl rfl (wrap_eq (by first | omega | (simp; omega))) | exact g_add rfl rfl rfl rfl) rfl rfl rfl ?_
      refine aw_g (g_mv (.inl rfl) rfl) rfl rfl rfl ?_
      refine aw_nil ?_
      refine aw_reheap (n := 1) rfl (sched_lo ht21 hx0 hx1 hx2 hx3) ?_
      exact aw_next (k + 1) (by omega) (by omega) rfl (by (repeat refine Fr.le_set ?_ (by first | rfl | (simp; done))); exact Fr.le_none _) (by (repeat refine Hp.le_set ?_ rfl); exact Hp.le_none _) (by (repeat refine Fr.below_setB ?_ rfl); exact Fr.below_none _) (by (repeat refine Hp.below_set ?_ (by decide)); exact Hp.below_none _)
    · skip
      refine aw_skip ?_
      refine aw_seq ?_
      refine aw_draw mixed (by decide +kernel) ?_
      refine GK.g (g_mv (.inl rfl) rfl) rfl rfl rfl ?_
      refine GK.g (by first | exact g_sub rfl rfl rfl (wrap_eq (by first | omega | (simp; omega))) | exact g_sub rfl rfl rfl rfl) rfl rfl rfl ?_
      refine GK.g (g_ia_b0 (i := k - 15) rfl rfl rfl (by first | omega | rfl) ar_127 (by omega)) rfl rfl rfl ?_
      refine GK.g (g_load_b rfl rfl rfl (Lens.elem (i := k - 15) (by omega) u32T) ty_104) rfl rfl rfl ?_
      refine GK.g (g_mv (.inl rfl) rfl) rfl rfl rfl ?_
      refine GK.g (by first | exact g_sub rfl rfl rfl (wrap_eq (by first | omega | (simp; omega))) | exact g_sub rfl rfl rfl rfl) rfl rfl rfl ?_
      refine GK.g (g_ia_b0 (i := k - 2) rfl rfl rfl (by first | omega | rfl) ar_127 (by omega)) rfl rfl rfl ?_
      refine GK.g (g_load_b rfl rfl rfl (Lens.elem (i := k - 2) (by omega) u32T) ty_104) rfl rfl rfl ?_
      refine GK.g (g_mv (.inr rfl) rfl) rfl rfl rfl ?_
      refine GK.g (g_mv (.inr rfl) rfl) rfl rfl rfl ?_
      refine GK.nil ?_
      refine aw_drawx [some 1, some 1, some 1, some 1, some 1, some 1, some 1, some 1, some 1, some 1, some 1, some 1, some 1, some 1, some 1, some 1, some 1, some 1, some 1, some 1, some 1, some 1, some 1, some 1, some 1, some 1, some 1, some 1, some 1, none] mixed (by decide +kernel) ?_
      refine XK.g (g_mv (.inl rfl) rfl) rfl rfl rfl ?_
      refine XK.g (g_mv (.inl rfl) rfl) rfl rfl rfl ?_
      refine XK.g (by first | exact g_sub rfl rfl rfl (wrap_eq (by first | omega | (simp; omega))) | exact g_sub rfl rfl rfl rfl) rfl rfl rfl ?_
      refine XK.g (g_ia_b0 (i := k - 16) rfl rfl rfl (by first | omega | rfl) ar_127 (by omega)) rfl rfl rfl ?_
      refine XK.g (g_load_b rfl rfl rfl (Lens.elem (i := k - 16) (by omega) u32T) ty_104) rfl rfl rfl ?_
      refine XK.g (g_mv (.inl rfl) rfl) rfl rfl rfl ?_
      refine XK.g (by first | exact g_sub rfl rfl rfl (wrap_eq (by first | omega | (simp; omega))) | exact g_sub rfl rfl rfl rfl) rfl rfl rfl ?_
      refine XK.g (g_ia_b0 (i := k - 7) rfl rfl rfl (by first | omega | rfl) ar_127 (by omega)) rfl rfl rfl ?_
      refine XK.g (g_load_b rfl rfl rfl (Lens.elem (i := k - 7) (by omega) u32T) ty_104) rfl rfl rfl ?_
      refine XK.g (g_add32 rfl rfl rfl) rfl rfl rfl ?_
      refine XK.g (g_mv (.inl rfl) rfl) rfl rfl rfl ?_
      refine XK.g (g_call (right_ok _ _) rfl fn_95 ⟨(arg_v rfl), (arg_v rfl), trivial⟩ rfl) rfl rfl rfl ?_
      refine XK.g (g_mv (.inl rfl) rfl) rfl rfl rfl ?_
      refine XK.g (g_call (right_ok _ _) rfl fn_95 ⟨(arg_v rfl), (arg_v rfl), trivial⟩ rfl) rfl rfl rfl ?_
      refine XK.g (g_xor32 rfl rfl rfl) rfl rfl rfl ?_
      refine XK.g (g_mv (.inl rfl) rfl) rfl rfl rfl ?_
      refine XK.g (g_shr32 rfl rfl rfl (by first | decide | (simp [IntL.toI]; done) | (simp [IntL.toI]; omega)) rfl) rfl rfl rfl ?_
      refine XK.g (g_xor32 rfl rfl rfl) rfl rfl rfl ?_
      refine XK.g (g_add32 rfl rfl rfl) rfl rfl rfl ?_
      refine XK.g (g_mv (.inl rfl) rfl) rfl rfl rfl ?_
      refine XK.g (g_call (right_ok _ _) rfl fn_95 ⟨(arg_v rfl), (arg_v rfl), trivial⟩ rfl) rfl rfl rfl ?_
      refine XK.g (g_mv (.inl rfl) rfl) rfl rfl rfl ?_
      refine XK.g (g_call (right_ok _ _) rfl fn_95 ⟨(arg_v rfl), (arg_v rfl), trivial⟩ rfl) rfl rfl rfl ?_
      refine XK.g (g_xor32 rfl rfl rfl) rfl rfl rfl ?_
      refine XK.g (g_mv (.inl rfl) rfl) rfl rfl rfl ?_
      refine XK.g (g_shr32 rfl rfl rfl (by first | decide | (simp [IntL.toI]; done) | (simp [IntL.toI]; omega)) rfl) rfl rfl rfl ?_
      refine XK.g (g_xor32 rfl rfl rfl) rfl rfl rfl ?_
      refine XK.g (g_add32 rfl rfl rfl) rfl rfl rfl ?_
      refine XK.g (g_ia_b0 (i := k) rfl rfl rfl (by first | omega | rfl) ar_127 (by omega)) rfl rfl rfl ?_
      refine XK.e (x := .idk) (fun fr' hfr kk H => by exact aw_store_b rfl rfl rfl ((hfr 93 (by decide +kernel)).trans rfl) rfl (Lens.elem (i := k) (by omega) u32T) ty_104 ((hfr 92 (by decide +kernel)).trans rfl) (aw_nil H)) ?_
      refine XK.nil' ?_
      refine aw_inBlock ?_
      refine aw_region ?_
      refine aw_g (by first | exact g_add rfl rfl rfl (wrap_eq (by first | omega | (simp; omega))) | exact g_add rfl rfl rfl rfl) rfl rfl rfl ?_
      refine aw_g (g_mv (.inl rfl) rfl) rfl rfl rfl ?_
      refine aw_nil ?_
      refine aw_reheap (n := 1) rfl (sched_hi ht21) ?_
      exact aw_next (k + 1) (by omega) (by omega) rfl (by (repeat refine Fr.le_set ?_ (by first | rfl | (simp; done))); exact Fr.le_none _) (by (repeat refine Hp.le_set ?_ rfl); exact Hp.le_none _) (by (repeat refine Fr.below_setB ?_ rfl); exact Fr.below_none _) (by (repeat refine Hp.below_set ?_ (by decide)); exact Hp.below_none _)
  · skip
    obtain rfl : k = 64 := (by omega)
    refine aw_exit rfl ?_
    refine aw_seq ?_
    refine aw_region ?_
    refine aw_g (g_call (numbers_ok) rfl fn_96 trivial rfl) rfl rfl rfl ?_
    refine aw_alloc ze_127 rfl rfl rfl rfl ?_
    refine aw_store_b rfl rfl rfl rfl rfl (Lens.self _) ty_127 rfl ?_
    refine aw_nil ?_
    refine aw_seq ?_
    refine aw_region ?_
    refine aw_g (g_mp (.inl rfl) rfl) rfl rfl rfl ?_
    refine aw_g (g_nc rfl rfl) rfl rfl rfl ?_
    refine aw_g (g_load_b rfl rfl rfl (Lens.self _) ty_106) rfl rfl rfl ?_
    refine aw_alloc ze_106 rfl rfl rfl rfl ?_
    refine aw_store_b rfl rfl rfl rfl rfl (Lens.self _) ty_106 rfl ?_
    refine aw_nil ?_
    refine aw_seq ?_
    refine aw_seq ?_
    refine aw_region ?_
    refine aw_g (g_mv (.inl rfl) rfl) rfl rfl rfl ?_
    refine aw_nil ?_
    refine aw_block ?_
    refine aw_loopI (ι := Nat) 4 rfl (fun (k : Nat) => (((((Fr.none).set 0 (.ptr 0 0)).set 4 (.ptr 1 0)).set 8 (.ptr 2 0)).set 9 (.ptr 3 0)).set 99 (.val i64T (k : Int))) (fun (k : Nat) => ((((Hp.none).set 0 (.box 106 (arrT 8 (by decide) u32T) s)).set 1 (.box 127 (arrT 64 (by decide) u32T) (schedN b 64))).set 2 (.box 127 (arrT 64 (by decide) u32T) shaK)).set 3 (.box 106 (arrT 8 (by decide) u32T) (roundN (schedN b 64) s k))) (fun (k : Nat) => k ≤ 64) (fun (k : Nat) => 64 - k) (0) (Nat.zero_le _) (by (repeat refine Fr.le_set ?_ (by first | rfl | (simp; done))); exact Fr.le_none _) (by (repeat refine Hp.le_set ?_ rfl); exact Hp.le_none _) (by (repeat refine Fr.below_setB ?_ rfl); exact Fr.below_none _) (by (repeat refine Hp.below_set ?_ (by decide)); exact Hp.below_none _) ?_
    intro k hinv
    refine aw_seq ?_
    refine aw_region ?_
    refine aw_g (g_lss rfl rfl rfl rfl) rfl rfl rfl ?_
    refine aw_nil ?_
    refine aw_seq ?_
    refine aw_ifc (p := k < 64) rfl (by first | rfl | (rw [decide_eq_decide]; simp only [IntL.toI, id_eq]; omega) | (simp [IntL.toI]; done) | (simp [IntL.toI]; omega)) (fun ht100 => ?_) (fun ht100 => ?_)
    · skip
      refine aw_skip ?_
      refine aw_seq ?_
      refine aw_block ?_
      refine aw_seq ?_
      refine aw_region ?_
      refine aw_g (g_mv (.inl rfl) rfl) rfl rfl rfl ?_
      refine aw_g (g_mv (.inr rfl) rfl) rfl rfl rfl ?_
      refine aw_nil ?_
      refine aw_seq ?_
      refine aw_draw mixed (by decide +kernel) ?_
      refine GK.g (g_ia_b0 (i := 0) rfl rfl rfl (by first | omega | rfl) ar_106 (by omega)) rfl rfl rfl ?_
      refine GK.g (g_load_b rfl rfl rfl (Lens.elem (i := 0) (by omega) u32T) ty_104) rfl rfl rfl ?_
      refine GK.g (g_ia_b0 (i := 4) rfl rfl rfl (by first | omega | rfl) ar_106 (by omega)) rfl rfl rfl ?_
      refine GK.g (g_load_b rfl rfl rfl (Lens.elem (i := 4) (by omega) u32T) ty_104) rfl rfl rfl ?_
      refine GK.g (g_mv (.inr rfl) rfl) rfl rfl rfl ?_
      refine GK.g (g_mv (.inr rfl) rfl) rfl rfl rfl ?_
      refine GK.nil ?_
      refine aw_seq ?_
      refine aw_draw mixed (by decide +kernel) ?_
      refine GK.g (g_ia_b0 (i := 7) rfl rfl rfl (by first | omega | rfl) ar_106 (by omega)) rfl rfl rfl ?_
      refine GK.g (g_load_b rfl rfl rfl (Lens.elem (i := 7) (by omega) u32T) ty_104) rfl rfl rfl ?_
      refine GK.g (g_mv (.inl rfl) rfl) rfl rfl rfl ?_
      refine GK.g (g_call (right_ok _ _) rfl fn_95 ⟨(arg_v rfl), (arg_v rfl), trivial⟩ rfl) rfl rfl rfl ?_
      refine GK.g (g_mv (.inl rfl) rfl) rfl rfl rfl ?_
      refine GK.g (g_call (right_ok _ _) rfl fn_95 ⟨(arg_v rfl), (arg_v rfl), trivial⟩ rfl) rfl rfl rfl ?_
      refine GK.g (g_xor32 rfl rfl rfl) rfl rfl rfl ?_
      refine GK.g (g_mv (.inl rfl) rfl) rfl rfl rfl ?_
      refine GK.g (g_call (right_ok _ _) rfl fn_95 ⟨(arg_v rfl), (arg_v rfl), trivial⟩ rfl) rfl rfl rfl ?_
      refine GK.g (g_xor32 rfl rfl rfl) rfl rfl rfl ?_
      refine GK.g (g_add32 rfl rfl rfl) rfl rfl rfl ?_
      refine GK.g (g_mv (.inl rfl) rfl) rfl rfl rfl ?_
      refine GK.g (g_ia_b0 (i := 5) rfl rfl rfl (by first | omega | rfl) ar_106 (by omega)) rfl rfl rfl ?_
      refine GK.g (g_load_b rfl rfl rfl (Lens.elem (i := 5) (by omega) u32T) ty_104) rfl rfl rfl ?_
      refine GK.g (g_and32 rfl rfl rfl) rfl rfl rfl ?_
      refine GK.g (g_mv (.inl rfl) rfl) rfl rfl rfl ?_
      refine GK.g (g_not32 rfl rfl) rfl rfl rfl ?_
      refine GK.g (g_ia_b0 (i := 6) rfl rfl rfl (by first | omega | rfl) ar_106 (by omega)) rfl rfl rfl ?_
      refine GK.g (g_load_b rfl rfl rfl (Lens.elem (i := 6) (by omega) u32T) ty_104) rfl rfl rfl ?_
      refine GK.g (g_and32 rfl rfl rfl) rfl rfl rfl ?_
      refine GK.g (g_xor32 rfl rfl rfl) rfl rfl rfl ?_
      refine GK.g (g_add32 rfl rfl rfl) rfl rfl rfl ?_
      refine GK.g (g_mv (.inl rfl) rfl) rfl rfl rfl ?_
      refine GK.g (g_ia_b0 (i := k) rfl rfl rfl (by first | omega | rfl) ar_127 (by omega)) rfl rfl rfl ?_
      refine GK.g (g_load_b rfl rfl rfl (Lens.elem (i := k) (by omega) u32T) ty_104) rfl rfl rfl ?_
      refine GK.g (g_add32 rfl rfl rfl) rfl rfl rfl ?_
      refine GK.g (g_mv (.inl rfl) rfl) rfl rfl rfl ?_
      refine GK.g (g_ia_b0 (i := k) rfl rfl rfl (by first | omega | rfl) ar_127 (by omega)) rfl rfl rfl ?_
      refine GK.g (g_load_b rfl rfl rfl (Lens.elem (i := k) (by omega) u32T) ty_104) rfl rfl rfl ?_
      refine GK.g (g_add32 rfl rfl rfl) rfl rfl rfl ?_
      refine GK.g (g_mv (.inr rfl) rfl) rfl rfl rfl ?_
      refine GK.nil ?_
      refine aw_seq ?_
      refine aw_draw mixed (by decide +kernel) ?_
      refine GK.g (g_mv (.inl rfl) rfl) rfl rfl rfl ?_
      refine GK.g (g_call (right_ok _ _) rfl fn_95 ⟨(arg_v rfl), (arg_v rfl), trivial⟩ rfl) rfl rfl rfl ?_
      refine GK.g (g_mv (.inl rfl) rfl) rfl rfl rfl ?_
      refine GK.g (g_call (right_ok _ _) rfl fn_95 ⟨(arg_v rfl), (arg_v rfl), trivial⟩ rfl) rfl rfl rfl ?_
      refine GK.g (g_xor32 rfl rfl rfl) rfl rfl rfl ?_
      refine GK.g (g_mv (.inl rfl) rfl) rfl rfl rfl ?_
      refine GK.g (g_call (right_ok _ _) rfl fn_95 ⟨(arg_v rfl), (arg_v rfl), trivial⟩ rfl) rfl rfl rfl ?_
      refine GK.g (g_xor32 rfl rfl rfl) rfl rfl rfl ?_
      refine GK.g (g_mv (.inl rfl) rfl) rfl rfl rfl ?_
      refine GK.g (g_ia_b0 (i := 1) rfl rfl rfl (by first | omega | rfl) ar_106 (by omega)) rfl rfl rfl ?_
      refine GK.g (g_load_b rfl rfl rfl (Lens.elem (i := 1) (by omega) u32T) ty_104) rfl rfl rfl ?_
      refine GK.g (g_and32 rfl rfl rfl) rfl rfl rfl ?_
      refine GK.g (g_mv (.inl rfl) rfl) rfl rfl rfl ?_
      refine GK.g (g_ia_b0 (i := 2) rfl rfl rfl (by first | omega | rfl) ar_106 (by omega)) rfl rfl rfl ?_
      refine GK.g (g_load_b rfl rfl rfl (Lens.elem (i := 2) (by omega) u32T) ty_104) rfl rfl rfl ?_
      refine GK.g (g_and32 rfl rfl rfl) rfl rfl rfl ?_
      refine GK.g (g_xor32 rfl rfl rfl) rfl rfl rfl ?_
      refine GK.g (g_ia_b0 (i := 1) rfl rfl rfl (by first | omega | rfl) ar_106 (by omega)) rfl rfl rfl ?_
      refine GK.g (g_load_b rfl rfl rfl (Lens.elem (i := 1) (by omega) u32T) ty_104) rfl rfl rfl ?_
      refine GK.g (g_ia_b0 (i := 2) rfl rfl rfl (by first | omega | rfl) ar_106 (by omega)) rfl rfl rfl ?_
      refine GK.g (g_load_b rfl rfl rfl (Lens.elem (i := 2) (by omega) u32T) ty_104) rfl rfl rfl ?_
      refine GK.g (g_and32 rfl rfl rfl) rfl rfl rfl ?_
      refine GK.g (g_xor32 rfl rfl rfl) rfl rfl rfl ?_
      refine GK.g (g_add32 rfl rfl rfl) rfl rfl rfl ?_
      refine GK.g (g_mv (.inr rfl) rfl) rfl rfl rfl ?_
      refine GK.nil ?_
      refine aw_region ?_
      refine aw_g (g_mv (.inl rfl) rfl) rfl rfl rfl ?_
      refine aw_g (g_mv (.inl rfl) rfl) rfl rfl rfl ?_
      refine aw_g (g_add32 rfl rfl rfl) rfl rfl rfl ?_
      refine aw_g (g_mv (.inl rfl) rfl) rfl rfl rfl ?_
      refine aw_g (g_ia_b0 (i := 1) rfl rfl rfl (by first | omega | rfl) ar_106 (by omega)) rfl rfl rfl ?_
      refine aw_g (g_load_b rfl rfl rfl (Lens.elem (i := 1) (by omega) u32T) ty_104) rfl rfl rfl ?_
      refine aw_g (g_ia_b0 (i := 2) rfl rfl rfl (by first | omega | rfl) ar_106 (by omega)) rfl rfl rfl ?_
      refine aw_g (g_load_b rfl rfl rfl (Lens.elem (i := 2) (by omega) u32T) ty_104) rfl rfl rfl ?_
      refine aw_g (g_ia_b0 (i := 3) rfl rfl rfl (by first | omega | rfl) ar_106 (by omega)) rfl rfl rfl ?_
      refine aw_g (g_load_b rfl rfl rfl (Lens.elem (i := 3) (by omega) u32T) ty_104) rfl rfl rfl ?_
      refine aw_g (g_mv (.inl rfl) rfl) rfl rfl rfl ?_
      refine aw_g (g_add32 rfl rfl rfl) rfl rfl rfl ?_
      refine aw_g (g_mv (.inl rfl) rfl) rfl rfl rfl ?_
      refine aw_g (g_ia_b0 (i := 5) rfl rfl rfl (by first | omega | rfl) ar_106 (by omega)) rfl rfl rfl ?_
      refine aw_g (g_load_b rfl rfl rfl (Lens.elem (i := 5) (by omega) u32T) ty_104) rfl rfl rfl ?_
      refine aw_g (g_ia_b0 (i := 6) rfl rfl rfl (by first | omega | rfl) ar_106 (by omega)) rfl rfl rfl ?_
      refine aw_g (g_load_b rfl rfl rfl (Lens.elem (i := 6) (by omega) u32T) ty_104) rfl rfl rfl ?_
      refine aw_g (g_buildA (T := u32T) (xs := [_, _, _, _, _, _, _, _]) rfl ar_106 ze_106 ⟨rfl, rfl, rfl, rfl, rfl, rfl, rfl, rfl, rfl, rfl, rfl, rfl, rfl, rfl, rfl, rfl, trivial⟩ rfl) rfl rfl rfl ?_
      refine aw_store_b rfl rfl rfl rfl rfl (Lens.self _) ty_106 rfl ?_
      refine aw_nil ?_
      refine aw_inBlock ?_
      refine aw_region ?_
      refine aw_g (by first | exact g_add rfl rfl rfl (wrap_eq (by first | omega | (simp; omega))) | exact g_add rfl rfl rfl rfl) rfl rfl rfl ?_
      refine aw_g (g_mv (.inl rfl) rfl) rfl rfl rfl ?_
      refine aw_nil ?_
      refine aw_reheap (n := 3) rfl round_succ ?_
      exact aw_next (k + 1) (by omega) (by omega) rfl (by (repeat refine Fr.le_set ?_ (by first | rfl | (simp; done))); exact Fr.le_none _) (by (repeat refine Hp.le_set ?_ rfl); exact Hp.le_none _) (by (repeat refine Fr.below_setB ?_ rfl); exact Fr.below_none _) (by (repeat refine Hp.below_set ?_ (by decide)); exact Hp.below_none _)
    · skip
      obtain rfl : k = 64 := (by omega)
      refine aw_exit rfl ?_
      refine aw_seq ?_
      refine aw_region ?_
      refine aw_g (g_load_b rfl rfl rfl (Lens.self _) ty_106) rfl rfl rfl ?_
      refine aw_g (g_mv (.inl rfl) rfl) rfl rfl rfl ?_
      refine aw_nil ?_
      refine aw_block ?_
      refine aw_loopI (ι := Nat) 1 rfl (fun (k : Nat) => (((Fr.none).set 0 (.ptr 0 0)).set 179 (.val (arrT 8 (by decide) u32T) (roundN (schedN b 64) s 64))).set 180 (.val i64T (k : Int))) (fun (k : Nat) => (Hp.none).set 0 (.box 106 (arrT 8 (by decide) u32T) (sumN (roundN (schedN b 64) s 64) s k))) (fun (k : Nat) => k ≤ 8) (fun (k : Nat) => 8 - k) (0) (Nat.zero_le _) (by (repeat refine Fr.le_set ?_ (by first | rfl | (simp; done))); exact Fr.le_none _) (by (repeat refine Hp.le_set ?_ rfl); exact Hp.le_none _) (by (repeat refine Fr.below_setB ?_ rfl); exact Fr.below_none _) (by (repeat refine Hp.below_set ?_ (by decide)); exact Hp.below_none _) ?_
      intro k hinv
      refine aw_seq ?_
      refine aw_region ?_
      refine aw_g (g_lss rfl rfl rfl rfl) rfl rfl rfl ?_
      refine aw_nil ?_
      refine aw_seq ?_
      refine aw_ifc (p := k < 8) rfl (by first | rfl | (rw [decide_eq_decide]; simp only [IntL.toI, id_eq]; omega) | (simp [IntL.toI]; done) | (simp [IntL.toI]; omega)) (fun ht181 => ?_) (fun ht181 => ?_)
      · skip
        obtain ⟨x, hx⟩ : ∃ x, (roundN (schedN b 64) s 64)[k]? = some x := ⟨_, List.getElem?_eq_getElem (by rw [roundN_len hs]; exact ht181)⟩
        refine aw_skip ?_
        refine aw_seq ?_
        refine aw_block ?_
        refine aw_seq ?_
        refine aw_region ?_
        refine aw_g (g_mv (.inl rfl) rfl) rfl rfl rfl ?_
        refine aw_g (g_index rfl rfl rfl rfl ar_106 ty_104 (by assumption)) rfl rfl rfl ?_
        refine aw_g (g_mv (.inr rfl) rfl) rfl rfl rfl ?_
        refine aw_g (g_mv (.inr rfl) rfl) rfl rfl rfl ?_
        refine aw_nil ?_
        refine aw_drawx [some 1, some 1, some 1, some 1, some 1, some 1, some 1, some 1, some 1, none] mixed (by decide +kernel) ?_
        refine XK.g (g_mp (.inl rfl) rfl) rfl rfl rfl ?_
        refine XK.g (g_mv (.inl rfl) rfl) rfl rfl rfl ?_
        refine XK.g (g_nc rfl rfl) rfl rfl rfl ?_
        refine XK.g (g_ia_b0 (i := k) rfl rfl rfl (by first | omega | rfl) ar_106 (by omega)) rfl rfl rfl ?_
        refine XK.g (g_load_b rfl rfl rfl (Lens.elem (i := k) (by omega) u32T) ty_104) rfl rfl rfl ?_
        refine XK.g (g_mv (.inl rfl) rfl) rfl rfl rfl ?_
        refine XK.g (g_add32 rfl rfl rfl) rfl rfl rfl ?_
        refine XK.g (g_nc rfl rfl) rfl rfl rfl ?_
        refine XK.g (g_ia_b0 (i := k) rfl rfl rfl (by first | omega | rfl) ar_106 (by omega)) rfl rfl rfl ?_
        refine XK.e (x := .idk) (fun fr' hfr kk H => by exact aw_store_b rfl rfl rfl ((hfr 192 (by decide +kernel)).trans rfl) rfl (Lens.elem (i := k) (by omega) u32T) ty_104 ((hfr 190 (by decide +kernel)).trans rfl) (aw_nil H)) ?_
        refine XK.nil' ?_
        refine aw_inBlock ?_
        refine aw_region ?_
        refine aw_g (by first | exact g_add rfl rfl rfl (wrap_eq (by first | omega | (simp; omega))) | exact g_add rfl rfl rfl rfl) rfl rfl rfl ?_
        refine aw_g (g_mv (.inl rfl) rfl) rfl rfl rfl ?_
        refine aw_nil ?_
        refine aw_reheap (n := 0) rfl (sum_succ hx) ?_
        exact aw_next (k + 1) (by omega) (by omega) rfl (by (repeat refine Fr.le_set ?_ (by first | rfl | (simp; done))); exact Fr.le_none _) (by (repeat refine Hp.le_set ?_ rfl); exact Hp.le_none _) (by (repeat refine Fr.below_setB ?_ rfl); exact Fr.below_none _) (by (repeat refine Hp.below_set ?_ (by decide)); exact Hp.below_none _)
      · skip
        obtain rfl : k = 8 := (by omega)
        refine aw_exit rfl ?_
        exact aw_fallm0 rfl rfl rfl rfl rfl (give_box rfl rfl)

end Go.Proofs.Ytmfgemnmelbflaa
