/- Layer 10: coins with those that a transaction makes . -/
import Derived.Test.YtmfgemnmelbflaaSort
set_option maxRecDepth 20000
namespace Go.Proofs.Ytmfgemnmelbflaa
set_option linter.unusedVariables false
set_option linter.unusedSimpArgs false
open Go.Ab Go.RowKit

/-- The coins that a transaction makes, of some of its Outs. -/
def newN (id : Ab.Id) (outs : List Out) (k : Nat) : List Coin := (outs.take k).zipIdx.map fun x => ⟨⟨id, (x.2 : Int)⟩, x.1⟩
theorem newN_len {id : Ab.Id} {outs : List Out} {k : Nat} (h : k ≤ outs.length) : (newN id outs k).length = k := by simp [newN]; omega
theorem newN_succ {id : Ab.Id} {outs : List Out} {k : Nat} {o : Out} (h : outs[k]? = some o) (p : List Coin) : p ++ newN id outs k ++ [⟨⟨id, (k : Int)⟩, o⟩] = p ++ newN id outs (k + 1) := by
  have hk := (List.getElem?_eq_some_iff.1 h).1
  unfold newN
  rw [List.take_add_one, h, List.zipIdx_append, List.map_append, List.append_assoc]
  simp
  omega
def madeOf (p : List Coin) (t : Tx) : List Coin × Int := if (p.any fun c => decide (c.inn.tx = idOf t)) = true then ([], 10) else (sortC (p ++ newN (idOf t) t.outs t.outs.length), 0)

theorem made_ok (p : List Coin) (t : Tx) (hp : p.length ≤ 48) (hto : t.outs.length ≤ 3) (hd : (p.any fun c => decide (c.inn.tx = idOf t)) = false → Apart (p ++ newN (idOf t) t.outs t.outs.length)) : TellsM P 31 (.row 50 coinT p) [.own 0, .val txT t] (.tup2 (.fresh 50 coinT (madeOf p t).1) (.val i64T (madeOf p t).2)) (.none_) := by
  refine fnm_of_aw trivial Try.func31 rfl rfl ⟨Nat.one_pos, ⟨trivial, trivial⟩⟩ (fun ext pg w hext hgr => ?_)
  refine aw_factrow (n := 0) rfl (fun hrl => ?_)
  refine aw_seq ?_
  refine aw_region ?_
  refine aw_box rfl rfl rfl rfl rfl ?_
  refine aw_g (g_ml (.inr rfl) rfl) rfl rfl rfl ?_
  refine aw_g (g_mv (.inr rfl) rfl) rfl rfl rfl ?_
  refine aw_nil ?_
  refine aw_seq ?_
  refine aw_region ?_
  refine aw_g (g_load_b rfl rfl rfl (Lens.self _) ty_26) rfl rfl rfl ?_
  refine aw_g (g_call (id_ok t) rfl fn_24 ⟨(arg_v rfl), trivial⟩ rfl) rfl rfl rfl ?_
  refine aw_alloc ze_40 rfl rfl rfl rfl ?_
  refine aw_store_b rfl rfl rfl rfl rfl (Lens.self _) ty_40 rfl ?_
  refine aw_nil ?_
  refine aw_seq ?_
  refine aw_seq ?_
  refine aw_region ?_
  refine aw_g (g_mo (.inl rfl) rfl) rfl rfl rfl ?_
  refine aw_g (g_mkf (caps := [_]) rfl rfl) rfl rfl rfl ?_
  refine aw_g (g_call (containsFuncCoin _ _) rfl fn_54 ⟨(arg_own rfl rfl), (by first | exact arg_fn1 (Cs := [_]) rfl fn_55 (by intro n hn; simp only [List.mem_cons, List.not_mem_nil, or_false] at hn; rcases hn with rfl <;> exact ⟨_, _, _, _, rfl⟩) ⟨(by exact arg_cap rfl), trivial⟩ rfl (fun x => made1_ok _ x) | exact arg_fn2 (Cs := [_]) rfl fn_55 (by intro n hn; simp only [List.mem_cons, List.not_mem_nil, or_false] at hn; rcases hn with rfl <;> exact ⟨_, _, _, _, rfl⟩) ⟨(by exact arg_cap rfl), trivial⟩ rfl (fun x y => made1_ok _ x) | exact arg_clo rfl), trivial⟩ rfl) rfl rfl rfl ?_
  refine aw_nil ?_
  refine aw_ifc (p := (p.any fun c => decide (c.inn.tx = idOf t)) = true) rfl (Bool.decide_eq_true.symm) (fun ht13 => ?_) (fun ht13 => ?_)
  · skip
    refine aw_seq ?_
    refine aw_region ?_
    refine aw_g (g_ml (.inr rfl) rfl) rfl rfl rfl ?_
    refine aw_g (g_mv (.inr rfl) rfl) rfl rfl rfl ?_
    refine aw_nil ?_
    exact aw_retm2 rfl rfl rfl rfl rfl give_none (by unfold madeOf; rw [if_pos ht13]; exact retm_fresh_nil rfl) (retm_eq give_none rfl (by unfold madeOf; rw [if_pos ht13]))
  · skip
    have hnot : (p.any fun c => decide (c.inn.tx = idOf t)) = false := by simpa using ht13
    refine aw_skip ?_
    refine aw_seq ?_
    refine aw_seq ?_
    refine aw_region ?_
    refine aw_g (g_fa_p rfl rfl fd_26_1 rfl) rfl rfl rfl ?_
    refine aw_g (g_load_b rfl rfl rfl L_Tx_outs ty_24) rfl rfl rfl ?_
    refine aw_g (g_len rfl rfl isl_24) rfl rfl rfl ?_
    refine aw_g (g_mv (.inl rfl) rfl) rfl rfl rfl ?_
    refine aw_nil ?_
    refine aw_block ?_
    refine aw_ren 0 3 4 rfl rfl rfl rfl rfl rfl ?_
    refine aw_rerow (n := 3) (y := p ++ newN (idOf t) t.outs 0) rfl (by simp [newN]) ?_
    refine aw_loopI (ι := Nat) 4 rfl (fun (k : Nat) => ((((((Fr.none).set 0 (.own 3)).set 3 (.ptr 1 0)).set 6 (.ptr 2 0)).set 15 (.val (sl outT) t.outs)).set 16 (.val i64T (t.outs.length : Int))).set 17 (.val i64T (k : Int))) (fun (k : Nat) => (((Hp.none).set 1 (.box 26 txT t)).set 2 (.box 40 idT (idOf t))).set 3 (.row 50 coinT (p ++ newN (idOf t) t.outs k))) (fun (k : Nat) => k ≤ t.outs.length) (fun (k : Nat) => t.outs.length - k) (0) (Nat.zero_le _) (by (repeat refine Fr.le_set ?_ (by first | rfl | (simp; done))); exact Fr.le_none _) (by (repeat refine Hp.le_set ?_ rfl); exact Hp.le_none _) (by (repeat refine Fr.below_setB ?_ rfl); exact Fr.below_none _) (by (repeat refine Hp.below_set ?_ (by decide)); exact Hp.below_none _) ?_
    intro k hinv
    refine aw_seq ?_
    refine aw_region ?_
    refine aw_g (g_lss rfl rfl rfl rfl) rfl rfl rfl ?_
    refine aw_nil ?_
    refine aw_seq ?_
    refine aw_ifc (p := k < t.outs.length) rfl (by first | rfl | (rw [decide_eq_decide]; simp only [IntL.toI, id_eq]; omega) | (simp [IntL.toI]; done) | (simp [IntL.toI]; omega)) (fun ht18 => ?_) (fun ht18 => ?_)
    · skip
      obtain ⟨o, ho⟩ : ∃ o, t.outs[k]? = some o := ⟨_, List.getElem?_eq_getElem ht18⟩
      have hnl := newN_len (id := idOf t) hinv
      refine aw_skip ?_
      refine aw_seq ?_
      refine aw_block ?_
      refine aw_seq ?_
      refine aw_region ?_
      refine aw_g (g_mv (.inl rfl) rfl) rfl rfl rfl ?_
      refine aw_g (g_ia_n rfl rfl rfl sl_24 (by assumption)) rfl rfl rfl ?_
      refine aw_g (g_load_r rfl rfl ty_48) rfl rfl rfl ?_
      refine aw_alloc ze_48 rfl rfl rfl rfl ?_
      refine aw_g (g_mv (.inr rfl) rfl) rfl rfl rfl ?_
      refine aw_store_b rfl rfl rfl rfl rfl (Lens.self _) ty_48 rfl ?_
      refine aw_nil ?_
      refine aw_region ?_
      refine aw_g (g_mo (.inl rfl) rfl) rfl rfl rfl ?_
      refine aw_g (g_load_b rfl rfl rfl (Lens.self _) ty_40) rfl rfl rfl ?_
      refine aw_g (g_mv (.inl rfl) rfl) rfl rfl rfl ?_
      refine aw_g (g_build rfl ze_42 bd_42 (.cons fd_42_0 L_In_tx ty_40 rfl (.cons fd_42_1 L_In_i ty_3 rfl .nil)) rfl) rfl rfl rfl ?_
      refine aw_g (g_load_b rfl rfl rfl (Lens.self _) ty_48) rfl rfl rfl ?_
      refine aw_g (g_build rfl ze_50 bd_50 (.cons fd_50_0 L_Coin_inn ty_42 rfl (.cons fd_50_1 L_Coin_out ty_48 rfl .nil)) rfl) rfl rfl rfl ?_
      refine aw_g (g_bslice (T := coinT) (xs := [_]) rfl sl_22 row_22 ⟨rfl, rfl, trivial⟩ rfl rfl) rfl rfl rfl ?_
      refine aw_append rfl rfl rfl rfl rfl rfl rfl row_22 (by simp only [List.length_append, List.length_cons, List.length_nil, hnl]; omega) ?_
      refine aw_g (g_mo (.inr rfl) rfl) rfl rfl rfl ?_
      refine aw_nil ?_
      refine aw_inBlock ?_
      refine aw_region ?_
      refine aw_g (by first | exact g_add rfl rfl rfl (wrap_eq (by first | omega | (simp; omega))) | exact g_add rfl rfl rfl rfl) rfl rfl rfl ?_
      refine aw_g (g_mv (.inl rfl) rfl) rfl rfl rfl ?_
      refine aw_nil ?_
      refine aw_ren 5 3 6 rfl rfl rfl rfl rfl rfl ?_
      refine aw_rerow (n := 3) rfl (newN_succ ho p) ?_
      exact aw_next (k + 1) (by omega) (by omega) rfl (by (repeat refine Fr.le_set ?_ (by first | rfl | (simp; done))); exact Fr.le_none _) (by (repeat refine Hp.le_set ?_ rfl); exact Hp.le_none _) (by (repeat refine Fr.below_setB ?_ rfl); exact Fr.below_none _) (by (repeat refine Hp.below_set ?_ (by decide)); exact Hp.below_none _)
    · skip
      obtain rfl : k = t.outs.length := (by omega)
      refine aw_exit rfl ?_
      refine aw_seq ?_
      refine aw_region ?_
      refine aw_g (g_mo (.inl rfl) rfl) rfl rfl rfl ?_
      refine aw_callu (sort_ok _ (hd hnot) (by rw [List.length_append, newN_len (Nat.le_refl _)]; omega)) rfl fn_56 rfl trivial trivial rfl ⟨(by first | exact argm_own rfl | exact argm_ptr rfl | exact argm_same rfl | exact argm_bsl rfl | exact argm_lit rfl | exact argm_clo rfl | exact argm_row rfl rfl (by decide)), (by first | exact argm_own rfl | exact argm_ptr rfl | exact argm_same rfl | exact argm_bsl rfl | exact argm_lit rfl | exact argm_clo rfl | exact argm_row rfl rfl (by decide)), trivial⟩ rfl rfl rfl ?_
      refine aw_nil ?_
      refine aw_seq ?_
      refine aw_region ?_
      refine aw_g (g_mo (.inl rfl) rfl) rfl rfl rfl ?_
      refine aw_g (g_mo (.inr rfl) rfl) rfl rfl rfl ?_
      refine aw_g (g_mv (.inr rfl) rfl) rfl rfl rfl ?_
      refine aw_nil ?_
      exact aw_retm2 rfl rfl rfl rfl rfl give_none (retm_fresh give_none (fun h => False.elim h) rfl rfl (by unfold madeOf; rw [if_neg ht13])) (retm_eq give_none rfl (by unfold madeOf; rw [if_neg ht13]))

end Go.Proofs.Ytmfgemnmelbflaa
