/- Layers 1 and 4: words, bytes of numbers, rows of bytes. -/
import Derived.Test.YtmfgemnmelbflaaPurse3
set_option maxRecDepth 20000
namespace Go.Proofs.Ytmfgemnmelbflaa
set_option linter.unusedVariables false
set_option linter.unusedSimpArgs false
open Go.Ab Go.RowKit

/-- A word turned to the left. -/
def rotl (x : UInt32) (n : Int) : UInt32 := shl32 x ((u64OfI n) &&& 31).toNat ||| shr32 x (32 - ((u64OfI n) &&& 31)).toNat

theorem rotl_ok (x : UInt32) (n : Int) : Tells P 104 [.val u32T x, .val i64T n] (.val u32T (rotl x n)) := by
  refine fn_of_aw Try.func104 rfl rfl rfl (fun ext w hext => ?_)
  refine aw_fact (d := 1) rfl fact_int (fun hin1 => ?_)
  refine aw_seq ?_
  refine aw_region ?_
  refine aw_g (g_mv (.inr rfl) rfl) rfl rfl rfl ?_
  refine aw_nil ?_
  refine aw_seq ?_
  refine aw_region ?_
  refine aw_g (g_mv (.inl rfl) rfl) rfl rfl rfl ?_
  refine aw_g (g_cv64 rfl (ui_98) (us_3) rfl) rfl rfl rfl ?_
  refine aw_g (g_and64 rfl rfl rfl) rfl rfl rfl ?_
  refine aw_g (g_mv (.inr rfl) rfl) rfl rfl rfl ?_
  refine aw_nil ?_
  refine aw_seq ?_
  refine aw_region ?_
  refine aw_g (g_mv (.inl rfl) rfl) rfl rfl rfl ?_
  refine aw_g (g_mv (.inl rfl) rfl) rfl rfl rfl ?_
  refine aw_g (g_shl32 rfl rfl rfl (by first | decide | (simp [IntL.toI]; done) | (simp [IntL.toI]; omega)) rfl) rfl rfl rfl ?_
  refine aw_g (g_mv (.inl rfl) rfl) rfl rfl rfl ?_
  refine aw_g (g_mv (.inl rfl) rfl) rfl rfl rfl ?_
  refine aw_g (g_sub64 rfl rfl rfl) rfl rfl rfl ?_
  refine aw_g (g_shr32 rfl rfl rfl (by first | decide | (simp [IntL.toI]; done) | (simp [IntL.toI]; omega)) rfl) rfl rfl rfl ?_
  refine aw_g (g_or32 rfl rfl rfl) rfl rfl rfl ?_
  refine aw_g (g_mv (.inr rfl) rfl) rfl rfl rfl ?_
  refine aw_nil ?_
  exact aw_ret1 rfl rfl (ret_eq rfl rfl)

theorem right_ok (x : UInt32) (n : Int) : Tells P 95 [.val u32T x, .val i64T n] (.val u32T (rotl x (IntKind.i64.wrap (0 - n)))) := by
  refine fn_of_aw Try.func95 rfl rfl rfl (fun ext w hext => ?_)
  refine aw_fact (d := 1) rfl fact_int (fun hin1 => ?_)
  refine aw_seq ?_
  refine aw_region ?_
  refine aw_g (g_mv (.inr rfl) rfl) rfl rfl rfl ?_
  refine aw_nil ?_
  refine aw_seq ?_
  refine aw_region ?_
  refine aw_g (g_mv (.inl rfl) rfl) rfl rfl rfl ?_
  refine aw_g (g_mv (.inl rfl) rfl) rfl rfl rfl ?_
  refine aw_g (g_neg rfl rfl rfl) rfl rfl rfl ?_
  refine aw_g (g_call (rotl_ok _ _) rfl fn_104 ⟨(arg_v rfl), (arg_v rfl), trivial⟩ rfl) rfl rfl rfl ?_
  refine aw_g (g_mv (.inr rfl) rfl) rfl rfl rfl ?_
  refine aw_nil ?_
  exact aw_ret1 rfl rfl (ret_eq rfl rfl)

/-- The numbers of the rounds. -/
def shaK : List UInt32 := [1116352408, 1899447441, 3049323471, 3921009573, 961987163, 1508970993, 2453635748, 2870763221, 3624381080, 310598401, 607225278, 1426881987, 1925078388, 2162078206, 2614888103, 3248222580, 3835390401, 4022224774, 264347078, 604807628, 770255983, 1249150122, 1555081692, 1996064986, 2554220882, 2821834349, 2952996808, 3210313671, 3336571891, 3584528711, 113926993, 338241895, 666307205, 773529912, 1294757372, 1396182291, 1695183700, 1986661051, 2177026350, 2456956037, 2730485921, 2820302411, 3259730800, 3345764771, 3516065817, 3600352804, 4094571909, 275423344, 430227734, 506948616, 659060556, 883997877, 958139571, 1322822218, 1537002063, 1747873779, 1955562222, 2024104815, 2227730452, 2361852424, 2428436474, 2756734187, 3204031479, 3329325298]
/-- The bytes of a number, the highest first. -/
def numBytes (n : UInt64) (size : Nat) : List UInt8 := (List.range size).map fun j => u8OfI (IntL.toI u64T (shr64 n (8 * (size - 1 - j))))
theorem numBytes_step {n : UInt64} {size k : Nat} {l : List UInt8} (hk : k < size) (hl : l.length = size) (h : ∀ j, size - k ≤ j → j < size → l[j]? = (numBytes n size)[j]?) : ∀ j, size - (k + 1) ≤ j → j < size → (l.set (size - 1 - k) (u8OfI (IntL.toI u64T (shr64 n (8 * k)))))[j]? = (numBytes n size)[j]? := fun j h1 h2 => by
  rw [List.getElem?_set]
  by_cases c : size - 1 - k = j
  · rw [if_pos c, if_pos (by omega)]
    unfold numBytes
    rw [List.getElem?_map, List.getElem?_range h2, Option.map_some]
    congr 4; omega
  · rw [if_neg c]; exact h j (by omega) h2
theorem numBytes_all {n : UInt64} {size : Nat} {l : List UInt8} (hl : l.length = size) (h : ∀ j, size - size ≤ j → j < size → l[j]? = (numBytes n size)[j]?) : l = numBytes n size := by
  apply List.ext_getElem?
  intro j
  by_cases c : j < size
  · exact h j (by omega) c
  · rw [List.getElem?_eq_none (by omega), List.getElem?_eq_none (by unfold numBytes; simp; omega)]

theorem numbers_ok : Tells P 96 [] (.val (arrT 64 (by decide) u32T) shaK) := by
  refine fn_of_aw Try.func96 rfl rfl rfl (fun ext w hext => ?_)
  refine aw_seq ?_
  refine aw_region ?_
  refine aw_alloc ze_127 rfl rfl rfl rfl ?_
  refine aw_nil ?_
  refine aw_seq ?_
  refine aw_region ?_
  refine aw_g (g_buildA (T := u32T) (xs := [_, _, _, _, _, _, _, _, _, _, _, _, _, _, _, _, _, _, _, _, _, _, _, _, _, _, _, _, _, _, _, _, _, _, _, _, _, _, _, _, _, _, _, _, _, _, _, _, _, _, _, _, _, _, _, _, _, _, _, _, _, _, _, _]) rfl ar_127 ze_127 ⟨rfl, rfl, rfl, rfl, rfl, rfl, rfl, rfl, rfl, rfl, rfl, rfl, rfl, rfl, rfl, rfl, rfl, rfl, rfl, rfl, rfl, rfl, rfl, rfl, rfl, rfl, rfl, rfl, rfl, rfl, rfl, rfl, rfl, rfl, rfl, rfl, rfl, rfl, rfl, rfl, rfl, rfl, rfl, rfl, rfl, rfl, rfl, rfl, rfl, rfl, rfl, rfl, rfl, rfl, rfl, rfl, rfl, rfl, rfl, rfl, rfl, rfl, rfl, rfl, rfl, rfl, rfl, rfl, rfl, rfl, rfl, rfl, rfl, rfl, rfl, rfl, rfl, rfl, rfl, rfl, rfl, rfl, rfl, rfl, rfl, rfl, rfl, rfl, rfl, rfl, rfl, rfl, rfl, rfl, rfl, rfl, rfl, rfl, rfl, rfl, rfl, rfl, rfl, rfl, rfl, rfl, rfl, rfl, rfl, rfl, rfl, rfl, rfl, rfl, rfl, rfl, rfl, rfl, rfl, rfl, rfl, rfl, rfl, rfl, rfl, rfl, rfl, rfl, trivial⟩ rfl) rfl rfl rfl ?_
  refine aw_store_b rfl rfl rfl rfl rfl (Lens.self _) ty_127 rfl ?_
  refine aw_nil ?_
  exact aw_retc1 rfl rfl rfl rfl ty_127 (rfl)

theorem binPut_ok (n : UInt64) (size : Nat) (hs : size ≤ 8) : Tells P 65 [.val u64T n, .val i64T (size : Int)] (.fresh 5 u8T (numBytes n size)) := by
  refine fn_of_aw Try.func65 rfl rfl rfl (fun ext w hext => ?_)
  refine aw_fact (d := 1) rfl fact_int (fun hin1 => ?_)
  refine aw_seq ?_
  refine aw_region ?_
  refine aw_g (g_ml (.inr rfl) rfl) rfl rfl rfl ?_
  refine aw_nil ?_
  refine aw_seq ?_
  refine aw_seq ?_
  refine aw_region ?_
  refine aw_g (g_mv (.inl rfl) rfl) rfl rfl rfl ?_
  refine aw_g (g_lss rfl rfl rfl rfl) rfl rfl rfl ?_
  refine aw_g (g_mv (.inl rfl) rfl) rfl rfl rfl ?_
  refine aw_isf (d := 9) rfl (decide_eq_false (by show ¬ ((size : Int) < 0); omega)) ?_
  refine aw_gi (g_mv (.inl rfl) rfl) rfl rfl rfl rfl rfl rfl rfl rfl ?_
  refine aw_gi (g_gtr rfl rfl rfl rfl) rfl rfl rfl rfl rfl rfl rfl rfl ?_
  refine aw_g (g_pick rfl rfl rfl) rfl rfl rfl ?_
  refine aw_isf (d := 12) rfl (decide_eq_false (by show ¬ ((8 : Int) < (size : Int)); omega)) ?_
  refine aw_nil ?_
  refine aw_if_f rfl (rfl) ?_
  refine aw_skip ?_
  refine aw_seq ?_
  refine aw_region ?_
  refine aw_g (g_mv (.inl rfl) rfl) rfl rfl rfl ?_
  refine aw_mks (T := u8T) (n := size) rfl rfl rfl rfl rfl rfl (by first | omega | rfl) (by first | omega | rfl) row_71 ze_5 ⟨by omega, by omega, (show (size) * 1 ≤ 16777216 by omega)⟩ ?_
  refine aw_g (g_mo (.inr rfl) rfl) rfl rfl rfl ?_
  refine aw_nil ?_
  refine aw_seq ?_
  refine aw_seq ?_
  refine aw_region ?_
  refine aw_g (g_mv (.inl rfl) rfl) rfl rfl rfl ?_
  refine aw_g (g_mv (.inl rfl) rfl) rfl rfl rfl ?_
  refine aw_nil ?_
  refine aw_block ?_
  refine aw_loopI (ι := Nat × List UInt8) 1 rfl (fun (i : Nat × List UInt8) => match i with | (k, l) => (((((Fr.none).set 0 (.val u64T n)).set 1 (.val i64T (size : Int))).set 5 (.own 0)).set 15 (.val i64T (size : Int))).set 16 (.val i64T (k : Int))) (fun (i : Nat × List UInt8) => match i with | (k, l) => (Hp.none).set 0 (.row 5 u8T l)) (fun (i : Nat × List UInt8) => match i with | (k, l) => k ≤ size ∧ l.length = size ∧ ∀ j, size - k ≤ j → j < size → l[j]? = (numBytes n size)[j]?) (fun (i : Nat × List UInt8) => match i with | (k, l) => size - k) ((0, List.replicate size 0)) (⟨Nat.zero_le _, by simp, fun j h1 h2 => by omega⟩) (by (repeat refine Fr.le_set ?_ (by first | rfl | (simp; done))); exact Fr.le_none _) (by (repeat refine Hp.le_set ?_ rfl); exact Hp.le_none _) (by (repeat refine Fr.below_setB ?_ rfl); exact Fr.below_none _) (by (repeat refine Hp.below_set ?_ (by decide)); exact Hp.below_none _) ?_
  intro ⟨k, l⟩ hinv
  dsimp only at hinv
  refine aw_seq ?_
  refine aw_region ?_
  refine aw_g (g_lss rfl rfl rfl rfl) rfl rfl rfl ?_
  refine aw_nil ?_
  refine aw_seq ?_
  refine aw_ifc (p := k < size) rfl (by first | rfl | (rw [decide_eq_decide]; simp only [IntL.toI, id_eq]; omega) | (simp [IntL.toI]; done) | (simp [IntL.toI]; omega)) (fun ht17 => ?_) (fun ht17 => ?_)
  · skip
    obtain ⟨x, hx⟩ : ∃ x, l[size - 1 - k]? = some x := ⟨_, List.getElem?_eq_getElem (by omega)⟩
    refine aw_skip ?_
    refine aw_seq ?_
    refine aw_block ?_
    refine aw_seq ?_
    refine aw_region ?_
    refine aw_g (g_mv (.inl rfl) rfl) rfl rfl rfl ?_
    refine aw_g (g_mv (.inr rfl) rfl) rfl rfl rfl ?_
    refine aw_nil ?_
    refine aw_region ?_
    refine aw_g (g_mo (.inl rfl) rfl) rfl rfl rfl ?_
    refine aw_g (g_mv (.inl rfl) rfl) rfl rfl rfl ?_
    refine aw_g (by first | exact g_sub rfl rfl rfl (wrap_eq (by first | omega | (simp; omega))) | exact g_sub rfl rfl rfl rfl) rfl rfl rfl ?_
    refine aw_g (g_mv (.inl rfl) rfl) rfl rfl rfl ?_
    refine aw_g (by first | exact g_sub rfl rfl rfl (wrap_eq (by first | omega | (simp; omega))) | exact g_sub rfl rfl rfl rfl) rfl rfl rfl ?_
    refine aw_g (g_mv (.inl rfl) rfl) rfl rfl rfl ?_
    refine aw_g (g_mv (.inl rfl) rfl) rfl rfl rfl ?_
    refine aw_g (by first | exact g_mul rfl rfl rfl (wrap_eq (by first | omega | (simp; omega))) | exact g_mul rfl rfl rfl rfl) rfl rfl rfl ?_
    refine aw_g (g_shr64 rfl rfl rfl (by first | decide | (simp [IntL.toI]; done) | (simp [IntL.toI]; omega)) rfl) rfl rfl rfl ?_
    refine aw_g (g_cv8 rfl (ui_5) (us_93) rfl) rfl rfl rfl ?_
    refine aw_g (g_ia_o (i := size - 1 - k) rfl rfl rfl rfl (by first | omega | rfl) sl_71 (by first | assumption | omega | (simp; omega))) rfl rfl rfl ?_
    refine aw_store_e rfl rfl rfl rfl rfl rfl (by assumption) (Lens.self _) ty_5 rfl ?_
    refine aw_nil ?_
    refine aw_inBlock ?_
    refine aw_region ?_
    refine aw_g (by first | exact g_add rfl rfl rfl (wrap_eq (by first | omega | (simp; omega))) | exact g_add rfl rfl rfl rfl) rfl rfl rfl ?_
    refine aw_g (g_mv (.inl rfl) rfl) rfl rfl rfl ?_
    refine aw_nil ?_
    exact aw_next ((k + 1, l.set (size - 1 - k) (u8OfI (IntL.toI u64T (shr64 n (8 * k)))))) (⟨by omega, by simp; exact hinv.2.1, numBytes_step ht17 hinv.2.1 hinv.2.2⟩) (by show _ < size - k; simp only []; omega) rfl (by (repeat refine Fr.le_set ?_ (by first | rfl | (simp; done))); exact Fr.le_none _) (by (repeat refine Hp.le_set ?_ rfl); exact Hp.le_none _) (by (repeat refine Fr.below_setB ?_ rfl); exact Fr.below_none _) (by (repeat refine Hp.below_set ?_ (by decide)); exact Hp.below_none _)
  · skip
    refine aw_exit rfl ?_
    refine aw_seq ?_
    refine aw_region ?_
    refine aw_g (g_mo (.inl rfl) rfl) rfl rfl rfl ?_
    refine aw_g (g_mo (.inr rfl) rfl) rfl rfl rfl ?_
    refine aw_nil ?_
    exact aw_ret1 rfl rfl (ret_fresh_eq rfl rfl (numBytes_all hinv.2.1 (by rw [show k = size by omega] at hinv; exact hinv.2.2)))

end Go.Proofs.Ytmfgemnmelbflaa
