/- The document's sum of bytes, its bytes of numbers and of a transaction, its Id. -/
import Derived.Test.YtmfgemnmelbflaaRefSha
import Derived.Test.YtmfgemnmelbflaaRefA
set_option maxRecDepth 20000
namespace Go.Proofs.Ytmfgemnmelbflaa
set_option linter.unusedVariables false
set_option linter.unusedSimpArgs false
open Go.Ab Go.RowKit

theorem low8 (x : UInt64) : u8OfI (IntL.toI u64T (x % 256)) = u8OfI (IntL.toI u64T x) := by
  unfold u8OfI
  show UInt8.ofNat (((x % 256).toNat : Int) % 256).toNat = UInt8.ofNat ((x.toNat : Int) % 256).toNat
  rw [UInt64.toNat_mod]
  congr 1
  have : (256 : UInt64).toNat = 256 := rfl
  rw [this]; omega
theorem low8w (x : UInt32) : u8OfI (IntL.toI u32T (x % 256)) = u8OfI (IntL.toI u32T x) := by
  unfold u8OfI
  show UInt8.ofNat (((x % 256).toNat : Int) % 256).toNat = UInt8.ofNat ((x.toNat : Int) % 256).toNat
  rw [UInt32.toNat_mod]
  congr 1
  have : (256 : UInt32).toNat = 256 := rfl
  rw [this]; omega
theorem shr64_nat (x : UInt64) {m : Nat} (h : m ≤ 64) : (shr64 x m).toNat = x.toNat / 2 ^ m := by
  have hx : x.toNat < 18446744073709551616 := x.toNat_lt
  unfold shr64
  rw [UInt64.toNat_ofNat_of_lt' (Nat.lt_of_le_of_lt (Nat.div_le_self _ _) hx), Nat.min_eq_left h]
theorem shr_zero (x : UInt64) : x = shr64 x (8 * 0) := by
  apply UInt64.toNat_inj.1
  rw [shr64_nat x (by decide)]; simp
theorem shr_step {x : UInt64} {k : Nat} (h : k < 8) : shr64 x (8 * k) / 256 = shr64 x (8 * (k + 1)) := by
  apply UInt64.toNat_inj.1
  rw [UInt64.toNat_div, shr64_nat x (by omega), shr64_nat x (by omega), Nat.mul_add, Nat.pow_add, ← Nat.div_div_eq_div_mul]
  rfl
def byN (k : Nat) : UInt64 := shr64 72057594037927936 (8 * k)
theorem byN_nat : ∀ k : Nat, k < 8 → (byN k).toNat = 2 ^ (8 * (7 - k)) := by decide +kernel
theorem byN_ne {k : Nat} (h : k < 8) : (byN k).toNat ≠ 0 := by
  rw [byN_nat k h]
  exact Nat.ne_of_gt (Nat.two_pow_pos _)
theorem div_by {x : UInt64} {k : Nat} (h : k < 8) : u8OfI (IntL.toI u64T (x / byN k % 256)) = u8OfI (IntL.toI u64T (shr64 x (8 * (8 - 1 - k)))) := by
  rw [low8]
  congr 2
  apply UInt64.toNat_inj.1
  rw [UInt64.toNat_div, byN_nat k h, shr64_nat x (by omega)]
theorem mul8 (n : Int) : u64OfI (IntL.toI i64T (8 * n)) = 8 * u64OfI (IntL.toI i64T n) := by
  apply UInt64.toNat_inj.1
  unfold u64OfI
  show (UInt64.ofNat ((8 * n) % 18446744073709551616).toNat).toNat = (8 * UInt64.ofNat (n % 18446744073709551616).toNat).toNat
  rw [UInt64.toNat_mul, UInt64.toNat_ofNat_of_lt' (by show _ < 18446744073709551616; omega), UInt64.toNat_ofNat_of_lt' (by show _ < 18446744073709551616; omega)]
  show _ = 8 * _ % 18446744073709551616
  omega
theorem numBytes_take {x : UInt64} {k : Nat} (h : k < 8) : (numBytes x 8).take k ++ [u8OfI (IntL.toI u64T (x / byN k % 256))] = (numBytes x 8).take (k + 1) := by
  rw [List.take_add_one, div_by h]
  unfold numBytes
  rw [List.getElem?_map, List.getElem?_range h]; rfl
theorem flat_take {α : Type} {k : Nat} (ls : List (List α)) : (ls.take k).flatten.length ≤ ls.flatten.length := by
  conv => rhs; rw [← List.take_append_drop k ls, List.flatten_append, List.length_append]
  omega
theorem flat_succ {α : Type} {k : Nat} {ls : List (List α)} {x : List α} (h : ls[k]? = some x) : (ls.take (k + 1)).flatten = (ls.take k).flatten ++ x := by
  rw [List.take_add_one, h, List.flatten_append]; simp
theorem shr32_of {v : UInt32} {m : Nat} {c : UInt32} (h : m ≤ 32) (hc : c.toNat = 2 ^ m) : v / c = shr32 v m := by
  have hx : v.toNat < 4294967296 := v.toNat_lt
  apply UInt32.toNat_inj.1
  unfold shr32
  rw [UInt32.toNat_div, hc, UInt32.toNat_ofNat_of_lt' (Nat.lt_of_le_of_lt (Nat.div_le_self _ _) hx), Nat.min_eq_left h]
theorem shr32_zero (v : UInt32) : v = shr32 v 0 := by
  have hx : v.toNat < 4294967296 := v.toNat_lt
  apply UInt32.toNat_inj.1
  unfold shr32
  rw [UInt32.toNat_ofNat_of_lt' (Nat.lt_of_le_of_lt (Nat.div_le_self _ _) hx)]; simp
theorem out_byte {V : List UInt32} {k j : Nat} {v : UInt32} (hv : V[k]? = some v) (hj : j < 4) : shaByte V (4 * k + j) = u8OfI (IntL.toI u32T (shr32 v (24 - 8 * j))) := by
  unfold shaByte
  rw [show (4 * k + j) / 4 = k by omega, show (4 * k + j) % 4 = j by omega, List.getD_eq_getElem?_getD, hv]; rfl
theorem out4 {V : List UInt32} {k : Nat} {v : UInt32} (hv : V[k]? = some v) : ((((shaOut V (4 * k)).set (4 * k) (u8OfI (IntL.toI u32T (v / 16777216)))).set (4 * k + 1) (u8OfI (IntL.toI u32T (v / 65536 % 256)))).set (4 * k + 2) (u8OfI (IntL.toI u32T (v / 256 % 256)))).set (4 * k + 3) (u8OfI (IntL.toI u32T (v % 256))) = shaOut V (4 * (k + 1)) := by
  rw [low8w, low8w, low8w, shr32_of (m := 24) (by decide) rfl, shr32_of (m := 16) (by decide) rfl, shr32_of (m := 8) (by decide) rfl]
  have e0 := out_byte hv (j := 0) (by decide)
  have e1 := out_byte hv (j := 1) (by decide)
  have e2 := out_byte hv (j := 2) (by decide)
  have e3 := out_byte hv (j := 3) (by decide)
  have z : u8OfI (IntL.toI u32T v) = u8OfI (IntL.toI u32T (shr32 v 0)) := by rw [← shr32_zero v]
  have s0 : (shaOut V (4 * k)).set (4 * k) (u8OfI (IntL.toI u32T (shr32 v 24))) = shaOut V (4 * k + 1) := shaOut_succ e0.symm
  have s1 : (shaOut V (4 * k + 1)).set (4 * k + 1) (u8OfI (IntL.toI u32T (shr32 v 16))) = shaOut V (4 * k + 2) := shaOut_succ e1.symm
  have s2 : (shaOut V (4 * k + 2)).set (4 * k + 2) (u8OfI (IntL.toI u32T (shr32 v 8))) = shaOut V (4 * k + 3) := shaOut_succ e2.symm
  have s3 : (shaOut V (4 * k + 3)).set (4 * k + 3) (u8OfI (IntL.toI u32T (shr32 v 0))) = shaOut V (4 * k + 4) := shaOut_succ e3.symm
  rw [z, s0, s1, s2, s3]; rfl

theorem rbin_ok (n : UInt64) (size : Nat) (hs : size ≤ 8) : Tells P 72 [.val u64T n, .val i64T (size : Int)] (.fresh 5 u8T (numBytes n size)) := by
  refine fn_of_aw Try.func72 rfl rfl rfl (fun ext w hext => ?_)
  refine aw_fact (d := 1) rfl fact_int (fun hin1 => ?_)
  refine aw_seq ?_
  refine aw_region ?_
  refine aw_g (g_ml (.inr rfl) rfl) rfl rfl rfl ?_
  refine aw_nil ?_
  refine aw_seq ?_
  refine aw_seq ?_
  refine aw_region ?_
  refine aw_g (g_mv (.inl rfl) rfl) rfl rfl rfl ?_
  refine aw_g (g_lss rfl rfl rfl rfl) rfl rfl rfl ?_
  refine aw_isf (d := 8) rfl (decide_eq_false (by show ¬ ((size : Int) < 0); omega)) ?_
  refine aw_g (g_mv (.inl rfl) rfl) rfl rfl rfl ?_
  refine aw_gi (g_mv (.inl rfl) rfl) rfl rfl rfl rfl rfl rfl rfl rfl ?_
  refine aw_gi (g_gtr rfl rfl rfl rfl) rfl rfl rfl rfl rfl rfl rfl rfl ?_
  refine aw_isf (d := 11) rfl (decide_eq_false (by show ¬ ((8 : Int) < (size : Int)); omega)) ?_
  refine aw_g (g_pick rfl rfl rfl) rfl rfl rfl ?_
  refine aw_nil ?_
  refine aw_if_f rfl (rfl) ?_
  refine aw_skip ?_
  refine aw_seq ?_
  refine aw_region ?_
  refine aw_g (g_mv (.inl rfl) rfl) rfl rfl rfl ?_
  refine aw_mks (T := u8T) (n := size) rfl rfl rfl rfl rfl rfl (by first | omega | rfl) (by first | omega | rfl) row_71 ze_5 ⟨by omega, by omega, (show (size) * 1 ≤ 16777216 by omega)⟩ ?_
  refine aw_g (g_mo (.inr rfl) rfl) rfl rfl rfl ?_
  refine aw_nil ?_
  refine aw_seq ?_
  refine aw_seq ?_
  refine aw_region ?_
  refine aw_g (g_mv (.inl rfl) rfl) rfl rfl rfl ?_
  refine aw_g (by first | exact g_sub rfl rfl rfl (wrap_eq (by first | omega | (simp; omega))) | exact g_sub rfl rfl rfl rfl) rfl rfl rfl ?_
  refine aw_g (g_mv (.inr rfl) rfl) rfl rfl rfl ?_
  refine aw_nil ?_
  refine aw_block ?_
  refine aw_reval (d := 6) (y := (size : Int) - 1 - ((0 : Nat) : Int)) rfl (by omega) ?_
  refine aw_reval (d := 0) (y := shr64 n (8 * 0)) rfl (shr_zero n) ?_
  refine aw_loopI (ι := Nat × List UInt8) 1 rfl (fun (i : Nat × List UInt8) => match i with | (k, l) => (((Fr.none).set 0 (.val u64T (shr64 n (8 * k)))).set 5 (.own 0)).set 6 (.val i64T ((size : Int) - 1 - (k : Int)))) (fun (i : Nat × List UInt8) => match i with | (k, l) => (Hp.none).set 0 (.row 5 u8T l)) (fun (i : Nat × List UInt8) => match i with | (k, l) => k ≤ size ∧ l.length = size ∧ ∀ j, size - k ≤ j → j < size → l[j]? = (numBytes n size)[j]?) (fun (i : Nat × List UInt8) => match i with | (k, l) => size - k) ((0, List.replicate size 0)) (⟨Nat.zero_le _, by simp, fun j h1 h2 => by omega⟩) (by (repeat refine Fr.le_set ?_ (by first | rfl | (simp; done))); exact Fr.le_none _) (by (repeat refine Hp.le_set ?_ rfl); exact Hp.le_none _) (by (repeat refine Fr.below_setB ?_ rfl); exact Fr.below_none _) (by (repeat refine Hp.below_set ?_ (by decide)); exact Hp.below_none _) ?_
  intro ⟨k, l⟩ hinv
  dsimp only at hinv
  refine aw_seq ?_
  refine aw_seq ?_
  refine aw_region ?_
  refine aw_g (g_mv (.inl rfl) rfl) rfl rfl rfl ?_
  refine aw_g (g_geq rfl rfl rfl rfl) rfl rfl rfl ?_
  refine aw_nil ?_
  refine aw_ifc (p := k < size) rfl (by first | rfl | (rw [decide_eq_decide]; simp only [IntL.toI, id_eq]; omega) | (simp [IntL.toI]; done) | (simp [IntL.toI]; omega)) (fun ht18 => ?_) (fun ht18 => ?_)
  · skip
    obtain ⟨x, hx⟩ : ∃ x, l[size - 1 - k]? = some x := ⟨_, List.getElem?_eq_getElem (by omega)⟩
    refine aw_skip ?_
    refine aw_seq ?_
    refine aw_block ?_
    refine aw_seq ?_
    refine aw_region ?_
    refine aw_g (g_mo (.inl rfl) rfl) rfl rfl rfl ?_
    refine aw_g (g_mv (.inl rfl) rfl) rfl rfl rfl ?_
    refine aw_g (g_mv (.inl rfl) rfl) rfl rfl rfl ?_
    refine aw_g (g_rem64 rfl rfl rfl (by decide)) rfl rfl rfl ?_
    refine aw_g (g_cv8 rfl (ui_5) (us_93) rfl) rfl rfl rfl ?_
    refine aw_g (g_ia_o (i := size - 1 - k) rfl rfl rfl rfl (by first | omega | rfl) sl_71 (by first | assumption | omega | (simp; omega))) rfl rfl rfl ?_
    refine aw_store_e rfl rfl rfl rfl rfl rfl (by assumption) (Lens.self _) ty_5 rfl ?_
    refine aw_nil ?_
    refine aw_region ?_
    refine aw_g (g_mv (.inl rfl) rfl) rfl rfl rfl ?_
    refine aw_g (g_quo64 rfl rfl rfl (by decide)) rfl rfl rfl ?_
    refine aw_g (g_mv (.inr rfl) rfl) rfl rfl rfl ?_
    refine aw_nil ?_
    refine aw_inBlock ?_
    refine aw_region ?_
    refine aw_g (g_mv (.inl rfl) rfl) rfl rfl rfl ?_
    refine aw_g (by first | exact g_sub rfl rfl rfl (wrap_eq (by first | omega | (simp; omega))) | exact g_sub rfl rfl rfl rfl) rfl rfl rfl ?_
    refine aw_g (g_mv (.inr rfl) rfl) rfl rfl rfl ?_
    refine aw_nil ?_
    refine aw_reval (d := 0) (y := shr64 n (8 * (k + 1))) rfl (shr_step (by omega)) ?_
    refine aw_reval (d := 6) (y := (size : Int) - 1 - ((k + 1 : Nat) : Int)) rfl (by omega) ?_
    refine aw_rerow (n := 0) (y := l.set (size - 1 - k) (u8OfI (IntL.toI u64T (shr64 n (8 * k))))) rfl (congrArg (fun z => l.set (size - 1 - k) z) (low8 _)) ?_
    exact aw_next ((k + 1, l.set (size - 1 - k) (u8OfI (IntL.toI u64T (shr64 n (8 * k)))))) (⟨by omega, by simp; exact hinv.2.1, numBytes_step ht18 hinv.2.1 hinv.2.2⟩) (by show _ < size - k; simp only []; omega) rfl (by (repeat refine Fr.le_set ?_ (by first | rfl | (simp; done))); exact Fr.le_none _) (by (repeat refine Hp.le_set ?_ rfl); exact Hp.le_none _) (by (repeat refine Fr.below_setB ?_ rfl); exact Fr.below_none _) (by (repeat refine Hp.below_set ?_ (by decide)); exact Hp.below_none _)
  · skip
    refine aw_exit rfl ?_
    refine aw_seq ?_
    refine aw_region ?_
    refine aw_g (g_mo (.inl rfl) rfl) rfl rfl rfl ?_
    refine aw_g (g_mo (.inr rfl) rfl) rfl rfl rfl ?_
    refine aw_nil ?_
    exact aw_ret1 rfl rfl (ret_fresh_eq rfl rfl (numBytes_all hinv.2.1 (by rw [show k = size by omega] at hinv; exact hinv.2.2)))

theorem rpad_ok (b : List UInt8) (hb : b.length ≤ 70368744177664) : Tells P 90 [.val (bsl u8T) b] (.fresh 5 u8T (padOf b)) := by
  have hz : padZ b.length = (64 - (b.length + 9) % 64) % 64 := rfl
  refine fn_of_aw Try.func90 rfl rfl rfl (fun ext w hext => ?_)
  refine aw_fact (d := 0) rfl fact_sl (fun hsl0 => ?_)
  refine aw_seq ?_
  refine aw_region ?_
  refine aw_g (g_ml (.inr rfl) rfl) rfl rfl rfl ?_
  refine aw_nil ?_
  refine aw_seq ?_
  refine aw_region ?_
  refine aw_g (g_mv (.inl rfl) rfl) rfl rfl rfl ?_
  refine aw_append0 rfl rfl rfl rfl rfl rfl row_71 (by (try simp only [List.length_append, List.length_cons, List.length_nil, List.length_replicate, List.length_take, numBytes_len]); omega) ?_
  refine aw_g (g_mo (.inr rfl) rfl) rfl rfl rfl ?_
  refine aw_nil ?_
  refine aw_seq ?_
  refine aw_region ?_
  refine aw_g (g_mo (.inl rfl) rfl) rfl rfl rfl ?_
  refine aw_g (g_bslice (T := u8T) (xs := [_]) rfl sl_71 row_71 ⟨rfl, rfl, trivial⟩ rfl rfl) rfl rfl rfl ?_
  refine aw_append rfl rfl rfl rfl rfl rfl rfl row_71 (by (try simp only [List.length_append, List.length_cons, List.length_nil, List.length_replicate, List.length_take, numBytes_len]); omega) ?_
  refine aw_g (g_mo (.inr rfl) rfl) rfl rfl rfl ?_
  refine aw_nil ?_
  refine aw_seq ?_
  refine aw_block ?_
  refine aw_rerow (n := 1) (y := b ++ 128 :: List.replicate 0 0) rfl (by simp) ?_
  refine aw_loopI (ι := Nat) 2 rfl (fun (j : Nat) => ((Fr.none).set 0 (.val (bsl u8T) b)).set 3 (.own 1)) (fun (j : Nat) => (Hp.none).set 1 (.row 5 u8T (b ++ 128 :: List.replicate j 0))) (fun (j : Nat) => j ≤ padZ b.length) (fun (j : Nat) => padZ b.length - j) (0) (Nat.zero_le _) (by (repeat refine Fr.le_set ?_ (by first | rfl | (simp; done))); exact Fr.le_none _) (by (repeat refine Hp.le_set ?_ rfl); exact Hp.le_none _) (by (repeat refine Fr.below_setB ?_ rfl); exact Fr.below_none _) (by (repeat refine Hp.below_set ?_ (by decide)); exact Hp.below_none _) ?_
  intro j hinv
  refine aw_seq ?_
  refine aw_seq ?_
  refine aw_region ?_
  refine aw_g (g_mo (.inl rfl) rfl) rfl rfl rfl ?_
  refine aw_g (g_len_o rfl rfl rfl isl_71) rfl rfl rfl ?_
  refine aw_g (g_rem rfl rfl rfl (by first | omega | assumption) (by first | decide | omega) rfl) rfl rfl rfl ?_
  refine aw_g (g_neq rfl rfl rfl rfl) rfl rfl rfl ?_
  refine aw_nil ?_
  refine aw_ifc (p := j < padZ b.length) rfl (by simp [IntL.toI]; rw [← decide_not, decide_eq_decide]; omega) (fun ht15 => ?_) (fun ht15 => ?_)
  · skip
    refine aw_skip ?_
    refine aw_block ?_
    refine aw_region ?_
    refine aw_g (g_mo (.inl rfl) rfl) rfl rfl rfl ?_
    refine aw_g (g_bslice (T := u8T) (xs := [_]) rfl sl_71 row_71 ⟨rfl, rfl, trivial⟩ rfl rfl) rfl rfl rfl ?_
    refine aw_append rfl rfl rfl rfl rfl rfl rfl row_71 (by (try simp only [List.length_append, List.length_cons, List.length_nil, List.length_replicate, List.length_take, numBytes_len]); omega) ?_
    refine aw_g (g_mo (.inr rfl) rfl) rfl rfl rfl ?_
    refine aw_nil ?_
    refine aw_inBlock ?_
    refine aw_ren 2 1 3 rfl rfl rfl rfl rfl rfl ?_
    refine aw_rerow (n := 1) (y := b ++ 128 :: List.replicate (j + 1) 0) rfl (by rw [List.replicate_succ']; simp) ?_
    exact aw_next (j + 1) (by omega) (by omega) rfl (by (repeat refine Fr.le_set ?_ (by first | rfl | (simp; done))); exact Fr.le_none _) (by (repeat refine Hp.le_set ?_ rfl); exact Hp.le_none _) (by (repeat refine Fr.below_setB ?_ rfl); exact Fr.below_none _) (by (repeat refine Hp.below_set ?_ (by decide)); exact Hp.below_none _)
  · skip
    obtain rfl : j = padZ b.length := (by omega)
    refine aw_exit rfl ?_
    refine aw_seq ?_
    refine aw_region ?_
    refine aw_g (g_mv (.inl rfl) rfl) rfl rfl rfl ?_
    refine aw_g (g_len rfl rfl isl_71) rfl rfl rfl ?_
    refine aw_g (by first | exact g_mul rfl rfl rfl (wrap_eq (by first | omega | (simp; omega))) | exact g_mul rfl rfl rfl rfl) rfl rfl rfl ?_
    refine aw_g (g_cv64 rfl (ui_93) (us_3) rfl) rfl rfl rfl ?_
    refine aw_reval (d := 22) (y := (8 * u64OfI (IntL.toI i64T (b.length : Int)))) rfl (mul8 _) ?_
    refine aw_g (g_mv (.inr rfl) rfl) rfl rfl rfl ?_
    refine aw_nil ?_
    refine aw_seq ?_
    refine aw_region ?_
    refine aw_g (g_mv (.inr rfl) rfl) rfl rfl rfl ?_
    refine aw_nil ?_
    refine aw_seq ?_
    refine aw_seq ?_
    refine aw_region ?_
    refine aw_g (g_mv (.inr rfl) rfl) rfl rfl rfl ?_
    refine aw_nil ?_
    refine aw_block ?_
    refine aw_rerow (n := 1) (y := (b ++ 128 :: List.replicate (padZ b.length) 0) ++ (numBytes (8 * u64OfI (IntL.toI i64T (b.length : Int))) 8).take 0) rfl (by simp) ?_
    refine aw_reval (d := 5) (y := byN 0) rfl (shr_zero _) ?_
    refine aw_loopI (ι := Nat) 2 rfl (fun (k : Nat) => ((((Fr.none).set 3 (.own 1)).set 4 (.val u64T (8 * u64OfI (IntL.toI i64T (b.length : Int))))).set 5 (.val u64T (byN k))).set 6 (.val i64T (k : Int))) (fun (k : Nat) => (Hp.none).set 1 (.row 5 u8T ((b ++ 128 :: List.replicate (padZ b.length) 0) ++ (numBytes (8 * u64OfI (IntL.toI i64T (b.length : Int))) 8).take k))) (fun (k : Nat) => k ≤ 8) (fun (k : Nat) => 8 - k) (0) (Nat.zero_le _) (by (repeat refine Fr.le_set ?_ (by first | rfl | (simp; done))); exact Fr.le_none _) (by (repeat refine Hp.le_set ?_ rfl); exact Hp.le_none _) (by (repeat refine Fr.below_setB ?_ rfl); exact Fr.below_none _) (by (repeat refine Hp.below_set ?_ (by decide)); exact Hp.below_none _) ?_
    intro k hinv
    refine aw_seq ?_
    refine aw_seq ?_
    refine aw_region ?_
    refine aw_g (g_mv (.inl rfl) rfl) rfl rfl rfl ?_
    refine aw_g (g_lss rfl rfl rfl rfl) rfl rfl rfl ?_
    refine aw_nil ?_
    refine aw_ifc (p := k < 8) rfl (by first | rfl | (rw [decide_eq_decide]; simp only [IntL.toI, id_eq]; omega) | (simp [IntL.toI]; done) | (simp [IntL.toI]; omega)) (fun ht24 => ?_) (fun ht24 => ?_)
    · skip
      refine aw_skip ?_
      refine aw_seq ?_
      refine aw_block ?_
      refine aw_seq ?_
      refine aw_region ?_
      refine aw_g (g_mo (.inl rfl) rfl) rfl rfl rfl ?_
      refine aw_g (g_mv (.inl rfl) rfl) rfl rfl rfl ?_
      refine aw_g (g_mv (.inl rfl) rfl) rfl rfl rfl ?_
      refine aw_g (g_quo64 rfl rfl rfl (by first | decide | exact byN_ne ht24)) rfl rfl rfl ?_
      refine aw_g (g_rem64 rfl rfl rfl (by first | decide | exact byN_ne ht24)) rfl rfl rfl ?_
      refine aw_g (g_cv8 rfl (ui_5) (us_93) rfl) rfl rfl rfl ?_
      refine aw_g (g_bslice (T := u8T) (xs := [_]) rfl sl_71 row_71 ⟨rfl, rfl, trivial⟩ rfl rfl) rfl rfl rfl ?_
      refine aw_append rfl rfl rfl rfl rfl rfl rfl row_71 (by (try simp only [List.length_append, List.length_cons, List.length_nil, List.length_replicate, List.length_take, numBytes_len]); omega) ?_
      refine aw_g (g_mo (.inr rfl) rfl) rfl rfl rfl ?_
      refine aw_nil ?_
      refine aw_region ?_
      refine aw_g (g_mv (.inl rfl) rfl) rfl rfl rfl ?_
      refine aw_g (g_quo64 rfl rfl rfl (by first | decide | exact byN_ne ht24)) rfl rfl rfl ?_
      refine aw_g (g_mv (.inr rfl) rfl) rfl rfl rfl ?_
      refine aw_nil ?_
      refine aw_inBlock ?_
      refine aw_region ?_
      refine aw_g (g_mv (.inl rfl) rfl) rfl rfl rfl ?_
      refine aw_g (by first | exact g_add rfl rfl rfl (wrap_eq (by first | omega | (simp; omega))) | exact g_add rfl rfl rfl rfl) rfl rfl rfl ?_
      refine aw_g (g_mv (.inr rfl) rfl) rfl rfl rfl ?_
      refine aw_nil ?_
      refine aw_ren 2 1 3 rfl rfl rfl rfl rfl rfl ?_
      refine aw_rerow (n := 1) (y := (b ++ 128 :: List.replicate (padZ b.length) 0) ++ (numBytes (8 * u64OfI (IntL.toI i64T (b.length : Int))) 8).take (k + 1)) rfl (by rw [List.append_assoc]; exact congrArg _ (numBytes_take ht24)) ?_
      refine aw_reval (d := 5) (y := byN (k + 1)) rfl (shr_step ht24) ?_
      exact aw_next (k + 1) (by omega) (by omega) rfl (by (repeat refine Fr.le_set ?_ (by first | rfl | (simp; done))); exact Fr.le_none _) (by (repeat refine Hp.le_set ?_ rfl); exact Hp.le_none _) (by (repeat refine Fr.below_setB ?_ rfl); exact Fr.below_none _) (by (repeat refine Hp.below_set ?_ (by decide)); exact Hp.below_none _)
    · skip
      obtain rfl : k = 8 := (by omega)
      refine aw_exit rfl ?_
      refine aw_seq ?_
      refine aw_region ?_
      refine aw_g (g_mo (.inl rfl) rfl) rfl rfl rfl ?_
      refine aw_g (g_mo (.inr rfl) rfl) rfl rfl rfl ?_
      refine aw_nil ?_
      exact aw_ret1 rfl rfl (ret_fresh_eq rfl rfl (by rw [List.take_of_length_le (by rw [numBytes_len]; exact Nat.le_refl _)]; rfl))

theorem rsumB_ok (b : List UInt8) (hb : b.length ≤ 70368744177664) : Tells P 73 [.val (bsl u8T) b] (.val idT (shaSum b)) := by
  obtain ⟨m, hm⟩ : ∃ m, m = (b.length + padZ b.length + 9) / 64 := ⟨_, rfl⟩
  have hz2 : padZ b.length < 64 := by unfold padZ; omega
  have hpl : (padOf b).length = 64 * m := by rw [padOf_len, hm]
  have hmb : m ≤ 2000000000000 := by omega
  refine fn_of_aw Try.func73 rfl rfl rfl (fun ext w hext => ?_)
  refine aw_fact (d := 0) rfl fact_sl (fun hsl0 => ?_)
  refine aw_seq ?_
  refine aw_region ?_
  refine aw_alloc ze_40 rfl rfl rfl rfl ?_
  refine aw_nil ?_
  refine aw_seq ?_
  refine aw_region ?_
  refine aw_g (g_mv (.inl rfl) rfl) rfl rfl rfl ?_
  refine aw_g (g_call (tells_pub (rpad_ok b hb)) rfl fn_90 ⟨(arg_v rfl), trivial⟩ rfl) rfl rfl rfl ?_
  refine aw_g (g_mv (.inr rfl) rfl) rfl rfl rfl ?_
  refine aw_nil ?_
  refine aw_seq ?_
  refine aw_region ?_
  refine aw_g (g_call (rfirst_ok) rfl fn_91 trivial rfl) rfl rfl rfl ?_
  refine aw_g (g_mv (.inr rfl) rfl) rfl rfl rfl ?_
  refine aw_nil ?_
  refine aw_seq ?_
  refine aw_seq ?_
  refine aw_region ?_
  refine aw_g (g_mv (.inr rfl) rfl) rfl rfl rfl ?_
  refine aw_nil ?_
  refine aw_block ?_
  refine aw_loopI (ι := Nat) 1 rfl (fun (k : Nat) => ((((Fr.none).set 2 (.ptr 0 0)).set 3 (.val (sl u8T) (padOf b))).set 4 (.val (sl u32T) (shaN (padOf b) k))).set 5 (.val i64T ((64 * k : Nat) : Int))) (fun (k : Nat) => (Hp.none).set 0 (.box 40 idT zId)) (fun (k : Nat) => k ≤ m) (fun (k : Nat) => m - k) (0) (Nat.zero_le _) (by (repeat refine Fr.le_set ?_ (by first | rfl | (simp; done))); exact Fr.le_none _) (by (repeat refine Hp.le_set ?_ rfl); exact Hp.le_none _) (by (repeat refine Fr.below_setB ?_ rfl); exact Fr.below_none _) (by (repeat refine Hp.below_set ?_ (by decide)); exact Hp.below_none _) ?_
  intro k hinv
  refine aw_seq ?_
  refine aw_seq ?_
  refine aw_region ?_
  refine aw_g (g_mv (.inl rfl) rfl) rfl rfl rfl ?_
  refine aw_g (g_mv (.inl rfl) rfl) rfl rfl rfl ?_
  refine aw_g (g_len rfl rfl isl_71) rfl rfl rfl ?_
  refine aw_g (g_lss rfl rfl rfl rfl) rfl rfl rfl ?_
  refine aw_nil ?_
  refine aw_ifc (p := 64 * k < (padOf b).length) rfl (by first | rfl | (rw [decide_eq_decide]; simp only [IntL.toI, id_eq]; omega) | (simp [IntL.toI]; done) | (simp [IntL.toI]; omega)) (fun ht14 => ?_) (fun ht14 => ?_)
  · skip
    refine aw_skip ?_
    refine aw_seq ?_
    refine aw_block ?_
    refine aw_region ?_
    refine aw_g (g_mv (.inl rfl) rfl) rfl rfl rfl ?_
    refine aw_g (g_mv (.inl rfl) rfl) rfl rfl rfl ?_
    refine aw_g (g_mv (.inl rfl) rfl) rfl rfl rfl ?_
    refine aw_g (g_mv (.inl rfl) rfl) rfl rfl rfl ?_
    refine aw_g (by first | exact g_add rfl rfl rfl (wrap_eq (by first | omega | (simp; omega))) | exact g_add rfl rfl rfl rfl) rfl rfl rfl ?_
    refine aw_g (g_sl_lh rfl rfl rfl rfl sl_71 (by first | assumption | omega | (simp; omega))) rfl rfl rfl ?_
    refine aw_reval (d := 22) (y := ((padOf b).take (64 * k + 64)).drop (64 * k)) rfl (by congr 1) ?_
    refine aw_g (g_call (tells_pub (rwords_ok (((padOf b).take (64 * k + 64)).drop (64 * k)) (by rw [List.length_drop, List.length_take]; omega))) rfl fn_93 ⟨(arg_v rfl), trivial⟩ rfl) rfl rfl rfl ?_
    refine aw_g (g_call (tells_pub (rrounds_ok (shaN (padOf b) k) (schedN (((padOf b).take (64 * k + 64)).drop (64 * k)) 64) (shaN_len _ k) (schedN_len 64))) rfl fn_92 ⟨(arg_v rfl), (arg_v rfl), trivial⟩ rfl) rfl rfl rfl ?_
    refine aw_g (g_mv (.inr rfl) rfl) rfl rfl rfl ?_
    refine aw_nil ?_
    refine aw_inBlock ?_
    refine aw_region ?_
    refine aw_g (g_mv (.inl rfl) rfl) rfl rfl rfl ?_
    refine aw_g (by first | exact g_add rfl rfl rfl (wrap_eq (by first | omega | (simp; omega))) | exact g_add rfl rfl rfl rfl) rfl rfl rfl ?_
    refine aw_g (g_mv (.inr rfl) rfl) rfl rfl rfl ?_
    refine aw_nil ?_
    refine aw_reval (d := 4) (y := shaN (padOf b) (k + 1)) rfl shaN_succ ?_
    refine aw_reval (d := 5) (y := ((64 * (k + 1) : Nat) : Int)) rfl (by omega) ?_
    exact aw_next (k + 1) (by omega) (by omega) rfl (by (repeat refine Fr.le_set ?_ (by first | rfl | (simp; done))); exact Fr.le_none _) (by (repeat refine Hp.le_set ?_ rfl); exact Hp.le_none _) (by (repeat refine Fr.below_setB ?_ rfl); exact Fr.below_none _) (by (repeat refine Hp.below_set ?_ (by decide)); exact Hp.below_none _)
  · skip
    obtain rfl : m = k := (by omega)
    refine aw_exit rfl ?_
    refine aw_seq ?_
    refine aw_region ?_
    refine aw_alloc ze_40 rfl rfl rfl rfl ?_
    refine aw_nil ?_
    refine aw_seq ?_
    refine aw_seq ?_
    refine aw_region ?_
    refine aw_g (g_mv (.inr rfl) rfl) rfl rfl rfl ?_
    refine aw_nil ?_
    refine aw_block ?_
    refine aw_loopI (ι := Nat) 2 rfl (fun (k : Nat) => ((((Fr.none).set 2 (.ptr 0 0)).set 4 (.val (sl u32T) (shaN (padOf b) m))).set 6 (.ptr 1 0)).set 7 (.val i64T (k : Int))) (fun (k : Nat) => ((Hp.none).set 0 (.box 40 idT zId)).set 1 (.box 40 idT (shaOut (shaN (padOf b) m) (4 * k)))) (fun (k : Nat) => k ≤ 8) (fun (k : Nat) => 8 - k) (0) (Nat.zero_le _) (by (repeat refine Fr.le_set ?_ (by first | rfl | (simp; done))); exact Fr.le_none _) (by (repeat refine Hp.le_set ?_ rfl); exact Hp.le_none _) (by (repeat refine Fr.below_setB ?_ rfl); exact Fr.below_none _) (by (repeat refine Hp.below_set ?_ (by decide)); exact Hp.below_none _) ?_
    intro k hinv
    refine aw_seq ?_
    refine aw_seq ?_
    refine aw_region ?_
    refine aw_g (g_mv (.inl rfl) rfl) rfl rfl rfl ?_
    refine aw_g (g_lss rfl rfl rfl rfl) rfl rfl rfl ?_
    refine aw_nil ?_
    refine aw_ifc (p := k < 8) rfl (by first | rfl | (rw [decide_eq_decide]; simp only [IntL.toI, id_eq]; omega) | (simp [IntL.toI]; done) | (simp [IntL.toI]; omega)) (fun ht26 => ?_) (fun ht26 => ?_)
    · skip
      obtain ⟨v, hv⟩ : ∃ x, (shaN (padOf b) m)[k]? = some x := ⟨_, List.getElem?_eq_getElem (by rw [shaN_len]; exact ht26)⟩
      refine aw_skip ?_
      refine aw_seq ?_
      refine aw_block ?_
      refine aw_seq ?_
      refine aw_region ?_
      refine aw_g (g_mv (.inl rfl) rfl) rfl rfl rfl ?_
      refine aw_g (by first | exact g_mul rfl rfl rfl (wrap_eq (by first | omega | (simp; omega))) | exact g_mul rfl rfl rfl rfl) rfl rfl rfl ?_
      refine aw_g (g_mv (.inl rfl) rfl) rfl rfl rfl ?_
      refine aw_g (g_mv (.inl rfl) rfl) rfl rfl rfl ?_
      refine aw_g (g_ia_i (i := k) rfl rfl rfl (by omega) sl_122 (by assumption)) rfl rfl rfl ?_
      refine aw_g (g_load_r rfl rfl ty_104) rfl rfl rfl ?_
      refine aw_g (g_quo32 rfl rfl rfl (by decide)) rfl rfl rfl ?_
      refine aw_g (g_cv8 rfl (ui_5) (us_104) rfl) rfl rfl rfl ?_
      refine aw_g (g_ia_b0 (i := 4 * k) rfl rfl rfl (by first | omega | rfl) ar_40 (by omega)) rfl rfl rfl ?_
      refine aw_store_b rfl rfl rfl rfl rfl (Lens.elem (i := 4 * k) (by omega) u8T) ty_5 rfl ?_
      refine aw_nil ?_
      refine aw_seq ?_
      refine aw_region ?_
      refine aw_g (g_mv (.inl rfl) rfl) rfl rfl rfl ?_
      refine aw_g (by first | exact g_mul rfl rfl rfl (wrap_eq (by first | omega | (simp; omega))) | exact g_mul rfl rfl rfl rfl) rfl rfl rfl ?_
      refine aw_g (by first | exact g_add rfl rfl rfl (wrap_eq (by first | omega | (simp; omega))) | exact g_add rfl rfl rfl rfl) rfl rfl rfl ?_
      refine aw_g (g_mv (.inl rfl) rfl) rfl rfl rfl ?_
      refine aw_g (g_mv (.inl rfl) rfl) rfl rfl rfl ?_
      refine aw_g (g_ia_i (i := k) rfl rfl rfl (by omega) sl_122 (by assumption)) rfl rfl rfl ?_
      refine aw_g (g_load_r rfl rfl ty_104) rfl rfl rfl ?_
      refine aw_g (g_quo32 rfl rfl rfl (by decide)) rfl rfl rfl ?_
      refine aw_g (g_rem32 rfl rfl rfl (by decide)) rfl rfl rfl ?_
      refine aw_g (g_cv8 rfl (ui_5) (us_104) rfl) rfl rfl rfl ?_
      refine aw_g (g_ia_b0 (i := 4 * k + 1) rfl rfl rfl (by first | omega | rfl) ar_40 (by omega)) rfl rfl rfl ?_
      refine aw_store_b rfl rfl rfl rfl rfl (Lens.elem (i := 4 * k + 1) (by omega) u8T) ty_5 rfl ?_
      refine aw_nil ?_
      refine aw_seq ?_
      refine aw_region ?_
      refine aw_g (g_mv (.inl rfl) rfl) rfl rfl rfl ?_
      refine aw_g (by first | exact g_mul rfl rfl rfl (wrap_eq (by first | omega | (simp; omega))) | exact g_mul rfl rfl rfl rfl) rfl rfl rfl ?_
      refine aw_g (by first | exact g_add rfl rfl rfl (wrap_eq (by first | omega | (simp; omega))) | exact g_add rfl rfl rfl rfl) rfl rfl rfl ?_
      refine aw_g (g_mv (.inl rfl) rfl) rfl rfl rfl ?_
      refine aw_g (g_mv (.inl rfl) rfl) rfl rfl rfl ?_
      refine aw_g (g_ia_i (i := k) rfl rfl rfl (by omega) sl_122 (by assumption)) rfl rfl rfl ?_
      refine aw_g (g_load_r rfl rfl ty_104) rfl rfl rfl ?_
      refine aw_g (g_quo32 rfl rfl rfl (by decide)) rfl rfl rfl ?_
      refine aw_g (g_rem32 rfl rfl rfl (by decide)) rfl rfl rfl ?_
      refine aw_g (g_cv8 rfl (ui_5) (us_104) rfl) rfl rfl rfl ?_
      refine aw_g (g_ia_b0 (i := 4 * k + 2) rfl rfl rfl (by first | omega | rfl) ar_40 (by omega)) rfl rfl rfl ?_
      refine aw_store_b rfl rfl rfl rfl rfl (Lens.elem (i := 4 * k + 2) (by omega) u8T) ty_5 rfl ?_
      refine aw_nil ?_
      refine aw_region ?_
      refine aw_g (g_mv (.inl rfl) rfl) rfl rfl rfl ?_
      refine aw_g (by first | exact g_mul rfl rfl rfl (wrap_eq (by first | omega | (simp; omega))) | exact g_mul rfl rfl rfl rfl) rfl rfl rfl ?_
      refine aw_g (by first | exact g_add rfl rfl rfl (wrap_eq (by first | omega | (simp; omega))) | exact g_add rfl rfl rfl rfl) rfl rfl rfl ?_
      refine aw_g (g_mv (.inl rfl) rfl) rfl rfl rfl ?_
      refine aw_g (g_mv (.inl rfl) rfl) rfl rfl rfl ?_
      refine aw_g (g_ia_i (i := k) rfl rfl rfl (by omega) sl_122 (by assumption)) rfl rfl rfl ?_
      refine aw_g (g_load_r rfl rfl ty_104) rfl rfl rfl ?_
      refine aw_g (g_rem32 rfl rfl rfl (by decide)) rfl rfl rfl ?_
      refine aw_g (g_cv8 rfl (ui_5) (us_104) rfl) rfl rfl rfl ?_
      refine aw_g (g_ia_b0 (i := 4 * k + 3) rfl rfl rfl (by first | omega | rfl) ar_40 (by omega)) rfl rfl rfl ?_
      refine aw_store_b rfl rfl rfl rfl rfl (Lens.elem (i := 4 * k + 3) (by omega) u8T) ty_5 rfl ?_
      refine aw_nil ?_
      refine aw_inBlock ?_
      refine aw_region ?_
      refine aw_g (g_mv (.inl rfl) rfl) rfl rfl rfl ?_
      refine aw_g (by first | exact g_add rfl rfl rfl (wrap_eq (by first | omega | (simp; omega))) | exact g_add rfl rfl rfl rfl) rfl rfl rfl ?_
      refine aw_g (g_mv (.inr rfl) rfl) rfl rfl rfl ?_
      refine aw_nil ?_
      refine aw_reheap (n := 1) (y := shaOut (shaN (padOf b) m) (4 * (k + 1))) rfl (out4 hv) ?_
      exact aw_next (k + 1) (by omega) (by omega) rfl (by (repeat refine Fr.le_set ?_ (by first | rfl | (simp; done))); exact Fr.le_none _) (by (repeat refine Hp.le_set ?_ rfl); exact Hp.le_none _) (by (repeat refine Fr.below_setB ?_ rfl); exact Fr.below_none _) (by (repeat refine Hp.below_set ?_ (by decide)); exact Hp.below_none _)
    · skip
      obtain rfl : k = 8 := (by omega)
      refine aw_exit rfl ?_
      refine aw_seq ?_
      refine aw_region ?_
      refine aw_g (g_load_b rfl rfl rfl (Lens.self _) ty_40) rfl rfl rfl ?_
      refine aw_store_b rfl rfl rfl rfl rfl (Lens.self _) ty_40 rfl ?_
      refine aw_nil ?_
      exact aw_retc1 rfl rfl rfl rfl ty_40 (by rw [shaOut_all]; unfold shaSum shaWords; rw [hpl, Nat.mul_div_cancel_left m (by decide)])

theorem rof_ok (ls : List (List UInt8)) (hl : ls.flatten.length ≤ 70368744177664) : Tells P 59 [.val (bsl (sl u8T)) ls] (.val idT (shaSum ls.flatten)) := by
  refine fn_of_aw Try.func59 rfl rfl rfl (fun ext w hext => ?_)
  refine aw_fact (d := 0) rfl fact_sl (fun hsl0 => ?_)
  refine aw_seq ?_
  refine aw_region ?_
  refine aw_alloc ze_40 rfl rfl rfl rfl ?_
  refine aw_nil ?_
  refine aw_seq ?_
  refine aw_region ?_
  refine aw_g (g_ml (.inr rfl) rfl) rfl rfl rfl ?_
  refine aw_nil ?_
  refine aw_seq ?_
  refine aw_seq ?_
  refine aw_region ?_
  refine aw_g (g_mv (.inr rfl) rfl) rfl rfl rfl ?_
  refine aw_nil ?_
  refine aw_block ?_
  refine aw_nilrow (T := u8T) (d := 3) 5 rfl ?_
  refine aw_loopI (ι := Nat) 2 rfl (fun (k : Nat) => ((((Fr.none).set 0 (.val (bsl (sl u8T)) ls)).set 2 (.ptr 0 0)).set 3 (.own 1)).set 4 (.val i64T (k : Int))) (fun (k : Nat) => ((Hp.none).set 0 (.box 40 idT zId)).set 1 (.row 5 u8T (ls.take k).flatten)) (fun (k : Nat) => k ≤ ls.length) (fun (k : Nat) => ls.length - k) (0) (Nat.zero_le _) (by (repeat refine Fr.le_set ?_ (by first | rfl | (simp; done))); exact Fr.le_none _) (by (repeat refine Hp.le_set ?_ rfl); exact Hp.le_none _) (by (repeat refine Fr.below_setB ?_ rfl); exact Fr.below_none _) (by (repeat refine Hp.below_set ?_ (by decide)); exact Hp.below_none _) ?_
  intro k hinv
  refine aw_seq ?_
  refine aw_seq ?_
  refine aw_region ?_
  refine aw_g (g_mv (.inl rfl) rfl) rfl rfl rfl ?_
  refine aw_g (g_mv (.inl rfl) rfl) rfl rfl rfl ?_
  refine aw_g (g_len rfl rfl isl_86) rfl rfl rfl ?_
  refine aw_g (g_lss rfl rfl rfl rfl) rfl rfl rfl ?_
  refine aw_nil ?_
  refine aw_ifc (p := k < ls.length) rfl (by first | rfl | (rw [decide_eq_decide]; simp only [IntL.toI, id_eq]; omega) | (simp [IntL.toI]; done) | (simp [IntL.toI]; omega)) (fun ht8 => ?_) (fun ht8 => ?_)
  · skip
    obtain ⟨x, hx⟩ : ∃ x, ls[k]? = some x := ⟨_, List.getElem?_eq_getElem ht8⟩
    have hfl := flat_take (k := k + 1) ls
    have hfs := flat_succ hx
    rw [hfs, List.length_append] at hfl
    refine aw_skip ?_
    refine aw_seq ?_
    refine aw_block ?_
    refine aw_region ?_
    refine aw_g (g_mo (.inl rfl) rfl) rfl rfl rfl ?_
    refine aw_g (g_mv (.inl rfl) rfl) rfl rfl rfl ?_
    refine aw_g (g_mv (.inl rfl) rfl) rfl rfl rfl ?_
    refine aw_g (g_ia_i (i := k) rfl rfl rfl (by omega) sl_86 (by assumption)) rfl rfl rfl ?_
    refine aw_g (g_load_r rfl rfl ty_71) rfl rfl rfl ?_
    refine aw_append rfl rfl rfl rfl rfl rfl rfl row_71 (by omega) ?_
    refine aw_g (g_mo (.inr rfl) rfl) rfl rfl rfl ?_
    refine aw_nil ?_
    refine aw_inBlock ?_
    refine aw_region ?_
    refine aw_g (g_mv (.inl rfl) rfl) rfl rfl rfl ?_
    refine aw_g (by first | exact g_add rfl rfl rfl (wrap_eq (by first | omega | (simp; omega))) | exact g_add rfl rfl rfl rfl) rfl rfl rfl ?_
    refine aw_g (g_mv (.inr rfl) rfl) rfl rfl rfl ?_
    refine aw_nil ?_
    refine aw_ren 2 1 3 rfl rfl rfl rfl rfl rfl ?_
    refine aw_rerow (n := 1) (y := (ls.take (k + 1)).flatten) rfl hfs.symm ?_
    exact aw_next (k + 1) (by omega) (by omega) rfl (by (repeat refine Fr.le_set ?_ (by first | rfl | (simp; done))); exact Fr.le_none _) (by (repeat refine Hp.le_set ?_ rfl); exact Hp.le_none _) (by (repeat refine Fr.below_setB ?_ rfl); exact Fr.below_none _) (by (repeat refine Hp.below_set ?_ (by decide)); exact Hp.below_none _)
  · skip
    refine aw_rerow (n := 1) (y := ls.flatten) rfl (by rw [List.take_of_length_le (by omega)]) ?_
    refine aw_exit rfl ?_
    refine aw_seq ?_
    refine aw_region ?_
    refine aw_g (g_mo (.inl rfl) rfl) rfl rfl rfl ?_
    refine aw_g (g_call (rsumB_ok ls.flatten hl) rfl fn_73 ⟨(arg_own rfl rfl), trivial⟩ rfl) rfl rfl rfl ?_
    refine aw_store_b rfl rfl rfl rfl rfl (Lens.self _) ty_40 rfl ?_
    refine aw_nil ?_
    exact aw_retc1 rfl rfl rfl rfl ty_40 (rfl)

theorem rput_ok (t : Tx) : Tells P 58 [.val txT t] (.tup2 (.fresh 5 u8T (if mayTx t = true then putTx t else [])) (.val boolT (mayTx t))) := by
  refine fn_of_aw Try.func58 rfl rfl rfl (fun ext w hext => ?_)
  refine aw_fact (d := 0) rfl fact_tx (fun h32 => ?_)
  refine aw_seq ?_
  refine aw_region ?_
  refine aw_box rfl rfl rfl rfl rfl ?_
  refine aw_g (g_ml (.inr rfl) rfl) rfl rfl rfl ?_
  refine aw_g (g_mv (.inr rfl) rfl) rfl rfl rfl ?_
  refine aw_nil ?_
  refine aw_seq ?_
  refine aw_region ?_
  refine aw_g (g_load_b rfl rfl rfl (Lens.self _) ty_26) rfl rfl rfl ?_
  refine aw_g (g_call (rmayTx_ok _) rfl fn_32 ⟨(arg_v rfl), trivial⟩ rfl) rfl rfl rfl ?_
  refine aw_g (g_mv (.inr rfl) rfl) rfl rfl rfl ?_
  refine aw_nil ?_
  refine aw_seq ?_
  refine aw_seq ?_
  refine aw_region ?_
  refine aw_g (g_mv (.inl rfl) rfl) rfl rfl rfl ?_
  refine aw_g (g_not rfl rfl) rfl rfl rfl ?_
  refine aw_nil ?_
  refine aw_ifc (p := ¬ mayTx t = true) rfl (by simp) (fun ht11 => ?_) (fun ht11 => ?_)
  · skip
    refine aw_seq ?_
    refine aw_region ?_
    refine aw_g (g_ml (.inr rfl) rfl) rfl rfl rfl ?_
    refine aw_g (g_mv (.inr rfl) rfl) rfl rfl rfl ?_
    refine aw_nil ?_
    exact aw_ret2 rfl rfl (by rw [if_neg ht11]; exact ret_fresh_nil rfl) (ret_eq rfl (by simpa using ht11))
  · skip
    have hmay := Classical.not_not.1 ht11
    obtain ⟨hmi, hm0, hmo⟩ := mayTx_lens hmay
    refine aw_skip ?_
    refine aw_seq ?_
    refine aw_region ?_
    refine aw_g (g_fa_p rfl rfl fd_26_0 rfl) rfl rfl rfl ?_
    refine aw_g (g_load_b rfl rfl rfl L_Tx_ins ty_23) rfl rfl rfl ?_
    refine aw_g (g_len rfl rfl isl_23) rfl rfl rfl ?_
    refine aw_g (g_cv8 rfl (ui_5) (us_3) rfl) rfl rfl rfl ?_
    refine aw_bslice (T := u8T) (xs := [_]) rfl rfl rfl rfl sl_71 row_71 ⟨rfl, rfl, trivial⟩ rfl rfl ?_
    refine aw_g (g_mo (.inr rfl) rfl) rfl rfl rfl ?_
    refine aw_nil ?_
    refine aw_seq ?_
    refine aw_seq ?_
    refine aw_region ?_
    refine aw_g (g_mv (.inr rfl) rfl) rfl rfl rfl ?_
    refine aw_nil ?_
    refine aw_block ?_
    refine aw_loopI (ι := Nat) 2 rfl (fun (k : Nat) => (((Fr.none).set 1 (.ptr 0 0)).set 5 (.own 1)).set 6 (.val i64T (k : Int))) (fun (k : Nat) => ((Hp.none).set 0 (.box 26 txT t)).set 1 (.row 5 u8T (putIns t k))) (fun (k : Nat) => k ≤ t.ins.length ∧ (putIns t k).length = 33 * k + 1) (fun (k : Nat) => t.ins.length - k) (0) (⟨Nat.zero_le _, by simp [putIns]⟩) (by (repeat refine Fr.le_set ?_ (by first | rfl | (simp; done))); exact Fr.le_none _) (by (repeat refine Hp.le_set ?_ rfl); exact Hp.le_none _) (by (repeat refine Fr.below_setB ?_ rfl); exact Fr.below_none _) (by (repeat refine Hp.below_set ?_ (by decide)); exact Hp.below_none _) ?_
    intro k hinv
    obtain ⟨hk, hpl⟩ := hinv
    have hinv := And.intro hk hpl
    refine aw_seq ?_
    refine aw_seq ?_
    refine aw_region ?_
    refine aw_g (g_mv (.inl rfl) rfl) rfl rfl rfl ?_
    refine aw_g (g_fa_p rfl rfl fd_26_0 rfl) rfl rfl rfl ?_
    refine aw_g (g_load_b rfl rfl rfl L_Tx_ins ty_23) rfl rfl rfl ?_
    refine aw_g (g_len rfl rfl isl_23) rfl rfl rfl ?_
    refine aw_g (g_lss rfl rfl rfl rfl) rfl rfl rfl ?_
    refine aw_nil ?_
    refine aw_ifc (p := k < t.ins.length) rfl (by first | rfl | (rw [decide_eq_decide]; simp only [IntL.toI, id_eq]; omega) | (simp [IntL.toI]; done) | (simp [IntL.toI]; omega)) (fun ht21 => ?_) (fun ht21 => ?_)
    · skip
      obtain ⟨x, hx⟩ : ∃ x, t.ins[k]? = some x := ⟨_, List.getElem?_eq_getElem ht21⟩
      have hx32 := h32 x (List.mem_of_getElem? hx)
      refine aw_skip ?_
      refine aw_seq ?_
      refine aw_block ?_
      refine aw_seq ?_
      refine aw_region ?_
      refine aw_g (g_mo (.inl rfl) rfl) rfl rfl rfl ?_
      refine aw_g (g_fa_p rfl rfl fd_26_0 rfl) rfl rfl rfl ?_
      refine aw_g (g_load_b rfl rfl rfl L_Tx_ins ty_23) rfl rfl rfl ?_
      refine aw_g (g_mv (.inl rfl) rfl) rfl rfl rfl ?_
      refine aw_g (g_ia_i (i := k) rfl rfl rfl (by omega) sl_23 (by assumption)) rfl rfl rfl ?_
      refine aw_g (g_fa_r rfl rfl fd_42_0 L_In_tx) rfl rfl rfl ?_
      refine aw_g (g_slice_r rfl rfl ar_40 rfl rfl) rfl rfl rfl ?_
      refine aw_append rfl rfl rfl rfl rfl rfl rfl row_71 (by show (_ + x.tx.length) * 1 ≤ _ ∧ _ + x.tx.length ≤ _; omega) ?_
      refine aw_g (g_mo (.inr rfl) rfl) rfl rfl rfl ?_
      refine aw_nil ?_
      refine aw_region ?_
      refine aw_g (g_mo (.inl rfl) rfl) rfl rfl rfl ?_
      refine aw_g (g_fa_p rfl rfl fd_26_0 rfl) rfl rfl rfl ?_
      refine aw_g (g_load_b rfl rfl rfl L_Tx_ins ty_23) rfl rfl rfl ?_
      refine aw_g (g_mv (.inl rfl) rfl) rfl rfl rfl ?_
      refine aw_g (g_ia_i (i := k) rfl rfl rfl (by omega) sl_23 (by assumption)) rfl rfl rfl ?_
      refine aw_g (g_fa_r rfl rfl fd_42_1 L_In_i) rfl rfl rfl ?_
      refine aw_g (g_load_r rfl rfl ty_3) rfl rfl rfl ?_
      refine aw_g (g_cv8 rfl (ui_5) (us_3) rfl) rfl rfl rfl ?_
      refine aw_g (g_bslice (T := u8T) (xs := [_]) rfl sl_71 row_71 ⟨rfl, rfl, trivial⟩ rfl rfl) rfl rfl rfl ?_
      refine aw_append rfl rfl rfl rfl rfl rfl rfl row_71 (by simp only [List.length_append, List.length_cons, List.length_nil, hx32]; omega) ?_
      refine aw_g (g_mo (.inr rfl) rfl) rfl rfl rfl ?_
      refine aw_nil ?_
      refine aw_inBlock ?_
      refine aw_region ?_
      refine aw_g (g_mv (.inl rfl) rfl) rfl rfl rfl ?_
      refine aw_g (by first | exact g_add rfl rfl rfl (wrap_eq (by first | omega | (simp; omega))) | exact g_add rfl rfl rfl rfl) rfl rfl rfl ?_
      refine aw_g (g_mv (.inr rfl) rfl) rfl rfl rfl ?_
      refine aw_nil ?_
      refine aw_ren 3 1 4 rfl rfl rfl rfl rfl rfl ?_
      refine aw_rerow (n := 1) rfl (putIns_step hx).symm ?_
      exact aw_next (k + 1) (⟨by omega, by rw [putIns_step hx]; simp only [List.length_append, List.length_cons, List.length_nil, hx32]; omega⟩) (by omega) rfl (by (repeat refine Fr.le_set ?_ (by first | rfl | (simp; done))); exact Fr.le_none _) (by (repeat refine Hp.le_set ?_ rfl); exact Hp.le_none _) (by (repeat refine Fr.below_setB ?_ rfl); exact Fr.below_none _) (by (repeat refine Hp.below_set ?_ (by decide)); exact Hp.below_none _)
    · skip
      obtain rfl : k = t.ins.length := (by omega)
      obtain ⟨hli, _⟩ := hinv
      refine aw_exit rfl ?_
      refine aw_seq ?_
      refine aw_region ?_
      refine aw_g (g_mo (.inl rfl) rfl) rfl rfl rfl ?_
      refine aw_g (g_fa_p rfl rfl fd_26_1 rfl) rfl rfl rfl ?_
      refine aw_g (g_load_b rfl rfl rfl L_Tx_outs ty_24) rfl rfl rfl ?_
      refine aw_g (g_len rfl rfl isl_24) rfl rfl rfl ?_
      refine aw_g (g_cv8 rfl (ui_5) (us_3) rfl) rfl rfl rfl ?_
      refine aw_g (g_bslice (T := u8T) (xs := [_]) rfl sl_71 row_71 ⟨rfl, rfl, trivial⟩ rfl rfl) rfl rfl rfl ?_
      refine aw_append rfl rfl rfl rfl rfl rfl rfl row_71 (by simp only [List.length_append, List.length_cons, List.length_nil]; omega) ?_
      refine aw_g (g_mo (.inr rfl) rfl) rfl rfl rfl ?_
      refine aw_nil ?_
      refine aw_seq ?_
      refine aw_seq ?_
      refine aw_region ?_
      refine aw_g (g_mv (.inr rfl) rfl) rfl rfl rfl ?_
      refine aw_nil ?_
      refine aw_block ?_
      refine aw_ren 2 1 3 rfl rfl rfl rfl rfl rfl ?_
      refine aw_rerow (y := putOuts t 0) (n := 1) rfl (by simp [putOuts]) ?_
      refine aw_loopI (ι := Nat) 2 rfl (fun (k : Nat) => (((Fr.none).set 1 (.ptr 0 0)).set 5 (.own 1)).set 7 (.val i64T (k : Int))) (fun (k : Nat) => ((Hp.none).set 0 (.box 26 txT t)).set 1 (.row 5 u8T (putOuts t k))) (fun (k : Nat) => k ≤ t.outs.length ∧ (putOuts t k).length = 7 * k + 2 + 33 * t.ins.length) (fun (k : Nat) => t.outs.length - k) (0) (⟨Nat.zero_le _, by simp [putOuts, hpl]; omega⟩) (by (repeat refine Fr.le_set ?_ (by first | rfl | (simp; done))); exact Fr.le_none _) (by (repeat refine Hp.le_set ?_ rfl); exact Hp.le_none _) (by (repeat refine Fr.below_setB ?_ rfl); exact Fr.below_none _) (by (repeat refine Hp.below_set ?_ (by decide)); exact Hp.below_none _) ?_
      intro k hinv
      refine aw_seq ?_
      refine aw_seq ?_
      refine aw_region ?_
      refine aw_g (g_mv (.inl rfl) rfl) rfl rfl rfl ?_
      refine aw_g (g_fa_p rfl rfl fd_26_1 rfl) rfl rfl rfl ?_
      refine aw_g (g_load_b rfl rfl rfl L_Tx_outs ty_24) rfl rfl rfl ?_
      refine aw_g (g_len rfl rfl isl_24) rfl rfl rfl ?_
      refine aw_g (g_lss rfl rfl rfl rfl) rfl rfl rfl ?_
      refine aw_nil ?_
      refine aw_ifc (p := k < t.outs.length) rfl (by first | rfl | (rw [decide_eq_decide]; simp only [IntL.toI, id_eq]; omega) | (simp [IntL.toI]; done) | (simp [IntL.toI]; omega)) (fun ht53 => ?_) (fun ht53 => ?_)
      · skip
        obtain ⟨x, hx⟩ : ∃ x, t.outs[k]? = some x := ⟨_, List.getElem?_eq_getElem ht53⟩
        refine aw_skip ?_
        refine aw_seq ?_
        refine aw_block ?_
        refine aw_seq ?_
        refine aw_region ?_
        refine aw_g (g_mo (.inl rfl) rfl) rfl rfl rfl ?_
        refine aw_g (g_fa_p rfl rfl fd_26_1 rfl) rfl rfl rfl ?_
        refine aw_g (g_load_b rfl rfl rfl L_Tx_outs ty_24) rfl rfl rfl ?_
        refine aw_g (g_mv (.inl rfl) rfl) rfl rfl rfl ?_
        refine aw_g (g_ia_i (i := k) rfl rfl rfl (by omega) sl_24 (by assumption)) rfl rfl rfl ?_
        refine aw_g (g_fa_r rfl rfl fd_48_0 L_Out_v) rfl rfl rfl ?_
        refine aw_g (g_load_r rfl rfl ty_3) rfl rfl rfl ?_
        refine aw_g (g_cv64 rfl (ui_93) (us_3) rfl) rfl rfl rfl ?_
        refine aw_g (g_call (tells_pub (rbin_ok _ 6 (by decide))) rfl fn_72 ⟨(arg_v rfl), (arg_v rfl), trivial⟩ rfl) rfl rfl rfl ?_
        refine aw_append rfl rfl rfl rfl rfl rfl rfl row_71 (by simp only [List.length_append, List.length_cons, List.length_nil, numBytes_len]; omega) ?_
        refine aw_g (g_mo (.inr rfl) rfl) rfl rfl rfl ?_
        refine aw_nil ?_
        refine aw_region ?_
        refine aw_g (g_mo (.inl rfl) rfl) rfl rfl rfl ?_
        refine aw_g (g_fa_p rfl rfl fd_26_1 rfl) rfl rfl rfl ?_
        refine aw_g (g_load_b rfl rfl rfl L_Tx_outs ty_24) rfl rfl rfl ?_
        refine aw_g (g_mv (.inl rfl) rfl) rfl rfl rfl ?_
        refine aw_g (g_ia_i (i := k) rfl rfl rfl (by omega) sl_24 (by assumption)) rfl rfl rfl ?_
        refine aw_g (g_fa_r rfl rfl fd_48_1 L_Out_to) rfl rfl rfl ?_
        refine aw_g (g_load_r rfl rfl ty_3) rfl rfl rfl ?_
        refine aw_g (g_cv8 rfl (ui_5) (us_3) rfl) rfl rfl rfl ?_
        refine aw_g (g_bslice (T := u8T) (xs := [_]) rfl sl_71 row_71 ⟨rfl, rfl, trivial⟩ rfl rfl) rfl rfl rfl ?_
        refine aw_append rfl rfl rfl rfl rfl rfl rfl row_71 (by simp only [List.length_append, List.length_cons, List.length_nil, numBytes_len]; omega) ?_
        refine aw_g (g_mo (.inr rfl) rfl) rfl rfl rfl ?_
        refine aw_nil ?_
        refine aw_inBlock ?_
        refine aw_region ?_
        refine aw_g (g_mv (.inl rfl) rfl) rfl rfl rfl ?_
        refine aw_g (by first | exact g_add rfl rfl rfl (wrap_eq (by first | omega | (simp; omega))) | exact g_add rfl rfl rfl rfl) rfl rfl rfl ?_
        refine aw_g (g_mv (.inr rfl) rfl) rfl rfl rfl ?_
        refine aw_nil ?_
        refine aw_ren 3 1 4 rfl rfl rfl rfl rfl rfl ?_
        refine aw_rerow (n := 1) rfl (putOuts_step hx).symm ?_
        exact aw_next (k + 1) (⟨by omega, by rw [putOuts_step hx]; simp only [List.length_append, List.length_cons, List.length_nil, numBytes_len]; omega⟩) (by omega) rfl (by (repeat refine Fr.le_set ?_ (by first | rfl | (simp; done))); exact Fr.le_none _) (by (repeat refine Hp.le_set ?_ rfl); exact Hp.le_none _) (by (repeat refine Fr.below_setB ?_ rfl); exact Fr.below_none _) (by (repeat refine Hp.below_set ?_ (by decide)); exact Hp.below_none _)
      · skip
        refine aw_exit rfl ?_
        refine aw_seq ?_
        refine aw_region ?_
        refine aw_g (g_mo (.inl rfl) rfl) rfl rfl rfl ?_
        refine aw_g (g_mo (.inr rfl) rfl) rfl rfl rfl ?_
        refine aw_g (g_mv (.inr rfl) rfl) rfl rfl rfl ?_
        refine aw_nil ?_
        exact aw_ret2 rfl rfl (ret_fresh_eq rfl rfl (by rw [if_pos hmay, show k = t.outs.length by omega]; rfl)) (ret_eq rfl hmay.symm)

theorem rid_ok (t : Tx) : Tells P 35 [.val txT t] (.val idT (idOf t)) := by
  refine fn_of_aw Try.func35 rfl rfl rfl (fun ext w hext => ?_)
  refine aw_fact (d := 0) rfl fact_tx (fun h32 => ?_)
  refine aw_seq ?_
  refine aw_region ?_
  refine aw_box rfl rfl rfl rfl rfl ?_
  refine aw_alloc ze_40 rfl rfl rfl rfl ?_
  refine aw_nil ?_
  refine aw_seq ?_
  refine aw_region ?_
  refine aw_g (g_load_b rfl rfl rfl (Lens.self _) ty_26) rfl rfl rfl ?_
  refine aw_g (g_call (tells_pub2 (rput_ok t)) rfl fn_58 ⟨(arg_v rfl), trivial⟩ rfl) rfl rfl rfl ?_
  refine aw_g (by first | exact g_mv (.inl rfl) rfl | exact g_mp (.inl rfl) rfl | exact g_mo (.inl rfl) rfl | exact g_ml (.inl rfl) rfl | exact g_mc (.inl rfl) rfl | exact g_mr (.inl rfl) rfl | exact g_mf1 (.inl rfl) rfl | exact g_mf2 (.inl rfl) rfl | exact g_mw (.inl rfl) rfl | exact g_me (.inl rfl) rfl | exact g_ms (.inl rfl) rfl | exact g_mt2 (.inl rfl) rfl | exact g_mt3 (.inl rfl) rfl | exact g_mi (.inl rfl) rfl) rfl rfl rfl ?_
  refine aw_g (by first | exact g_x20 rfl rfl | exact g_x30 rfl rfl) rfl rfl rfl ?_
  refine aw_g (by first | exact g_x21 rfl rfl | exact g_x31 rfl rfl) rfl rfl rfl ?_
  refine aw_g (g_mv (.inr rfl) rfl) rfl rfl rfl ?_
  refine aw_g (g_mv (.inr rfl) rfl) rfl rfl rfl ?_
  refine aw_nil ?_
  refine aw_seq ?_
  refine aw_seq ?_
  refine aw_region ?_
  refine aw_g (g_mv (.inl rfl) rfl) rfl rfl rfl ?_
  refine aw_g (g_not rfl rfl) rfl rfl rfl ?_
  refine aw_nil ?_
  refine aw_ifc (p := ¬ mayTx t = true) rfl (by simp) (fun ht11 => ?_) (fun ht11 => ?_)
  · skip
    refine aw_seq ?_
    refine aw_region ?_
    refine aw_g (g_buildZ rfl ar_40 ze_40 rfl) rfl rfl rfl ?_
    refine aw_store_b rfl rfl rfl rfl rfl (Lens.self _) ty_40 rfl ?_
    refine aw_nil ?_
    exact aw_retc1 rfl rfl rfl rfl ty_40 (by unfold idOf; rw [if_neg ht11])
  · skip
    refine aw_reval (d := 3) rfl (if_pos (Classical.not_not.1 ht11)) ?_
    refine aw_skip ?_
    refine aw_seq ?_
    refine aw_region ?_
    refine aw_g (g_bslice (T := u8T) (xs := [_]) rfl sl_71 row_71 ⟨rfl, rfl, trivial⟩ rfl rfl) rfl rfl rfl ?_
    refine aw_g (g_mv (.inl rfl) rfl) rfl rfl rfl ?_
    refine aw_g (g_bslice (T := (sl u8T)) (xs := [_, _]) rfl sl_86 row_86 ⟨rfl, rfl, rfl, rfl, trivial⟩ rfl rfl) rfl rfl rfl ?_
    refine aw_g (g_call (rof_ok [[6], putTx t] (by have := putTx_len (Classical.not_not.1 ht11) h32; simp; omega)) rfl fn_59 ⟨(arg_v rfl), trivial⟩ rfl) rfl rfl rfl ?_
    refine aw_store_b rfl rfl rfl rfl rfl (Lens.self _) ty_40 rfl ?_
    refine aw_nil ?_
    exact aw_retc1 rfl rfl rfl rfl ty_40 (by unfold idOf; rw [if_pos (Classical.not_not.1 ht11)]; simp)

end Go.Proofs.Ytmfgemnmelbflaa
