/- The document's sum of bytes: words and rounds; what it does by sums and products, done by bits. -/
import Derived.Test.YtmfgemnmelbflaaSum
set_option maxRecDepth 20000
namespace Go.Proofs.Ytmfgemnmelbflaa
set_option linter.unusedVariables false
set_option linter.unusedSimpArgs false
open Go.Ab Go.RowKit

/-- 2 as often times itself. -/
def powN : Nat → UInt32
  | 0 => 1
  | n + 1 => 2 * powN n
theorem powN_nat : ∀ n, n < 32 → (powN n).toNat = 2 ^ n
  | 0, _ => rfl
  | n + 1, h => by
    have ih := powN_nat n (by omega)
    have h2 : 2 ^ n ≤ 2 ^ 30 := Nat.pow_le_pow_right (by decide) (by omega)
    rw [powN, UInt32.toNat_mul, ih, Nat.pow_succ]
    have e : (2 : UInt32).toNat = 2 := rfl
    rw [e]
    omega
theorem turn_n : ∀ n : Nat, n < 32 → 0 < n → (u64OfI (IntKind.i64.wrap (0 - (n : Int))) &&& 31).toNat = 32 - n ∧ (32 - (u64OfI (IntKind.i64.wrap (0 - (n : Int))) &&& 31)).toNat = n := by decide +kernel
theorem or_add {a b k : Nat} (h : b < 2 ^ k) : a * 2 ^ k ||| b = a * 2 ^ k + b := by
  rw [Nat.mul_comm]
  exact (Nat.two_pow_add_eq_or_of_lt h a).symm
theorem turn_rr (x : UInt32) {n : Nat} (h0 : 0 < n) (h : n < 32) : x / powN n + x * powN (32 - n) = rr x n := by
  have hx : x.toNat < 2 ^ 32 := x.toNat_lt
  obtain ⟨e1, e2⟩ := turn_n n h h0
  apply UInt32.toNat_inj.1
  unfold rr rotl
  rw [e1, e2, UInt32.toNat_add, UInt32.toNat_div, UInt32.toNat_mul, powN_nat n h, powN_nat (32 - n) (by omega), UInt32.toNat_or]
  unfold shl32 shr32
  rw [UInt32.toNat_ofNat', Nat.min_eq_left (by omega), UInt32.toNat_ofNat_of_lt' (Nat.lt_of_le_of_lt (Nat.div_le_self _ _) hx), Nat.min_eq_left (by omega)]
  have hp : 2 ^ 32 = 2 ^ n * 2 ^ (32 - n) := by rw [← Nat.pow_add]; congr 1; omega
  have hm : x.toNat * 2 ^ (32 - n) % 2 ^ 32 = x.toNat % 2 ^ n * 2 ^ (32 - n) := by rw [hp, Nat.mul_mod_mul_right]
  have hd : x.toNat / 2 ^ n < 2 ^ (32 - n) := by rw [Nat.div_lt_iff_lt_mul (Nat.two_pow_pos n), Nat.mul_comm, ← hp]; exact hx
  rw [hm, or_add hd, Nat.add_comm]
  refine Nat.mod_eq_of_lt ?_
  have hl := Nat.mod_lt x.toNat (Nat.two_pow_pos n)
  have : x.toNat % 2 ^ n * 2 ^ (32 - n) + 2 ^ (32 - n) ≤ 2 ^ n * 2 ^ (32 - n) := by
    rw [← Nat.succ_mul]
    exact Nat.mul_le_mul_right _ hl
  omega
theorem maj_eq (a b c : UInt32) : (a &&& b) ||| (a &&& c) ||| (b &&& c) = (a &&& b) ^^^ (a &&& c) ^^^ (b &&& c) := by
  apply UInt32.toBitVec_inj.1
  simp only [UInt32.toBitVec_or, UInt32.toBitVec_and, UInt32.toBitVec_xor]
  ext i hi
  simp only [BitVec.getElem_or, BitVec.getElem_and, BitVec.getElem_xor]
  cases a.toBitVec[i] <;> cases b.toBitVec[i] <;> cases c.toBitVec[i] <;> rfl
theorem not_eq (a : UInt32) : 4294967295 - a = ~~~ a := by
  apply UInt32.toNat_inj.1
  have ha : a.toNat < 4294967296 := a.toNat_lt
  rw [UInt32.toNat_sub, UInt32.toNat_not]
  have e : (4294967295 : UInt32).toNat = 4294967295 := rfl
  rw [e]
  have : UInt32.size = 4294967296 := rfl
  omega
theorem u32_of8 (x : UInt8) : (u32OfI (IntL.toI u8T x)).toNat = x.toNat := by
  have hx : x.toNat < 256 := x.toNat_lt
  unfold u32OfI
  show (UInt32.ofNat ((x.toNat : Int) % 4294967296).toNat).toNat = _
  rw [show ((x.toNat : Int) % 4294967296).toNat = x.toNat by omega, UInt32.toNat_ofNat_of_lt' (by show _ < 4294967296; omega)]
theorem be_eq (x0 x1 x2 x3 : UInt8) : 16777216 * u32OfI (IntL.toI u8T x0) + 65536 * u32OfI (IntL.toI u8T x1) + 256 * u32OfI (IntL.toI u8T x2) + u32OfI (IntL.toI u8T x3) = beWord x0 x1 x2 x3 := by
  have h0 : x0.toNat < 256 := x0.toNat_lt
  have h1 : x1.toNat < 256 := x1.toNat_lt
  have h2 : x2.toNat < 256 := x2.toNat_lt
  have h3 : x3.toNat < 256 := x3.toNat_lt
  apply UInt32.toNat_inj.1
  unfold beWord shl32
  simp only [UInt32.toNat_or, UInt32.toNat_add, UInt32.toNat_mul, u32_of8]
  rw [UInt32.toNat_ofNat_of_lt' (show x0.toNat * 2 ^ min 24 32 < 2 ^ 32 by show x0.toNat * 16777216 < 4294967296; omega), UInt32.toNat_ofNat_of_lt' (show x1.toNat * 2 ^ min 16 32 < 2 ^ 32 by show x1.toNat * 65536 < 4294967296; omega), UInt32.toNat_ofNat_of_lt' (show x2.toNat * 2 ^ min 8 32 < 2 ^ 32 by show x2.toNat * 256 < 4294967296; omega)]
  have e1 : x0.toNat * 2 ^ min 24 32 ||| x1.toNat * 2 ^ min 16 32 = (x0.toNat * 256 + x1.toNat) * 2 ^ 16 := by
    rw [show x0.toNat * 2 ^ min 24 32 = x0.toNat * 2 ^ 24 from rfl, or_add (k := 24) (by show x1.toNat * 65536 < 16777216; omega)]
    show x0.toNat * 16777216 + x1.toNat * 65536 = (x0.toNat * 256 + x1.toNat) * 65536
    omega
  rw [e1, or_add (k := 16) (by show x2.toNat * 256 < 65536; omega)]
  have e2 : (x0.toNat * 256 + x1.toNat) * 2 ^ 16 + x2.toNat * 2 ^ min 8 32 = ((x0.toNat * 256 + x1.toNat) * 256 + x2.toNat) * 2 ^ 8 := by
    show (x0.toNat * 256 + x1.toNat) * 65536 + x2.toNat * 256 = ((x0.toNat * 256 + x1.toNat) * 256 + x2.toNat) * 256
    omega
  rw [e2, or_add (k := 8) (by show x3.toNat < 256; omega)]
  have c1 : (16777216 : UInt32).toNat = 16777216 := rfl
  have c2 : (65536 : UInt32).toNat = 65536 := rfl
  have c3 : (256 : UInt32).toNat = 256 := rfl
  rw [c1, c2, c3]
  omega
theorem div8 (x : UInt32) : x / 8 = shr32 x 3 := by
  apply UInt32.toNat_inj.1
  have hx : x.toNat < 4294967296 := x.toNat_lt
  unfold shr32
  rw [UInt32.toNat_div, UInt32.toNat_ofNat_of_lt' (Nat.lt_of_le_of_lt (Nat.div_le_self _ _) hx)]
  rfl
theorem div1024 (x : UInt32) : x / 1024 = shr32 x 10 := by
  apply UInt32.toNat_inj.1
  have hx : x.toNat < 4294967296 := x.toNat_lt
  unfold shr32
  rw [UInt32.toNat_div, UInt32.toNat_ofNat_of_lt' (Nat.lt_of_le_of_lt (Nat.div_le_self _ _) hx)]
  rfl
theorem sched_eq (a b x y : UInt32) : a + (x / powN 7 + x * powN (32 - 7) ^^^ (x / powN 18 + x * powN (32 - 18)) ^^^ x / 8) + b + (y / powN 17 + y * powN (32 - 17) ^^^ (y / powN 19 + y * powN (32 - 19)) ^^^ y / 1024) = schedWord a b x y := by
  rw [turn_rr x (by decide) (by decide), turn_rr x (by decide) (by decide), turn_rr y (by decide) (by decide), turn_rr y (by decide) (by decide), div8, div1024]
  unfold schedWord
  rw [UInt32.add_assoc a _ b, UInt32.add_comm _ b, ← UInt32.add_assoc]
  rfl

theorem schedN_len {b : List UInt8} : ∀ k, (schedN b k).length = 64
  | 0 => by simp [schedN]
  | k + 1 => by
    have e : schedN b (k + 1) = schedStep b (schedN b k) k := fold_succ
    rw [e]; unfold schedStep
    have := schedN_len (b := b) k
    split <;> rw [List.length_set] <;> exact this
theorem take_set {α : Type} {l : List α} {k : Nat} {x : α} (hk : k < l.length) : (l.set k x).take (k + 1) = l.take k ++ [x] := by
  rw [List.take_add_one, List.take_set_of_le (Nat.le_refl k), List.getElem?_set_self hk]; rfl
theorem words_lo {b : List UInt8} {k : Nat} {x0 x1 x2 x3 : UInt8} (hk : k < 16) (h0 : b[4 * k]? = some x0) (h1 : b[4 * k + 1]? = some x1) (h2 : b[4 * k + 2]? = some x2) (h3 : b[4 * k + 3]? = some x3) : (schedN b k).take k ++ [16777216 * u32OfI (IntL.toI u8T x0) + 65536 * u32OfI (IntL.toI u8T x1) + 256 * u32OfI (IntL.toI u8T x2) + u32OfI (IntL.toI u8T x3)] = (schedN b (k + 1)).take (k + 1) := by
  rw [be_eq, ← sched_lo hk h0 h1 h2 h3, take_set (by rw [schedN_len]; omega)]
theorem take_getD {l : List UInt32} {k j : Nat} {x : UInt32} (h : (l.take k)[j]? = some x) : l.getD j default = x := by
  have hj : j < k := by
    have := (List.getElem?_eq_some_iff.1 h).1
    rw [List.length_take] at this; omega
  rw [List.getElem?_take_of_lt hj] at h
  rw [List.getD_eq_getElem?_getD, h]; rfl
theorem words_hi {b : List UInt8} {k : Nat} {u v x y : UInt32} (hk : ¬ k < 16) (hk2 : k < 64) (hu : ((schedN b k).take k)[k - 16]? = some u) (hv : ((schedN b k).take k)[k - 7]? = some v) (hx : ((schedN b k).take k)[k - 15]? = some x) (hy : ((schedN b k).take k)[k - 2]? = some y) :
    (schedN b k).take k ++ [u + (rr x 7 ^^^ rr x 18 ^^^ x / 8) + v + (rr y 17 ^^^ rr y 19 ^^^ y / 1024)] = (schedN b (k + 1)).take (k + 1) := by
  rw [← sched_hi hk, take_set (by rw [schedN_len]; omega), take_getD hu, take_getD hv, take_getD hx, take_getD hy, div8, div1024]
  unfold schedWord
  rw [UInt32.add_assoc u _ v, UInt32.add_comm _ v, ← UInt32.add_assoc]
theorem eight {l : List UInt32} (h : l.length = 8) : ∃ a b c d e f g i, l = [a, b, c, d, e, f, g, i] := by
  match l, h with
  | [a, b, c, d, e, f, g, i], _ => exact ⟨a, b, c, d, e, f, g, i, rfl⟩
theorem round_ref {w h : List UInt32} {k : Nat} {a b c d e f g i kk ww : UInt32} (hv : roundN w h k = [a, b, c, d, e, f, g, i]) (hk : shaK[k]? = some kk) (hw : w[k]? = some ww) :
    [i + (rr e 6 ^^^ rr e 11 ^^^ rr e 25) + ((e &&& f) ^^^ ((4294967295 - e) &&& g)) + kk + ww + (rr a 2 ^^^ rr a 13 ^^^ rr a 22) + ((a &&& b) ||| (a &&& c) ||| (b &&& c)), a, b, c, d + (i + (rr e 6 ^^^ rr e 11 ^^^ rr e 25) + ((e &&& f) ^^^ ((4294967295 - e) &&& g)) + kk + ww), e, f, g] = roundN w h (k + 1) := by
  rw [← round_succ, hv, maj_eq, not_eq, UInt32.add_assoc _ _ ((a &&& b) ^^^ (a &&& c) ^^^ (b &&& c))]
  unfold roundStep roundX roundY
  simp only [List.getD_eq_getElem?_getD (l := shaK), List.getD_eq_getElem?_getD (l := w), hk, hw, Option.getD_some]
  rfl
theorem sumN_comm {v s : List UInt32} (hv : v.length = 8) (hs : s.length = 8) : sumN v s 8 = sumN s v 8 := by
  obtain ⟨a, b, c, d, e, f, g, i, rfl⟩ := eight hv
  obtain ⟨a', b', c', d', e', f', g', i', rfl⟩ := eight hs
  show [a' + a, b' + b, c' + c, d' + d, e' + e, f' + f, g' + g, i' + i] = [a + a', b + b', c + c', d + d', e + e', f + f', g + g', i + i']
  simp only [UInt32.add_comm]
theorem sum_succ2 {v s : List UInt32} {k : Nat} {x y : UInt32} (h : v[k]? = some x) (hy : (sumN v s k)[k]? = some y) : (sumN v s k).set k (y + x) = sumN v s (k + 1) := by
  rw [← sum_succ h, List.getD_eq_getElem?_getD, hy]; rfl

theorem rpow_ok (n : Int) (hn : n < 100) : Tells P 106 [.val i64T n] (.val u32T (powN n.toNat)) := by
  refine fn_of_aw Try.func106 rfl rfl rfl (fun ext w hext => ?_)
  refine aw_fact (d := 0) rfl fact_int (fun hin0 => ?_)
  refine aw_seq ?_
  refine aw_region ?_
  refine aw_g (g_mv (.inr rfl) rfl) rfl rfl rfl ?_
  refine aw_nil ?_
  refine aw_seq ?_
  refine aw_region ?_
  refine aw_g (g_mv (.inr rfl) rfl) rfl rfl rfl ?_
  refine aw_nil ?_
  refine aw_seq ?_
  refine aw_seq ?_
  refine aw_region ?_
  refine aw_g (g_mv (.inr rfl) rfl) rfl rfl rfl ?_
  refine aw_nil ?_
  refine aw_block ?_
  refine aw_loopI (ι := Nat) 0 rfl (fun (k : Nat) => (((Fr.none).set 0 (.val i64T n)).set 3 (.val u32T (powN k))).set 4 (.val i64T (k : Int))) (fun (k : Nat) => Hp.none) (fun (k : Nat) => k ≤ n.toNat) (fun (k : Nat) => n.toNat - k) (0) (Nat.zero_le _) (by (repeat refine Fr.le_set ?_ (by first | rfl | (simp; done))); exact Fr.le_none _) (by (repeat refine Hp.le_set ?_ rfl); exact Hp.le_none _) (by (repeat refine Fr.below_setB ?_ rfl); exact Fr.below_none _) (by (repeat refine Hp.below_set ?_ (by decide)); exact Hp.below_none _) ?_
  intro k hinv
  refine aw_seq ?_
  refine aw_seq ?_
  refine aw_region ?_
  refine aw_g (g_mv (.inl rfl) rfl) rfl rfl rfl ?_
  refine aw_g (g_mv (.inl rfl) rfl) rfl rfl rfl ?_
  refine aw_g (g_lss rfl rfl rfl rfl) rfl rfl rfl ?_
  refine aw_nil ?_
  refine aw_ifc (p := k < n.toNat) rfl (by first | rfl | (rw [decide_eq_decide]; simp only [IntL.toI, id_eq]; omega) | (simp [IntL.toI]; done) | (simp [IntL.toI]; omega)) (fun ht7 => ?_) (fun ht7 => ?_)
  · skip
    refine aw_skip ?_
    refine aw_seq ?_
    refine aw_block ?_
    refine aw_region ?_
    refine aw_g (g_mv (.inl rfl) rfl) rfl rfl rfl ?_
    refine aw_g (g_mul32 rfl rfl rfl) rfl rfl rfl ?_
    refine aw_g (g_mv (.inr rfl) rfl) rfl rfl rfl ?_
    refine aw_nil ?_
    refine aw_inBlock ?_
    refine aw_region ?_
    refine aw_g (g_mv (.inl rfl) rfl) rfl rfl rfl ?_
    refine aw_g (by first | exact g_add rfl rfl rfl (wrap_eq (by first | omega | (simp; omega))) | exact g_add rfl rfl rfl rfl) rfl rfl rfl ?_
    refine aw_g (g_mv (.inr rfl) rfl) rfl rfl rfl ?_
    refine aw_nil ?_
    exact aw_next (k + 1) (by omega) (by omega) rfl (by (repeat refine Fr.le_set ?_ (by first | rfl | (simp; done))); exact Fr.le_none _) (by (repeat refine Hp.le_set ?_ rfl); exact Hp.le_none _) (by (repeat refine Fr.below_setB ?_ rfl); exact Fr.below_none _) (by (repeat refine Hp.below_set ?_ (by decide)); exact Hp.below_none _)
  · skip
    obtain rfl : k = n.toNat := (by omega)
    refine aw_exit rfl ?_
    refine aw_seq ?_
    refine aw_region ?_
    refine aw_g (g_mv (.inl rfl) rfl) rfl rfl rfl ?_
    refine aw_g (g_mv (.inr rfl) rfl) rfl rfl rfl ?_
    refine aw_nil ?_
    exact aw_ret1 rfl rfl (ret_eq rfl rfl)

theorem rturn_ok (x : UInt32) (n : Nat) (h0 : 0 < n) (h : n < 32) : Tells P 103 [.val u32T x, .val i64T (n : Int)] (.val u32T (rr x (n : Int))) := by
  refine fn_of_aw Try.func103 rfl rfl rfl (fun ext w hext => ?_)
  refine aw_fact (d := 1) rfl fact_int (fun hin1 => ?_)
  refine aw_seq ?_
  refine aw_region ?_
  refine aw_g (g_mv (.inr rfl) rfl) rfl rfl rfl ?_
  refine aw_nil ?_
  refine aw_seq ?_
  refine aw_draw mixed (by decide +kernel) ?_
  refine GK.g (g_mv (.inl rfl) rfl) rfl rfl rfl ?_
  refine GK.g (g_mv (.inl rfl) rfl) rfl rfl rfl ?_
  refine GK.g (g_call (rpow_ok (n : Int) (by omega)) rfl fn_106 ⟨(arg_v rfl), trivial⟩ rfl) rfl rfl rfl ?_
  refine GK.g (g_quo32 rfl rfl rfl (by rw [Int.toNat_natCast, powN_nat _ h]; exact Nat.ne_of_gt (Nat.two_pow_pos n))) rfl rfl rfl ?_
  refine GK.g (g_mv (.inl rfl) rfl) rfl rfl rfl ?_
  refine GK.g (g_mv (.inl rfl) rfl) rfl rfl rfl ?_
  refine GK.g (by first | exact g_sub rfl rfl rfl (wrap_eq (by first | omega | (simp; omega))) | exact g_sub rfl rfl rfl rfl) rfl rfl rfl ?_
  refine GK.g (g_call (rpow_ok (32 - (n : Int)) (by omega)) rfl fn_106 ⟨(arg_v rfl), trivial⟩ rfl) rfl rfl rfl ?_
  refine GK.g (g_mul32 rfl rfl rfl) rfl rfl rfl ?_
  refine GK.g (g_add32 rfl rfl rfl) rfl rfl rfl ?_
  refine GK.g (g_mv (.inr rfl) rfl) rfl rfl rfl ?_
  refine GK.nil ?_
  exact aw_ret1 rfl rfl (ret_eq rfl (by rw [show (32 - (n : Int)).toNat = 32 - n by omega, Int.toNat_natCast]; exact turn_rr x h0 h))

theorem rnumbers_ok : Tells P 102 [] (.val (sl u32T) shaK) := by
  refine fn_of_aw Try.func102 rfl rfl rfl (fun ext w hext => ?_)
  refine aw_seq ?_
  refine aw_region ?_
  refine aw_g (g_ml (.inr rfl) rfl) rfl rfl rfl ?_
  refine aw_nil ?_
  refine aw_seq ?_
  refine aw_region ?_
  refine aw_g (g_bslice (T := u32T) (xs := [_, _, _, _, _, _, _, _, _, _, _, _, _, _, _, _, _, _, _, _, _, _, _, _, _, _, _, _, _, _, _, _, _, _, _, _, _, _, _, _, _, _, _, _, _, _, _, _, _, _, _, _, _, _, _, _, _, _, _, _, _, _, _, _]) rfl sl_122 row_122 ⟨rfl, rfl, rfl, rfl, rfl, rfl, rfl, rfl, rfl, rfl, rfl, rfl, rfl, rfl, rfl, rfl, rfl, rfl, rfl, rfl, rfl, rfl, rfl, rfl, rfl, rfl, rfl, rfl, rfl, rfl, rfl, rfl, rfl, rfl, rfl, rfl, rfl, rfl, rfl, rfl, rfl, rfl, rfl, rfl, rfl, rfl, rfl, rfl, rfl, rfl, rfl, rfl, rfl, rfl, rfl, rfl, rfl, rfl, rfl, rfl, rfl, rfl, rfl, rfl, rfl, rfl, rfl, rfl, rfl, rfl, rfl, rfl, rfl, rfl, rfl, rfl, rfl, rfl, rfl, rfl, rfl, rfl, rfl, rfl, rfl, rfl, rfl, rfl, rfl, rfl, rfl, rfl, rfl, rfl, rfl, rfl, rfl, rfl, rfl, rfl, rfl, rfl, rfl, rfl, rfl, rfl, rfl, rfl, rfl, rfl, rfl, rfl, rfl, rfl, rfl, rfl, rfl, rfl, rfl, rfl, rfl, rfl, rfl, rfl, rfl, rfl, rfl, rfl, trivial⟩ rfl rfl) rfl rfl rfl ?_
  refine aw_g (g_mv (.inr rfl) rfl) rfl rfl rfl ?_
  refine aw_nil ?_
  exact aw_ret1 rfl rfl (ret_eq rfl rfl)

theorem rfirst_ok : Tells P 91 [] (.val (sl u32T) shaH) := by
  refine fn_of_aw Try.func91 rfl rfl rfl (fun ext w hext => ?_)
  refine aw_seq ?_
  refine aw_region ?_
  refine aw_g (g_ml (.inr rfl) rfl) rfl rfl rfl ?_
  refine aw_nil ?_
  refine aw_seq ?_
  refine aw_region ?_
  refine aw_g (g_bslice (T := u32T) (xs := [_, _, _, _, _, _, _, _]) rfl sl_122 row_122 ⟨rfl, rfl, rfl, rfl, rfl, rfl, rfl, rfl, rfl, rfl, rfl, rfl, rfl, rfl, rfl, rfl, trivial⟩ rfl rfl) rfl rfl rfl ?_
  refine aw_g (g_mv (.inr rfl) rfl) rfl rfl rfl ?_
  refine aw_nil ?_
  exact aw_ret1 rfl rfl (ret_eq rfl rfl)

theorem rwords_ok (b : List UInt8) (hb : b.length = 64) : Tells P 93 [.val (bsl u8T) b] (.fresh 104 u32T (schedN b 64)) := by
  refine fn_of_aw Try.func93 rfl rfl rfl (fun ext w hext => ?_)
  refine aw_fact (d := 0) rfl fact_sl (fun hsl0 => ?_)
  refine aw_seq ?_
  refine aw_region ?_
  refine aw_g (g_ml (.inr rfl) rfl) rfl rfl rfl ?_
  refine aw_nil ?_
  refine aw_seq ?_
  refine aw_region ?_
  refine aw_g (g_ml (.inr rfl) rfl) rfl rfl rfl ?_
  refine aw_nil ?_
  refine aw_seq ?_
  refine aw_seq ?_
  refine aw_region ?_
  refine aw_g (g_mv (.inr rfl) rfl) rfl rfl rfl ?_
  refine aw_nil ?_
  refine aw_block ?_
  refine aw_nilrow (T := u32T) (d := 3) 104 rfl ?_
  refine aw_loopI (ι := Nat) 1 rfl (fun (k : Nat) => (((Fr.none).set 0 (.val (bsl u8T) b)).set 3 (.own 0)).set 4 (.val i64T (k : Int))) (fun (k : Nat) => (Hp.none).set 0 (.row 104 u32T ((schedN b k).take k))) (fun (k : Nat) => k ≤ 16) (fun (k : Nat) => 16 - k) (0) (Nat.zero_le _) (by (repeat refine Fr.le_set ?_ (by first | rfl | (simp; done))); exact Fr.le_none _) (by (repeat refine Hp.le_set ?_ rfl); exact Hp.le_none _) (by (repeat refine Fr.below_setB ?_ rfl); exact Fr.below_none _) (by (repeat refine Hp.below_set ?_ (by decide)); exact Hp.below_none _) ?_
  intro k hinv
  refine aw_seq ?_
  refine aw_seq ?_
  refine aw_region ?_
  refine aw_g (g_mv (.inl rfl) rfl) rfl rfl rfl ?_
  refine aw_g (g_lss rfl rfl rfl rfl) rfl rfl rfl ?_
  refine aw_nil ?_
  refine aw_ifc (p := k < 16) rfl (by first | rfl | (rw [decide_eq_decide]; simp only [IntL.toI, id_eq]; omega) | (simp [IntL.toI]; done) | (simp [IntL.toI]; omega)) (fun ht9 => ?_) (fun ht9 => ?_)
  · skip
    obtain ⟨x0, hx0⟩ : ∃ x, b[4 * k]? = some x := ⟨_, List.getElem?_eq_getElem (by omega)⟩
    obtain ⟨x1, hx1⟩ : ∃ x, b[4 * k + 1]? = some x := ⟨_, List.getElem?_eq_getElem (by omega)⟩
    obtain ⟨x2, hx2⟩ : ∃ x, b[4 * k + 2]? = some x := ⟨_, List.getElem?_eq_getElem (by omega)⟩
    obtain ⟨x3, hx3⟩ : ∃ x, b[4 * k + 3]? = some x := ⟨_, List.getElem?_eq_getElem (by omega)⟩
    refine aw_skip ?_
    refine aw_seq ?_
    refine aw_block ?_
    refine aw_drawx [some 1, some 1, some 1, some 1, some 1, some 1, some 1, some 1, some 1, some 1, some 1, some 1, some 1, some 1, some 1, some 1, some 1, some 1, some 1, some 1, some 1, some 1, some 1, some 1, some 1, some 1, some 1, some 1, some 1, some 1, some 1, some 1, some 1, some 1, some 1, none, some 1] mixed (by decide +kernel) ?_
    refine XK.g (g_mo (.inl rfl) rfl) rfl rfl rfl ?_
    refine XK.g (g_mv (.inl rfl) rfl) rfl rfl rfl ?_
    refine XK.g (g_mv (.inl rfl) rfl) rfl rfl rfl ?_
    refine XK.g (by first | exact g_mul rfl rfl rfl (wrap_eq (by first | omega | (simp; omega))) | exact g_mul rfl rfl rfl rfl) rfl rfl rfl ?_
    refine XK.g (g_ia_i (i := 4 * k) rfl rfl rfl (by omega) sl_71 (by assumption)) rfl rfl rfl ?_
    refine XK.g (g_load_r rfl rfl ty_5) rfl rfl rfl ?_
    refine XK.g (g_cv32 rfl (ui_104) (us_5) rfl) rfl rfl rfl ?_
    refine XK.g (g_mul32 rfl rfl rfl) rfl rfl rfl ?_
    refine XK.g (g_mv (.inl rfl) rfl) rfl rfl rfl ?_
    refine XK.g (g_mv (.inl rfl) rfl) rfl rfl rfl ?_
    refine XK.g (by first | exact g_mul rfl rfl rfl (wrap_eq (by first | omega | (simp; omega))) | exact g_mul rfl rfl rfl rfl) rfl rfl rfl ?_
    refine XK.g (by first | exact g_add rfl rfl rfl (wrap_eq (by first | omega | (simp; omega))) | exact g_add rfl rfl rfl rfl) rfl rfl rfl ?_
    refine XK.g (g_ia_i (i := 4 * k + 1) rfl rfl rfl (by omega) sl_71 (by assumption)) rfl rfl rfl ?_
    refine XK.g (g_load_r rfl rfl ty_5) rfl rfl rfl ?_
    refine XK.g (g_cv32 rfl (ui_104) (us_5) rfl) rfl rfl rfl ?_
    refine XK.g (g_mul32 rfl rfl rfl) rfl rfl rfl ?_
    refine XK.g (g_add32 rfl rfl rfl) rfl rfl rfl ?_
    refine XK.g (g_mv (.inl rfl) rfl) rfl rfl rfl ?_
    refine XK.g (g_mv (.inl rfl) rfl) rfl rfl rfl ?_
    refine XK.g (by first | exact g_mul rfl rfl rfl (wrap_eq (by first | omega | (simp; omega))) | exact g_mul rfl rfl rfl rfl) rfl rfl rfl ?_
    refine XK.g (by first | exact g_add rfl rfl rfl (wrap_eq (by first | omega | (simp; omega))) | exact g_add rfl rfl rfl rfl) rfl rfl rfl ?_
    refine XK.g (g_ia_i (i := 4 * k + 2) rfl rfl rfl (by omega) sl_71 (by assumption)) rfl rfl rfl ?_
    refine XK.g (g_load_r rfl rfl ty_5) rfl rfl rfl ?_
    refine XK.g (g_cv32 rfl (ui_104) (us_5) rfl) rfl rfl rfl ?_
    refine XK.g (g_mul32 rfl rfl rfl) rfl rfl rfl ?_
    refine XK.g (g_add32 rfl rfl rfl) rfl rfl rfl ?_
    refine XK.g (g_mv (.inl rfl) rfl) rfl rfl rfl ?_
    refine XK.g (g_mv (.inl rfl) rfl) rfl rfl rfl ?_
    refine XK.g (by first | exact g_mul rfl rfl rfl (wrap_eq (by first | omega | (simp; omega))) | exact g_mul rfl rfl rfl rfl) rfl rfl rfl ?_
    refine XK.g (by first | exact g_add rfl rfl rfl (wrap_eq (by first | omega | (simp; omega))) | exact g_add rfl rfl rfl rfl) rfl rfl rfl ?_
    refine XK.g (g_ia_i (i := 4 * k + 3) rfl rfl rfl (by omega) sl_71 (by assumption)) rfl rfl rfl ?_
    refine XK.g (g_load_r rfl rfl ty_5) rfl rfl rfl ?_
    refine XK.g (g_cv32 rfl (ui_104) (us_5) rfl) rfl rfl rfl ?_
    refine XK.g (g_add32 rfl rfl rfl) rfl rfl rfl ?_
    refine XK.g (g_bslice (T := u32T) (xs := [_]) rfl sl_122 row_122 ⟨rfl, rfl, trivial⟩ rfl rfl) rfl rfl rfl ?_
    refine XK.e (fun fr' hfr kk H => by exact aw_append rfl rfl rfl rfl ((hfr 12 (by decide +kernel)).trans rfl) rfl ((hfr 46 (by decide +kernel)).trans rfl) row_122 (by (try simp only [List.length_append, List.length_cons, List.length_nil, List.length_take, schedN_len]); omega) (aw_nil H)) ?_
    refine XK.g (g_mo (.inr rfl) rfl) rfl rfl rfl ?_
    refine XK.nil' ?_
    refine aw_inBlock ?_
    refine aw_region ?_
    refine aw_g (g_mv (.inl rfl) rfl) rfl rfl rfl ?_
    refine aw_g (by first | exact g_add rfl rfl rfl (wrap_eq (by first | omega | (simp; omega))) | exact g_add rfl rfl rfl rfl) rfl rfl rfl ?_
    refine aw_g (g_mv (.inr rfl) rfl) rfl rfl rfl ?_
    refine aw_nil ?_
    refine aw_ren 1 0 2 rfl rfl rfl rfl rfl rfl ?_
    refine aw_rerow (n := 0) rfl (words_lo ht9 hx0 hx1 hx2 hx3) ?_
    exact aw_next (k + 1) (by omega) (by omega) rfl (by (repeat refine Fr.le_set ?_ (by first | rfl | (simp; done))); exact Fr.le_none _) (by (repeat refine Hp.le_set ?_ rfl); exact Hp.le_none _) (by (repeat refine Fr.below_setB ?_ rfl); exact Fr.below_none _) (by (repeat refine Hp.below_set ?_ (by decide)); exact Hp.below_none _)
  · skip
    obtain rfl : k = 16 := (by omega)
    refine aw_exit rfl ?_
    refine aw_seq ?_
    refine aw_seq ?_
    refine aw_region ?_
    refine aw_g (g_mv (.inr rfl) rfl) rfl rfl rfl ?_
    refine aw_nil ?_
    refine aw_block ?_
    refine aw_loopI (ι := Nat) 1 rfl (fun (k : Nat) => ((Fr.none).set 3 (.own 0)).set 5 (.val i64T (k : Int))) (fun (k : Nat) => (Hp.none).set 0 (.row 104 u32T ((schedN b k).take k))) (fun (k : Nat) => 16 ≤ k ∧ k ≤ 64) (fun (k : Nat) => 64 - k) (16) (⟨Nat.le_refl _, by decide⟩) (by (repeat refine Fr.le_set ?_ (by first | rfl | (simp; done))); exact Fr.le_none _) (by (repeat refine Hp.le_set ?_ rfl); exact Hp.le_none _) (by (repeat refine Fr.below_setB ?_ rfl); exact Fr.below_none _) (by (repeat refine Hp.below_set ?_ (by decide)); exact Hp.below_none _) ?_
    intro k hinv
    refine aw_seq ?_
    refine aw_seq ?_
    refine aw_region ?_
    refine aw_g (g_mv (.inl rfl) rfl) rfl rfl rfl ?_
    refine aw_g (g_lss rfl rfl rfl rfl) rfl rfl rfl ?_
    refine aw_nil ?_
    refine aw_ifc (p := k < 64) rfl (by first | rfl | (rw [decide_eq_decide]; simp only [IntL.toI, id_eq]; omega) | (simp [IntL.toI]; done) | (simp [IntL.toI]; omega)) (fun ht49 => ?_) (fun ht49 => ?_)
    · skip
      obtain ⟨u, hu⟩ : ∃ x, ((schedN b k).take k)[k - 16]? = some x := ⟨_, List.getElem?_eq_getElem (by rw [List.length_take, schedN_len]; omega)⟩
      obtain ⟨v, hv⟩ : ∃ x, ((schedN b k).take k)[k - 7]? = some x := ⟨_, List.getElem?_eq_getElem (by rw [List.length_take, schedN_len]; omega)⟩
      obtain ⟨x, hx⟩ : ∃ x, ((schedN b k).take k)[k - 15]? = some x := ⟨_, List.getElem?_eq_getElem (by rw [List.length_take, schedN_len]; omega)⟩
      obtain ⟨y, hy⟩ : ∃ x, ((schedN b k).take k)[k - 2]? = some x := ⟨_, List.getElem?_eq_getElem (by rw [List.length_take, schedN_len]; omega)⟩
      have hl : ((schedN b k).take k).length = k := by rw [List.length_take, schedN_len]; omega
      refine aw_skip ?_
      refine aw_seq ?_
      refine aw_block ?_
      refine aw_seq ?_
      refine aw_draw mixed (by decide +kernel) ?_
      refine GK.g (g_mo (.inl rfl) rfl) rfl rfl rfl ?_
      refine GK.g (g_mv (.inl rfl) rfl) rfl rfl rfl ?_
      refine GK.g (by first | exact g_sub rfl rfl rfl (wrap_eq (by first | omega | (simp; omega))) | exact g_sub rfl rfl rfl rfl) rfl rfl rfl ?_
      refine GK.g (g_ia_o (i := k - 15) rfl rfl rfl rfl (by first | omega | rfl) sl_122 (by first | assumption | omega | (simp; omega))) rfl rfl rfl ?_
      refine GK.g (g_load_e rfl rfl rfl rfl (by assumption) (Lens.self _) ty_104) rfl rfl rfl ?_
      refine GK.g (g_call (rturn_ok x 7 (by decide) (by decide)) rfl fn_103 ⟨(arg_v rfl), (arg_v rfl), trivial⟩ rfl) rfl rfl rfl ?_
      refine GK.g (g_mo (.inl rfl) rfl) rfl rfl rfl ?_
      refine GK.g (g_mv (.inl rfl) rfl) rfl rfl rfl ?_
      refine GK.g (by first | exact g_sub rfl rfl rfl (wrap_eq (by first | omega | (simp; omega))) | exact g_sub rfl rfl rfl rfl) rfl rfl rfl ?_
      refine GK.g (g_ia_o (i := k - 15) rfl rfl rfl rfl (by first | omega | rfl) sl_122 (by first | assumption | omega | (simp; omega))) rfl rfl rfl ?_
      refine GK.g (g_load_e rfl rfl rfl rfl (by assumption) (Lens.self _) ty_104) rfl rfl rfl ?_
      refine GK.g (g_call (rturn_ok x 18 (by decide) (by decide)) rfl fn_103 ⟨(arg_v rfl), (arg_v rfl), trivial⟩ rfl) rfl rfl rfl ?_
      refine GK.g (g_xor32 rfl rfl rfl) rfl rfl rfl ?_
      refine GK.g (g_mo (.inl rfl) rfl) rfl rfl rfl ?_
      refine GK.g (g_mv (.inl rfl) rfl) rfl rfl rfl ?_
      refine GK.g (by first | exact g_sub rfl rfl rfl (wrap_eq (by first | omega | (simp; omega))) | exact g_sub rfl rfl rfl rfl) rfl rfl rfl ?_
      refine GK.g (g_ia_o (i := k - 15) rfl rfl rfl rfl (by first | omega | rfl) sl_122 (by first | assumption | omega | (simp; omega))) rfl rfl rfl ?_
      refine GK.g (g_load_e rfl rfl rfl rfl (by assumption) (Lens.self _) ty_104) rfl rfl rfl ?_
      refine GK.g (g_quo32 rfl rfl rfl (by decide)) rfl rfl rfl ?_
      refine GK.g (g_xor32 rfl rfl rfl) rfl rfl rfl ?_
      refine GK.g (g_mv (.inr rfl) rfl) rfl rfl rfl ?_
      refine GK.nil ?_
      refine aw_seq ?_
      refine aw_draw mixed (by decide +kernel) ?_
      refine GK.g (g_mo (.inl rfl) rfl) rfl rfl rfl ?_
      refine GK.g (g_mv (.inl rfl) rfl) rfl rfl rfl ?_
      refine GK.g (by first | exact g_sub rfl rfl rfl (wrap_eq (by first | omega | (simp; omega))) | exact g_sub rfl rfl rfl rfl) rfl rfl rfl ?_
      refine GK.g (g_ia_o (i := k - 2) rfl rfl rfl rfl (by first | omega | rfl) sl_122 (by first | assumption | omega | (simp; omega))) rfl rfl rfl ?_
      refine GK.g (g_load_e rfl rfl rfl rfl (by assumption) (Lens.self _) ty_104) rfl rfl rfl ?_
      refine GK.g (g_call (rturn_ok y 17 (by decide) (by decide)) rfl fn_103 ⟨(arg_v rfl), (arg_v rfl), trivial⟩ rfl) rfl rfl rfl ?_
      refine GK.g (g_mo (.inl rfl) rfl) rfl rfl rfl ?_
      refine GK.g (g_mv (.inl rfl) rfl) rfl rfl rfl ?_
      refine GK.g (by first | exact g_sub rfl rfl rfl (wrap_eq (by first | omega | (simp; omega))) | exact g_sub rfl rfl rfl rfl) rfl rfl rfl ?_
      refine GK.g (g_ia_o (i := k - 2) rfl rfl rfl rfl (by first | omega | rfl) sl_122 (by first | assumption | omega | (simp; omega))) rfl rfl rfl ?_
      refine GK.g (g_load_e rfl rfl rfl rfl (by assumption) (Lens.self _) ty_104) rfl rfl rfl ?_
      refine GK.g (g_call (rturn_ok y 19 (by decide) (by decide)) rfl fn_103 ⟨(arg_v rfl), (arg_v rfl), trivial⟩ rfl) rfl rfl rfl ?_
      refine GK.g (g_xor32 rfl rfl rfl) rfl rfl rfl ?_
      refine GK.g (g_mo (.inl rfl) rfl) rfl rfl rfl ?_
      refine GK.g (g_mv (.inl rfl) rfl) rfl rfl rfl ?_
      refine GK.g (by first | exact g_sub rfl rfl rfl (wrap_eq (by first | omega | (simp; omega))) | exact g_sub rfl rfl rfl rfl) rfl rfl rfl ?_
      refine GK.g (g_ia_o (i := k - 2) rfl rfl rfl rfl (by first | omega | rfl) sl_122 (by first | assumption | omega | (simp; omega))) rfl rfl rfl ?_
      refine GK.g (g_load_e rfl rfl rfl rfl (by assumption) (Lens.self _) ty_104) rfl rfl rfl ?_
      refine GK.g (g_quo32 rfl rfl rfl (by decide)) rfl rfl rfl ?_
      refine GK.g (g_xor32 rfl rfl rfl) rfl rfl rfl ?_
      refine GK.g (g_mv (.inr rfl) rfl) rfl rfl rfl ?_
      refine GK.nil ?_
      refine aw_drawx [some 1, some 1, some 1, some 1, some 1, some 1, some 1, some 1, some 1, some 1, some 1, some 1, some 1, some 1, some 1, some 1, some 1, none, some 1] mixed (by decide +kernel) ?_
      refine XK.g (g_mo (.inl rfl) rfl) rfl rfl rfl ?_
      refine XK.g (g_mo (.inl rfl) rfl) rfl rfl rfl ?_
      refine XK.g (g_mv (.inl rfl) rfl) rfl rfl rfl ?_
      refine XK.g (by first | exact g_sub rfl rfl rfl (wrap_eq (by first | omega | (simp; omega))) | exact g_sub rfl rfl rfl rfl) rfl rfl rfl ?_
      refine XK.g (g_ia_o (i := k - 16) rfl rfl rfl rfl (by first | omega | rfl) sl_122 (by first | assumption | omega | (simp; omega))) rfl rfl rfl ?_
      refine XK.g (g_load_e rfl rfl rfl rfl (by assumption) (Lens.self _) ty_104) rfl rfl rfl ?_
      refine XK.g (g_mv (.inl rfl) rfl) rfl rfl rfl ?_
      refine XK.g (g_add32 rfl rfl rfl) rfl rfl rfl ?_
      refine XK.g (g_mo (.inl rfl) rfl) rfl rfl rfl ?_
      refine XK.g (g_mv (.inl rfl) rfl) rfl rfl rfl ?_
      refine XK.g (by first | exact g_sub rfl rfl rfl (wrap_eq (by first | omega | (simp; omega))) | exact g_sub rfl rfl rfl rfl) rfl rfl rfl ?_
      refine XK.g (g_ia_o (i := k - 7) rfl rfl rfl rfl (by first | omega | rfl) sl_122 (by first | assumption | omega | (simp; omega))) rfl rfl rfl ?_
      refine XK.g (g_load_e rfl rfl rfl rfl (by assumption) (Lens.self _) ty_104) rfl rfl rfl ?_
      refine XK.g (g_add32 rfl rfl rfl) rfl rfl rfl ?_
      refine XK.g (g_mv (.inl rfl) rfl) rfl rfl rfl ?_
      refine XK.g (g_add32 rfl rfl rfl) rfl rfl rfl ?_
      refine XK.g (g_bslice (T := u32T) (xs := [_]) rfl sl_122 row_122 ⟨rfl, rfl, trivial⟩ rfl rfl) rfl rfl rfl ?_
      refine XK.e (fun fr' hfr kk H => by exact aw_append rfl rfl rfl rfl ((hfr 92 (by decide +kernel)).trans rfl) rfl ((hfr 108 (by decide +kernel)).trans rfl) row_122 (by (try simp only [List.length_append, List.length_cons, List.length_nil, List.length_take, schedN_len]); omega) (aw_nil H)) ?_
      refine XK.g (g_mo (.inr rfl) rfl) rfl rfl rfl ?_
      refine XK.nil' ?_
      refine aw_inBlock ?_
      refine aw_region ?_
      refine aw_g (g_mv (.inl rfl) rfl) rfl rfl rfl ?_
      refine aw_g (by first | exact g_add rfl rfl rfl (wrap_eq (by first | omega | (simp; omega))) | exact g_add rfl rfl rfl rfl) rfl rfl rfl ?_
      refine aw_g (g_mv (.inr rfl) rfl) rfl rfl rfl ?_
      refine aw_nil ?_
      refine aw_ren 1 0 2 rfl rfl rfl rfl rfl rfl ?_
      refine aw_rerow (n := 0) rfl (words_hi (by omega) ht49 hu hv hx hy) ?_
      exact aw_next (k + 1) (⟨by omega, by omega⟩) (by omega) rfl (by (repeat refine Fr.le_set ?_ (by first | rfl | (simp; done))); exact Fr.le_none _) (by (repeat refine Hp.le_set ?_ rfl); exact Hp.le_none _) (by (repeat refine Fr.below_setB ?_ rfl); exact Fr.below_none _) (by (repeat refine Hp.below_set ?_ (by decide)); exact Hp.below_none _)
    · skip
      obtain rfl : k = 64 := (by omega)
      refine aw_exit rfl ?_
      refine aw_seq ?_
      refine aw_region ?_
      refine aw_g (g_mo (.inl rfl) rfl) rfl rfl rfl ?_
      refine aw_g (g_mo (.inr rfl) rfl) rfl rfl rfl ?_
      refine aw_nil ?_
      exact aw_ret1 rfl rfl (ret_fresh_eq rfl rfl (List.take_of_length_le (by rw [schedN_len]; exact Nat.le_refl _)))

theorem rrounds_ok (hs ws : List UInt32) (hh : hs.length = 8) (hw : ws.length = 64) : Tells P 92 [.val (bsl u32T) hs, .val (bsl u32T) ws] (.fresh 104 u32T (sumN (roundN ws hs 64) hs 8)) := by
  refine fn_of_aw Try.func92 rfl rfl rfl (fun ext w hext => ?_)
  refine aw_fact (d := 0) rfl fact_sl (fun hsl0 => ?_)
  refine aw_fact (d := 1) rfl fact_sl (fun hsl1 => ?_)
  refine aw_seq ?_
  refine aw_region ?_
  refine aw_g (g_ml (.inr rfl) rfl) rfl rfl rfl ?_
  refine aw_nil ?_
  refine aw_seq ?_
  refine aw_region ?_
  refine aw_g (g_call (rnumbers_ok) rfl fn_102 trivial rfl) rfl rfl rfl ?_
  refine aw_g (g_mv (.inr rfl) rfl) rfl rfl rfl ?_
  refine aw_nil ?_
  refine aw_seq ?_
  refine aw_region ?_
  refine aw_g (g_mv (.inl rfl) rfl) rfl rfl rfl ?_
  refine aw_append0 rfl rfl rfl rfl rfl rfl row_122 (by omega) ?_
  refine aw_g (g_mo (.inr rfl) rfl) rfl rfl rfl ?_
  refine aw_nil ?_
  refine aw_seq ?_
  refine aw_seq ?_
  refine aw_region ?_
  refine aw_g (g_mv (.inr rfl) rfl) rfl rfl rfl ?_
  refine aw_nil ?_
  refine aw_block ?_
  refine aw_loopI (ι := Nat) 1 rfl (fun (k : Nat) => (((((Fr.none).set 0 (.val (bsl u32T) hs)).set 1 (.val (bsl u32T) ws)).set 5 (.val (sl u32T) shaK)).set 6 (.own 0)).set 7 (.val i64T (k : Int))) (fun (k : Nat) => (Hp.none).set 0 (.row 104 u32T (roundN ws hs k))) (fun (k : Nat) => k ≤ 64) (fun (k : Nat) => 64 - k) (0) (Nat.zero_le _) (by (repeat refine Fr.le_set ?_ (by first | rfl | (simp; done))); exact Fr.le_none _) (by (repeat refine Hp.le_set ?_ rfl); exact Hp.le_none _) (by (repeat refine Fr.below_setB ?_ rfl); exact Fr.below_none _) (by (repeat refine Hp.below_set ?_ (by decide)); exact Hp.below_none _) ?_
  intro k hinv
  refine aw_seq ?_
  refine aw_seq ?_
  refine aw_region ?_
  refine aw_g (g_mv (.inl rfl) rfl) rfl rfl rfl ?_
  refine aw_g (g_lss rfl rfl rfl rfl) rfl rfl rfl ?_
  refine aw_nil ?_
  refine aw_ifc (p := k < 64) rfl (by first | rfl | (rw [decide_eq_decide]; simp only [IntL.toI, id_eq]; omega) | (simp [IntL.toI]; done) | (simp [IntL.toI]; omega)) (fun ht18 => ?_) (fun ht18 => ?_)
  · skip
    obtain ⟨kk, hkk⟩ : ∃ x, shaK[k]? = some x := ⟨_, List.getElem?_eq_getElem (by show k < 64; omega)⟩
    obtain ⟨ww, hww⟩ : ∃ x, ws[k]? = some x := ⟨_, List.getElem?_eq_getElem (by omega)⟩
    obtain ⟨a, b, c, d, e, f, g, i, hv⟩ := eight (roundN_len (w := ws) hh k)
    refine aw_rerow (n := 0) rfl hv ?_
    have h0 : ([a, b, c, d, e, f, g, i] : List UInt32)[0]? = some a := rfl
    have h1 : ([a, b, c, d, e, f, g, i] : List UInt32)[1]? = some b := rfl
    have h2 : ([a, b, c, d, e, f, g, i] : List UInt32)[2]? = some c := rfl
    have h3 : ([a, b, c, d, e, f, g, i] : List UInt32)[3]? = some d := rfl
    have h4 : ([a, b, c, d, e, f, g, i] : List UInt32)[4]? = some e := rfl
    have h5 : ([a, b, c, d, e, f, g, i] : List UInt32)[5]? = some f := rfl
    have h6 : ([a, b, c, d, e, f, g, i] : List UInt32)[6]? = some g := rfl
    have h7 : ([a, b, c, d, e, f, g, i] : List UInt32)[7]? = some i := rfl
    have b0 : 0 < ([a, b, c, d, e, f, g, i] : List UInt32).length := by simp
    have b1 : 1 < ([a, b, c, d, e, f, g, i] : List UInt32).length := by simp
    have b2 : 2 < ([a, b, c, d, e, f, g, i] : List UInt32).length := by simp
    have b3 : 3 < ([a, b, c, d, e, f, g, i] : List UInt32).length := by simp
    have b4 : 4 < ([a, b, c, d, e, f, g, i] : List UInt32).length := by simp
    have b5 : 5 < ([a, b, c, d, e, f, g, i] : List UInt32).length := by simp
    have b6 : 6 < ([a, b, c, d, e, f, g, i] : List UInt32).length := by simp
    have b7 : 7 < ([a, b, c, d, e, f, g, i] : List UInt32).length := by simp
    refine aw_skip ?_
    refine aw_seq ?_
    refine aw_block ?_
    refine aw_seq ?_
    refine aw_draw mixed (by decide +kernel) ?_
    refine GK.g (g_mo (.inl rfl) rfl) rfl rfl rfl ?_
    refine GK.g (g_ia_o (i := 4) rfl rfl rfl rfl (by first | omega | rfl) sl_122 (by first | assumption | omega | (simp; omega))) rfl rfl rfl ?_
    refine GK.g (g_load_e rfl rfl rfl rfl (by assumption) (Lens.self _) ty_104) rfl rfl rfl ?_
    refine GK.g (g_call (rturn_ok e 6 (by decide) (by decide)) rfl fn_103 ⟨(arg_v rfl), (arg_v rfl), trivial⟩ rfl) rfl rfl rfl ?_
    refine GK.g (g_mo (.inl rfl) rfl) rfl rfl rfl ?_
    refine GK.g (g_ia_o (i := 4) rfl rfl rfl rfl (by first | omega | rfl) sl_122 (by first | assumption | omega | (simp; omega))) rfl rfl rfl ?_
    refine GK.g (g_load_e rfl rfl rfl rfl (by assumption) (Lens.self _) ty_104) rfl rfl rfl ?_
    refine GK.g (g_call (rturn_ok e 11 (by decide) (by decide)) rfl fn_103 ⟨(arg_v rfl), (arg_v rfl), trivial⟩ rfl) rfl rfl rfl ?_
    refine GK.g (g_xor32 rfl rfl rfl) rfl rfl rfl ?_
    refine GK.g (g_mo (.inl rfl) rfl) rfl rfl rfl ?_
    refine GK.g (g_ia_o (i := 4) rfl rfl rfl rfl (by first | omega | rfl) sl_122 (by first | assumption | omega | (simp; omega))) rfl rfl rfl ?_
    refine GK.g (g_load_e rfl rfl rfl rfl (by assumption) (Lens.self _) ty_104) rfl rfl rfl ?_
    refine GK.g (g_call (rturn_ok e 25 (by decide) (by decide)) rfl fn_103 ⟨(arg_v rfl), (arg_v rfl), trivial⟩ rfl) rfl rfl rfl ?_
    refine GK.g (g_xor32 rfl rfl rfl) rfl rfl rfl ?_
    refine GK.g (g_mv (.inr rfl) rfl) rfl rfl rfl ?_
    refine GK.nil ?_
    refine aw_seq ?_
    refine aw_draw mixed (by decide +kernel) ?_
    refine GK.g (g_mo (.inl rfl) rfl) rfl rfl rfl ?_
    refine GK.g (g_ia_o (i := 4) rfl rfl rfl rfl (by first | omega | rfl) sl_122 (by first | assumption | omega | (simp; omega))) rfl rfl rfl ?_
    refine GK.g (g_load_e rfl rfl rfl rfl (by assumption) (Lens.self _) ty_104) rfl rfl rfl ?_
    refine GK.g (g_mo (.inl rfl) rfl) rfl rfl rfl ?_
    refine GK.g (g_ia_o (i := 5) rfl rfl rfl rfl (by first | omega | rfl) sl_122 (by first | assumption | omega | (simp; omega))) rfl rfl rfl ?_
    refine GK.g (g_load_e rfl rfl rfl rfl (by assumption) (Lens.self _) ty_104) rfl rfl rfl ?_
    refine GK.g (g_and32 rfl rfl rfl) rfl rfl rfl ?_
    refine GK.g (g_mo (.inl rfl) rfl) rfl rfl rfl ?_
    refine GK.g (g_ia_o (i := 4) rfl rfl rfl rfl (by first | omega | rfl) sl_122 (by first | assumption | omega | (simp; omega))) rfl rfl rfl ?_
    refine GK.g (g_load_e rfl rfl rfl rfl (by assumption) (Lens.self _) ty_104) rfl rfl rfl ?_
    refine GK.g (g_sub32 rfl rfl rfl) rfl rfl rfl ?_
    refine GK.g (g_mo (.inl rfl) rfl) rfl rfl rfl ?_
    refine GK.g (g_ia_o (i := 6) rfl rfl rfl rfl (by first | omega | rfl) sl_122 (by first | assumption | omega | (simp; omega))) rfl rfl rfl ?_
    refine GK.g (g_load_e rfl rfl rfl rfl (by assumption) (Lens.self _) ty_104) rfl rfl rfl ?_
    refine GK.g (g_and32 rfl rfl rfl) rfl rfl rfl ?_
    refine GK.g (g_xor32 rfl rfl rfl) rfl rfl rfl ?_
    refine GK.g (g_mv (.inr rfl) rfl) rfl rfl rfl ?_
    refine GK.nil ?_
    refine aw_seq ?_
    refine aw_draw mixed (by decide +kernel) ?_
    refine GK.g (g_mo (.inl rfl) rfl) rfl rfl rfl ?_
    refine GK.g (g_ia_o (i := 7) rfl rfl rfl rfl (by first | omega | rfl) sl_122 (by first | assumption | omega | (simp; omega))) rfl rfl rfl ?_
    refine GK.g (g_load_e rfl rfl rfl rfl (by assumption) (Lens.self _) ty_104) rfl rfl rfl ?_
    refine GK.g (g_mv (.inl rfl) rfl) rfl rfl rfl ?_
    refine GK.g (g_add32 rfl rfl rfl) rfl rfl rfl ?_
    refine GK.g (g_mv (.inl rfl) rfl) rfl rfl rfl ?_
    refine GK.g (g_add32 rfl rfl rfl) rfl rfl rfl ?_
    refine GK.g (g_mv (.inl rfl) rfl) rfl rfl rfl ?_
    refine GK.g (g_mv (.inl rfl) rfl) rfl rfl rfl ?_
    refine GK.g (g_ia_i (i := k) rfl rfl rfl (by omega) sl_122 (by assumption)) rfl rfl rfl ?_
    refine GK.g (g_load_r rfl rfl ty_104) rfl rfl rfl ?_
    refine GK.g (g_add32 rfl rfl rfl) rfl rfl rfl ?_
    refine GK.g (g_mv (.inl rfl) rfl) rfl rfl rfl ?_
    refine GK.g (g_mv (.inl rfl) rfl) rfl rfl rfl ?_
    refine GK.g (g_ia_i (i := k) rfl rfl rfl (by omega) sl_122 (by assumption)) rfl rfl rfl ?_
    refine GK.g (g_load_r rfl rfl ty_104) rfl rfl rfl ?_
    refine GK.g (g_add32 rfl rfl rfl) rfl rfl rfl ?_
    refine GK.g (g_mv (.inr rfl) rfl) rfl rfl rfl ?_
    refine GK.nil ?_
    refine aw_seq ?_
    refine aw_draw mixed (by decide +kernel) ?_
    refine GK.g (g_mo (.inl rfl) rfl) rfl rfl rfl ?_
    refine GK.g (g_ia_o (i := 0) rfl rfl rfl rfl (by first | omega | rfl) sl_122 (by first | assumption | omega | (simp; omega))) rfl rfl rfl ?_
    refine GK.g (g_load_e rfl rfl rfl rfl (by assumption) (Lens.self _) ty_104) rfl rfl rfl ?_
    refine GK.g (g_call (rturn_ok a 2 (by decide) (by decide)) rfl fn_103 ⟨(arg_v rfl), (arg_v rfl), trivial⟩ rfl) rfl rfl rfl ?_
    refine GK.g (g_mo (.inl rfl) rfl) rfl rfl rfl ?_
    refine GK.g (g_ia_o (i := 0) rfl rfl rfl rfl (by first | omega | rfl) sl_122 (by first | assumption | omega | (simp; omega))) rfl rfl rfl ?_
    refine GK.g (g_load_e rfl rfl rfl rfl (by assumption) (Lens.self _) ty_104) rfl rfl rfl ?_
    refine GK.g (g_call (rturn_ok a 13 (by decide) (by decide)) rfl fn_103 ⟨(arg_v rfl), (arg_v rfl), trivial⟩ rfl) rfl rfl rfl ?_
    refine GK.g (g_xor32 rfl rfl rfl) rfl rfl rfl ?_
    refine GK.g (g_mo (.inl rfl) rfl) rfl rfl rfl ?_
    refine GK.g (g_ia_o (i := 0) rfl rfl rfl rfl (by first | omega | rfl) sl_122 (by first | assumption | omega | (simp; omega))) rfl rfl rfl ?_
    refine GK.g (g_load_e rfl rfl rfl rfl (by assumption) (Lens.self _) ty_104) rfl rfl rfl ?_
    refine GK.g (g_call (rturn_ok a 22 (by decide) (by decide)) rfl fn_103 ⟨(arg_v rfl), (arg_v rfl), trivial⟩ rfl) rfl rfl rfl ?_
    refine GK.g (g_xor32 rfl rfl rfl) rfl rfl rfl ?_
    refine GK.g (g_mv (.inr rfl) rfl) rfl rfl rfl ?_
    refine GK.nil ?_
    refine aw_seq ?_
    refine aw_draw mixed (by decide +kernel) ?_
    refine GK.g (g_mo (.inl rfl) rfl) rfl rfl rfl ?_
    refine GK.g (g_ia_o (i := 0) rfl rfl rfl rfl (by first | omega | rfl) sl_122 (by first | assumption | omega | (simp; omega))) rfl rfl rfl ?_
    refine GK.g (g_load_e rfl rfl rfl rfl (by assumption) (Lens.self _) ty_104) rfl rfl rfl ?_
    refine GK.g (g_mo (.inl rfl) rfl) rfl rfl rfl ?_
    refine GK.g (g_ia_o (i := 1) rfl rfl rfl rfl (by first | omega | rfl) sl_122 (by first | assumption | omega | (simp; omega))) rfl rfl rfl ?_
    refine GK.g (g_load_e rfl rfl rfl rfl (by assumption) (Lens.self _) ty_104) rfl rfl rfl ?_
    refine GK.g (g_and32 rfl rfl rfl) rfl rfl rfl ?_
    refine GK.g (g_mo (.inl rfl) rfl) rfl rfl rfl ?_
    refine GK.g (g_ia_o (i := 0) rfl rfl rfl rfl (by first | omega | rfl) sl_122 (by first | assumption | omega | (simp; omega))) rfl rfl rfl ?_
    refine GK.g (g_load_e rfl rfl rfl rfl (by assumption) (Lens.self _) ty_104) rfl rfl rfl ?_
    refine GK.g (g_mo (.inl rfl) rfl) rfl rfl rfl ?_
    refine GK.g (g_ia_o (i := 2) rfl rfl rfl rfl (by first | omega | rfl) sl_122 (by first | assumption | omega | (simp; omega))) rfl rfl rfl ?_
    refine GK.g (g_load_e rfl rfl rfl rfl (by assumption) (Lens.self _) ty_104) rfl rfl rfl ?_
    refine GK.g (g_and32 rfl rfl rfl) rfl rfl rfl ?_
    refine GK.g (g_or32 rfl rfl rfl) rfl rfl rfl ?_
    refine GK.g (g_mo (.inl rfl) rfl) rfl rfl rfl ?_
    refine GK.g (g_ia_o (i := 1) rfl rfl rfl rfl (by first | omega | rfl) sl_122 (by first | assumption | omega | (simp; omega))) rfl rfl rfl ?_
    refine GK.g (g_load_e rfl rfl rfl rfl (by assumption) (Lens.self _) ty_104) rfl rfl rfl ?_
    refine GK.g (g_mo (.inl rfl) rfl) rfl rfl rfl ?_
    refine GK.g (g_ia_o (i := 2) rfl rfl rfl rfl (by first | omega | rfl) sl_122 (by first | assumption | omega | (simp; omega))) rfl rfl rfl ?_
    refine GK.g (g_load_e rfl rfl rfl rfl (by assumption) (Lens.self _) ty_104) rfl rfl rfl ?_
    refine GK.g (g_and32 rfl rfl rfl) rfl rfl rfl ?_
    refine GK.g (g_or32 rfl rfl rfl) rfl rfl rfl ?_
    refine GK.g (g_mv (.inr rfl) rfl) rfl rfl rfl ?_
    refine GK.nil ?_
    refine aw_drawx [some 1, some 1, some 1, some 1, some 1, some 1, some 1, some 1, some 1, some 1, some 1, some 1, some 1, some 1, some 1, some 1, some 1, some 1, some 1, some 1, some 1, some 1, some 1, some 1, some 1, some 1, some 1, some 1, none, some 1] mixed (by decide +kernel) ?_
    refine XK.g (g_mv (.inl rfl) rfl) rfl rfl rfl ?_
    refine XK.g (g_mv (.inl rfl) rfl) rfl rfl rfl ?_
    refine XK.g (g_add32 rfl rfl rfl) rfl rfl rfl ?_
    refine XK.g (g_mv (.inl rfl) rfl) rfl rfl rfl ?_
    refine XK.g (g_add32 rfl rfl rfl) rfl rfl rfl ?_
    refine XK.g (g_mo (.inl rfl) rfl) rfl rfl rfl ?_
    refine XK.g (g_ia_o (i := 0) rfl rfl rfl rfl (by first | omega | rfl) sl_122 (by first | assumption | omega | (simp; omega))) rfl rfl rfl ?_
    refine XK.g (g_load_e rfl rfl rfl rfl (by assumption) (Lens.self _) ty_104) rfl rfl rfl ?_
    refine XK.g (g_mo (.inl rfl) rfl) rfl rfl rfl ?_
    refine XK.g (g_ia_o (i := 1) rfl rfl rfl rfl (by first | omega | rfl) sl_122 (by first | assumption | omega | (simp; omega))) rfl rfl rfl ?_
    refine XK.g (g_load_e rfl rfl rfl rfl (by assumption) (Lens.self _) ty_104) rfl rfl rfl ?_
    refine XK.g (g_mo (.inl rfl) rfl) rfl rfl rfl ?_
    refine XK.g (g_ia_o (i := 2) rfl rfl rfl rfl (by first | omega | rfl) sl_122 (by first | assumption | omega | (simp; omega))) rfl rfl rfl ?_
    refine XK.g (g_load_e rfl rfl rfl rfl (by assumption) (Lens.self _) ty_104) rfl rfl rfl ?_
    refine XK.g (g_mo (.inl rfl) rfl) rfl rfl rfl ?_
    refine XK.g (g_ia_o (i := 3) rfl rfl rfl rfl (by first | omega | rfl) sl_122 (by first | assumption | omega | (simp; omega))) rfl rfl rfl ?_
    refine XK.g (g_load_e rfl rfl rfl rfl (by assumption) (Lens.self _) ty_104) rfl rfl rfl ?_
    refine XK.g (g_mv (.inl rfl) rfl) rfl rfl rfl ?_
    refine XK.g (g_add32 rfl rfl rfl) rfl rfl rfl ?_
    refine XK.g (g_mo (.inl rfl) rfl) rfl rfl rfl ?_
    refine XK.g (g_ia_o (i := 4) rfl rfl rfl rfl (by first | omega | rfl) sl_122 (by first | assumption | omega | (simp; omega))) rfl rfl rfl ?_
    refine XK.g (g_load_e rfl rfl rfl rfl (by assumption) (Lens.self _) ty_104) rfl rfl rfl ?_
    refine XK.g (g_mo (.inl rfl) rfl) rfl rfl rfl ?_
    refine XK.g (g_ia_o (i := 5) rfl rfl rfl rfl (by first | omega | rfl) sl_122 (by first | assumption | omega | (simp; omega))) rfl rfl rfl ?_
    refine XK.g (g_load_e rfl rfl rfl rfl (by assumption) (Lens.self _) ty_104) rfl rfl rfl ?_
    refine XK.g (g_mo (.inl rfl) rfl) rfl rfl rfl ?_
    refine XK.g (g_ia_o (i := 6) rfl rfl rfl rfl (by first | omega | rfl) sl_122 (by first | assumption | omega | (simp; omega))) rfl rfl rfl ?_
    refine XK.g (g_load_e rfl rfl rfl rfl (by assumption) (Lens.self _) ty_104) rfl rfl rfl ?_
    refine XK.e (fun fr' hfr kk H => by exact aw_bslice (T := u32T) (xs := [_, _, _, _, _, _, _, _]) rfl rfl rfl rfl sl_122 row_122 ⟨rfl, ((hfr 109 (by decide +kernel)).trans rfl), rfl, ((hfr 112 (by decide +kernel)).trans rfl), rfl, ((hfr 115 (by decide +kernel)).trans rfl), rfl, ((hfr 118 (by decide +kernel)).trans rfl), rfl, ((hfr 123 (by decide +kernel)).trans rfl), rfl, ((hfr 126 (by decide +kernel)).trans rfl), rfl, ((hfr 129 (by decide +kernel)).trans rfl), rfl, ((hfr 132 (by decide +kernel)).trans rfl), trivial⟩ rfl rfl (aw_nil H)) ?_
    refine XK.g (g_mo (.inr rfl) rfl) rfl rfl rfl ?_
    refine XK.nil' ?_
    refine aw_inBlock ?_
    refine aw_region ?_
    refine aw_g (g_mv (.inl rfl) rfl) rfl rfl rfl ?_
    refine aw_g (by first | exact g_add rfl rfl rfl (wrap_eq (by first | omega | (simp; omega))) | exact g_add rfl rfl rfl rfl) rfl rfl rfl ?_
    refine aw_g (g_mv (.inr rfl) rfl) rfl rfl rfl ?_
    refine aw_nil ?_
    refine aw_drop 0 ?_
    refine aw_ren 1 0 2 rfl rfl rfl rfl rfl rfl ?_
    refine aw_rerow (n := 0) rfl (round_ref hv hkk hww) ?_
    exact aw_next (k + 1) (by omega) (by omega) rfl (by (repeat refine Fr.le_set ?_ (by first | rfl | (simp; done))); exact Fr.le_none _) (by (repeat refine Hp.le_set ?_ rfl); exact Hp.le_none _) (by (repeat refine Fr.below_setB ?_ rfl); exact Fr.below_none _) (by (repeat refine Hp.below_set ?_ (by decide)); exact Hp.below_none _)
  · skip
    obtain rfl : k = 64 := (by omega)
    refine aw_exit rfl ?_
    refine aw_seq ?_
    refine aw_seq ?_
    refine aw_region ?_
    refine aw_g (g_mv (.inr rfl) rfl) rfl rfl rfl ?_
    refine aw_nil ?_
    refine aw_block ?_
    refine aw_rerow (n := 0) (y := sumN hs (roundN ws hs 64) 0) rfl (by simp [sumN]) ?_
    refine aw_loopI (ι := Nat) 1 rfl (fun (k : Nat) => (((Fr.none).set 0 (.val (bsl u32T) hs)).set 6 (.own 0)).set 13 (.val i64T (k : Int))) (fun (k : Nat) => (Hp.none).set 0 (.row 104 u32T (sumN hs (roundN ws hs 64) k))) (fun (k : Nat) => k ≤ 8) (fun (k : Nat) => 8 - k) (0) (Nat.zero_le _) (by (repeat refine Fr.le_set ?_ (by first | rfl | (simp; done))); exact Fr.le_none _) (by (repeat refine Hp.le_set ?_ rfl); exact Hp.le_none _) (by (repeat refine Fr.below_setB ?_ rfl); exact Fr.below_none _) (by (repeat refine Hp.below_set ?_ (by decide)); exact Hp.below_none _) ?_
    intro k hinv
    refine aw_seq ?_
    refine aw_seq ?_
    refine aw_region ?_
    refine aw_g (g_mv (.inl rfl) rfl) rfl rfl rfl ?_
    refine aw_g (g_lss rfl rfl rfl rfl) rfl rfl rfl ?_
    refine aw_nil ?_
    refine aw_ifc (p := k < 8) rfl (by first | rfl | (rw [decide_eq_decide]; simp only [IntL.toI, id_eq]; omega) | (simp [IntL.toI]; done) | (simp [IntL.toI]; omega)) (fun ht135 => ?_) (fun ht135 => ?_)
    · skip
      have hsl : (sumN hs (roundN ws hs 64) k).length = 8 := by rw [sumN_len, roundN_len hh]
      obtain ⟨y, hy⟩ : ∃ x, (sumN hs (roundN ws hs 64) k)[k]? = some x := ⟨_, List.getElem?_eq_getElem (by omega)⟩
      obtain ⟨x, hx⟩ : ∃ x, hs[k]? = some x := ⟨_, List.getElem?_eq_getElem (by omega)⟩
      refine aw_skip ?_
      refine aw_seq ?_
      refine aw_block ?_
      refine aw_drawx [some 1, some 1, some 1, some 1, some 1, some 1, some 1, some 1, some 1, some 1, some 1, some 1, none] mixed (by decide +kernel) ?_
      refine XK.g (g_mo (.inl rfl) rfl) rfl rfl rfl ?_
      refine XK.g (g_mv (.inl rfl) rfl) rfl rfl rfl ?_
      refine XK.g (g_mo (.inl rfl) rfl) rfl rfl rfl ?_
      refine XK.g (g_mv (.inl rfl) rfl) rfl rfl rfl ?_
      refine XK.g (g_ia_o (i := k) rfl rfl rfl rfl (by first | omega | rfl) sl_122 (by first | assumption | omega | (simp; omega))) rfl rfl rfl ?_
      refine XK.g (g_load_e rfl rfl rfl rfl (by assumption) (Lens.self _) ty_104) rfl rfl rfl ?_
      refine XK.g (g_mv (.inl rfl) rfl) rfl rfl rfl ?_
      refine XK.g (g_mv (.inl rfl) rfl) rfl rfl rfl ?_
      refine XK.g (g_ia_i (i := k) rfl rfl rfl (by omega) sl_122 (by assumption)) rfl rfl rfl ?_
      refine XK.g (g_load_r rfl rfl ty_104) rfl rfl rfl ?_
      refine XK.g (g_add32 rfl rfl rfl) rfl rfl rfl ?_
      refine XK.g (g_ia_o (i := k) rfl rfl rfl rfl (by first | omega | rfl) sl_122 (by first | assumption | omega | (simp; omega))) rfl rfl rfl ?_
      refine XK.e (x := .idk) (fun fr' hfr kk H => by exact aw_store_e rfl rfl rfl ((hfr 149 (by decide +kernel)).trans rfl) rfl rfl (by assumption) (Lens.self _) ty_104 ((hfr 148 (by decide +kernel)).trans rfl) (aw_nil H)) ?_
      refine XK.nil' ?_
      refine aw_inBlock ?_
      refine aw_region ?_
      refine aw_g (g_mv (.inl rfl) rfl) rfl rfl rfl ?_
      refine aw_g (by first | exact g_add rfl rfl rfl (wrap_eq (by first | omega | (simp; omega))) | exact g_add rfl rfl rfl rfl) rfl rfl rfl ?_
      refine aw_g (g_mv (.inr rfl) rfl) rfl rfl rfl ?_
      refine aw_nil ?_
      refine aw_rerow (n := 0) rfl (sum_succ2 hx hy) ?_
      exact aw_next (k + 1) (by omega) (by omega) rfl (by (repeat refine Fr.le_set ?_ (by first | rfl | (simp; done))); exact Fr.le_none _) (by (repeat refine Hp.le_set ?_ rfl); exact Hp.le_none _) (by (repeat refine Fr.below_setB ?_ rfl); exact Fr.below_none _) (by (repeat refine Hp.below_set ?_ (by decide)); exact Hp.below_none _)
    · skip
      obtain rfl : k = 8 := (by omega)
      refine aw_exit rfl ?_
      refine aw_seq ?_
      refine aw_region ?_
      refine aw_g (g_mo (.inl rfl) rfl) rfl rfl rfl ?_
      refine aw_g (g_mo (.inr rfl) rfl) rfl rfl rfl ?_
      refine aw_nil ?_
      exact aw_ret1 rfl rfl (ret_fresh_eq rfl rfl (sumN_comm hh (roundN_len hh _)))

end Go.Proofs.Ytmfgemnmelbflaa
