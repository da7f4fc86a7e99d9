/- Numbers without sign, shifts, conversions, division. PRINTED BY gen_nums.py. -/
import Derived.Test.YtmfgemnmelbflaaMut
namespace Go.Ab
set_option linter.unusedVariables false
set_option linter.unusedSimpArgs false
open Go.RowKit

theorem wrap_u8 (n : Int) : IntKind.u8.wrap n = n % 256 := by simp [IntKind.wrap, IntKind.signed, IntKind.bits]
theorem wrap_u32 (n : Int) : IntKind.u32.wrap n = n % 4294967296 := by simp [IntKind.wrap, IntKind.signed, IntKind.bits]
theorem wrap_u64 (n : Int) : IntKind.u64.wrap n = n % 18446744073709551616 := by simp [IntKind.wrap, IntKind.signed, IntKind.bits]
theorem bits_back {k : IntKind} {m : Nat} (hk : k.signed = false) (h : m < 2 ^ k.bits) : k.wrap (m : Int) = m := by
  have h' : (m : Int) < 2 ^ k.bits := by exact_mod_cast h
  simp only [IntKind.wrap, hk, Bool.false_and, Bool.false_eq_true, if_false]
  exact Int.emod_eq_of_lt (by omega) h'
section
variable {J : Job} {fr : Fr} {hp : Hp} {o : Oper} {t t' : TypeId} {x y : Operand}

def shl8 (x : UInt8) (n : Nat) : UInt8 := UInt8.ofNat (x.toNat * 2 ^ min n 8)
def shr8 (x : UInt8) (n : Nat) : UInt8 := UInt8.ofNat (x.toNat / 2 ^ min n 8)
def u8OfI (n : Int) : UInt8 := UInt8.ofNat (n % 256).toNat
section
variable {a b : UInt8}
theorem g_add8 (ho : o.op = .binOp .add t x y t') (hx : fr.ev x = .val u8T a) (hy : fr.ev y = .val u8T b) : OpG J o fr hp (.val u8T (a + b)) :=
  g_bin (Z := .val u8T _) ho hx hy (fun hu hv => by
    rw [val_u8.1 hu, val_u8.1 hv]
    refine ⟨_, rfl, run_guard_int .., val_u8.2 (congrArg _ ?_)⟩
    have ha : a.toNat < 256 := a.toNat_lt
    have hb : b.toNat < 256 := b.toNat_lt
    rw [wrap_u8, UInt8.toNat_add]; omega) (fun _ => trivial)
theorem g_sub8 (ho : o.op = .binOp .sub t x y t') (hx : fr.ev x = .val u8T a) (hy : fr.ev y = .val u8T b) : OpG J o fr hp (.val u8T (a - b)) :=
  g_bin (Z := .val u8T _) ho hx hy (fun hu hv => by
    rw [val_u8.1 hu, val_u8.1 hv]
    refine ⟨_, rfl, run_guard_int .., val_u8.2 (congrArg _ ?_)⟩
    have ha : a.toNat < 256 := a.toNat_lt
    have hb : b.toNat < 256 := b.toNat_lt
    rw [wrap_u8, UInt8.toNat_sub]; omega) (fun _ => trivial)
theorem g_mul8 (ho : o.op = .binOp .mul t x y t') (hx : fr.ev x = .val u8T a) (hy : fr.ev y = .val u8T b) : OpG J o fr hp (.val u8T (a * b)) :=
  g_bin (Z := .val u8T _) ho hx hy (fun hu hv => by
    rw [val_u8.1 hu, val_u8.1 hv]
    refine ⟨_, rfl, run_guard_int .., val_u8.2 (congrArg _ ?_)⟩
    have ha : a.toNat < 256 := a.toNat_lt
    have hb : b.toNat < 256 := b.toNat_lt
    rw [wrap_u8, UInt8.toNat_mul]; simp) (fun _ => trivial)
theorem g_quo8 (ho : o.op = .binOp .quo t x y t') (hx : fr.ev x = .val u8T a) (hy : fr.ev y = .val u8T b) (h0 : b.toNat ≠ 0) : OpG J o fr hp (.val u8T (a / b)) :=
  g_bin (Z := .val u8T _) ho hx hy (fun hu hv => by
    rw [val_u8.1 hu, val_u8.1 hv]
    have ha : a.toNat < 256 := a.toNat_lt
    have hle := Nat.div_le_self a.toNat b.toNat
    refine ⟨.int .u8 ((a / b).toNat : Int), ?_, run_guard_int .., val_u8.2 rfl⟩
    simp only [binOp, ne_eq, not_true_eq_false, if_false, Op.intDiv, if_neg (show ¬ (b.toNat : Int) = 0 by omega), Int.tdiv_eq_ediv_of_nonneg (Int.natCast_nonneg _)]
    rw [wrap_u8, ← Int.natCast_ediv, UInt8.toNat_div, Int.emod_eq_of_lt (Int.natCast_nonneg _) (show ((a.toNat / b.toNat : Nat) : Int) < 256 from Int.ofNat_lt.2 (Nat.lt_of_le_of_lt hle ha))]; rfl) (fun _ => trivial)
theorem g_rem8 (ho : o.op = .binOp .rem t x y t') (hx : fr.ev x = .val u8T a) (hy : fr.ev y = .val u8T b) (h0 : b.toNat ≠ 0) : OpG J o fr hp (.val u8T (a % b)) :=
  g_bin (Z := .val u8T _) ho hx hy (fun hu hv => by
    rw [val_u8.1 hu, val_u8.1 hv]
    refine ⟨.int .u8 ((a % b).toNat : Int), ?_, run_guard_int .., val_u8.2 rfl⟩
    simp only [binOp, ne_eq, not_true_eq_false, if_false, Op.intDiv, if_neg (show ¬ (b.toNat : Int) = 0 by omega), Int.tmod_eq_emod_of_nonneg (Int.natCast_nonneg _)]
    rw [← Int.natCast_emod, UInt8.toNat_mod]; rfl) (fun _ => trivial)
theorem g_and8 (ho : o.op = .binOp .and t x y t') (hx : fr.ev x = .val u8T a) (hy : fr.ev y = .val u8T b) : OpG J o fr hp (.val u8T (a &&& b)) :=
  g_bin (Z := .val u8T _) ho hx hy (fun hu hv => by
    rw [val_u8.1 hu, val_u8.1 hv]
    refine ⟨_, rfl, run_guard_int .., val_u8.2 (congrArg _ ?_)⟩
    have ha : a.toNat < 256 := a.toNat_lt
    have hb : b.toNat < 256 := b.toNat_lt
    rw [bits_back rfl (BitVec.isLt _)]
    first | (simp [BitVec.ofInt_natCast, IntKind.bits, Nat.mod_eq_of_lt ha, Nat.mod_eq_of_lt hb]; done) | (simp [BitVec.ofInt_natCast, IntKind.bits]; rfl)) (fun _ => trivial)
theorem g_or8 (ho : o.op = .binOp .or t x y t') (hx : fr.ev x = .val u8T a) (hy : fr.ev y = .val u8T b) : OpG J o fr hp (.val u8T (a ||| b)) :=
  g_bin (Z := .val u8T _) ho hx hy (fun hu hv => by
    rw [val_u8.1 hu, val_u8.1 hv]
    refine ⟨_, rfl, run_guard_int .., val_u8.2 (congrArg _ ?_)⟩
    have ha : a.toNat < 256 := a.toNat_lt
    have hb : b.toNat < 256 := b.toNat_lt
    rw [bits_back rfl (BitVec.isLt _)]
    first | (simp [BitVec.ofInt_natCast, IntKind.bits, Nat.mod_eq_of_lt ha, Nat.mod_eq_of_lt hb]; done) | (simp [BitVec.ofInt_natCast, IntKind.bits]; rfl)) (fun _ => trivial)
theorem g_xor8 (ho : o.op = .binOp .xor t x y t') (hx : fr.ev x = .val u8T a) (hy : fr.ev y = .val u8T b) : OpG J o fr hp (.val u8T (a ^^^ b)) :=
  g_bin (Z := .val u8T _) ho hx hy (fun hu hv => by
    rw [val_u8.1 hu, val_u8.1 hv]
    refine ⟨_, rfl, run_guard_int .., val_u8.2 (congrArg _ ?_)⟩
    have ha : a.toNat < 256 := a.toNat_lt
    have hb : b.toNat < 256 := b.toNat_lt
    rw [bits_back rfl (BitVec.isLt _)]
    first | (simp [BitVec.ofInt_natCast, IntKind.bits, Nat.mod_eq_of_lt ha, Nat.mod_eq_of_lt hb]; done) | (simp [BitVec.ofInt_natCast, IntKind.bits]; rfl)) (fun _ => trivial)
theorem g_not8 (ho : o.op = .unOp .xor t x) (hx : fr.ev x = .val u8T a) : OpG J o fr hp (.val u8T (~~~ a)) := by
  refine .of_run (fun {_ _ ac _} s hr _ => ?_) (fun _ _ => trivial)
  have h := hr x (by rw [ho]; simp [Op.operands])
  rw [hx] at h
  refine ⟨_, ?_, val_u8.2 rfl⟩
  unfold execOp; rw [ho]
  have e : ac.eval x = _ := val_u8.1 h
  have ha : a.toNat < 256 := a.toNat_lt
  have he : IntKind.u8.wrap ((BitVec.ofInt 8 0 : BitVec 8).toNat) = 0 := by decide
  have hk : IntKind.u8.wrap (((BitVec.ofInt IntKind.u8.bits (if IntKind.u8.signed then -1 else IntKind.u8.max)) ^^^ (BitVec.ofInt IntKind.u8.bits (a.toNat : Int))).toNat : Int) = ((~~~ a).toNat : Int) := by
    rw [bits_back rfl (BitVec.isLt _)]
    refine congrArg _ ?_
    rw [show ((~~~ a).toNat) = (~~~ a.toBitVec).toNat from rfl, ← BitVec.allOnes_xor]
    refine congrArg BitVec.toNat ?_
    have e1 : (BitVec.ofInt IntKind.u8.bits (if IntKind.u8.signed then -1 else IntKind.u8.max)) = BitVec.allOnes 8 := (show (BitVec.ofInt 8 (255 : Int)) = BitVec.allOnes 8 by decide)
    have e2 : BitVec.ofInt IntKind.u8.bits (a.toNat : Int) = a.toBitVec := by simp [BitVec.ofInt_natCast, IntKind.bits]
    rw [e1, e2]; rfl
  simp only [e, Op.unary, Op.intBits, Sem.run_bind, Sem.run_pure, Result.andThen_ok, hk]
end
section
variable {α : Type} {S : GoT α} [IntL S] {a : UInt8} {n : α}
theorem g_shl8 (ho : o.op = .binOp .shl t x y t') (hx : fr.ev x = .val u8T a) (hy : fr.ev y = .val S n) (hn : 0 ≤ IntL.toI S n) {z : UInt8} (hz : shl8 a (IntL.toI S n).toNat = z) : OpG J o fr hp (.val u8T z) := by
  subst hz
  exact g_bin (Z := .val u8T _) ho hx hy (fun hu hv => by
    rw [val_u8.1 hu, IntL.val_ hv]
    refine ⟨.int .u8 (IntKind.u8.wrap ((a.toNat : Int) * 2 ^ (min (IntL.toI S n).toNat 8))), ?_, run_guard_int .., val_u8.2 (congrArg _ ?_)⟩
    · simp only [binOp, Op.shift, if_neg (Int.not_lt.2 hn)]; rfl
    · rw [wrap_u8]; unfold shl8; simp) (fun _ => trivial)
theorem g_shr8 (ho : o.op = .binOp .shr t x y t') (hx : fr.ev x = .val u8T a) (hy : fr.ev y = .val S n) (hn : 0 ≤ IntL.toI S n) {z : UInt8} (hz : shr8 a (IntL.toI S n).toNat = z) : OpG J o fr hp (.val u8T z) := by
  subst hz
  exact g_bin (Z := .val u8T _) ho hx hy (fun hu hv => by
    rw [val_u8.1 hu, IntL.val_ hv]
    refine ⟨.int .u8 ((a.toNat : Int).fdiv (2 ^ (min (IntL.toI S n).toNat 8))), ?_, run_guard_int .., val_u8.2 (congrArg _ ?_)⟩
    · simp only [binOp, Op.shift, if_neg (Int.not_lt.2 hn)]; rfl
    · have ha : a.toNat < 256 := a.toNat_lt
      unfold shr8
      rw [UInt8.toNat_ofNat_of_lt' (Nat.lt_of_le_of_lt (Nat.div_le_self _ _) ha), Int.fdiv_eq_ediv_of_nonneg _ (by exact_mod_cast Nat.zero_le _)]
      simp) (fun _ => trivial)
theorem g_cv8 {s d : TypeId} (ho : o.op = .convert s d x) (hd : J.P.underlying d = some (.int .u8)) (hs : (J.P.underlying s).isSome = true) (hx : fr.ev x = .val S n) : OpG J o fr hp (.val u8T (u8OfI (IntL.toI S n))) := by
  refine .of_run (fun {_ _ ac _} sm hr _ => ?_) (fun _ _ => trivial)
  have h := hr x (by rw [ho]; simp [Op.operands])
  rw [hx] at h
  refine ⟨_, ?_, val_u8.2 rfl⟩
  unfold execOp; rw [ho]
  obtain ⟨ds, hs⟩ := Option.isSome_iff_exists.1 hs
  simp only [convert, IntL.val_ h, Sem.run_bind, run_underlying hs, run_underlying hd, Result.andThen_ok, Conv.intToInt, Sem.run_pure, wrap_u8]
  have hn := Int.emod_nonneg (IntL.toI S n) (show (256 : Int) ≠ 0 by decide)
  have hl := Int.emod_lt_of_pos (IntL.toI S n) (show (0 : Int) < 256 by decide)
  congr 3
  unfold u8OfI
  rw [UInt8.toNat_ofNat_of_lt' (by show (IntL.toI S n % 256).toNat < 256; omega)]; omega
end
def shl32 (x : UInt32) (n : Nat) : UInt32 := UInt32.ofNat (x.toNat * 2 ^ min n 32)
def shr32 (x : UInt32) (n : Nat) : UInt32 := UInt32.ofNat (x.toNat / 2 ^ min n 32)
def u32OfI (n : Int) : UInt32 := UInt32.ofNat (n % 4294967296).toNat
section
variable {a b : UInt32}
theorem g_add32 (ho : o.op = .binOp .add t x y t') (hx : fr.ev x = .val u32T a) (hy : fr.ev y = .val u32T b) : OpG J o fr hp (.val u32T (a + b)) :=
  g_bin (Z := .val u32T _) ho hx hy (fun hu hv => by
    rw [val_u32.1 hu, val_u32.1 hv]
    refine ⟨_, rfl, run_guard_int .., val_u32.2 (congrArg _ ?_)⟩
    have ha : a.toNat < 4294967296 := a.toNat_lt
    have hb : b.toNat < 4294967296 := b.toNat_lt
    rw [wrap_u32, UInt32.toNat_add]; omega) (fun _ => trivial)
theorem g_sub32 (ho : o.op = .binOp .sub t x y t') (hx : fr.ev x = .val u32T a) (hy : fr.ev y = .val u32T b) : OpG J o fr hp (.val u32T (a - b)) :=
  g_bin (Z := .val u32T _) ho hx hy (fun hu hv => by
    rw [val_u32.1 hu, val_u32.1 hv]
    refine ⟨_, rfl, run_guard_int .., val_u32.2 (congrArg _ ?_)⟩
    have ha : a.toNat < 4294967296 := a.toNat_lt
    have hb : b.toNat < 4294967296 := b.toNat_lt
    rw [wrap_u32, UInt32.toNat_sub]; omega) (fun _ => trivial)
theorem g_mul32 (ho : o.op = .binOp .mul t x y t') (hx : fr.ev x = .val u32T a) (hy : fr.ev y = .val u32T b) : OpG J o fr hp (.val u32T (a * b)) :=
  g_bin (Z := .val u32T _) ho hx hy (fun hu hv => by
    rw [val_u32.1 hu, val_u32.1 hv]
    refine ⟨_, rfl, run_guard_int .., val_u32.2 (congrArg _ ?_)⟩
    have ha : a.toNat < 4294967296 := a.toNat_lt
    have hb : b.toNat < 4294967296 := b.toNat_lt
    rw [wrap_u32, UInt32.toNat_mul]; simp) (fun _ => trivial)
theorem g_quo32 (ho : o.op = .binOp .quo t x y t') (hx : fr.ev x = .val u32T a) (hy : fr.ev y = .val u32T b) (h0 : b.toNat ≠ 0) : OpG J o fr hp (.val u32T (a / b)) :=
  g_bin (Z := .val u32T _) ho hx hy (fun hu hv => by
    rw [val_u32.1 hu, val_u32.1 hv]
    have ha : a.toNat < 4294967296 := a.toNat_lt
    have hle := Nat.div_le_self a.toNat b.toNat
    refine ⟨.int .u32 ((a / b).toNat : Int), ?_, run_guard_int .., val_u32.2 rfl⟩
    simp only [binOp, ne_eq, not_true_eq_false, if_false, Op.intDiv, if_neg (show ¬ (b.toNat : Int) = 0 by omega), Int.tdiv_eq_ediv_of_nonneg (Int.natCast_nonneg _)]
    rw [wrap_u32, ← Int.natCast_ediv, UInt32.toNat_div, Int.emod_eq_of_lt (Int.natCast_nonneg _) (show ((a.toNat / b.toNat : Nat) : Int) < 4294967296 from Int.ofNat_lt.2 (Nat.lt_of_le_of_lt hle ha))]; rfl) (fun _ => trivial)
theorem g_rem32 (ho : o.op = .binOp .rem t x y t') (hx : fr.ev x = .val u32T a) (hy : fr.ev y = .val u32T b) (h0 : b.toNat ≠ 0) : OpG J o fr hp (.val u32T (a % b)) :=
  g_bin (Z := .val u32T _) ho hx hy (fun hu hv => by
    rw [val_u32.1 hu, val_u32.1 hv]
    refine ⟨.int .u32 ((a % b).toNat : Int), ?_, run_guard_int .., val_u32.2 rfl⟩
    simp only [binOp, ne_eq, not_true_eq_false, if_false, Op.intDiv, if_neg (show ¬ (b.toNat : Int) = 0 by omega), Int.tmod_eq_emod_of_nonneg (Int.natCast_nonneg _)]
    rw [← Int.natCast_emod, UInt32.toNat_mod]; rfl) (fun _ => trivial)
theorem g_and32 (ho : o.op = .binOp .and t x y t') (hx : fr.ev x = .val u32T a) (hy : fr.ev y = .val u32T b) : OpG J o fr hp (.val u32T (a &&& b)) :=
  g_bin (Z := .val u32T _) ho hx hy (fun hu hv => by
    rw [val_u32.1 hu, val_u32.1 hv]
    refine ⟨_, rfl, run_guard_int .., val_u32.2 (congrArg _ ?_)⟩
    have ha : a.toNat < 4294967296 := a.toNat_lt
    have hb : b.toNat < 4294967296 := b.toNat_lt
    rw [bits_back rfl (BitVec.isLt _)]
    first | (simp [BitVec.ofInt_natCast, IntKind.bits, Nat.mod_eq_of_lt ha, Nat.mod_eq_of_lt hb]; done) | (simp [BitVec.ofInt_natCast, IntKind.bits]; rfl)) (fun _ => trivial)
theorem g_or32 (ho : o.op = .binOp .or t x y t') (hx : fr.ev x = .val u32T a) (hy : fr.ev y = .val u32T b) : OpG J o fr hp (.val u32T (a ||| b)) :=
  g_bin (Z := .val u32T _) ho hx hy (fun hu hv => by
    rw [val_u32.1 hu, val_u32.1 hv]
    refine ⟨_, rfl, run_guard_int .., val_u32.2 (congrArg _ ?_)⟩
    have ha : a.toNat < 4294967296 := a.toNat_lt
    have hb : b.toNat < 4294967296 := b.toNat_lt
    rw [bits_back rfl (BitVec.isLt _)]
    first | (simp [BitVec.ofInt_natCast, IntKind.bits, Nat.mod_eq_of_lt ha, Nat.mod_eq_of_lt hb]; done) | (simp [BitVec.ofInt_natCast, IntKind.bits]; rfl)) (fun _ => trivial)
theorem g_xor32 (ho : o.op = .binOp .xor t x y t') (hx : fr.ev x = .val u32T a) (hy : fr.ev y = .val u32T b) : OpG J o fr hp (.val u32T (a ^^^ b)) :=
  g_bin (Z := .val u32T _) ho hx hy (fun hu hv => by
    rw [val_u32.1 hu, val_u32.1 hv]
    refine ⟨_, rfl, run_guard_int .., val_u32.2 (congrArg _ ?_)⟩
    have ha : a.toNat < 4294967296 := a.toNat_lt
    have hb : b.toNat < 4294967296 := b.toNat_lt
    rw [bits_back rfl (BitVec.isLt _)]
    first | (simp [BitVec.ofInt_natCast, IntKind.bits, Nat.mod_eq_of_lt ha, Nat.mod_eq_of_lt hb]; done) | (simp [BitVec.ofInt_natCast, IntKind.bits]; rfl)) (fun _ => trivial)
theorem g_not32 (ho : o.op = .unOp .xor t x) (hx : fr.ev x = .val u32T a) : OpG J o fr hp (.val u32T (~~~ a)) := by
  refine .of_run (fun {_ _ ac _} s hr _ => ?_) (fun _ _ => trivial)
  have h := hr x (by rw [ho]; simp [Op.operands])
  rw [hx] at h
  refine ⟨_, ?_, val_u32.2 rfl⟩
  unfold execOp; rw [ho]
  have e : ac.eval x = _ := val_u32.1 h
  have ha : a.toNat < 4294967296 := a.toNat_lt
  have he : IntKind.u32.wrap ((BitVec.ofInt 8 0 : BitVec 8).toNat) = 0 := by decide
  have hk : IntKind.u32.wrap (((BitVec.ofInt IntKind.u32.bits (if IntKind.u32.signed then -1 else IntKind.u32.max)) ^^^ (BitVec.ofInt IntKind.u32.bits (a.toNat : Int))).toNat : Int) = ((~~~ a).toNat : Int) := by
    rw [bits_back rfl (BitVec.isLt _)]
    refine congrArg _ ?_
    rw [show ((~~~ a).toNat) = (~~~ a.toBitVec).toNat from rfl, ← BitVec.allOnes_xor]
    refine congrArg BitVec.toNat ?_
    have e1 : (BitVec.ofInt IntKind.u32.bits (if IntKind.u32.signed then -1 else IntKind.u32.max)) = BitVec.allOnes 32 := (show (BitVec.ofInt 32 (4294967295 : Int)) = BitVec.allOnes 32 by decide)
    have e2 : BitVec.ofInt IntKind.u32.bits (a.toNat : Int) = a.toBitVec := by simp [BitVec.ofInt_natCast, IntKind.bits]
    rw [e1, e2]; rfl
  simp only [e, Op.unary, Op.intBits, Sem.run_bind, Sem.run_pure, Result.andThen_ok, hk]
end
section
variable {α : Type} {S : GoT α} [IntL S] {a : UInt32} {n : α}
theorem g_shl32 (ho : o.op = .binOp .shl t x y t') (hx : fr.ev x = .val u32T a) (hy : fr.ev y = .val S n) (hn : 0 ≤ IntL.toI S n) {z : UInt32} (hz : shl32 a (IntL.toI S n).toNat = z) : OpG J o fr hp (.val u32T z) := by
  subst hz
  exact g_bin (Z := .val u32T _) ho hx hy (fun hu hv => by
    rw [val_u32.1 hu, IntL.val_ hv]
    refine ⟨.int .u32 (IntKind.u32.wrap ((a.toNat : Int) * 2 ^ (min (IntL.toI S n).toNat 32))), ?_, run_guard_int .., val_u32.2 (congrArg _ ?_)⟩
    · simp only [binOp, Op.shift, if_neg (Int.not_lt.2 hn)]; rfl
    · rw [wrap_u32]; unfold shl32; simp) (fun _ => trivial)
theorem g_shr32 (ho : o.op = .binOp .shr t x y t') (hx : fr.ev x = .val u32T a) (hy : fr.ev y = .val S n) (hn : 0 ≤ IntL.toI S n) {z : UInt32} (hz : shr32 a (IntL.toI S n).toNat = z) : OpG J o fr hp (.val u32T z) := by
  subst hz
  exact g_bin (Z := .val u32T _) ho hx hy (fun hu hv => by
    rw [val_u32.1 hu, IntL.val_ hv]
    refine ⟨.int .u32 ((a.toNat : Int).fdiv (2 ^ (min (IntL.toI S n).toNat 32))), ?_, run_guard_int .., val_u32.2 (congrArg _ ?_)⟩
    · simp only [binOp, Op.shift, if_neg (Int.not_lt.2 hn)]; rfl
    · have ha : a.toNat < 4294967296 := a.toNat_lt
      unfold shr32
      rw [UInt32.toNat_ofNat_of_lt' (Nat.lt_of_le_of_lt (Nat.div_le_self _ _) ha), Int.fdiv_eq_ediv_of_nonneg _ (by exact_mod_cast Nat.zero_le _)]
      simp) (fun _ => trivial)
theorem g_cv32 {s d : TypeId} (ho : o.op = .convert s d x) (hd : J.P.underlying d = some (.int .u32)) (hs : (J.P.underlying s).isSome = true) (hx : fr.ev x = .val S n) : OpG J o fr hp (.val u32T (u32OfI (IntL.toI S n))) := by
  refine .of_run (fun {_ _ ac _} sm hr _ => ?_) (fun _ _ => trivial)
  have h := hr x (by rw [ho]; simp [Op.operands])
  rw [hx] at h
  refine ⟨_, ?_, val_u32.2 rfl⟩
  unfold execOp; rw [ho]
  obtain ⟨ds, hs⟩ := Option.isSome_iff_exists.1 hs
  simp only [convert, IntL.val_ h, Sem.run_bind, run_underlying hs, run_underlying hd, Result.andThen_ok, Conv.intToInt, Sem.run_pure, wrap_u32]
  have hn := Int.emod_nonneg (IntL.toI S n) (show (4294967296 : Int) ≠ 0 by decide)
  have hl := Int.emod_lt_of_pos (IntL.toI S n) (show (0 : Int) < 4294967296 by decide)
  congr 3
  unfold u32OfI
  rw [UInt32.toNat_ofNat_of_lt' (by show (IntL.toI S n % 4294967296).toNat < 4294967296; omega)]; omega
end
def shl64 (x : UInt64) (n : Nat) : UInt64 := UInt64.ofNat (x.toNat * 2 ^ min n 64)
def shr64 (x : UInt64) (n : Nat) : UInt64 := UInt64.ofNat (x.toNat / 2 ^ min n 64)
def u64OfI (n : Int) : UInt64 := UInt64.ofNat (n % 18446744073709551616).toNat
section
variable {a b : UInt64}
theorem g_add64 (ho : o.op = .binOp .add t x y t') (hx : fr.ev x = .val u64T a) (hy : fr.ev y = .val u64T b) : OpG J o fr hp (.val u64T (a + b)) :=
  g_bin (Z := .val u64T _) ho hx hy (fun hu hv => by
    rw [val_u64.1 hu, val_u64.1 hv]
    refine ⟨_, rfl, run_guard_int .., val_u64.2 (congrArg _ ?_)⟩
    have ha : a.toNat < 18446744073709551616 := a.toNat_lt
    have hb : b.toNat < 18446744073709551616 := b.toNat_lt
    rw [wrap_u64, UInt64.toNat_add]; omega) (fun _ => trivial)
theorem g_sub64 (ho : o.op = .binOp .sub t x y t') (hx : fr.ev x = .val u64T a) (hy : fr.ev y = .val u64T b) : OpG J o fr hp (.val u64T (a - b)) :=
  g_bin (Z := .val u64T _) ho hx hy (fun hu hv => by
    rw [val_u64.1 hu, val_u64.1 hv]
    refine ⟨_, rfl, run_guard_int .., val_u64.2 (congrArg _ ?_)⟩
    have ha : a.toNat < 18446744073709551616 := a.toNat_lt
    have hb : b.toNat < 18446744073709551616 := b.toNat_lt
    rw [wrap_u64, UInt64.toNat_sub]; omega) (fun _ => trivial)
theorem g_mul64 (ho : o.op = .binOp .mul t x y t') (hx : fr.ev x = .val u64T a) (hy : fr.ev y = .val u64T b) : OpG J o fr hp (.val u64T (a * b)) :=
  g_bin (Z := .val u64T _) ho hx hy (fun hu hv => by
    rw [val_u64.1 hu, val_u64.1 hv]
    refine ⟨_, rfl, run_guard_int .., val_u64.2 (congrArg _ ?_)⟩
    have ha : a.toNat < 18446744073709551616 := a.toNat_lt
    have hb : b.toNat < 18446744073709551616 := b.toNat_lt
    rw [wrap_u64, UInt64.toNat_mul]; simp) (fun _ => trivial)
theorem g_quo64 (ho : o.op = .binOp .quo t x y t') (hx : fr.ev x = .val u64T a) (hy : fr.ev y = .val u64T b) (h0 : b.toNat ≠ 0) : OpG J o fr hp (.val u64T (a / b)) :=
  g_bin (Z := .val u64T _) ho hx hy (fun hu hv => by
    rw [val_u64.1 hu, val_u64.1 hv]
    have ha : a.toNat < 18446744073709551616 := a.toNat_lt
    have hle := Nat.div_le_self a.toNat b.toNat
    refine ⟨.int .u64 ((a / b).toNat : Int), ?_, run_guard_int .., val_u64.2 rfl⟩
    simp only [binOp, ne_eq, not_true_eq_false, if_false, Op.intDiv, if_neg (show ¬ (b.toNat : Int) = 0 by omega), Int.tdiv_eq_ediv_of_nonneg (Int.natCast_nonneg _)]
    rw [wrap_u64, ← Int.natCast_ediv, UInt64.toNat_div, Int.emod_eq_of_lt (Int.natCast_nonneg _) (show ((a.toNat / b.toNat : Nat) : Int) < 18446744073709551616 from Int.ofNat_lt.2 (Nat.lt_of_le_of_lt hle ha))]; rfl) (fun _ => trivial)
theorem g_rem64 (ho : o.op = .binOp .rem t x y t') (hx : fr.ev x = .val u64T a) (hy : fr.ev y = .val u64T b) (h0 : b.toNat ≠ 0) : OpG J o fr hp (.val u64T (a % b)) :=
  g_bin (Z := .val u64T _) ho hx hy (fun hu hv => by
    rw [val_u64.1 hu, val_u64.1 hv]
    refine ⟨.int .u64 ((a % b).toNat : Int), ?_, run_guard_int .., val_u64.2 rfl⟩
    simp only [binOp, ne_eq, not_true_eq_false, if_false, Op.intDiv, if_neg (show ¬ (b.toNat : Int) = 0 by omega), Int.tmod_eq_emod_of_nonneg (Int.natCast_nonneg _)]
    rw [← Int.natCast_emod, UInt64.toNat_mod]; rfl) (fun _ => trivial)
theorem g_and64 (ho : o.op = .binOp .and t x y t') (hx : fr.ev x = .val u64T a) (hy : fr.ev y = .val u64T b) : OpG J o fr hp (.val u64T (a &&& b)) :=
  g_bin (Z := .val u64T _) ho hx hy (fun hu hv => by
    rw [val_u64.1 hu, val_u64.1 hv]
    refine ⟨_, rfl, run_guard_int .., val_u64.2 (congrArg _ ?_)⟩
    have ha : a.toNat < 18446744073709551616 := a.toNat_lt
    have hb : b.toNat < 18446744073709551616 := b.toNat_lt
    rw [bits_back rfl (BitVec.isLt _)]
    first | (simp [BitVec.ofInt_natCast, IntKind.bits, Nat.mod_eq_of_lt ha, Nat.mod_eq_of_lt hb]; done) | (simp [BitVec.ofInt_natCast, IntKind.bits]; rfl)) (fun _ => trivial)
theorem g_or64 (ho : o.op = .binOp .or t x y t') (hx : fr.ev x = .val u64T a) (hy : fr.ev y = .val u64T b) : OpG J o fr hp (.val u64T (a ||| b)) :=
  g_bin (Z := .val u64T _) ho hx hy (fun hu hv => by
    rw [val_u64.1 hu, val_u64.1 hv]
    refine ⟨_, rfl, run_guard_int .., val_u64.2 (congrArg _ ?_)⟩
    have ha : a.toNat < 18446744073709551616 := a.toNat_lt
    have hb : b.toNat < 18446744073709551616 := b.toNat_lt
    rw [bits_back rfl (BitVec.isLt _)]
    first | (simp [BitVec.ofInt_natCast, IntKind.bits, Nat.mod_eq_of_lt ha, Nat.mod_eq_of_lt hb]; done) | (simp [BitVec.ofInt_natCast, IntKind.bits]; rfl)) (fun _ => trivial)
theorem g_xor64 (ho : o.op = .binOp .xor t x y t') (hx : fr.ev x = .val u64T a) (hy : fr.ev y = .val u64T b) : OpG J o fr hp (.val u64T (a ^^^ b)) :=
  g_bin (Z := .val u64T _) ho hx hy (fun hu hv => by
    rw [val_u64.1 hu, val_u64.1 hv]
    refine ⟨_, rfl, run_guard_int .., val_u64.2 (congrArg _ ?_)⟩
    have ha : a.toNat < 18446744073709551616 := a.toNat_lt
    have hb : b.toNat < 18446744073709551616 := b.toNat_lt
    rw [bits_back rfl (BitVec.isLt _)]
    first | (simp [BitVec.ofInt_natCast, IntKind.bits, Nat.mod_eq_of_lt ha, Nat.mod_eq_of_lt hb]; done) | (simp [BitVec.ofInt_natCast, IntKind.bits]; rfl)) (fun _ => trivial)
theorem g_not64 (ho : o.op = .unOp .xor t x) (hx : fr.ev x = .val u64T a) : OpG J o fr hp (.val u64T (~~~ a)) := by
  refine .of_run (fun {_ _ ac _} s hr _ => ?_) (fun _ _ => trivial)
  have h := hr x (by rw [ho]; simp [Op.operands])
  rw [hx] at h
  refine ⟨_, ?_, val_u64.2 rfl⟩
  unfold execOp; rw [ho]
  have e : ac.eval x = _ := val_u64.1 h
  have ha : a.toNat < 18446744073709551616 := a.toNat_lt
  have he : IntKind.u64.wrap ((BitVec.ofInt 8 0 : BitVec 8).toNat) = 0 := by decide
  have hk : IntKind.u64.wrap (((BitVec.ofInt IntKind.u64.bits (if IntKind.u64.signed then -1 else IntKind.u64.max)) ^^^ (BitVec.ofInt IntKind.u64.bits (a.toNat : Int))).toNat : Int) = ((~~~ a).toNat : Int) := by
    rw [bits_back rfl (BitVec.isLt _)]
    refine congrArg _ ?_
    rw [show ((~~~ a).toNat) = (~~~ a.toBitVec).toNat from rfl, ← BitVec.allOnes_xor]
    refine congrArg BitVec.toNat ?_
    have e1 : (BitVec.ofInt IntKind.u64.bits (if IntKind.u64.signed then -1 else IntKind.u64.max)) = BitVec.allOnes 64 := (show (BitVec.ofInt 64 (18446744073709551615 : Int)) = BitVec.allOnes 64 by decide)
    have e2 : BitVec.ofInt IntKind.u64.bits (a.toNat : Int) = a.toBitVec := by simp [BitVec.ofInt_natCast, IntKind.bits]
    rw [e1, e2]; rfl
  simp only [e, Op.unary, Op.intBits, Sem.run_bind, Sem.run_pure, Result.andThen_ok, hk]
end
section
variable {α : Type} {S : GoT α} [IntL S] {a : UInt64} {n : α}
theorem g_shl64 (ho : o.op = .binOp .shl t x y t') (hx : fr.ev x = .val u64T a) (hy : fr.ev y = .val S n) (hn : 0 ≤ IntL.toI S n) {z : UInt64} (hz : shl64 a (IntL.toI S n).toNat = z) : OpG J o fr hp (.val u64T z) := by
  subst hz
  exact g_bin (Z := .val u64T _) ho hx hy (fun hu hv => by
    rw [val_u64.1 hu, IntL.val_ hv]
    refine ⟨.int .u64 (IntKind.u64.wrap ((a.toNat : Int) * 2 ^ (min (IntL.toI S n).toNat 64))), ?_, run_guard_int .., val_u64.2 (congrArg _ ?_)⟩
    · simp only [binOp, Op.shift, if_neg (Int.not_lt.2 hn)]; rfl
    · rw [wrap_u64]; unfold shl64; simp) (fun _ => trivial)
theorem g_shr64 (ho : o.op = .binOp .shr t x y t') (hx : fr.ev x = .val u64T a) (hy : fr.ev y = .val S n) (hn : 0 ≤ IntL.toI S n) {z : UInt64} (hz : shr64 a (IntL.toI S n).toNat = z) : OpG J o fr hp (.val u64T z) := by
  subst hz
  exact g_bin (Z := .val u64T _) ho hx hy (fun hu hv => by
    rw [val_u64.1 hu, IntL.val_ hv]
    refine ⟨.int .u64 ((a.toNat : Int).fdiv (2 ^ (min (IntL.toI S n).toNat 64))), ?_, run_guard_int .., val_u64.2 (congrArg _ ?_)⟩
    · simp only [binOp, Op.shift, if_neg (Int.not_lt.2 hn)]; rfl
    · have ha : a.toNat < 18446744073709551616 := a.toNat_lt
      unfold shr64
      rw [UInt64.toNat_ofNat_of_lt' (Nat.lt_of_le_of_lt (Nat.div_le_self _ _) ha), Int.fdiv_eq_ediv_of_nonneg _ (by exact_mod_cast Nat.zero_le _)]
      simp) (fun _ => trivial)
theorem g_cv64 {s d : TypeId} (ho : o.op = .convert s d x) (hd : J.P.underlying d = some (.int .u64)) (hs : (J.P.underlying s).isSome = true) (hx : fr.ev x = .val S n) : OpG J o fr hp (.val u64T (u64OfI (IntL.toI S n))) := by
  refine .of_run (fun {_ _ ac _} sm hr _ => ?_) (fun _ _ => trivial)
  have h := hr x (by rw [ho]; simp [Op.operands])
  rw [hx] at h
  refine ⟨_, ?_, val_u64.2 rfl⟩
  unfold execOp; rw [ho]
  obtain ⟨ds, hs⟩ := Option.isSome_iff_exists.1 hs
  simp only [convert, IntL.val_ h, Sem.run_bind, run_underlying hs, run_underlying hd, Result.andThen_ok, Conv.intToInt, Sem.run_pure, wrap_u64]
  have hn := Int.emod_nonneg (IntL.toI S n) (show (18446744073709551616 : Int) ≠ 0 by decide)
  have hl := Int.emod_lt_of_pos (IntL.toI S n) (show (0 : Int) < 18446744073709551616 by decide)
  congr 3
  unfold u64OfI
  rw [UInt64.toNat_ofNat_of_lt' (by show (IntL.toI S n % 18446744073709551616).toNat < 18446744073709551616; omega)]; omega
end
section
variable {α : Type} {S : GoT α} [IntL S] {n : α}
theorem g_cvi {s d : TypeId} (ho : o.op = .convert s d x) (hd : J.P.underlying d = some (.int .i64)) (hs : (J.P.underlying s).isSome = true) (hx : fr.ev x = .val S n) {c : Int} (hc : IntKind.i64.wrap (IntL.toI S n) = c) : OpG J o fr hp (.val i64T c) := by
  subst hc
  refine .of_run (fun {_ _ ac _} sm hr _ => ?_) (fun _ _ => trivial)
  have h := hr x (by rw [ho]; simp [Op.operands])
  rw [hx] at h
  refine ⟨_, ?_, val_int.2 ⟨rfl, wrap_in _⟩⟩
  unfold execOp; rw [ho]
  obtain ⟨ds, hs⟩ := Option.isSome_iff_exists.1 hs
  simp only [convert, IntL.val_ h, Sem.run_bind, run_underlying hs, run_underlying hd, Result.andThen_ok, Conv.intToInt, Sem.run_pure]
end
section
variable {a b : Int}
theorem g_quo (ho : o.op = .binOp .quo t x y t') (hx : fr.ev x = .val i64T a) (hy : fr.ev y = .val i64T b) (h0 : 0 ≤ a) (h1 : 0 < b) {c : Int} (hc : a / b = c) : OpG J o fr hp (.val i64T c) := by
  subst hc
  exact g_bin (Z := .val i64T _) ho hx hy (fun hu hv => by
    obtain ⟨rfl, hr⟩ := val_int.1 hu; obtain ⟨rfl, _⟩ := val_int.1 hv
    rw [i64_in] at hr
    have h2 : a / b ≤ a := Int.ediv_le_self _ h0
    have h3 : 0 ≤ a / b := Int.ediv_nonneg h0 (by omega)
    refine ⟨.int .i64 (a / b), ?_, run_guard_int .., val_int.2 ⟨rfl, by rw [i64_in]; omega⟩⟩
    simp only [binOp, ne_eq, not_true_eq_false, if_false, Op.intDiv, if_neg (show ¬ b = 0 by omega), Int.tdiv_eq_ediv_of_nonneg h0]
    rw [wrap_eq (by omega)]; rfl) (fun _ => trivial)
theorem g_rem (ho : o.op = .binOp .rem t x y t') (hx : fr.ev x = .val i64T a) (hy : fr.ev y = .val i64T b) (h0 : 0 ≤ a) (h1 : 0 < b) {c : Int} (hc : a % b = c) : OpG J o fr hp (.val i64T c) := by
  subst hc
  exact g_bin (Z := .val i64T _) ho hx hy (fun hu hv => by
    obtain ⟨rfl, _⟩ := val_int.1 hu; obtain ⟨rfl, hr⟩ := val_int.1 hv
    rw [i64_in] at hr
    have h2 := Int.emod_lt_of_pos a h1
    have h3 := Int.emod_nonneg a (show b ≠ 0 by omega)
    refine ⟨.int .i64 (a % b), ?_, run_guard_int .., val_int.2 ⟨rfl, by rw [i64_in]; omega⟩⟩
    simp only [binOp, ne_eq, not_true_eq_false, if_false, Op.intDiv, if_neg (show ¬ b = 0 by omega), Int.tmod_eq_emod_of_nonneg h0]; rfl) (fun _ => trivial)
theorem g_neg (ho : o.op = .unOp .neg t x) (hx : fr.ev x = .val i64T a) {c : Int} (hc : IntKind.i64.wrap (0 - a) = c) : OpG J o fr hp (.val i64T c) := by
  subst hc
  refine .of_run (fun {_ _ ac _} sm hr _ => ?_) (fun _ _ => trivial)
  have h := hr x (by rw [ho]; simp [Op.operands])
  rw [hx] at h
  refine ⟨_, ?_, val_int.2 ⟨rfl, wrap_in _⟩⟩
  unfold execOp; rw [ho]
  simp [(val_int.1 h).1, Op.unary, Op.intArith, Sem.run_bind]
/-- The lesser one. -/
theorem g_min {ts : Array TypeId} (ho : o.op = .call { callee := .builtin .min, args := #[x, y], argTypes := ts }) (hx : fr.ev x = .val i64T a) (hy : fr.ev y = .val i64T b) : OpG J o fr hp (.val i64T (min a b)) := by
  refine .of_run (fun {_ _ ac _} sm hr _ => ?_) (fun _ _ => trivial)
  have h1 := hr x (by rw [ho]; simp [Op.operands, Call.operands])
  have h2 := hr y (by rw [ho]; simp [Op.operands, Call.operands])
  rw [hx] at h1; rw [hy] at h2
  obtain ⟨e1, r1⟩ := val_int.1 h1
  obtain ⟨e2, r2⟩ := val_int.1 h2
  refine ⟨.int .i64 (min a b), ?_, val_int.2 ⟨rfl, by rw [i64_in] at *; omega⟩⟩
  unfold execOp; rw [ho]
  have e3 : (if b < a then b else a) = min a b := by by_cases h : b < a <;> simp [h] <;> omega
  simp [resolve, Deferred.ofValue, invoke, builtin, Builtin.min_, Builtin.min2, e1, e2, Sem.run_bind, e3]
end
end
end Go.Ab
