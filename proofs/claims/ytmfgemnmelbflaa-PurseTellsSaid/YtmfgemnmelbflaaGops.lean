/- Gentle operations: what leaves all known memory alone: one lemma for each form, and how they are taken in a walk. -/
import Derived.Test.YtmfgemnmelbflaaAbs
namespace Go.Ab
set_option linter.unusedVariables false
set_option linter.unusedSimpArgs false
open Go.RowKit

def inR (k : IntKind) (n : Int) : Bool := decide (k.min ≤ n) && decide (n ≤ k.max)
theorem inR_iff {k : IntKind} {n : Int} : inR k n = true ↔ IntKind.InR k n := by simp [inR, IntKind.InR]

/-- A constant's reading. -/
def cv : Value → AV
  | .bool b => .val boolT b
  | .int .i64 n => bif inR .i64 n then .val i64T n else .lit (.int .i64 n)
  | .int .u8 n => bif inR .u8 n then .val u8T (UInt8.ofNat n.toNat) else .lit (.int .u8 n)
  | .int .u32 n => bif inR .u32 n then .val u32T (UInt32.ofNat n.toNat) else .lit (.int .u32 n)
  | .int .u64 n => bif inR .u64 n then .val u64T (UInt64.ofNat n.toNat) else .lit (.int .u64 n)
  | v => .lit v

def Fr.ev (f : Fr) : Operand → AV
  | .tmp t => f t
  | .const v => cv v
  | .func g => .clo g []
  | .global _ => .idk

theorem val_sc {α : Type} {f : α → Value} {ok : α → Prop} {h1 : ∀ x, (f x).oneCell' = true} {U N w x v} : (scT f ok h1).val U N w x v ↔ v = f x ∧ ok x := by
  constructor
  · rintro ⟨cs, ⟨rfl, ho⟩, h | h⟩
    · exact absurd (show false = true from h.1) (by decide)
    · have := h.2; simp at this; exact ⟨this.symm, ho⟩
  · rintro ⟨rfl, ho⟩; exact ⟨_, ⟨rfl, ho⟩, .inr ⟨rfl, rfl⟩⟩
theorem val_int {k : IntKind} {U N w x v} : (intT k).val U N w x v ↔ v = .int k x ∧ IntKind.InR k x := val_sc
theorem val_bool {U N w x v} : boolT.val U N w x v ↔ v = .bool x := val_sc.trans ⟨fun h => h.1, fun h => ⟨h, trivial⟩⟩
theorem val_u8 {U N w x v} : u8T.val U N w x v ↔ v = .int .u8 x.toNat := val_sc.trans ⟨fun h => h.1, fun h => ⟨h, trivial⟩⟩
theorem val_u32 {U N w x v} : u32T.val U N w x v ↔ v = .int .u32 x.toNat := val_sc.trans ⟨fun h => h.1, fun h => ⟨h, trivial⟩⟩
theorem val_u64 {U N w x v} : u64T.val U N w x v ↔ v = .int .u64 x.toNat := val_sc.trans ⟨fun h => h.1, fun h => ⟨h, trivial⟩⟩

theorem i64_in {n : Int} : IntKind.InR .i64 n ↔ -9223372036854775808 ≤ n ∧ n ≤ 9223372036854775807 := by
  simp [IntKind.InR, IntKind.min, IntKind.max, IntKind.signed, IntKind.bits]

theorem cv_rel {ρ : Nat → Value} {B : Nat → Prop} {U N : Nat → Prop} {w : World} (v : Value) : (cv v).rel ρ B U N w v := by
  have hn : ∀ {n m : Int}, 0 ≤ n → n ≤ m → ((n.toNat : Nat) : Int) = n := fun h _ => by omega
  cases v with
  | bool b => exact val_bool.2 rfl
  | int k n =>
    cases k <;> simp only [cv] <;> first
      | rfl
      | (generalize hb : inR _ n = b
         cases b
         · rfl
         · have hr := inR_iff.1 hb
           simp [IntKind.InR, IntKind.min, IntKind.max, IntKind.signed, IntKind.bits] at hr
           first
             | exact val_int.2 ⟨rfl, by simpa [IntKind.InR, IntKind.min, IntKind.max, IntKind.signed, IntKind.bits] using hr⟩
             | (refine val_u8.2 ?_; rw [UInt8.toNat_ofNat_of_lt' (by show n.toNat < 256; omega), Int.toNat_of_nonneg hr.1])
             | (refine val_u32.2 ?_; rw [UInt32.toNat_ofNat_of_lt' (by show n.toNat < 4294967296; omega), Int.toNat_of_nonneg hr.1])
             | (refine val_u64.2 ?_; rw [UInt64.toNat_ofNat_of_lt' (by show n.toNat < 18446744073709551616; omega), Int.toNat_of_nonneg hr.1]))
  | _ => rfl

theorem ev_rel {J : Job} {nx : Nat} {ρ : Nat → Value} {fr : Fr} {hp : Hp} {a : Act} {w : World} (s : SimR J nx ρ fr hp a w) (x : Operand) :
    (fr.ev x).rel ρ J.B (Uu J ρ hp) (Nn ρ hp) w (a.eval x) := by
  cases x with
  | tmp t => exact s.frel t
  | const v => exact cv_rel v
  | global g => trivial
  | func f => rfl
theorem cv_under (nx : Nat) (v : Value) : (cv v).under nx := by
  cases v with
  | int k n => cases k <;> simp only [cv] <;> first | trivial | (generalize inR _ n = b; cases b <;> trivial)
  | _ => trivial
theorem ev_under {fr : Fr} {nx : Nat} (h : ∀ t, (fr t).under nx) (x : Operand) : (fr.ev x).under nx := by
  cases x with
  | tmp t => exact h t
  | const v => exact cv_under nx v
  | global g => trivial
  | func f => intro c hc; simp at hc

/-- In what is known of its operands, and of the heap, 'o' yields what is known as 'x', and leaves all known memory alone. -/
structure OpG (J : Job) (o : Oper) (fr : Fr) (hp : Hp) (x : AV) : Prop where
  run : ∀ {nx : Nat} {ρ : Nat → Value} {a : Act} {w : World}, SimH J nx ρ hp w →
    (∀ y ∈ o.op.operands, (fr.ev y).rel ρ J.B (Uu J ρ hp) (Nn ρ hp) w (a.eval y)) → (∀ y ∈ o.op.operands, (fr.ev y).under nx) →
    ∀ {K : Act → World → Prop} {Q : Exit → Act → World → Prop},
    (∀ v w', Below w.heap.size w w' → x.rel ρ J.B (Uu J ρ hp) (Nn ρ hp) w' v → K (a.put o.dst v) w') → o.wp J.P a w K Q
  und : ∀ {nx : Nat}, Hp.below_ nx hp → (∀ y ∈ o.op.operands, (fr.ev y).under nx) → x.under nx
  nd : ∀ c, o.op ≠ .defer c

theorem OpG.of_run {J : Job} {o : Oper} {fr : Fr} {hp : Hp} {x : AV}
    (h : ∀ {nx : Nat} {ρ : Nat → Value} {a : Act} {w : World}, SimH J nx ρ hp w → (∀ y ∈ o.op.operands, (fr.ev y).rel ρ J.B (Uu J ρ hp) (Nn ρ hp) w (a.eval y)) → (∀ y ∈ o.op.operands, (fr.ev y).under nx) →
      ∃ v, (execOp a.eval o).run J.P w = .ok (.value v) w ∧ x.rel ρ J.B (Uu J ρ hp) (Nn ρ hp) w v)
    (hu : ∀ {nx : Nat}, Hp.below_ nx hp → (∀ y ∈ o.op.operands, (fr.ev y).under nx) → x.under nx) (nd : ∀ c, o.op ≠ .defer c := by intro c hc; simp_all) : OpG J o fr hp x where
  run s hr hn _ _ hK := by
    obtain ⟨v, he, hx⟩ := h s hr hn
    unfold Oper.wp
    rw [he]
    exact hK v _ (Below.refl _ _) hx
  und := hu
  nd := nd

section
variable {J : Job} {nx : Nat} {fr : Fr} {hp : Hp} {k : List It} {ops : Array Oper} {rest : List Oper} {o : Oper}

theorem aw_g {x : AV} {d : Nat} (h : OpG J o fr hp x) (hd : o.dst = some d) (hg : o.guard = none) (hlt : Nat.blt d J.nt = true) (H : AW J nx (fr.set d x) hp (.ops ops rest :: k)) :
    AW J nx fr hp (.ops ops (o :: rest) :: k) := by
  intro a w ⟨ρ, s⟩
  refine wpl_plain hg h.nd fun K hK => ?_
  refine h.run s.toSimH (fun y _ => ev_rel s y) (fun y _ => ev_under s.fnx y) fun v w' hb hx => hK _ _ ?_
  rw [hd]
  exact H _ _ ⟨ρ, (s.later hb).put (by simpa using hlt) hx (h.und s.hbelow (fun y _ => ev_under s.fnx y))⟩

/-- A guarded operation whose guard is known. -/
theorem wanted_of {b want : Bool} {j t : Nat} {oj : Oper} {a : Act} {w : World} {ρ : Nat → Value} (s : SimR J nx ρ fr hp a w) (hg : o.guard = some (j, want)) (ho : ops[j]? = some oj) (hj : oj.dst = some t) (hv : fr t = .val boolT b) (ht : Nat.blt t J.nt = true) :
    Region.wanted o (yielded ops a.tmps) = (b == want) := by
  have h := s.frel t
  rw [hv] at h
  have hb : a.tmps.getD t undef = .bool b := val_bool.1 h
  have hs : t < a.tmps.size := by rw [s.size]; simpa using ht
  have : a.tmps[t]? = some (.bool b) := by
    rw [Array.getD_eq_getD_getElem?, Array.getElem?_eq_getElem hs] at hb
    rw [Array.getElem?_eq_getElem hs]
    simpa using hb
  simp only [Region.wanted, hg, yielded, ho, Option.bind_some, hj, this]
  cases b <;> cases want <;> rfl
theorem aw_gi {x : AV} {d : Nat} {b want : Bool} {j t : Nat} {oj : Oper} (h : OpG J o fr hp x) (hd : o.dst = some d) (hg : o.guard = some (j, want)) (ho : ops[j]? = some oj) (hj : oj.dst = some t) (hv : fr t = .val boolT b)
    (ht : Nat.blt t J.nt = true) (hw : b = want) (hlt : Nat.blt d J.nt = true) (H : AW J nx (fr.set d x) hp (.ops ops rest :: k)) :
    AW J nx fr hp (.ops ops (o :: rest) :: k) := by
  intro a w ⟨ρ, s⟩
  refine wpListIn_step fun K hK => ?_
  rw [wanted_of s hg ho hj hv ht, hw, beq_self_eq_true, if_pos rfl]
  refine opIn h.nd (h.run s.toSimH (fun y _ => ev_rel s y) (fun y _ => ev_under s.fnx y) fun v w' hb hx => hK _ _ ?_)
  rw [hd]
  exact H _ _ ⟨ρ, (s.later hb).put (by simpa using hlt) hx (h.und s.hbelow (fun y _ => ev_under s.fnx y))⟩
theorem aw_gn {d : Nat} {b want : Bool} {j t : Nat} {oj : Oper} (hd : o.dst = some d) (hg : o.guard = some (j, want)) (ho : ops[j]? = some oj) (hj : oj.dst = some t) (hv : fr t = .val boolT b)
    (ht : Nat.blt t J.nt = true) (hw : (b == want) = false) (hlt : Nat.blt d J.nt = true) (H : AW J nx (fr.set d (.lit undef)) hp (.ops ops rest :: k)) :
    AW J nx fr hp (.ops ops (o :: rest) :: k) := by
  intro a w ⟨ρ, s⟩
  refine wpListIn_step fun K hK => ?_
  rw [wanted_of s hg ho hj hv ht, hw, if_neg (by simp)]
  refine ⟨fun _ _ => trivial, hK _ _ ?_⟩
  rw [hd]
  exact H _ _ ⟨ρ, s.put (x := .lit undef) (by simpa using hlt) rfl trivial⟩
/-- A guarded operation whose guard was not carried out. -/
theorem unwanted_of {want : Bool} {j t : Nat} {oj : Oper} {a : Act} {w : World} {ρ : Nat → Value} (s : SimR J nx ρ fr hp a w) (hg : o.guard = some (j, want)) (ho : ops[j]? = some oj) (hj : oj.dst = some t) (hv : fr t = .lit undef) (ht : Nat.blt t J.nt = true) :
    Region.wanted o (yielded ops a.tmps) = false := by
  have h := s.frel t
  rw [hv] at h
  have hb : a.tmps.getD t undef = undef := h
  have hs : t < a.tmps.size := by rw [s.size]; simpa using ht
  have : a.tmps[t]? = some (.tuple #[]) := by
    rw [Array.getD_eq_getD_getElem?, Array.getElem?_eq_getElem hs] at hb
    rw [Array.getElem?_eq_getElem hs]
    simpa [undef] using hb
  simp only [Region.wanted, hg, yielded, ho, Option.bind_some, hj, this]
  rfl
theorem aw_gu {d : Nat} {want : Bool} {j t : Nat} {oj : Oper} (hd : o.dst = some d) (hg : o.guard = some (j, want)) (ho : ops[j]? = some oj) (hj : oj.dst = some t) (hv : fr t = .lit undef)
    (ht : Nat.blt t J.nt = true) (hlt : Nat.blt d J.nt = true) (H : AW J nx (fr.set d (.lit undef)) hp (.ops ops rest :: k)) :
    AW J nx fr hp (.ops ops (o :: rest) :: k) := by
  intro a w ⟨ρ, s⟩
  refine wpListIn_step fun K hK => ?_
  rw [unwanted_of s hg ho hj hv ht, if_neg (by simp)]
  refine ⟨fun _ _ => trivial, hK _ _ ?_⟩
  rw [hd]
  exact H _ _ ⟨ρ, s.put (x := .lit undef) (by simpa using hlt) rfl trivial⟩

/-- Tests. -/
theorem aw_if {c : Operand} {x y : Code} {b : Bool} (hc : fr.ev c = .val boolT b) (ht : b = true → AW J nx fr hp (.code x :: k)) (hf : b = false → AW J nx fr hp (.code y :: k)) : AW J nx fr hp (.code (.cond c x y) :: k) := by
  intro a w s
  obtain ⟨ρ, s'⟩ := s
  have h := ev_rel s' c
  rw [hc] at h
  exact wpIn_cond_split (val_bool.1 h) (fun e => ht e a w ⟨ρ, s'⟩) (fun e => hf e a w ⟨ρ, s'⟩)
theorem aw_if_t {c : Operand} {x y : Code} {b : Bool} (hc : fr.ev c = .val boolT b) (hb : b = true) (ht : AW J nx fr hp (.code x :: k)) : AW J nx fr hp (.code (.cond c x y) :: k) :=
  aw_if hc (fun _ => ht) (fun e => by rw [hb] at e; cases e)
theorem aw_if_f {c : Operand} {x y : Code} {b : Bool} (hc : fr.ev c = .val boolT b) (hb : b = false) (hf : AW J nx fr hp (.code y :: k)) : AW J nx fr hp (.code (.cond c x y) :: k) :=
  aw_if hc (fun e => by rw [hb] at e; cases e) (fun _ => hf)

/-- What a slot holds may be read otherwise. -/
theorem aw_as {d : Nat} {x y : AV} (hx : fr d = x) (h : ∀ {ρ w v}, SimH J nx ρ hp w → x.rel ρ J.B (Uu J ρ hp) (Nn ρ hp) w v → x.under nx → y.rel ρ J.B (Uu J ρ hp) (Nn ρ hp) w v ∧ y.under nx)
    (H : AW J nx (fr.set d y) hp k) : AW J nx fr hp k := by
  intro a w ⟨ρ, s⟩
  have h0 := s.frel d
  have h1 := s.fnx d
  rw [hx] at h0 h1
  obtain ⟨h2, h3⟩ := h s.toSimH h0 h1
  refine H a w ⟨ρ, { s.toSimH with size := s.size, defers := s.defers, frel := fun t => ?_, fnx := fun t => ?_, brel := s.brel }⟩
  · simp only [Fr.set, beq_set]
    by_cases e : t = d
    · rw [if_pos e, e]; exact h2
    · rw [if_neg e]; exact s.frel t
  · simp only [Fr.set, beq_set]
    by_cases e : t = d
    · rw [if_pos e]; exact h3
    · rw [if_neg e]; exact s.fnx t
/-- A fact that what is known of a slot bears. -/
theorem aw_fact {d : Nat} {x : AV} (hx : fr d = x) {F : Prop} (h : ∀ {ρ U N w v}, x.rel ρ J.B U N w v → F) (H : F → AW J nx fr hp k) : AW J nx fr hp k := by
  intro a w ⟨ρ, s⟩
  have h0 := s.frel d
  rw [hx] at h0
  exact H (h h0) a w ⟨ρ, s⟩

/-! ## The operations -/
theorem mem_x {x y : Operand} (h : y = x) : y ∈ #[x] := by simp [h]

theorem g_move {y : Operand} {x : AV} (ho : o.op = .move y ∨ o.op = .assign y) (hx : fr.ev y = x) : OpG J o fr hp x := by
  have hm : y ∈ o.op.operands := by rcases ho with ho | ho <;> rw [ho] <;> simp [Op.operands]
  refine .of_run (fun {_ _ a _} s hr _ => ⟨a.eval y, ?_, ?_⟩) (fun _ hn => by rw [← hx]; exact hn y hm)
  · rcases ho with ho | ho <;> (unfold execOp; rw [ho]; rfl)
  · rw [← hx]; exact hr y hm

theorem g_mv {y : Operand} {α : Type} {T : GoT α} {x : α} (ho : o.op = .move y ∨ o.op = .assign y) (hx : fr.ev y = .val T x) : OpG J o fr hp (.val T x) := g_move ho hx
theorem g_mp {y : Operand} {n off : Nat} (ho : o.op = .move y ∨ o.op = .assign y) (hx : fr.ev y = .ptr n off) : OpG J o fr hp (.ptr n off) := g_move ho hx
theorem g_mo {y : Operand} {n : Nat} (ho : o.op = .move y ∨ o.op = .assign y) (hx : fr.ev y = .own n) : OpG J o fr hp (.own n) := g_move ho hx
theorem g_ml {y : Operand} {v : Value} (ho : o.op = .move y ∨ o.op = .assign y) (hx : fr.ev y = .lit v) : OpG J o fr hp (.lit v) := g_move ho hx
theorem g_mc {y : Operand} {f : FuncId} {l : List Nat} (ho : o.op = .move y ∨ o.op = .assign y) (hx : fr.ev y = .clo f l) : OpG J o fr hp (.clo f l) := g_move ho hx
theorem g_mi {y : Operand} (ho : o.op = .move y ∨ o.op = .assign y) (hx : fr.ev y = .idk) : OpG J o fr hp .idk := g_move ho hx
theorem g_mr {y : Operand} {α : Type} {T : GoT α} {x : α} (ho : o.op = .move y ∨ o.op = .assign y) (hx : fr.ev y = .rptr T x) : OpG J o fr hp (.rptr T x) := g_move ho hx

theorem g_mf1 {y : Operand} {P : Program} {α β : Type} {A : GoT α} {B : GoT β} {f : α → β} (ho : o.op = .move y ∨ o.op = .assign y) (hx : fr.ev y = .fn1 P A B f) : OpG J o fr hp (.fn1 P A B f) := g_move ho hx
theorem g_mf2 {y : Operand} {P : Program} {α β γ : Type} {A : GoT α} {A' : GoT β} {B : GoT γ} {f : α → β → γ} (ho : o.op = .move y ∨ o.op = .assign y) (hx : fr.ev y = .fn2 P A A' B f) : OpG J o fr hp (.fn2 P A A' B f) := g_move ho hx
theorem g_mw {y : Operand} {n off len : Nat} (ho : o.op = .move y ∨ o.op = .assign y) (hx : fr.ev y = .vw n off len) : OpG J o fr hp (.vw n off len) := g_move ho hx
theorem g_ms {y : Operand} {n sz lo len : Nat} (ho : o.op = .move y ∨ o.op = .assign y) (hx : fr.ev y = .osub n sz lo len) : OpG J o fr hp (.osub n sz lo len) := g_move ho hx
theorem g_mt2 {y : Operand} {a b : AV} (ho : o.op = .move y ∨ o.op = .assign y) (hx : fr.ev y = .tup2 a b) : OpG J o fr hp (.tup2 a b) := g_move ho hx
theorem g_mt3 {y : Operand} {a b c : AV} (ho : o.op = .move y ∨ o.op = .assign y) (hx : fr.ev y = .tup3 a b c) : OpG J o fr hp (.tup3 a b c) := g_move ho hx
theorem g_me {y : Operand} {n i sz off : Nat} (ho : o.op = .move y ∨ o.op = .assign y) (hx : fr.ev y = .eptr n i sz off) : OpG J o fr hp (.eptr n i sz off) := g_move ho hx

theorem g_pick {c x y : Operand} {b : Bool} {z : AV} (ho : o.op = .pick c x y) (hc : fr.ev c = .val boolT b) (hz : (bif b then fr.ev x else fr.ev y) = z) : OpG J o fr hp z := by
  refine .of_run (fun {_ _ a _} s hr _ => ⟨if b then a.eval x else a.eval y, ?_, ?_⟩) (fun _ hn => ?_)
  · have h := hr c (by rw [ho]; simp [Op.operands])
    rw [hc] at h
    unfold execOp; rw [ho]
    simp only [val_bool.1 h, asBool]
    cases b <;> rfl
  · rw [← hz]; cases b
    · exact hr y (by rw [ho]; simp [Op.operands])
    · exact hr x (by rw [ho]; simp [Op.operands])
  · rw [← hz]; cases b
    · exact hn y (by rw [ho]; simp [Op.operands])
    · exact hn x (by rw [ho]; simp [Op.operands])

/-- Two operands, a pure operation on them. -/
theorem g_bin {op : BinOp} {t t' : TypeId} {x y : Operand} {X Y Z : AV} (ho : o.op = .binOp op t x y t') (hx : fr.ev x = X) (hy : fr.ev y = Y)
    (h : ∀ {ρ : Nat → Value} {U N : Nat → Prop} {w : World} {u v : Value}, X.rel ρ J.B U N w u → Y.rel ρ J.B U N w v → ∃ z, (binOp op t u v).run J.P w = .ok z w ∧ (eqGuard op t x y u v).run J.P w = .ok () w ∧ Z.rel ρ J.B U N w z)
    (hu : ∀ nx, Z.under nx) : OpG J o fr hp Z := by
  refine .of_run (fun {_ _ a _} s hr _ => ?_) (fun _ _ => hu _)
  obtain ⟨z, h1, h2, h3⟩ := h (hx ▸ hr x (by rw [ho]; simp [Op.operands])) (hy ▸ hr y (by rw [ho]; simp [Op.operands]))
  refine ⟨z, ?_, h3⟩
  unfold execOp; rw [ho]
  simp only [Sem.run_bind, h2, Result.andThen_ok, h1, Sem.run_pure]

theorem run_guard_ne {op : BinOp} (h : (op matches .eql | .neq) = false) (t : TypeId) (x y : Operand) (u v : Value) (P : Program) (w : World) : (eqGuard op t x y u v).run P w = .ok () w := by
  unfold eqGuard
  cases op <;> first | (simp at h; done) | simp [Sem.run_pure]
theorem run_guard_int {op : BinOp} (t : TypeId) (x y : Operand) (k l : IntKind) (a b : Int) (P : Program) (w : World) : (eqGuard op t x y (.int k a) (.int l b)).run P w = .ok () w := by
  unfold eqGuard
  cases op <;> simp [Sem.run_pure]
theorem run_guard_bool {op : BinOp} (t : TypeId) (x y : Operand) (a b : Bool) (P : Program) (w : World) : (eqGuard op t x y (.bool a) (.bool b)).run P w = .ok () w := by
  unfold eqGuard
  cases op <;> simp [Sem.run_pure]

theorem wrap_in (n : Int) : IntKind.InR .i64 (IntKind.i64.wrap n) := by
  rw [i64_in]
  simp only [IntKind.wrap, IntKind.signed, IntKind.bits]
  simp
  split <;> omega
theorem wrap_eq {n : Int} (h : -9223372036854775808 ≤ n ∧ n ≤ 9223372036854775807) : IntKind.i64.wrap n = n := by
  simp only [IntKind.wrap, IntKind.signed, IntKind.bits]
  simp
  split <;> omega

section
variable {t t' : TypeId} {x y : Operand} {a b : Int}
theorem g_add (ho : o.op = .binOp .add t x y t') (hx : fr.ev x = .val i64T a) (hy : fr.ev y = .val i64T b) {c : Int} (hc : IntKind.i64.wrap (a + b) = c) : OpG J o fr hp (.val i64T c) := by
  subst hc
  exact g_bin (Z := .val i64T _) ho hx hy (fun hu hv => by
    obtain ⟨rfl, _⟩ := val_int.1 hu; obtain ⟨rfl, _⟩ := val_int.1 hv
    exact ⟨_, rfl, run_guard_int .., val_int.2 ⟨rfl, wrap_in _⟩⟩) (fun _ => trivial)
theorem g_sub (ho : o.op = .binOp .sub t x y t') (hx : fr.ev x = .val i64T a) (hy : fr.ev y = .val i64T b) {c : Int} (hc : IntKind.i64.wrap (a - b) = c) : OpG J o fr hp (.val i64T c) := by
  subst hc
  exact g_bin (Z := .val i64T _) ho hx hy (fun hu hv => by
    obtain ⟨rfl, _⟩ := val_int.1 hu; obtain ⟨rfl, _⟩ := val_int.1 hv
    exact ⟨_, rfl, run_guard_int .., val_int.2 ⟨rfl, wrap_in _⟩⟩) (fun _ => trivial)
theorem g_mul (ho : o.op = .binOp .mul t x y t') (hx : fr.ev x = .val i64T a) (hy : fr.ev y = .val i64T b) {c : Int} (hc : IntKind.i64.wrap (a * b) = c) : OpG J o fr hp (.val i64T c) := by
  subst hc
  exact g_bin (Z := .val i64T _) ho hx hy (fun hu hv => by
    obtain ⟨rfl, _⟩ := val_int.1 hu; obtain ⟨rfl, _⟩ := val_int.1 hv
    exact ⟨_, rfl, run_guard_int .., val_int.2 ⟨rfl, wrap_in _⟩⟩) (fun _ => trivial)
end

/-- Kinds whose values are whole numbers. -/
class IntL {α : Type} (T : GoT α) where
  k : IntKind
  toI : α → Int
  val_ : ∀ {U N w x v}, T.val U N w x v → v = .int k (toI x)
instance (k : IntKind) : IntL (intT k) := ⟨k, id, fun h => (val_int.1 h).1⟩
instance : IntL u8T := ⟨.u8, fun x => x.toNat, fun h => val_u8.1 h⟩
instance : IntL u32T := ⟨.u32, fun x => x.toNat, fun h => val_u32.1 h⟩
instance : IntL u64T := ⟨.u64, fun x => x.toNat, fun h => val_u64.1 h⟩

section
variable {t t' : TypeId} {x y : Operand} {α : Type} {T : GoT α} [IntL T] {a b : α} {c : Bool}
theorem g_cmp {op : BinOp} {f : Int → Int → Bool} (hop : ∀ k a b, binOp op t (.int k a) (.int k b) = pure (.bool (f a b))) (ho : o.op = .binOp op t x y t') (hx : fr.ev x = .val T a) (hy : fr.ev y = .val T b) (hc : f (IntL.toI T a) (IntL.toI T b) = c) :
    OpG J o fr hp (.val boolT c) :=
  g_bin ho hx hy (fun hu hv => by
    rw [IntL.val_ hu, IntL.val_ hv, hop, hc]
    exact ⟨_, rfl, run_guard_int .., val_bool.2 rfl⟩) (fun _ => trivial)
theorem g_lss (ho : o.op = .binOp .lss t x y t') (hx : fr.ev x = .val T a) (hy : fr.ev y = .val T b) (hc : decide (IntL.toI T a < IntL.toI T b) = c) : OpG J o fr hp (.val boolT c) :=
  g_cmp (f := fun a b => decide (a < b)) (fun k a b => by simp [binOp, Op.intCmp]) ho hx hy hc
theorem g_leq (ho : o.op = .binOp .leq t x y t') (hx : fr.ev x = .val T a) (hy : fr.ev y = .val T b) (hc : decide (IntL.toI T a ≤ IntL.toI T b) = c) : OpG J o fr hp (.val boolT c) :=
  g_cmp (f := fun a b => decide (a ≤ b)) (fun k a b => by simp [binOp, Op.intCmp]) ho hx hy hc
theorem g_gtr (ho : o.op = .binOp .gtr t x y t') (hx : fr.ev x = .val T a) (hy : fr.ev y = .val T b) (hc : decide (IntL.toI T b < IntL.toI T a) = c) : OpG J o fr hp (.val boolT c) :=
  g_cmp (f := fun a b => decide (b < a)) (fun k a b => by simp [binOp, Op.intCmp]) ho hx hy hc
theorem g_geq (ho : o.op = .binOp .geq t x y t') (hx : fr.ev x = .val T a) (hy : fr.ev y = .val T b) (hc : decide (IntL.toI T b ≤ IntL.toI T a) = c) : OpG J o fr hp (.val boolT c) :=
  g_cmp (f := fun a b => decide (b ≤ a)) (fun k a b => by simp [binOp, Op.intCmp]) ho hx hy hc
theorem g_eql (ho : o.op = .binOp .eql t x y t') (hx : fr.ev x = .val T a) (hy : fr.ev y = .val T b) (hc : decide (IntL.toI T a = IntL.toI T b) = c) : OpG J o fr hp (.val boolT c) :=
  g_cmp (f := fun a b => decide (a = b)) (fun k a b => by simp only [binOp, Op.intCmp, ne_eq, not_true, if_false]; congr 2) ho hx hy hc
theorem g_neq (ho : o.op = .binOp .neq t x y t') (hx : fr.ev x = .val T a) (hy : fr.ev y = .val T b) (hc : (!decide (IntL.toI T a = IntL.toI T b)) = c) : OpG J o fr hp (.val boolT c) :=
  g_cmp (f := fun a b => !decide (a = b)) (fun k a b => by simp only [binOp, Op.intCmp, ne_eq, not_true, if_false, bne]; congr 3) ho hx hy hc
end

theorem g_not {x : Operand} {t : TypeId} {b : Bool} (ho : o.op = .unOp .not t x) (hx : fr.ev x = .val boolT b) : OpG J o fr hp (.val boolT (!b)) := by
  refine .of_run (fun s hr _ => ⟨.bool (!b), ?_, val_bool.2 rfl⟩) (fun _ _ => trivial)
  have h := hr x (by rw [ho]; simp [Op.operands])
  rw [hx] at h
  unfold execOp; rw [ho]
  simp only [val_bool.1 h, Op.unary]
  rfl

theorem g_extract {x : Operand} {i : Nat} {X Y Z : AV} (ho : o.op = .extract x i) (hx : fr.ev x = .tup2 X Y) (hz : (match i with | 0 => X | _ => Y) = Z) (hi : Nat.blt i 2 = true) : OpG J o fr hp Z := by
  refine .of_run (fun s hr _ => ?_) (fun _ hn => ?_)
  · have h := hr x (by rw [ho]; simp [Op.operands])
    rw [hx] at h
    obtain ⟨u, v, e, h1, h2⟩ := h
    unfold execOp; rw [ho]
    simp only [e, Instr.extract]
    match i, hi with
    | 0, _ => exact ⟨u, rfl, hz ▸ h1⟩
    | 1, _ => exact ⟨v, rfl, hz ▸ h2⟩
  · have h := hn x (by rw [ho]; simp [Op.operands])
    rw [hx] at h
    match i, hi with
    | 0, _ => exact hz ▸ h.1
    | 1, _ => exact hz ▸ h.2
theorem g_extract3 {x : Operand} {i : Nat} {X Y W Z : AV} (ho : o.op = .extract x i) (hx : fr.ev x = .tup3 X Y W) (hz : (match i with | 0 => X | 1 => Y | _ => W) = Z) (hi : Nat.blt i 3 = true) : OpG J o fr hp Z := by
  refine .of_run (fun s hr _ => ?_) (fun _ hn => ?_)
  · have h := hr x (by rw [ho]; simp [Op.operands])
    rw [hx] at h
    obtain ⟨u, v, z, e, h1, h2, h3⟩ := h
    unfold execOp; rw [ho]
    simp only [e, Instr.extract]
    match i, hi with
    | 0, _ => exact ⟨u, rfl, hz ▸ h1⟩
    | 1, _ => exact ⟨v, rfl, hz ▸ h2⟩
    | 2, _ => exact ⟨z, rfl, hz ▸ h3⟩
  · have h := hn x (by rw [ho]; simp [Op.operands])
    rw [hx] at h
    match i, hi with
    | 0, _ => exact hz ▸ h.1
    | 1, _ => exact hz ▸ h.2.1
    | 2, _ => exact hz ▸ h.2.2
theorem g_x20 {x : Operand} {X Y : AV} (ho : o.op = .extract x 0) (hx : fr.ev x = .tup2 X Y) : OpG J o fr hp X := g_extract ho hx rfl rfl
theorem g_x21 {x : Operand} {X Y : AV} (ho : o.op = .extract x 1) (hx : fr.ev x = .tup2 X Y) : OpG J o fr hp Y := g_extract ho hx rfl rfl
theorem g_x30 {x : Operand} {X Y Z : AV} (ho : o.op = .extract x 0) (hx : fr.ev x = .tup3 X Y Z) : OpG J o fr hp X := g_extract3 ho hx rfl rfl
theorem g_x31 {x : Operand} {X Y Z : AV} (ho : o.op = .extract x 1) (hx : fr.ev x = .tup3 X Y Z) : OpG J o fr hp Y := g_extract3 ho hx rfl rfl
theorem g_x32 {x : Operand} {X Y Z : AV} (ho : o.op = .extract x 2) (hx : fr.ev x = .tup3 X Y Z) : OpG J o fr hp Z := g_extract3 ho hx rfl rfl
end
end Go.Ab
