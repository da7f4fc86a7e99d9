/- '==' on values whose cells are numbers. -/
import Derived.Test.YtmfgemnmelbflaaOps4
namespace Go.Ab
set_option linter.unusedVariables false
set_option linter.unusedSimpArgs false
open Go.RowKit

def GoT.pack {α : Type} (T : GoT α) (cs : List Value) : Value := if T.agg then .agg cs.toArray else cs.headD undef
section
variable {P : Program} {α β γ : Type} {T : GoT α} {S : GoT β} {get : α → β} {set : α → β → α}

theorem pack_val {T : GoT α} {U N w x v} (h : T.val U N w x v) : ∃ cs, T.rel U N w x cs ∧ v = T.pack cs := by
  obtain ⟨cs, hr, h | h⟩ := h
  · exact ⟨cs, hr, by simp [GoT.pack, h.1, h.2]⟩
  · exact ⟨cs, hr, by simp [GoT.pack, h.1, h.2]⟩

def EqOk (P : Program) (t : TypeId) (T : GoT α) [DecidableEq α] (d : Nat) : Prop :=
  ∀ {U N U' N' : Nat → Prop} {w1 w2 : World} {x y : α} {cs ds : List Value} (w : World), T.rel U N w1 x cs → T.rel U' N' w2 y ds → (Op.equalIn d t (T.pack cs) (T.pack ds)).run P w = .ok (decide (x = y)) w

theorem eq_int {t : TypeId} {k : IntKind} (h : P.underlying t = some (.int k)) (d : Nat) : EqOk P t (intT k) (d + 1) := by
  intro U N U' N' w1 w2 x y cs ds w h1 h2
  obtain ⟨rfl, _⟩ := h1
  obtain ⟨rfl, _⟩ := h2
  show (Op.equalIn (d + 1) t (.int k x) (.int k y)).run P w = _
  rw [run_equalIn_int w d t k k x y h]
  congr 1
theorem eq_u8 {t : TypeId} (h : P.underlying t = some (.int .u8)) (d : Nat) : EqOk P t u8T (d + 1) := by
  intro U N U' N' w1 w2 x y cs ds w h1 h2
  obtain ⟨rfl, _⟩ := h1
  obtain ⟨rfl, _⟩ := h2
  show (Op.equalIn (d + 1) t (.int .u8 x.toNat) (.int .u8 y.toNat)).run P w = _
  rw [run_equalIn_int w d t _ _ _ _ h]
  congr 1
  rw [Bool.eq_iff_iff, beq_iff_eq, decide_eq_true_eq, ← UInt8.toNat_inj]; omega
theorem eq_u32 {t : TypeId} (h : P.underlying t = some (.int .u32)) (d : Nat) : EqOk P t u32T (d + 1) := by
  intro U N U' N' w1 w2 x y cs ds w h1 h2
  obtain ⟨rfl, _⟩ := h1
  obtain ⟨rfl, _⟩ := h2
  show (Op.equalIn (d + 1) t (.int .u32 x.toNat) (.int .u32 y.toNat)).run P w = _
  rw [run_equalIn_int w d t _ _ _ _ h]
  congr 1
  rw [Bool.eq_iff_iff, beq_iff_eq, decide_eq_true_eq, ← UInt32.toNat_inj]; omega
theorem eq_u64 {t : TypeId} (h : P.underlying t = some (.int .u64)) (d : Nat) : EqOk P t u64T (d + 1) := by
  intro U N U' N' w1 w2 x y cs ds w h1 h2
  obtain ⟨rfl, _⟩ := h1
  obtain ⟨rfl, _⟩ := h2
  show (Op.equalIn (d + 1) t (.int .u64 x.toNat) (.int .u64 y.toNat)).run P w = _
  rw [run_equalIn_int w d t _ _ _ _ h]
  congr 1
  rw [Bool.eq_iff_iff, beq_iff_eq, decide_eq_true_eq, ← UInt64.toNat_inj]; omega

/-- A part of an aggregate is packed as it was. -/
theorem run_part {t off n : Nat} {b : Bool} {cs : List Value} {w : World} (ht : tyB P t n b = true) (hs : b = false → n = 1) (hn : 0 < n) (hl : off + n ≤ cs.length) : (part t cs.toArray off).run P w = .ok (if b then .agg ((cs.drop off).take n).toArray else ((cs.drop off).take n).headD undef) w := by
  obtain ⟨_, h1, h2⟩ := tyB_spec ht w
  cases b with
  | true =>
    simp only [part, Sem.run_bind, h1, Result.andThen_ok, if_true, h2, Sem.run_pure]
    congr 2
    apply Array.ext'
    simp [List.take_drop, Nat.add_comm]
  | false =>
    have := hs rfl
    subst this
    have hlt : off < cs.length := by omega
    simp only [part, Sem.run_bind, h1, Result.andThen_ok, Bool.false_eq_true, if_false]
    have e1 : cs.toArray[off]? = some cs[off] := by simp [hlt]
    have e2 : ((cs.drop off).take 1).headD undef = cs[off] := by rw [List.drop_eq_getElem_cons hlt]; rfl
    rw [e1, e2]; rfl

/-- The parts of a struct from the i-th on. -/
inductive EqFrom (P : Program) (s : TypeId) (T : GoT α) (d n : Nat) : Nat → (α → α → Bool) → Prop
  | nil : EqFrom P s T d n n (fun _ _ => true)
  | cons {β : Type} [DecidableEq β] {S : GoT β} {get : α → β} {set : α → β → α} {i off ft : Nat} {g : α → α → Bool} (hf : fieldB P s i off ft = true) (L : Lens T off S get set) (ht : tyB P ft S.size S.agg = true) (he : EqOk P ft S d) (H : EqFrom P s T d n (i + 1) g) :
      EqFrom P s T d n i (fun x y => decide (get x = get y) && g x y)

@[irreducible] def eqB (P : Program) (t n : Nat) : Bool := (match P.underlying t with | some (.struct fs) => fs.size == n && fs.all (·.name != "_") | _ => false) && !P.stoodInHeld t
@[irreducible] def eqgB (P : Program) (t : Nat) : Bool := !P.eqGuardType P.depth t

theorem eq_fields {s : TypeId} {d n : Nat} {fs : Array Field} (hu : P.underlying s = some (.struct fs)) (hn : fs.size = n) (hall : ∀ f ∈ fs, f.name ≠ "_") {U N U' N' : Nat → Prop} {w1 w2 : World} {x y : α} {cs ds : List Value} (h1 : T.rel U N w1 x cs) (h2 : T.rel U' N' w2 y ds) (w : World) :
    ∀ {i : Nat} {g : α → α → Bool}, EqFrom P s T d n i g → (Op.eqFields d cs.toArray ds.toArray (fs.toList.drop i)).run P w = .ok (g x y) w := by
  intro i g h
  induction h with
  | nil => rw [List.drop_of_length_le (by simp [hn])]; rfl
  | @cons β inst S get set i off ft g hf L ht he H ih =>
    obtain ⟨fs', fd, e1, e2, e3, e4⟩ := fieldB_spec hf
    obtain rfl : fs = fs' := by rw [hu] at e1; injection e1 with e1; injection e1
    have hlt : i < fs.toList.length := by simpa using (Array.getElem?_eq_some_iff.1 e2).1
    have hfd : fs.toList[i] = fd := by
      have := (Array.getElem?_eq_some_iff.1 e2).2
      simpa using this
    rw [List.drop_eq_getElem_cons hlt, hfd]
    have hne := hall fd (Array.mem_of_getElem? e2)
    subst e3
    subst e4
    have p1 := run_part (w := w) (off := fd.offset) (cs := cs) ht S.sc S.pos (by have := L.fit; have := T.len h1; omega)
    have p2 := run_part (w := w) (off := fd.offset) (cs := ds) ht S.sc S.pos (by have := L.fit; have := T.len h2; omega)
    have p3 := he w (L.get_ h1) (L.get_ h2)
    unfold GoT.pack at p3
    simp only [Op.eqFields, if_pos hne, Sem.run_bind, p1, p2, Result.andThen_ok, p3]
    cases decide (get x = get y)
    · simp
    · simp [ih]

theorem eq_struct [DecidableEq α] {t d n : Nat} {g : α → α → Bool} (hb : eqB P t n = true) (hagg : T.agg = true) (h : EqFrom P t T d n 0 g) (hg : ∀ x y, g x y = decide (x = y)) : EqOk P t T (d + 1) := by
  intro U N U' N' w1 w2 x y cs ds w h1 h2
  unfold eqB at hb
  cases hu : P.underlying t with
  | none => simp [hu] at hb
  | some dsc =>
    cases dsc <;> simp [hu] at hb
    rename_i fs
    have hf : P.fieldsOf t = fs := by simp [Program.fieldsOf, hu]
    simp only [GoT.pack, hagg, if_true]
    rw [run_equalIn_struct w d t _ _ (by rw [hf]; exact hu) hb.2, hf]
    have := eq_fields hu hb.1.1 (fun f hf => by
      obtain ⟨i, hi, e⟩ := Array.mem_iff_getElem.1 hf
      have := hb.1.2 i hi
      rw [e] at this; simpa using this) h1 h2 w h
    rw [List.drop_zero] at this
    rw [this, hg]

/-! Arrays. -/
def eqElems (P : Program) (d e sz : Nat) (xs ys : Array Value) : List Nat → Sem Bool
  | [] => pure true
  | i :: is => do
    let a ← part e xs (i * sz)
    let b ← part e ys (i * sz)
    let r ← Op.equalIn d e a b
    if (!r) = true then pure false else eqElems P d e sz xs ys is

theorem run_equalIn_array {t n e sz d : Nat} (h : arrB P t n e sz = true) (xs ys : Array Value) (w : World) : (Op.equalIn (d + 1) t (.agg xs) (.agg ys)).run P w = (eqElems P d e sz xs ys (List.range n)).run P w := by
  obtain ⟨hu, hsz⟩ := arrB_spec h w
  simp only [Op.equalIn, Sem.run_bind, run_underlying hu, Result.andThen_ok, hsz]
  rw [Std.Legacy.Range.forIn_eq_forIn_range']
  simp only [Std.Legacy.Range.size, Nat.sub_zero, Nat.add_sub_cancel, Nat.div_one, ← List.range_eq_range']
  generalize List.range n = l
  clear hsz
  induction l generalizing w with
  | nil => simp [eqElems]
  | cons i l ih =>
    simp only [List.forIn_cons, eqElems, Sem.run_bind]
    generalize (part e xs (i * sz)).run P w = r1
    cases r1 with
    | ok a w1 =>
      simp only [Result.andThen_ok]
      generalize (part e ys (i * sz)).run P w1 = r2
      cases r2 with
      | ok b w2 =>
        simp only [Result.andThen_ok]
        generalize (Op.equalIn d e a b).run P w2 = r3
        cases r3 with
        | ok r w3 =>
          cases r
          · simp only [Result.andThen_ok, Bool.not_false, if_true, Sem.run_pure]
          · simp only [Result.andThen_ok, Bool.not_true, Bool.false_eq_true, if_false, Sem.run_pure]
            exact ih w3
        | halt x w3 => simp [Result.andThen]
      | halt x w2 => simp [Result.andThen]
    | halt x w1 => simp [Result.andThen]

theorem eq_elems [DecidableEq α] {e d n : Nat} (ht : tyB P e T.size T.agg = true) (he : EqOk P e T d) {U N U' N' : Nat → Prop} {w1 w2 : World} {l m : List α} {cs ds : List Value} (hl : l.length = n) (hm : m.length = n) (h1 : relAll T U N w1 l cs) (h2 : relAll T U' N' w2 m ds) (w : World) :
    ∀ (k i : Nat), i + k = n → (eqElems P d e T.size cs.toArray ds.toArray (List.range' i k)).run P w = .ok (decide (l.drop i = m.drop i)) w := by
  intro k
  induction k with
  | zero =>
    intro i hi
    rw [List.drop_of_length_le (by omega), List.drop_of_length_le (by omega)]
    simp [eqElems]
  | succ k ih =>
    intro i hi
    have hli : i < l.length := by omega
    have hmi : i < m.length := by omega
    have c1 := h1.get (List.getElem?_eq_getElem hli)
    have c2 := h2.get (List.getElem?_eq_getElem hmi)
    have hle : i * T.size + T.size ≤ n * T.size := by
      have : (i + 1) * T.size ≤ n * T.size := Nat.mul_le_mul_right _ (by omega)
      rw [Nat.add_mul] at this; omega
    have p1 := run_part (w := w) ht T.sc T.pos (off := i * T.size) (cs := cs) (by rw [h1.len, hl]; exact hle)
    have p2 := run_part (w := w) ht T.sc T.pos (off := i * T.size) (cs := ds) (by rw [h2.len, hm]; exact hle)
    have p3 := he w c1 c2
    unfold GoT.pack at p3
    rw [List.range'_succ]
    simp only [eqElems, Sem.run_bind, p1, p2, Result.andThen_ok, p3]
    have ih' := ih (i + 1) (by omega)
    rw [List.drop_eq_getElem_cons hli, List.drop_eq_getElem_cons hmi]
    by_cases c : l[i] = m[i]
    · simp only [c, decide_true, Bool.not_true, Bool.false_eq_true, if_false, ih', List.cons.injEq, true_and]
    · rw [decide_eq_false c]
      simp only [Bool.not_false, if_true, Sem.run_pure]
      rw [decide_eq_false]
      intro e
      injection e with e
      exact c e

theorem eq_arr [DecidableEq α] {t e d n : Nat} {hn : 0 < n} (ha : arrB P t n e T.size = true) (ht : tyB P e T.size T.agg = true) (he : EqOk P e T d) : EqOk P t (arrT n hn T) (d + 1) := by
  intro U N U' N' w1 w2 x y cs ds w h1 h2
  show (Op.equalIn (d + 1) t (.agg cs.toArray) (.agg ds.toArray)).run P w = _
  rw [run_equalIn_array ha]
  have := eq_elems ht he h1.1 h2.1 h1.2 h2.2 w n 0 (by omega)
  rw [List.range_eq_range', this]
  simp
end

section
variable {J : Job} {nx : Nat} {fr : Fr} {hp : Hp} {o : Oper} {α : Type} {T : GoT α} [DecidableEq α]
/-- What '==' of two values of a type wants. -/
structure EqTy (P : Program) (t : TypeId) (T : GoT α) : Prop where
  eq : EqOk P t T 10000
  agg : T.agg = true
  guard : eqgB P t = true

theorem g_eqlS {t t' : TypeId} {x y : Operand} {a b : α} (ho : o.op = .binOp .eql t x y t') (hx : fr.ev x = .val T a) (hy : fr.ev y = .val T b) (he : EqTy J.P t T) : OpG J o fr hp (.val boolT (decide (a = b))) :=
  g_bin ho hx hy (fun {ρ U N w u v} hu hv => by
    obtain ⟨cs, h1, rfl⟩ := pack_val hu
    obtain ⟨ds, h2, rfl⟩ := pack_val hv
    have h3 := he.eq w h1 h2
    have hg : J.P.eqGuardType J.P.depth t = false := by have := he.guard; unfold eqgB at this; simpa using this
    simp only [GoT.pack, he.agg, if_true] at h3 ⊢
    refine ⟨.bool (decide (a = b)), ?_, run_eqGuard_agg w _ t x y _ _ hg, val_bool.2 rfl⟩
    rw [run_eql_struct, h3]; rfl) (fun _ => trivial)
theorem g_neqS {t t' : TypeId} {x y : Operand} {a b : α} (ho : o.op = .binOp .neq t x y t') (hx : fr.ev x = .val T a) (hy : fr.ev y = .val T b) (he : EqTy J.P t T) : OpG J o fr hp (.val boolT (!decide (a = b))) :=
  g_bin ho hx hy (fun {ρ U N w u v} hu hv => by
    obtain ⟨cs, h1, rfl⟩ := pack_val hu
    obtain ⟨ds, h2, rfl⟩ := pack_val hv
    have h3 := he.eq w h1 h2
    have hg : J.P.eqGuardType J.P.depth t = false := by have := he.guard; unfold eqgB at this; simpa using this
    simp only [GoT.pack, he.agg, if_true] at h3 ⊢
    refine ⟨.bool (!decide (a = b)), ?_, run_eqGuard_agg w _ t x y _ _ hg, val_bool.2 rfl⟩
    rw [run_neq_struct, h3]; rfl) (fun _ => trivial)
theorem g_eqlB {t t' : TypeId} {x y : Operand} {a b : Bool} (ho : o.op = .binOp .eql t x y t') (hx : fr.ev x = .val boolT a) (hy : fr.ev y = .val boolT b) (hu : J.P.underlying t = some .bool) : OpG J o fr hp (.val boolT (a == b)) :=
  g_bin ho hx hy (fun {ρ U N w u v} hu1 hv => by
    rw [val_bool.1 hu1, val_bool.1 hv]
    refine ⟨.bool (a == b), ?_, run_guard_bool .., val_bool.2 rfl⟩
    have := run_equalIn_bool' w 9999 t a b hu
    simp only [binOp]
    simp [Op.equal, Op.maxDepth, this]) (fun _ => trivial)
theorem g_neqB {t t' : TypeId} {x y : Operand} {a b : Bool} (ho : o.op = .binOp .neq t x y t') (hx : fr.ev x = .val boolT a) (hy : fr.ev y = .val boolT b) (hu : J.P.underlying t = some .bool) : OpG J o fr hp (.val boolT (!(a == b))) :=
  g_bin ho hx hy (fun {ρ U N w u v} hu1 hv => by
    rw [val_bool.1 hu1, val_bool.1 hv]
    refine ⟨.bool (!(a == b)), ?_, run_guard_bool .., val_bool.2 rfl⟩
    have := run_equalIn_bool' w 9999 t a b hu
    simp only [binOp]
    simp [Op.equal, Op.maxDepth, this]) (fun _ => trivial)
end
end Go.Ab
