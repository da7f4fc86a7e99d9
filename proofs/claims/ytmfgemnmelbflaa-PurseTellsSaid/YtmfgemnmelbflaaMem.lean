/- Memory: new pieces of the call's own, writing into them, reading. -/
import Derived.Test.YtmfgemnmelbflaaGops
namespace Go.Ab
set_option linter.unusedVariables false
set_option linter.unusedSimpArgs false
open Go.RowKit

def ren (ρ : Nat → Value) (n : Nat) (p : Value) : Nat → Value := fun m => if m = n then p else ρ m

section
variable {J : Job} {nx : Nat} {ρ : Nat → Value} {fr : Fr} {hp : Hp} {a : Act} {w w' : World}

theorem hp_set_eq (hp : Hp) (n m : Nat) (x : HE) : (hp.set n x) m = if m = n then x else hp m := beq_set m n x (hp m)
theorem fr_set_eq (f : Fr) (n m : Nat) (x : AV) : (f.set n x) m = if m = n then x else f m := beq_set m n x (f m)

/-- A new name for a new piece of memory; the elder ones as they were. -/
theorem SimR.bind (h : SimR J nx ρ fr hp a w) {p : Value} {x : HE} (hb : Below w.heap.size w w') (hf : ∀ b, blkOf p = some b → w.heap.size ≤ b ∧ b < w'.heap.size)
    (hx : Keeps (Uu J ρ hp) (Nn ρ hp) w (Uu J (ren ρ nx p) (hp.set nx x)) (Nn (ren ρ nx p) (hp.set nx x)) w' → x.rel (ren ρ nx p) J.B (Uu J (ren ρ nx p) (hp.set nx x)) (Nn (ren ρ nx p) (hp.set nx x)) w' p) (hu : x.under (nx + 1) := by exact trivial) :
    SimR J (nx + 1) (ren ρ nx p) fr (hp.set nx x) a w' := by
  have hold : ∀ m, (hp m).live → m ≠ nx := fun m hl e => by
    rw [h.hnx m (by omega)] at hl; exact hl
  have hN : ∀ b, b < w.heap.size → Nn (ren ρ nx p) (hp.set nx x) b → Nn ρ hp b := fun b hlt ⟨m, hl, e⟩ => by
    rw [hp_set_eq] at hl
    unfold ren at e
    by_cases c : m = nx
    · rw [if_pos c] at e
      have := (hf b e).1
      omega
    · rw [if_neg c] at hl e; exact ⟨m, hl, e⟩
  have k : Keeps (Uu J ρ hp) (Nn ρ hp) w (Uu J (ren ρ nx p) (hp.set nx x)) (Nn (ren ρ nx p) (hp.set nx x)) w' :=
    ⟨h.sub, hb.size, fun b hlt _ => hb.block b hlt, fun b hlt hu => hu.imp id (hN b hlt), hN⟩
  exact
  { kle := by have := h.kle; omega
    ble := by have := h.ble; omega
    named := fun m hm => by unfold ren; rw [if_neg (by have := h.kle; omega)]; exact h.named m hm
    below := h.below.later hb
    hrel := fun m => by
      rw [hp_set_eq]
      have er : ren ρ nx p m = if m = nx then p else ρ m := rfl
      rw [er]
      by_cases c : m = nx
      · rw [if_pos c, if_pos c]; exact hx k
      · rw [if_neg c, if_neg c]
        exact HE.rel_ren (nx := nx) (fun n hn => by unfold ren; rw [if_neg (by omega)]) (h.hun m) (HE.rel_mono k (h.hun m) (fun hl g hg => hb.block g (h.new m g hl hg).2) (h.hrel m))
    hun := fun m => by
      rw [hp_set_eq]
      by_cases c : m = nx
      · rw [if_pos c]; exact hu
      · rw [if_neg c]; exact HE.under_mono (Nat.le_succ nx) (h.hun m)
    hnx := fun m hm => by rw [hp_set_eq, if_neg (by omega)]; exact h.hnx m (by omega)
    new := fun m b hl e => by
      rw [hp_set_eq] at hl
      unfold ren at e
      by_cases c : m = nx
      · rw [if_pos c] at e
        exact ⟨.inl (Nat.le_trans h.below.size (hf b e).1), (hf b e).2⟩
      · rw [if_neg c] at hl e
        exact ⟨(h.new m b hl e).1, Nat.lt_of_lt_of_le (h.new m b hl e).2 hb.size⟩
    inj := fun m1 m2 b l1 l2 e1 e2 => by
      rw [hp_set_eq] at l1 l2
      unfold ren at e1 e2
      by_cases c1 : m1 = nx <;> by_cases c2 : m2 = nx
      · rw [c1, c2]
      · rw [if_pos c1] at e1; rw [if_neg c2] at l2 e2
        have := (hf b e1).1; have := (h.new m2 b l2 e2).2; omega
      · rw [if_neg c1] at l1 e1; rw [if_pos c2] at e2
        have := (hf b e2).1; have := (h.new m1 b l1 e1).2; omega
      · rw [if_neg c1] at l1 e1; rw [if_neg c2] at l2 e2
        exact h.inj m1 m2 b l1 l2 e1 e2
    size := h.size
    defers := h.defers
    frel := fun t => AV.rel_ren (nx := nx) (fun n hn => by unfold ren; rw [if_neg (by omega)]) (h.fnx t) (AV.rel_mono k (h.fnx t) (h.frel t))
    fnx := fun t => AV.under_mono (by omega) (h.fnx t)
    brel := fun q hq t => AV.rel_ren (nx := nx) (fun n hn => by unfold ren; rw [if_neg (by omega)]) (AV.under_mono h.ble (J.bgb q hq t)) (AV.rel_mono k (J.bgb q hq t) (h.brel q hq t)) }

/-- A piece of the call's own is written. -/
theorem SimR.modify (h : SimR J nx ρ fr hp a w) {n : Nat} {y x : HE} (hn : hp n = y) (hy : y.live) (hxl : x.live) (hsz : w'.heap.size = w.heap.size) (hos : w'.os = w.os) (htape : w'.tape = w.tape) (hout : w'.output = w.output)
    (hb : ∀ b, blkOf (ρ n) ≠ some b → w'.heap[b]? = w.heap[b]?)
    (hx : Keeps (Uu J ρ hp) (Nn ρ hp) w (Uu J ρ (hp.set n x)) (Nn ρ (hp.set n x)) w' → x.rel ρ J.B (Uu J ρ (hp.set n x)) (Nn ρ (hp.set n x)) w' (ρ n)) (hdr : w.drawn ≤ w'.drawn := by exact Nat.le_refl _) (hu : x.under nx := by exact trivial) :
    SimR J nx ρ fr (hp.set n x) a w' := by
  have hlive : ∀ m, ((hp.set n x) m).live → (hp m).live := fun m hl => by
    rw [hp_set_eq] at hl
    by_cases c : m = n
    · rw [c, hn]; exact hy
    · rw [if_neg c] at hl; exact hl
  have hN : ∀ b, Nn ρ (hp.set n x) b → Nn ρ hp b := fun b ⟨m, hl, e⟩ => ⟨m, hlive m hl, e⟩
  have k : Keeps (Uu J ρ hp) (Nn ρ hp) w (Uu J ρ (hp.set n x)) (Nn ρ (hp.set n x)) w' :=
    ⟨h.sub, by omega, fun b _ hb' => hb b (fun e => hb' ⟨n, by rw [hn]; exact hy, e⟩), fun b _ hu => hu.imp id (hN b), fun b _ => hN b⟩
  have hlt : n < nx := Nat.lt_of_not_le fun hle => by
    have := h.hnx n hle
    rw [hn] at this; rw [this] at hy; exact hy
  exact
  { kle := h.kle
    ble := h.ble
    named := h.named
    below := ⟨hos.trans h.below.os, htape.trans h.below.tape, hout.trans h.below.output, by have := h.below.size; omega, fun b hlt hgr =>
      (hb b (fun e => ((h.new n b (by rw [hn]; exact hy) e).1).elim (fun h1 => absurd hlt (by omega)) hgr)).trans (h.below.block b hlt hgr), Nat.le_trans h.below.drawn hdr⟩
    hrel := fun m => by
      rw [hp_set_eq]
      by_cases c : m = n
      · rw [if_pos c, c]; exact hx k
      · rw [if_neg c]
        exact HE.rel_mono k (h.hun m) (fun hl g hg => hb g (fun e => c (h.inj m n g hl (by rw [hn]; exact hy) hg e))) (h.hrel m)
    hun := fun m => by
      rw [hp_set_eq]
      by_cases c : m = n
      · rw [if_pos c]; exact hu
      · rw [if_neg c]; exact h.hun m
    hnx := fun m hm => by rw [hp_set_eq, if_neg (by omega)]; exact h.hnx m hm
    new := fun m b hl e => by have := h.new m b (hlive m hl) e; exact ⟨this.1, by omega⟩
    inj := fun m1 m2 b l1 l2 => h.inj m1 m2 b (hlive m1 l1) (hlive m2 l2)
    size := h.size
    defers := h.defers
    frel := fun t => AV.rel_mono k (h.fnx t) (h.frel t)
    fnx := h.fnx
    brel := fun q hq t => AV.rel_mono k (J.bgb q hq t) (h.brel q hq t) }

/-- A piece of the call's own is forgotten. -/
theorem SimR.drop (h : SimR J nx ρ fr hp a w) (n : Nat) : SimR J nx ρ fr (hp.set n .none_) a w := by
  refine h.weaken (Nat.ble_eq_true_of_le (Nat.max_le.2 ⟨h.kle, h.ble⟩)) (Fr.le_refl _) (fun m => ?_) h.fnx (fun m => ?_)
  · rw [hp_set_eq]
    by_cases c : m = n
    · rw [if_pos c]; exact .inl rfl
    · rw [if_neg c]; exact .inr rfl
  · rw [hp_set_eq]
    by_cases c : m = n
    · rw [if_pos c]; exact ⟨fun _ => rfl, trivial⟩
    · rw [if_neg c]; exact ⟨h.hnx m, h.hun m⟩

/-! ## Facts on types, as tests -/
@[irreducible] def tyB (P : Program) (t : TypeId) (n : Nat) (g : Bool) : Bool :=
  ((P.info? t).map (·.size) == some n) && (match P.underlying t with | some (.struct _) | some (.array ..) => g | some _ => !g | none => false)
@[irreducible] def fieldB (P : Program) (s : TypeId) (f off : Nat) (ft : TypeId) : Bool :=
  match P.underlying s with
  | some (.struct fs) => match fs[f]? with
    | some fd => fd.offset == off && fd.type == ft && (match P.info? fd.type with | some i => i.size != 0 | none => false)
    | none => false
  | _ => false
@[irreducible] def sliceB (P : Program) (t e : TypeId) (sz : Nat) : Bool :=
  (match P.underlying t with | some (.slice e') => e' == e | _ => false) && ((P.info? e).map (·.size) == some sz)
@[irreducible] def arrB (P : Program) (t : TypeId) (n : Nat) (e : TypeId) (sz : Nat) : Bool :=
  (match P.underlying t with | some (.array n' e') => n' == n && e' == e | _ => false) && ((P.info? e).map (·.size) == some sz)

@[irreducible] def rowB (P : Program) (t e : TypeId) (size bytes : Nat) : Bool :=
  (match P.underlying t with | some (.slice e') => e' == e | _ => false) && (match P.info? e with | some i => i.size == size && i.bytes == bytes && (match i.zero with | some z => z.cells.size == size | none => false) | none => false)
theorem rowB_spec {P : Program} {t e size bytes : Nat} (h : rowB P t e size bytes = true) : P.underlying t = some (.slice e) ∧ ∃ i z, P.info? e = some i ∧ i.zero = some z ∧ i.size = size ∧ i.bytes = bytes ∧ z.cells.size = size := by
  unfold rowB at h
  rw [Bool.and_eq_true] at h
  obtain ⟨h1, h2⟩ := h
  cases hi : P.info? e with
  | none => simp [hi] at h2
  | some i =>
    cases hz : i.zero with
    | none => simp [hi, hz] at h2
    | some z =>
      simp [hi, hz] at h2
      cases hu : P.underlying t with
      | none => simp [hu] at h1
      | some d =>
        cases d <;> simp [hu] at h1
        rename_i e'
        obtain rfl : e = e' := h1.symm
        exact ⟨rfl, i, z, rfl, hz, h2.1.1, h2.1.2, h2.2⟩

theorem tyB_spec {P : Program} {t n : Nat} {g : Bool} (h : tyB P t n g = true) (w : World) : (∃ i, P.info? t = some i ∧ i.size = n) ∧ (isAgg t).run P w = .ok g w ∧ (sizeOf t).run P w = .ok n w := by
  unfold tyB at h
  rw [Bool.and_eq_true] at h
  obtain ⟨h1, h2⟩ := h
  have h1 : (P.info? t).map (·.size) = some n := by simpa using h1
  cases hq : P.info? t with
  | none => simp [hq] at h1
  | some i =>
    have hs : i.size = n := by simpa [hq] using h1
    refine ⟨⟨i, rfl, hs⟩, ?_, ?_⟩
    · cases hu : P.underlying t with
      | none => simp [hu] at h2
      | some d =>
        rw [hu] at h2
        unfold isAgg
        rw [Sem.run_bind, run_underlying hu w]
        cases d <;> simp at h2 <;> subst h2 <;> simp [Sem.run_pure]
    · simp [sizeOf, typeInfo, Sem.run_bind, hq, hs]

theorem run_loadVar_at {P : Program} {α : Type} {T : GoT α} {t : TypeId} {U N : Nat → Prop} {ad : Addr} {x : α} (ht : tyB P t T.size T.agg = true) (h : T.at_ U N w ad x) :
    ∃ v, (loadVar t ad).run P w = .ok v w ∧ T.val U N w x v := by
  obtain ⟨cs, hr, hc⟩ := h
  obtain ⟨_, h1, h2⟩ := tyB_spec ht w
  cases hg : T.agg with
  | true =>
    have hl := run_loadCells_list (P := P) w ad cs hc
    rw [T.len hr] at hl
    refine ⟨.agg cs.toArray, ?_, cs, hr, .inl ⟨hg, rfl⟩⟩
    rw [hg] at h1
    simp [loadVar, Sem.run_bind, h1, h2, hl]
  | false =>
    have hl := T.len hr
    rw [T.sc hg] at hl
    match cs, hl with
    | [v], _ =>
      refine ⟨v, ?_, [v], hr, .inr ⟨hg, rfl⟩⟩
      rw [hg] at h1
      have := hc 0 v rfl
      rw [add_zero] at this
      simp [loadVar, Sem.run_bind, h1, load, Sem.run, this]

theorem lens_at {α β : Type} {T : GoT α} {S : GoT β} {off : Nat} {get : α → β} {set : α → β → α} {U N : Nat → Prop} {ad : Addr} {x : α} (L : Lens T off S get set) (h : T.at_ U N w ad x) : S.at_ U N w (ad.add off) (get x) := by
  obtain ⟨cs, hr, hc⟩ := h
  refine ⟨_, L.get_ hr, fun j v hj => ?_⟩
  rw [add_of_add]
  rw [List.getElem?_take] at hj
  split at hj
  · rw [List.getElem?_drop] at hj; exact hc _ v hj
  · simp at hj

theorem at_of_heap {α : Type} {T : GoT α} {U N : Nat → Prop} {g : Nat} {cs : List Value} {t : TypeId} {f : Nat × Nat} {x : α} (hg : w.heap[g]? = some (.cells cs.toArray t f)) (hr : T.rel U N w x cs) : T.at_ U N w ⟨g, 0, none⟩ x := by
  refine ⟨cs, hr, fun j v hj => ?_⟩
  have : (⟨g, 0, none⟩ : Addr).add j = ⟨g, j, none⟩ := by unfold Addr.add; split <;> simp_all
  rw [this, cell_of_row w g j cs.toArray t f hg]
  simpa using hj

/-- What a piece of memory of the call's own holds, at an offset. -/
theorem box_at {α β : Type} {T : GoT α} {S : GoT β} {off n : Nat} {get : α → β} {set : α → β → α} {ty : TypeId} {x : α} (h : SimH J nx ρ hp w) (hn : hp n = .box ty T x) (L : Lens T off S get set) {v : Value}
    (hv : (AV.ptr n off).rel ρ J.B (Uu J ρ hp) (Nn ρ hp) w v) : ∃ g, ρ n = .pointer (some ⟨g, 0, none⟩) ∧ v = .pointer (some ((⟨g, 0, none⟩ : Addr).add off)) ∧ S.at_ (Uu J ρ hp) (Nn ρ hp) w ((⟨g, 0, none⟩ : Addr).add off) (get x) := by
  obtain ⟨g, e1, e2⟩ := hv
  have hh := h.hrel n
  rw [hn] at hh
  obtain ⟨g', cs, e3, hg, hr⟩ := hh
  rw [e1] at e3
  have : g = g' := by injection e3 with e3; injection e3 with e3; injection e3
  subst this
  exact ⟨g, e1, e2, lens_at L (at_of_heap hg hr)⟩
end

section
variable {J : Job} {nx : Nat} {fr : Fr} {hp : Hp} {k : List It} {ops : Array Oper} {rest : List Oper} {o : Oper}
variable {α β : Type} {T : GoT α} {S : GoT β} {get : α → β} {set : α → β → α}

/-! ## Reading -/
theorem g_load_b {t ty : TypeId} {x : Operand} {n off : Nat} {c : α} (ho : o.op = .load t x) (hx : fr.ev x = .ptr n off) (hn : hp n = .box ty T c) (L : Lens T off S get set) (ht : tyB J.P t S.size S.agg = true) : OpG J o fr hp (.val S (get c)) := by
  refine .of_run (fun s hr _ => ?_) (fun _ _ => trivial)
  have h := hr x (by rw [ho]; simp [Op.operands])
  rw [hx] at h
  obtain ⟨g, _, e, hat⟩ := box_at s hn L h
  obtain ⟨v, h1, h2⟩ := run_loadVar_at ht hat
  refine ⟨v, ?_, h2⟩
  unfold execOp; rw [ho]
  simp [Instr.loadAt, Instr.sureAddr, Sem.run_bind, e, h1]
theorem g_load_r {t : TypeId} {x : Operand} {c : α} (ho : o.op = .load t x) (hx : fr.ev x = .rptr T c) (ht : tyB J.P t T.size T.agg = true) : OpG J o fr hp (.val T c) := by
  refine .of_run (fun s hr _ => ?_) (fun _ _ => trivial)
  have h := hr x (by rw [ho]; simp [Op.operands])
  rw [hx] at h
  obtain ⟨ad, e, _, hat⟩ := h
  obtain ⟨v, h1, h2⟩ := run_loadVar_at ht hat
  refine ⟨v, ?_, h2⟩
  unfold execOp; rw [ho]
  simp [Instr.loadAt, Instr.sureAddr, Sem.run_bind, e, h1]

theorem run_fieldAt {P : Program} {s : TypeId} {f off : Nat} {ft : TypeId} (h : fieldB P s f off ft = true) (w : World) (ad : Addr) : (Instr.fieldAt s (.pointer (some ad)) f).run P w = .ok (.pointer (some (ad.add off))) w := by
  unfold fieldB at h
  cases hu : P.underlying s with
  | none => simp [hu] at h
  | some d =>
    cases d <;> simp [hu] at h
    rename_i fs
    cases hf : fs[f]? with
    | none => simp [hf] at h
    | some fd =>
      simp [hf] at h
      cases hi : P.info? fd.type with
      | none => simp [hi] at h
      | some i =>
        simp [hi] at h
        simp [Instr.fieldAt, Sem.run_bind, run_underlying hu, hf, Instr.sureAddr, fieldPlace, sizeOf, typeInfo, hi, h.2, h.1.1]

theorem g_fa_p {s ft : TypeId} {x : Operand} {f n off d off' : Nat} (ho : o.op = .fieldAddr s x f) (hx : fr.ev x = .ptr n off) (hf : fieldB J.P s f d ft = true) (e : off + d = off') : OpG J o fr hp (.ptr n off') := by
  refine .of_run (fun _ hr _ => ?_) (fun _ hn => ?_)
  · have h := hr x (by rw [ho]; simp [Op.operands])
    rw [hx] at h
    obtain ⟨g, e1, e2⟩ := h
    refine ⟨_, ?_, g, e1, rfl⟩
    unfold execOp; rw [ho]
    simp only [e2, Sem.run_bind, run_fieldAt hf, Result.andThen_ok, Sem.run_pure, add_of_add, e]
  · have h := hn x (by rw [ho]; simp [Op.operands])
    rw [hx] at h; exact h
theorem g_fa_e {s ft : TypeId} {x : Operand} {f n i sz off d off' : Nat} (ho : o.op = .fieldAddr s x f) (hx : fr.ev x = .eptr n i sz off) (hf : fieldB J.P s f d ft = true) (e : off + d = off') : OpG J o fr hp (.eptr n i sz off') := by
  refine .of_run (fun _ hr _ => ?_) (fun _ hn => ?_)
  · have h := hr x (by rw [ho]; simp [Op.operands])
    rw [hx] at h
    obtain ⟨g, l, c, e1, e2⟩ := h
    refine ⟨_, ?_, g, l, c, e1, rfl⟩
    unfold execOp; rw [ho]
    simp only [e2, Sem.run_bind, run_fieldAt hf, Result.andThen_ok, Sem.run_pure, add_of_add, Nat.add_assoc, e]
  · have h := hn x (by rw [ho]; simp [Op.operands])
    rw [hx] at h; exact h
theorem g_fa_r {s ft : TypeId} {x : Operand} {f off : Nat} {c : α} (ho : o.op = .fieldAddr s x f) (hx : fr.ev x = .rptr T c) (hf : fieldB J.P s f off ft = true) (L : Lens T off S get set) : OpG J o fr hp (.rptr S (get c)) := by
  refine .of_run (fun _ hr _ => ?_) (fun _ _ => trivial)
  have h := hr x (by rw [ho]; simp [Op.operands])
  rw [hx] at h
  obtain ⟨ad, e, hn, hat⟩ := h
  refine ⟨_, ?_, ad.add off, rfl, by rw [block_of_add]; exact hn, lens_at L hat⟩
  unfold execOp; rw [ho]
  simp only [e, Sem.run_bind, run_fieldAt hf, Result.andThen_ok, Sem.run_pure]

theorem sliceB_spec {P : Program} {t e sz : Nat} (h : sliceB P t e sz = true) (w : World) : P.underlying t = some (.slice e) ∧ (sizeOf e).run P w = .ok sz w ∧ ∃ i, P.info? e = some i ∧ i.size = sz := by
  unfold sliceB at h
  rw [Bool.and_eq_true] at h
  obtain ⟨h1, h2⟩ := h
  have h2 : (P.info? e).map (·.size) = some sz := by simpa using h2
  cases hu : P.underlying t with
  | none => simp [hu] at h1
  | some d =>
    cases d <;> simp [hu] at h1
    rename_i e'
    obtain rfl : e = e' := h1.symm
    cases hi : P.info? e with
    | none => simp [hi] at h2
    | some i =>
      have : i.size = sz := by simpa [hi] using h2
      exact ⟨rfl, by simp [sizeOf, typeInfo, hi, this], i, rfl, this⟩

theorem val_sl {b : Bool} {U N : Nat → Prop} {w : World} {l : List α} {v : Value} (h : (slT b T).val U N w l v) : ∃ a cap, v = .slice a l.length cap ∧ l.length ≤ cap ∧ cap ≤ maxLen ∧
    (l ≠ [] → ∃ ad ds, a = some ad ∧ ¬ (if b then N else U) ad.block ∧ relAll T U N w l ds ∧ ∀ j v, ds[j]? = some v → w.cell? (ad.add j) = some v) := by
  obtain ⟨cs, ⟨ad, cap, rfl, h1, h2, h3⟩, hv⟩ := h
  rcases hv with hv | hv
  · exact absurd (show false = true from hv.1) (by decide)
  · have hv := hv.2
    simp only [List.cons.injEq, and_true] at hv
    exact ⟨ad, cap, hv.symm, h1, h2, h3⟩

theorem fact_sl {b : Bool} {l : List α} {ρ : Nat → Value} {B : Nat → Prop} {U N : Nat → Prop} {w : World} {v : Value} (h : (AV.val (slT b T) l).rel ρ B U N w v) : l.length ≤ 9223372036854775807 := by
  obtain ⟨_, cap, _, h1, h2, _⟩ := val_sl h
  unfold maxLen at h2; omega
theorem fact_int {x : Int} {ρ : Nat → Value} {B : Nat → Prop} {U N : Nat → Prop} {w : World} {v : Value} (h : (AV.val i64T x).rel ρ B U N w v) : -9223372036854775808 ≤ x ∧ x ≤ 9223372036854775807 := i64_in.1 (val_int.1 h).2
theorem g_ia_r {t e : TypeId} {x y : Operand} {b : Bool} {l : List α} {i : Int} {c : α} (ho : o.op = .indexAddr t x y) (hx : fr.ev x = .val (slT b T) l) (hy : fr.ev y = .val i64T i) (hs : sliceB J.P t e T.size = true) (h0 : 0 ≤ i) (hc : l[i.toNat]? = some c) : OpG J o fr hp (.rptr T c) := by
  refine .of_run (fun {_ _ _ w} s hr _ => ?_) (fun _ _ => trivial)
  have h := hr x (by rw [ho]; simp [Op.operands])
  have h' := hr y (by rw [ho]; simp [Op.operands])
  rw [hx] at h
  rw [hy] at h'
  obtain ⟨ad, cap, hv, h1, h2, h3⟩ := val_sl h
  have hi : i.toNat < l.length := (List.getElem?_eq_some_iff.1 hc).1
  obtain ⟨ad, ds, rfl, hu, hrel, hcell⟩ := h3 (by intro e; rw [e] at hi; simp at hi)
  obtain ⟨hs1, hs2, _⟩ := sliceB_spec hs w
  refine ⟨_, ?_, ad.add (i.toNat * T.size), rfl, ?_, ?_⟩
  · unfold execOp; rw [ho]
    simp only [hv, (val_int.1 h').1]
    have hlt : i < (l.length : Int) := by omega
    simp [Instr.indexAt, asIntOf, Sem.run_bind, run_underlying hs1, h0, hlt, hs2]
  · rw [block_of_add]
    cases b
    · exact fun hn => hu (s.sub _ hn)
    · exact hu
  · refine ⟨_, hrel.get hc, fun j v hj => ?_⟩
    rw [add_of_add]
    rw [List.getElem?_take] at hj
    split at hj
    · rw [List.getElem?_drop] at hj; exact hcell _ v hj
    · simp at hj

theorem g_len {t : TypeId} {x : Operand} {b : Bool} {l : List α} (ho : o.op = .call { callee := .builtin .len, args := #[x], argTypes := #[t] }) (hx : fr.ev x = .val (slT b T) l) (hs : (match J.P.underlying t with | some (.slice _) => true | _ => false) = true) : OpG J o fr hp (.val i64T l.length) := by
  refine .of_run (fun {_ _ _ w} s hr _ => ?_) (fun _ _ => trivial)
  have h := hr x (by rw [ho]; simp [Op.operands, Call.operands])
  rw [hx] at h
  obtain ⟨ad, cap, hv, h1, h2, h3⟩ := val_sl h
  refine ⟨_, ?_, val_int.2 ⟨rfl, ?_⟩⟩
  · cases hu : J.P.underlying t with
    | none => simp [hu] at hs
    | some d =>
      cases d <;> simp [hu] at hs
      unfold execOp; rw [ho]
      simp [resolve, invoke, builtin, Builtin.len_, hv, Sem.run_bind, run_underlying hu, goInt]
  · rw [i64_in]; unfold maxLen at h2; omega
end
end Go.Ab
