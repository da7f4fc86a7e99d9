/- Literals, own slices: made, appended to, read, written; calls whose answer is new memory. -/
import Derived.Test.YtmfgemnmelbflaaOps2
namespace Go.Ab
set_option linter.unusedVariables false
set_option linter.unusedSimpArgs false
open Go.RowKit

section
variable {J : Job} {nx : Nat} {ρ : Nat → Value} {fr : Fr} {hp : Hp} {a : Act} {w w' : World} {k : List It} {ops : Array Oper} {rest : List Oper} {o : Oper}
variable {α β γ : Type} {T : GoT α} {S : GoT β} {get : α → β} {set : α → β → α}

/-! ## A list of operands, one value each -/
def ValsOk (fr : Fr) (T : GoT α) : Nat → List (Nat × Operand) → List α → Prop
  | _, [], [] => True
  | i, (j, y) :: ps, x :: xs => j = i ∧ fr.ev y = .val T x ∧ ValsOk fr T (i + 1) ps xs
  | _, _, _ => False

theorem foldl_set (vs : List Value) : ∀ (off : Nat) (i : Nat) (cells : Array Value), ((vs.zipIdx i).foldl (fun cs (x : Value × Nat) => cs.setIfInBounds (off + x.2) x.1) cells).size = cells.size ∧
    (off + i + vs.length ≤ cells.size → ((vs.zipIdx i).foldl (fun cs (x : Value × Nat) => cs.setIfInBounds (off + x.2) x.1) cells).toList = cells.toList.take (off + i) ++ vs ++ cells.toList.drop (off + i + vs.length)) := by
  induction vs with
  | nil => intro off i cells; simp
  | cons v vs ih =>
    intro off i cells
    simp only [List.zipIdx_cons, List.foldl_cons]
    obtain ⟨h1, h2⟩ := ih off (i + 1) (cells.setIfInBounds (off + i) v)
    refine ⟨by rw [h1]; simp, fun hle => ?_⟩
    rw [List.length_cons] at hle
    rw [h2 (by simp; omega), Array.toList_setIfInBounds]
    have e := list_seg_step cells.toList (off + i) v vs (by simp; omega)
    simpa [Nat.add_assoc] using e

theorem fill_all {U N : Nat → Prop} {a : Act} : ∀ (ps : List (Nat × Operand)) (xs : List α) (i : Nat) (cells : Array Value), ValsOk fr T i ps xs → (∀ p ∈ ps, ∀ x, fr.ev p.2 = .val T x → T.val U N w x (a.eval p.2)) → (i + xs.length) * T.size ≤ cells.size →
    ∃ out mid : List Value, Instr.fill (fun i => some (i * T.size, T.size)) cells (ps.map fun p => (p.1, a.eval p.2)) = some out.toArray ∧ out = cells.toList.take (i * T.size) ++ mid ++ cells.toList.drop ((i + xs.length) * T.size) ∧ relAll T U N w xs mid
  | [], [], i, cells, _, _, _ => ⟨cells.toList, [], by simp [Instr.fill], by simp, rfl⟩
  | (j, y) :: ps, x :: xs, i, cells, h, hr, hle => by
    obtain ⟨rfl, hy, hv⟩ := h
    have hx := GoT.val_cells (hr (j, y) (by simp) x hy)
    have hsz : (a.eval y).cells.size = T.size := by simpa using T.len hx
    have hmul : (j + (x :: xs).length) * T.size = j * T.size + T.size + xs.length * T.size := by
      rw [List.length_cons, Nat.add_mul, Nat.add_mul]; omega
    rw [hmul] at hle
    obtain ⟨f1, f2⟩ := foldl_set (a.eval y).cells.toList (j * T.size) 0 cells
    generalize hc : ((a.eval y).cells.toList.zipIdx 0).foldl (fun cs (x : Value × Nat) => cs.setIfInBounds (j * T.size + x.2) x.1) cells = cells' at f1 f2
    have f2 := f2 (by simp [hsz]; omega)
    simp only [Nat.add_zero, Array.length_toList, hsz] at f2
    have hm2 : (j + 1 + xs.length) * T.size = j * T.size + T.size + xs.length * T.size := by rw [Nat.add_mul, Nat.add_mul]; omega
    have hm1 : (j + 1) * T.size = j * T.size + T.size := by rw [Nat.add_mul]; omega
    obtain ⟨out, mid, h1, h2, h3⟩ := fill_all ps xs (j + 1) cells' hv (fun p hp => hr p (by simp [hp])) (by omega)
    refine ⟨out, (a.eval y).cells.toList ++ mid, ?_, ?_, _, mid, rfl, hx, h3⟩
    · have e : (a.eval y).cells.zipIdx.foldl (fun cs (x : Value × Nat) => cs.setIfInBounds (j * T.size + x.2) x.1) cells = cells' := by
        rw [← hc, ← Array.foldl_toList]; simp
      have hc1 : (decide ((a.eval y).cells.size ≠ T.size) || decide (j * T.size + (a.eval y).cells.size > cells.size)) = false := by
        rw [Bool.or_eq_false_iff]; constructor <;> simp <;> omega
      simp only [List.map_cons, Instr.fill, hc1, Bool.false_eq_true, if_false]
      rw [← h1, ← e]
    · have hA : (cells.toList.take (j * T.size) ++ (a.eval y).cells.toList).length = (j + 1) * T.size := by
        rw [hm1, List.length_append, List.length_take, Array.length_toList, Array.length_toList, hsz]; omega
      have hl : cells'.toList.take ((j + 1) * T.size) = cells.toList.take (j * T.size) ++ (a.eval y).cells.toList := by
        rw [f2]; exact List.take_left' hA
      have hd : cells'.toList.drop ((j + 1 + xs.length) * T.size) = cells.toList.drop ((j + (x :: xs).length) * T.size) := by
        have e : (j + 1 + xs.length) * T.size = (j + 1) * T.size + xs.length * T.size := by omega
        rw [f2, e, ← List.drop_drop, List.drop_left' hA, List.drop_drop]
        congr 1; omega
      rw [h2, hl, hd]
      simp
  | [], _ :: _, _, _, h, _, _ => h.elim
  | _ :: _, [], _, _, h, _, _ => h.elim

theorem vals_len : ∀ {ps : List (Nat × Operand)} {xs : List α} {i : Nat}, ValsOk fr T i ps xs → ps.length = xs.length
  | [], [], _, _ => rfl
  | (_, _) :: ps, _ :: xs, _, h => by simp [vals_len h.2.2]
  | [], _ :: _, _, h => h.elim
  | _ :: _, [], _, h => h.elim

theorem run_bslice {t e n : Nat} {ps : List (Nat × Operand)} {xs : List α} {U N : Nat → Prop} {a : Act} (ho : o.op = .buildSlice t n ps.toArray) (hs : sliceB J.P t e T.size = true) (hz : ∃ z, (J.P.info? e).bind (·.zero) = some z ∧ z.cells.size = T.size) (hv : ValsOk fr T 0 ps xs) (hn : n = xs.length) (hb : n * T.size ≤ 16777216)
    (hr : ∀ p ∈ ps, ∀ x, fr.ev p.2 = .val T x → T.val U N w x (a.eval p.2)) : ∃ cs, (execOp a.eval o).run J.P w = .ok (.value (.slice (some ⟨w.heap.size, 0, none⟩) n n)) (w.alloc (.cells cs.toArray e)) ∧ relAll T U N w xs cs := by
  obtain ⟨hs1, hs2, i, hi, hsz⟩ := sliceB_spec hs w
  obtain ⟨z, hz, hzc⟩ := hz
  rw [hi] at hz
  have hz : i.zero = some z := by simpa using hz
  have hinit : ((Array.range (n * T.size)).map (z.cells[· % z.cells.size]!)).size = n * T.size := by simp
  obtain ⟨out, mid, h1, h2, h3⟩ := fill_all (w := w) (U := U) (N := N) (a := a) ps xs 0 ((Array.range (n * T.size)).map (z.cells[· % z.cells.size]!)) hv hr (by rw [hinit, hn, Nat.zero_add]; exact Nat.le_refl _)
  have h0 : out = mid := by
    rw [h2, List.drop_of_length_le (by simp [hn])]; simp
  subst h0
  refine ⟨out, ?_, h3⟩
  have hp : (ps.toArray.map fun (i, x) => (i, a.eval x)).toList = ps.map fun p => (p.1, a.eval p.2) := by simp
  have hle : ¬ n * T.size > 2 ^ 24 := by omega
  unfold execOp; rw [ho]
  by_cases h0 : n * T.size = 0
  · have hn0 : n = 0 := by
      rcases Nat.mul_eq_zero.1 h0 with h | h
      · exact h
      · have := T.pos; omega
    have hxs : xs = [] := List.length_eq_zero_iff.1 (by omega)
    subst hxs
    have hps : ps = [] := List.length_eq_zero_iff.1 (vals_len hv)
    subst hps
    have : out = [] := h3
    subst this
    subst hn0
    simp [Instr.buildSlice, Sem.run_bind, run_underlying hs1, hs2, Instr.fill, newRow, newObj, Sem.run]
    have : Array.range 0 = #[] := by decide
    rw [this]; simp
  · simp only [Instr.buildSlice, Sem.run_bind, run_underlying hs1, Result.andThen_ok, hs2, if_neg hle, if_neg h0, zeroValue, typeInfo, program, Sem.run, hi, hz, Sem.run_pure, hp, h1]
    simp [newRow, newObj, Sem.run]

/-- A slice literal that is read. -/
theorem g_bslice {t e n : Nat} {ps : List (Nat × Operand)} {xs : List α} (ho : o.op = .buildSlice t n ps.toArray) (hs : sliceB J.P t e T.size = true) {bytes : Nat} (hrow : rowB J.P t e T.size bytes = true) (hv : ValsOk fr T 0 ps xs) (hn : n = xs.length) (hb : Nat.ble (n * T.size) 16777216 = true) : OpG J o fr hp (.val (sl T) xs) where
  run {nx ρ a w} s hr _ K Q hK := by
    have hz : ∃ z, (J.P.info? e).bind (·.zero) = some z ∧ z.cells.size = T.size := by
      obtain ⟨_, i, z, hi, hz, _, _, h⟩ := rowB_spec hrow
      exact ⟨z, by rw [hi]; exact hz, h⟩
    obtain ⟨cs, h1, h2⟩ := run_bslice (w := w) (a := a) (U := Uu J ρ hp) (N := Nn ρ hp) ho hs hz hv hn (by simpa using hb) (fun p hp' x hx => by
      have := hr p.2 (by rw [ho]; simp [Op.operands]; exact ⟨_, hp'⟩)
      rw [hx] at this; exact this)
    unfold Oper.wp
    rw [h1]
    refine hK _ _ (below_alloc _ _) ?_
    have hlen : xs.length ≤ maxLen := by
      have h3 : n * T.size ≤ 16777216 := by simpa using hb
      have h4 := T.pos
      have : n * 1 ≤ n * T.size := Nat.mul_le_mul_left _ h4
      unfold maxLen; omega
    subst hn
    refine ⟨_, ⟨some ⟨w.heap.size, 0, none⟩, xs.length, rfl, Nat.le_refl _, hlen, fun _ => ⟨_, cs, rfl, fun hu => ?_, h2.mono (s.keeps (below_alloc _ _)), fun j v hj => ?_⟩⟩, .inr ⟨rfl, rfl⟩⟩
    · have := s.uu_lt hu
      simp at this
    · rw [lit_add, cell_of_row _ _ j cs.toArray e (0, 0) (heap_alloc_new w _)]
      simpa using hj
  und _ _ := trivial
  nd c hc := by rw [ho] at hc; cases hc

/-! ## Struct literals -/
inductive Fills (P : Program) (fr : Fr) (s : TypeId) (T : GoT α) : α → List (Nat × Operand) → α → Prop
  | nil {x} : Fills P fr s T x [] x
  | cons {β : Type} {S : GoT β} {get : α → β} {set : α → β → α} {x z : α} {y : β} {f off : Nat} {ft : TypeId} {p : Operand} {ps} (hf : fieldB P s f off ft = true) (L : Lens T off S get set) (hft : tyB P ft S.size S.agg = true) (hy : fr.ev p = .val S y) (H : Fills P fr s T (set x y) ps z) : Fills P fr s T x ((f, p) :: ps) z

theorem fieldB_spec {P : Program} {s : TypeId} {f off : Nat} {ft : TypeId} (h : fieldB P s f off ft = true) : ∃ fs fd, P.underlying s = some (.struct fs) ∧ fs[f]? = some fd ∧ fd.offset = off ∧ fd.type = ft := by
  unfold fieldB at h
  cases hu : P.underlying s with
  | none => simp [hu] at h
  | some d =>
    cases d <;> simp [hu] at h
    rename_i fs
    cases hf : fs[f]? with
    | none => simp [hf] at h
    | some fd => simp [hf] at h; exact ⟨fs, fd, rfl, hf, h.1.1, h.1.2⟩

theorem run_places {P : Program} {w : World} : ∀ (fs : List Field), (∀ f ∈ fs, ∃ i, P.info? f.type = some i) → (fs.mapM (m := Sem) fun f => do pure (f.offset, ← sizeOf f.type)).run P w = .ok (fs.map fun f => (f.offset, P.cellsOf f.type)) w
  | [], _ => rfl
  | f :: fs, h => by
    obtain ⟨i, hi⟩ := h f (by simp)
    have ih := run_places (w := w) fs fun f hf => h f (by simp [hf])
    have h1 : (sizeOf f.type).run P w = .ok i.size w := by simp [sizeOf, typeInfo, hi]
    rw [List.mapM_cons]
    simp only [Sem.run_bind, h1, ih, Result.andThen_ok, Sem.run_pure]
    simp [Program.cellsOf, hi]

theorem fill_fields {P : Program} {s : TypeId} {fs : Array Field} (hs : P.underlying s = some (.struct fs)) {U N : Nat → Prop} {a : Act} : ∀ {x z : α} {ps : List (Nat × Operand)} {cells : Array Value}, Fills P fr s T x ps z → (∀ p ∈ ps, (fr.ev p.2).rel ρ noN U N w (a.eval p.2)) → T.rel U N w x cells.toList →
    ∃ out, Instr.fill (fun i => (fs.map fun f => (f.offset, P.cellsOf f.type))[i]?) cells (ps.map fun p => (p.1, a.eval p.2)) = some out ∧ T.rel U N w z out.toList := by
  intro x z ps cells h
  induction h generalizing cells with
  | nil => exact fun _ hx => ⟨cells, rfl, hx⟩
  | @cons β S get set x z y f off ft p ps hf L hft hy H ih =>
    intro hr hx
    have hv := hr (f, p) (by simp)
    simp only at hv
    rw [hy] at hv
    have hyr := GoT.val_cells hv
    have hsz : (a.eval p).cells.size = S.size := by simpa using S.len hyr
    obtain ⟨fs', fd, h1, h2, h3, h4⟩ := fieldB_spec hf
    obtain rfl : fs = fs' := by rw [hs] at h1; injection h1 with h1; injection h1
    obtain ⟨⟨i, hi, his⟩, _⟩ := tyB_spec hft w
    have hcl : cells.size = T.size := by simpa using T.len hx
    have hfit := L.fit
    obtain ⟨f1, f2⟩ := foldl_set (a.eval p).cells.toList off 0 cells
    have f2 := f2 (by simp [hsz]; omega)
    simp only [Nat.add_zero, Array.length_toList, hsz] at f2
    have := ih (cells := ((a.eval p).cells.toList.zipIdx 0).foldl (fun cs (x : Value × Nat) => cs.setIfInBounds (off + x.2) x.1) cells) (fun q hq => hr q (by simp [hq])) (by rw [f2]; exact L.set_ hx hyr)
    obtain ⟨out, ho, hz⟩ := this
    refine ⟨out, ?_, hz⟩
    have e : (a.eval p).cells.zipIdx.foldl (fun cs (x : Value × Nat) => cs.setIfInBounds (off + x.2) x.1) cells = ((a.eval p).cells.toList.zipIdx 0).foldl (fun cs (x : Value × Nat) => cs.setIfInBounds (off + x.2) x.1) cells := by
      rw [← Array.foldl_toList]; simp
    have hcells : P.cellsOf fd.type = S.size := by simp [Program.cellsOf, h4, hi, his]
    have hpl : (fs.map fun f => (f.offset, P.cellsOf f.type))[f]? = some (off, S.size) := by
      rw [Array.getElem?_map, h2, Option.map_some, h3, hcells]
    have hc1 : (decide ((a.eval p).cells.size ≠ S.size) || decide (off + (a.eval p).cells.size > cells.size)) = false := by
      rw [Bool.or_eq_false_iff]; constructor <;> simp <;> omega
    simp only [List.map_cons, Instr.fill, hpl, hc1, Bool.false_eq_true, if_false]
    rw [← ho, ← e]

theorem g_build {t : TypeId} {ps : List (Nat × Operand)} {x0 z : α} (ho : o.op = .build t ps.toArray) (hz : ZeroAt J.P t T x0) (hall : (match J.P.underlying t with | some (.struct fs) => fs.all fun f => (J.P.info? f.type).isSome | _ => false) = true) (hf : Fills J.P fr t T x0 ps z) (hagg : T.agg = true) : OpG J o fr hp (.val T z) := by
  refine .of_run (fun {_ ρ a w} s hr _ => ?_) (fun _ _ => trivial)
  have hall0 := hall
  cases hu : J.P.underlying t with
  | none => simp [hu] at hall
  | some d =>
    cases d <;> simp [hu] at hall
    rename_i fs
    simp only [hu] at hall0
    obtain ⟨zv, h1, h3⟩ := hz
    obtain ⟨i, h1, h2⟩ := Option.bind_eq_some_iff.1 h1
    have hr' : ∀ p ∈ ps, (fr.ev p.2).rel ρ J.B (Uu J ρ hp) (Nn ρ hp) w (a.eval p.2) := fun p hp' => hr p.2 (by rw [ho]; simp [Op.operands]; exact ⟨_, hp'⟩)
    have key : ∀ {x z : α} {ps}, Fills J.P fr t T x ps z → (∀ p ∈ ps, (fr.ev p.2).rel ρ J.B (Uu J ρ hp) (Nn ρ hp) w (a.eval p.2)) → ∀ p ∈ ps, (fr.ev p.2).rel ρ noN (Uu J ρ hp) (Nn ρ hp) w (a.eval p.2) := by
      intro x z ps h
      induction h with
      | nil => intro _ p hp; cases hp
      | cons hf L hft hy H ih =>
        intro h p hp
        rcases List.mem_cons.1 hp with rfl | hp
        · have := h _ (List.mem_cons_self ..)
          simp only at this ⊢
          rw [hy] at this ⊢; exact this
        · exact ih (fun q hq => h q (List.mem_cons_of_mem _ hq)) p hp
    obtain ⟨out, hfill, hrel⟩ := fill_fields hu (cells := zv.cells) hf (key hf hr') (h3 _ _ _)
    refine ⟨.agg out, ?_, out.toList, hrel, .inl ⟨hagg, by simp⟩⟩
    have hpl := run_places (P := J.P) (w := w) fs.toList (fun f hf => by
      have := Array.all_eq_true_iff_forall_mem.1 hall0 f (by simpa using hf)
      exact Option.isSome_iff_exists.1 this)
    have hpl' : (fs.mapM (m := Sem) fun f => do pure (f.offset, ← sizeOf f.type)).run J.P w = .ok (fs.map fun f => (f.offset, J.P.cellsOf f.type)) w := by
      rw [Array.mapM_eq_mapM_toList, Sem.run_map, hpl]
      have : (fs.toList.map fun f => (f.offset, J.P.cellsOf f.type)).toArray = fs.map fun f => (f.offset, J.P.cellsOf f.type) := by apply Array.ext'; simp
      simp only [Result.andThen_ok, this]
    have hp : (ps.toArray.map fun (i, x) => (i, a.eval x)).toList = ps.map fun p => (p.1, a.eval p.2) := by simp
    unfold execOp; rw [ho]
    have hzr : (zeroValue t).run J.P w = .ok zv w := by simp [zeroValue, typeInfo, h1, h2]
    simp only [Instr.build, Sem.run_bind, hzr, Result.andThen_ok, run_underlying hu, hpl', hp, hfill, Sem.run_pure]
end
end Go.Ab
