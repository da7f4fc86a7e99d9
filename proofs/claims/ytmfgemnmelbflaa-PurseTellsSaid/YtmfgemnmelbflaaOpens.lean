/- From a datum that was read to what a value of a Go type holds: for the rows of the laws. No program in sight. -/
import Derived.Test.YtmfgemnmelbflaaParts
import Derived.WideKeyArgs
import Derived.ChangeOld
namespace Go.Ab
set_option linter.unusedVariables false
set_option linter.unusedSimpArgs false
open Go.RowKit

structure Opens (P : Program) (t : TypeId) {α : Type} (T : GoT α) : Prop where
  rd : ∀ {H : Type} {enc : TypeId × Value → H} {W : World} {sp : Nat → Bool} {held : Bool} {fuel : Nat} {cs : List Value} {x : DataW H × List MemPlace}, DataW.trod enc P W 0 sp held fuel t cs = some x → ∃ y, T.rel noN noN W y cs

section
variable {P : Program} {t e : TypeId} {α β : Type} {T : GoT α} {S : GoT β}

theorem trod_int {k : IntKind} {H : Type} {enc : TypeId × Value → H} {W : World} {sp : Nat → Bool} {held : Bool} {fuel : Nat} {cs : List Value} {x : DataW H × List MemPlace} (hu : P.underlying t = some (.int k)) (h : DataW.trod enc P W 0 sp held fuel t cs = some x) :
    ∃ n, cs = [.int k n] ∧ IntKind.InR k n := by
  cases fuel with
  | zero => simp [DataW.trod] at h
  | succ f =>
    unfold DataW.trod at h
    rw [hu] at h
    match cs, h with
    | [.int k' n], h =>
      simp only at h
      split at h
      · rename_i c
        obtain ⟨rfl, hw⟩ := c
        refine ⟨n, rfl, ?_⟩
        simp only [Lit.wf, Bool.and_eq_true, decide_eq_true_eq] at hw
        exact hw
      · cases h
theorem op_int {k : IntKind} (hu : P.underlying t = some (.int k)) : Opens P t (intT k) := ⟨fun h => by
  obtain ⟨n, rfl, hn⟩ := trod_int hu h
  exact ⟨n, rfl, hn⟩⟩
theorem op_u8 (hu : P.underlying t = some (.int .u8)) : Opens P t u8T := ⟨fun h => by
  obtain ⟨n, rfl, hn⟩ := trod_int hu h
  simp [IntKind.InR, IntKind.min, IntKind.max, IntKind.signed, IntKind.bits] at hn
  refine ⟨UInt8.ofNat n.toNat, ?_, trivial⟩
  show [Value.int .u8 n] = [Value.int .u8 ((UInt8.ofNat n.toNat).toNat : Nat)]
  rw [UInt8.toNat_ofNat_of_lt' (by show n.toNat < 256; omega), Int.toNat_of_nonneg hn.1]⟩
theorem op_u32 (hu : P.underlying t = some (.int .u32)) : Opens P t u32T := ⟨fun h => by
  obtain ⟨n, rfl, hn⟩ := trod_int hu h
  simp [IntKind.InR, IntKind.min, IntKind.max, IntKind.signed, IntKind.bits] at hn
  refine ⟨UInt32.ofNat n.toNat, ?_, trivial⟩
  show [Value.int .u32 n] = [Value.int .u32 ((UInt32.ofNat n.toNat).toNat : Nat)]
  rw [UInt32.toNat_ofNat_of_lt' (by show n.toNat < 4294967296; omega), Int.toNat_of_nonneg hn.1]⟩
theorem op_u64 (hu : P.underlying t = some (.int .u64)) : Opens P t u64T := ⟨fun h => by
  obtain ⟨n, rfl, hn⟩ := trod_int hu h
  simp [IntKind.InR, IntKind.min, IntKind.max, IntKind.signed, IntKind.bits] at hn
  refine ⟨UInt64.ofNat n.toNat, ?_, trivial⟩
  show [Value.int .u64 n] = [Value.int .u64 ((UInt64.ofNat n.toNat).toNat : Nat)]
  rw [UInt64.toNat_ofNat_of_lt' (by show n.toNat < 18446744073709551616; omega), Int.toNat_of_nonneg hn.1]⟩
theorem op_bool (hu : P.underlying t = some .bool) : Opens P t boolT := ⟨fun {H enc W sp held fuel cs x} h => by
  cases fuel with
  | zero => simp [DataW.trod] at h
  | succ f =>
    unfold DataW.trod at h
    rw [hu] at h
    match cs, h with
    | [.bool b], _ => exact ⟨b, rfl, trivial⟩⟩

theorem cells_ty {n : Nat} {g : Bool} (h : tyB P t n g = true) : P.cellsOf t = n := by
  obtain ⟨i, h1, h2⟩ := (tyB_spec h default).1
  simp [Program.cellsOf, h1, h2]

theorem mapM_all {γ δ : Type} {f : γ → Option δ} : ∀ {l : List γ} {r : List δ}, l.mapM f = some r → ∀ x ∈ l, ∃ y, f x = some y
  | [], _, _, x, hx => by cases hx
  | z :: l, r, h, x, hx => by
    rw [List.mapM_cons] at h
    cases hz : f z with
    | none => rw [hz] at h; cases h
    | some y =>
      rw [hz] at h
      cases hl : l.mapM f with
      | none => simp [hl] at h
      | some r' =>
        rcases List.mem_cons.1 hx with e | hx
        · rw [e]; exact ⟨y, hz⟩
        · exact mapM_all hl x hx

theorem op_slice (hO : Opens P e T) (hs : sliceB P t e T.size = true) : Opens P t (sl T) := ⟨fun {H enc W sp held fuel cs x} h => by
  have hu := (sliceB_spec hs W).1
  have hcl : P.cellsOf e = T.size := by
    obtain ⟨i, h1, h2⟩ := (sliceB_spec hs W).2.2
    simp [Program.cellsOf, h1, h2]
  cases fuel with
  | zero => simp [DataW.trod] at h
  | succ f =>
    unfold DataW.trod at h
    rw [hu] at h
    match cs, h with
    | [.slice none 0 0], _ => exact ⟨[], none, 0, rfl, Nat.le_refl _, by unfold maxLen; omega, fun h => absurd rfl h⟩
    | [.slice (some a) len cap], h =>
      simp only at h
      split at h
      · rename_i c
        cases hm : (List.range len).mapM (fun i => (W.cells? 0 (a.add (i * P.cellsOf e)) (P.cellsOf e)).bind (DataW.trod enc P W 0 sp held f e)) with
        | none => rw [hm] at h; cases h
        | some elems =>
          have hall : ∀ i, i < len → ∃ y ds, T.rel noN noN W y ds ∧ ∀ j v, ds[j]? = some v → W.cell? ((a.add (i * T.size)).add j) = some v := fun i hi => by
            obtain ⟨z, hz⟩ := mapM_all hm i (by simpa using hi)
            obtain ⟨ds, h1, h2⟩ := Option.bind_eq_some_iff.1 hz
            obtain ⟨y, hy⟩ := hO.rd h2
            refine ⟨y, ds, hy, fun j v hj => ?_⟩
            rw [hcl] at h1
            unfold World.cells? at h1
            rw [if_pos (Nat.zero_le _)] at h1
            have hlen := T.len hy
            have hj' : j < T.size := by rw [← hlen]; exact (List.getElem?_eq_some_iff.1 hj).1
            have key : ∀ {n : Nat} {r : List Value}, (List.range n).mapM (fun i_1 => W.cell? ((a.add (i * T.size)).add i_1)) = some r → ∀ j v, r[j]? = some v → W.cell? ((a.add (i * T.size)).add j) = some v := by
              intro n
              induction n with
              | zero => intro r hr j v hv; simp at hr; subst hr; simp at hv
              | succ n ih =>
                intro r hr j v hv
                rw [List.range_succ, List.mapM_append] at hr
                cases hr1 : (List.range n).mapM (fun i_1 => W.cell? ((a.add (i * T.size)).add i_1)) with
                | none => rw [hr1] at hr; cases hr
                | some r1 =>
                  rw [hr1] at hr
                  cases hc : W.cell? ((a.add (i * T.size)).add n) with
                  | none => simp [hc] at hr
                  | some u =>
                    simp [hc] at hr
                    subst hr
                    have hl1 : r1.length = n := by
                      have : ∀ {l : List Nat} {r : List Value}, l.mapM (fun i_1 => W.cell? ((a.add (i * T.size)).add i_1)) = some r → r.length = l.length := by
                        intro l
                        induction l with
                        | nil => intro r hr; simp at hr; subst hr; rfl
                        | cons z l ih =>
                          intro r hr
                          rw [List.mapM_cons] at hr
                          cases hz : W.cell? ((a.add (i * T.size)).add z) with
                          | none => simp [hz] at hr
                          | some y =>
                            cases hl : l.mapM (fun i_1 => W.cell? ((a.add (i * T.size)).add i_1)) with
                            | none => simp [hz, hl] at hr
                            | some r' => simp [hz, hl] at hr; subst hr; simp [ih hl]
                      simpa using this hr1
                    by_cases hjn : j < n
                    · rw [List.getElem?_append_left (by omega)] at hv
                      exact ih hr1 j v hv
                    · rw [List.getElem?_append_right (by omega)] at hv
                      have : j = n := by
                        have := (List.getElem?_eq_some_iff.1 hv).1
                        simp at this; omega
                      subst this
                      simp [hl1] at hv
                      subst hv; exact hc
            exact key h1 j v hj
          have build : ∀ n, n ≤ len → ∃ l ds, l.length = n ∧ relAll T noN noN W l ds ∧ ∀ j v, ds[j]? = some v → W.cell? (a.add j) = some v := by
            intro n
            induction n with
            | zero => intro _; exact ⟨[], [], rfl, rfl, fun j v h => by simp at h⟩
            | succ n ih =>
              intro hn
              obtain ⟨l, ds, h1, h2, h3⟩ := ih (by omega)
              obtain ⟨y, ds', h4, h5⟩ := hall n (by omega)
              refine ⟨l ++ [y], ds ++ ds', by simp [h1], h2.append ⟨ds', [], by simp, h4, rfl⟩, fun j v hj => ?_⟩
              have hdl : ds.length = n * T.size := by rw [h2.len, h1]
              by_cases c : j < ds.length
              · rw [List.getElem?_append_left c] at hj; exact h3 j v hj
              · rw [List.getElem?_append_right (by omega)] at hj
                have := h5 _ v hj
                rw [add_of_add] at this
                rwa [show n * T.size + (j - ds.length) = j by omega] at this
          obtain ⟨l, ds, h1, h2, h3⟩ := build len (Nat.le_refl _)
          exact ⟨l, some a, cap, by rw [h1], by rw [h1]; exact c.2.1, c.2.2, fun _ => ⟨a, ds, rfl, fun h => h, h2, h3⟩⟩
      · cases h⟩

theorem op_arr {n : Nat} {hn : 0 < n} (hO : Opens P e T) (ha : arrB P t n e T.size = true) (ht : tyB P t (n * T.size) true = true) : Opens P t (arrT n hn T) := ⟨fun {H enc W sp held fuel cs x} h => by
  obtain ⟨hu, hsz⟩ := arrB_spec ha W
  have hcl : P.cellsOf e = T.size := by
    unfold arrB at ha
    rw [Bool.and_eq_true] at ha
    have h2 : (P.info? e).map (·.size) = some T.size := by simpa using ha.2
    obtain ⟨i, h1, h2⟩ := Option.map_eq_some_iff.1 h2
    simp [Program.cellsOf, h1, h2]
  cases fuel with
  | zero => simp [DataW.trod] at h
  | succ f =>
    unfold DataW.trod at h
    rw [hu] at h
    simp only at h
    split at h
    · rename_i hlen
      cases hm : (List.range n).mapM (fun i => DataW.trod enc P W 0 sp held f e ((cs.drop (i * P.cellsOf e)).take (P.cellsOf e))) with
      | none => rw [hm] at h; cases h
      | some xs =>
        have hall : ∀ i, i < n → ∃ y, T.rel noN noN W y ((cs.drop (i * T.size)).take T.size) := fun i hi => by
          obtain ⟨z, hz⟩ := mapM_all hm i (by simpa using hi)
          rw [hcl] at hz
          exact hO.rd hz
        have build : ∀ m, m ≤ n → ∃ l : List α, l.length = m ∧ (cs.take (m * T.size)).length = m * T.size ∧ relAll T noN noN W l (cs.take (m * T.size)) := by
          intro m
          induction m with
          | zero => intro _; exact ⟨[], rfl, by simp, by simp [relAll]⟩
          | succ m ih =>
            intro hm
            obtain ⟨l, h1, h2, h3⟩ := ih (by omega)
            obtain ⟨y, hy⟩ := hall m (by omega)
            have e : cs.take ((m + 1) * T.size) = cs.take (m * T.size) ++ (cs.drop (m * T.size)).take T.size := by
              rw [Nat.add_mul, Nat.one_mul, List.take_add]
            refine ⟨l ++ [y], by simp [h1], ?_, ?_⟩
            · rw [e, List.length_append, h2, T.len hy, Nat.add_mul, Nat.one_mul]
            · rw [e]; exact h3.append ⟨_, [], by simp, hy, rfl⟩
        obtain ⟨l, h1, h2, h3⟩ := build n (Nat.le_refl _)
        have hcs : cs.length = n * T.size := by rw [hlen, cells_ty ht]
        rw [List.take_of_length_le (by omega)] at h3
        exact ⟨l, h1, h3⟩
    · cases h⟩

/-- The fields of a struct from one on. -/
def OpF (P : Program) (s : TypeId) (k off : Nat) {α : Type} (T : GoT α) : Prop :=
  ∀ {H : Type} {enc : TypeId × Value → H} {W : World} {sp : Nat → Bool} {held : Bool} {fuel : Nat} {cs : List Value} {fs : Array Field}, P.underlying s = some (.struct fs) →
    (∀ fd ∈ fs.toList, ∃ z, DataW.trod enc P W 0 sp held fuel fd.type ((cs.drop fd.offset).take (P.cellsOf fd.type)) = some z) → (cs.drop off).length = T.size → ∃ y, T.rel noN noN W y (cs.drop off)
theorem field_read {s : TypeId} {k off : Nat} {ft : TypeId} (hf : fieldB P s k off ft = true) {H : Type} {enc : TypeId × Value → H} {W : World} {sp : Nat → Bool} {held : Bool} {fuel : Nat} {cs : List Value} {fs : Array Field} (hu : P.underlying s = some (.struct fs))
    (h : ∀ fd ∈ fs.toList, ∃ z, DataW.trod enc P W 0 sp held fuel fd.type ((cs.drop fd.offset).take (P.cellsOf fd.type)) = some z) : ∃ z, DataW.trod enc P W 0 sp held fuel ft ((cs.drop off).take (P.cellsOf ft)) = some z := by
  obtain ⟨fs', fd, h1, h2, h3, h4⟩ := fieldB_spec hf
  obtain rfl : fs = fs' := by rw [hu] at h1; injection h1 with h1; injection h1
  have := h fd (by
    obtain ⟨hk, e⟩ := Array.getElem?_eq_some_iff.1 h2
    rw [← e]; simp)
  rw [h3, h4] at this; exact this
theorem opf_last {s : TypeId} {k off : Nat} {ft : TypeId} {g : Bool} (hf : fieldB P s k off ft = true) (ht : tyB P ft T.size g = true) (hO : Opens P ft T) : OpF P s k off T := fun {H enc W sp held fuel cs fs} hu h hl => by
  obtain ⟨z, hz⟩ := field_read hf hu h
  rw [cells_ty ht, List.take_of_length_le (by omega)] at hz
  exact hO.rd hz
theorem opf_cons {s : TypeId} {k off off' : Nat} {ft : TypeId} {g : Bool} (hf : fieldB P s k off ft = true) (ht : tyB P ft T.size g = true) (hO : Opens P ft T) (e : off + T.size = off') (hr : OpF P s (k + 1) off' S) : OpF P s k off (pairT T S) := fun {H enc W sp held fuel cs fs} hu h hl => by
  subst e
  obtain ⟨z, hz⟩ := field_read hf hu h
  rw [cells_ty ht] at hz
  obtain ⟨y, hy⟩ := hO.rd hz
  have hl : (cs.drop off).length = T.size + S.size := hl
  obtain ⟨y', hy'⟩ := hr hu h (by rw [List.length_drop] at hl ⊢; omega)
  refine ⟨(y, y'), (cs.drop off).take T.size, cs.drop (off + T.size), ?_, hy, hy'⟩
  rw [← List.drop_drop, List.take_append_drop]
theorem op_struct {t : TypeId} {A : GoT α} {γ : Type} {g : γ → α} (f : α → γ) (hgf : ∀ x, g (f x) = x) (hs : (match P.underlying t with | some (.struct _) => true | _ => false) = true) (ht : tyB P t A.size true = true) (hF : OpF P t 0 0 A) : Opens P t (viaT A g) := ⟨fun {H enc W sp held fuel cs x} h => by
  cases fuel with
  | zero => simp [DataW.trod] at h
  | succ n =>
    cases hu : P.underlying t with
    | none => rw [hu] at hs; cases hs
    | some d =>
      rw [hu] at hs
      cases d <;> simp at hs
      rename_i fs
      unfold DataW.trod at h
      rw [hu] at h
      simp only at h
      split at h
      · rename_i hlen
        cases hm : fs.toList.mapM (fun f => DataW.trod enc P W 0 sp held n f.type ((cs.drop f.offset).take (P.cellsOf f.type))) with
        | none => rw [hm] at h; cases h
        | some xs =>
          obtain ⟨y, hy⟩ := hF hu (fun fd hfd => mapM_all hm fd hfd) (by rw [List.drop_zero, hlen, cells_ty ht])
          rw [List.drop_zero] at hy
          exact ⟨f y, by show A.rel _ _ _ _ _; rw [hgf]; exact hy⟩
      · cases h⟩

/-! ## Arguments -/
structure GT where
  {α : Type}
  T : GoT α
/-- What is known of arguments that were read. -/
def Shape : List GT → List AV → Prop
  | [], [] => True
  | G :: Gs, A :: As => (∃ x, A = .val G.T x) ∧ Shape Gs As
  | _, _ => False
def OpensAll (P : Program) : List TypeId → List GT → Prop
  | [], [] => True
  | t :: ts, G :: Gs => Opens P t G.T ∧ tyB P t G.T.size G.T.agg = true ∧ OpensAll P ts Gs
  | _, _ => False
theorem open_val {W : World} {v : Value} {H : Type} {enc : TypeId × Value → H} {sp : Nat → Bool} {held : Bool} {d : DataW H} {ps : List MemPlace} {b0 : Nat} (hO : Opens P t T) (ht : tyB P t T.size T.agg = true) (hok : Value.okWide P W .any b0 t v) (h : DataW.Trod enc P W 0 sp held t v d ps) :
    ∃ x, T.val noN noN W x v := by
  obtain ⟨fuel, hf⟩ := h
  obtain ⟨y, hy⟩ := hO.rd hf
  refine ⟨y, ?_⟩
  unfold tyB at ht
  rw [Bool.and_eq_true] at ht
  obtain ⟨_, ht⟩ := ht
  unfold Value.okWide at hok
  cases hu : P.underlying t with
  | none => rw [hu] at ht; cases ht
  | some de =>
    rw [hu] at ht hok
    have hone : T.agg = false → (∀ cs, v ≠ .agg cs) → (∀ cs, v ≠ .tuple cs) → T.val noN noN W y v := fun hg h1 h2 => by
      refine ⟨_, hy, .inr ⟨hg, ?_⟩⟩
      cases v <;> first | rfl | (exact absurd rfl (h1 _)) | (exact absurd rfl (h2 _))
    have hcell : (T.agg = false) → Cell.okWide P W .any b0 t v → T.val noN noN W y v := fun hg hc => by
      refine hone hg (fun cs e => ?_) (fun cs e => ?_)
      · subst e
        unfold Cell.okWide Cell.ok at hc
        rw [hu] at hc
        cases de <;> exact hc
      · subst e
        unfold Cell.okWide Cell.ok at hc
        rw [hu] at hc
        cases de <;> exact hc
    cases de <;> first
      | (have hg : T.agg = true := ht
         obtain ⟨cs, rfl, _, _⟩ := hok
         exact ⟨cs.toList, by simpa [Value.cells] using hy, .inl ⟨hg, rfl⟩⟩)
      | exact hcell (by simpa using ht) hok
theorem open_all {W : World} {H : Type} {enc : TypeId × Value → H} {sp : Nat → Bool} {held : Bool} {b0 : Nat} : ∀ {ts : List TypeId} {Gs : List GT} {vs : List Value} {ds : List (DataW H)} {ps : List MemPlace}, OpensAll P ts Gs → DataW.TrodAll enc P W 0 sp held ts vs ds ps →
    (∀ (j : Nat) t v, ts[j]? = some t → vs[j]? = some v → Value.okWide P W .any b0 t v) → ∃ As, Shape Gs As ∧ ArgsRel noN W As vs
  | [], [], [], [], _, _, _, _ => ⟨[], trivial, trivial⟩
  | [], [], _ :: _, _, _, _, h, _ => h.elim
  | [], [], [], _ :: _, _, _, h, _ => h.elim
  | [], _ :: _, _, _, _, h, _, _ => h.elim
  | _ :: _, [], _, _, _, h, _, _ => h.elim
  | _ :: _, _ :: _, [], _, _, _, h, _ => h.elim
  | _ :: _, _ :: _, _ :: _, [], _, _, h, _ => h.elim
  | t :: ts, G :: Gs, v :: vs, d :: ds, ps, ⟨h1, h2, h3⟩, ⟨p, q, g1, g2, _⟩, hok => by
    obtain ⟨x, hx⟩ := open_val h1 h2 (hok 0 t v rfl rfl) g1
    obtain ⟨As, hs, ha⟩ := open_all h3 g2 (fun j t' v' e1 e2 => hok (j + 1) t' v' (by simpa using e1) (by simpa using e2))
    exact ⟨.val G.T x :: As, ⟨⟨x, rfl⟩, hs⟩, hx, ha⟩
end
end Go.Ab
