/- Regions that draw their order, in which some operations write: what is known behind each set of operations does not hang on the order, where operations that are not tied stay apart. -/
import Derived.Test.YtmfgemnmelbflaaSplit
namespace Go.Ab
set_option linter.unusedVariables false
set_option linter.unusedSimpArgs false
open Go.RowKit

structure XS where
  nx : Nat
  hp : Hp

section
variable {J : Job} {ops : Array Oper}

theorem OpG.agree {o : Oper} {hp : Hp} {fr fr' : Fr} {x : AV} (h : OpG J o fr hp x) (ha : ∀ t ∈ o.looksAt ops, fr' t = fr t) : OpG J o fr' hp x :=
  h.congr fun y hy => by
    cases y with
    | tmp t => exact ha t (List.mem_append_left _ (List.mem_filterMap.2 ⟨.tmp t, by simpa using hy, rfl⟩))
    | _ => rfl
theorem YieldA.agree {o : Oper} {hp : Hp} {fr fr' : Fr} {x : AV} (h : YieldA J hp ops o x fr) (ha : ∀ t ∈ o.looksAt ops, fr' t = fr t) : YieldA J hp ops o x fr' := by
  have hw : ∀ b, wantedA ops o fr b → wantedA ops o fr' b := fun b hb => by
    unfold wantedA at *
    split
    · rename_i e; rw [e] at hb; exact hb
    · rename_i j want e
      rw [e] at hb
      obtain ⟨oj, t, h1, h2, h3⟩ := hb
      refine ⟨oj, t, h1, h2, ?_⟩
      rw [ha t (List.mem_append_right _ (by rw [e]; simp [h1, h2]))]
      exact h3
  exact ⟨h.dst, h.out.imp (fun ⟨a, b⟩ => ⟨hw _ a, b.agree ha⟩) (fun ⟨a, b⟩ => ⟨hw _ a, b⟩)⟩

/-- An operation that writes. -/
def EffA (J : Job) (ops : Array Oper) (nx : Nat) (hp : Hp) (nx' : Nat) (hp' : Hp) (o : Oper) (x : AV) (fr : Fr) : Prop :=
  ∀ fr', (∀ t ∈ o.looksAt ops, fr' t = fr t) → ∀ k, AW J nx' (fr'.put o.dst x) hp' k → AW J nx fr' hp (.ops ops [o] :: k)

/-- The walk in the text's order: 'info': 'none': it writes; 'some m': it stands at the m states that were last. -/
inductive XRun (J : Job) (ops : Array Oper) : List (Option Nat) → List Oper → List XS → Fr → List AV → List Fr → List XS → Fr → Prop
  | nil {S fr} : XRun J ops [] [] S fr [] [] S fr
  | g {info o rest S fr xs fs S' fr' x m} (h : ∀ s ∈ S.take m, YieldA J s.hp ops o x fr) (H : XRun J ops info rest S (fr.put o.dst x) xs fs S' fr') : XRun J ops (some m :: info) (o :: rest) S fr (x :: xs) (fr :: fs) S' fr'
  | e {info o rest s S fr xs fs S' fr' x nx' hp'} (h : EffA J ops s.nx s.hp nx' hp' o x fr) (H : XRun J ops info rest (⟨nx', hp'⟩ :: s :: S) (fr.put o.dst x) xs fs S' fr') : XRun J ops (none :: info) (o :: rest) (s :: S) fr (x :: xs) (fr :: fs) S' fr'

/-- How many of those ahead write. -/
def effs (info : List (Option Nat)) (i : Nat) : Nat := ((info.take i).filter (·.isNone)).length

/-- What an operation waits for. -/
def needsB (md : Region.Mode) (ops : Array Oper) : Nat → Nat → Nat → Bool
  | 0, _, _ => false
  | f + 1, j, i => match ops[j]? with
    | none => false
    | some o => o.after.any fun e => Region.binds md e && (e.on == i || needsB md ops f e.on i)

def checkX (md : Region.Mode) (ops : Array Oper) (info : List (Option Nat)) : Bool :=
  let n := ops.size
  info.length == n &&
  (List.range n).all fun i => match ops[i]?, info[i]? with
    | some o, some inf =>
      (inf != some 0) && (o.after.all fun e => !Region.binds md e || Nat.blt e.on i) &&
      (List.range i).all fun j => match ops[j]?, info[j]? with
        | some oj, some infj => needsB md ops n i j || (oj.apart ops o && inf.isSome && (match infj, inf with
          | some _, some _ => true
          | none, some m => decide (effs info i < effs info j + m)
          | _, none => false))
        | _, _ => false
    | _, _ => false

theorem XRun.len {info : List (Option Nat)} {l S fr xs fs S' fr'} (h : XRun J ops info l S fr xs fs S' fr') : xs.length = l.length ∧ fs.length = l.length ∧ info.length = l.length := by
  induction h with
  | nil => exact ⟨rfl, rfl, rfl⟩
  | g _ _ ih => simp [ih.1, ih.2.1, ih.2.2]
  | e _ _ ih => simp [ih.1, ih.2.1, ih.2.2]

theorem effs_zero (info : List (Option Nat)) : effs info 0 = 0 := rfl
theorem effs_cons_some (info : List (Option Nat)) (m i : Nat) : effs (some m :: info) (i + 1) = effs info i := by simp [effs]
theorem effs_cons_none (info : List (Option Nat)) (i : Nat) : effs (none :: info) (i + 1) = effs info i + 1 := by simp [effs]

/-- The state behind so many that wrote. -/
def stAt (S' : List XS) (c : Nat) : XS := (S'.reverse[c]?).getD ⟨0, Hp.none⟩

theorem XRun.suffix {info : List (Option Nat)} {l S fr xs fs S' fr'} (h : XRun J ops info l S fr xs fs S' fr') : ∃ T, S' = T ++ S ∧ T.length = effs info info.length := by
  induction h with
  | nil => exact ⟨[], rfl, rfl⟩
  | g _ _ ih => obtain ⟨T, h1, h2⟩ := ih; exact ⟨T, h1, by rw [h2]; simp [effs]⟩
  | e _ _ ih => obtain ⟨T, h1, h2⟩ := ih; exact ⟨T ++ [⟨_, _⟩], by rw [h1, List.append_assoc]; rfl, by simp [h2, effs]⟩
theorem stAt_suffix (T S : List XS) (c : Nat) (h : c < S.length) : stAt (T ++ S) c = stAt S c := by
  unfold stAt
  rw [List.reverse_append, List.getElem?_append_left (by simpa using h)]
theorem stAt_head (s : XS) (S : List XS) : stAt (s :: S) S.length = s := by
  unfold stAt
  rw [List.reverse_cons, List.getElem?_append_right (by simp)]
  simp

/-- What the walk says of the operation at a place. -/
theorem XRun.at {info : List (Option Nat)} {l S fr xs fs S' fr'} (h : XRun J ops info l S fr xs fs S' fr') (hS : 0 < S.length) : ∀ i o, l[i]? = some o → ∃ x f, xs[i]? = some x ∧ fs[i]? = some f ∧
    ((∃ m, info[i]? = some (some m) ∧ ∀ c, c < S.length + effs info i → S.length + effs info i ≤ c + m → YieldA J (stAt S' c).hp ops o x f) ∨
     (info[i]? = some none ∧ EffA J ops (stAt S' (S.length + effs info i - 1)).nx (stAt S' (S.length + effs info i - 1)).hp (stAt S' (S.length + effs info i)).nx (stAt S' (S.length + effs info i)).hp o x f)) := by
  induction h with
  | nil => intro i o h; simp at h
  | g h H ih =>
    rename_i info o rest S fr xs fs S' fr' x m
    intro i o' hi
    cases i with
    | zero =>
      simp at hi; subst hi
      refine ⟨x, fr, rfl, rfl, .inl ⟨m, rfl, fun c h1 h2 => ?_⟩⟩
      rw [effs_zero, Nat.add_zero] at h1 h2
      obtain ⟨T, hT, _⟩ := H.suffix
      rw [hT, stAt_suffix T S c h1]
      refine h _ ?_
      unfold stAt
      rw [List.getElem?_reverse h1]
      have hlt : S.length - 1 - c < S.length := by omega
      rw [List.getElem?_eq_getElem hlt]
      exact List.mem_take_iff_getElem.2 ⟨S.length - 1 - c, by omega, rfl⟩
    | succ i =>
      obtain ⟨x', f', h1, h2, h3⟩ := ih hS i o' (by simpa using hi)
      refine ⟨x', f', by simpa using h1, by simpa using h2, ?_⟩
      rw [effs_cons_some]
      simpa using h3
  | e h H ih =>
    rename_i info o rest s S fr xs fs S' fr' x nx' hp'
    intro i o' hi
    obtain ⟨T, hT, _⟩ := H.suffix
    cases i with
    | zero =>
      simp at hi; subst hi
      refine ⟨x, fr, rfl, rfl, .inr ⟨rfl, ?_⟩⟩
      rw [effs_zero, Nat.add_zero]
      have e1 : stAt S' ((s :: S).length - 1) = s := by
        rw [hT, stAt_suffix _ _ _ (by simp only [List.length_cons]; omega)]
        rw [show (⟨nx', hp'⟩ : XS) :: s :: S = [⟨nx', hp'⟩] ++ (s :: S) from rfl, stAt_suffix _ _ _ (by simp)]
        have := stAt_head s S
        simpa using this
      have e2 : stAt S' (s :: S).length = ⟨nx', hp'⟩ := by
        rw [hT, stAt_suffix _ _ _ (by simp only [List.length_cons]; omega)]
        exact stAt_head _ _
      rw [e1, e2]; exact h
    | succ i =>
      obtain ⟨x', f', h1, h2, h3⟩ := ih (by simp) i o' (by simpa using hi)
      refine ⟨x', f', by simpa using h1, by simpa using h2, ?_⟩
      rw [effs_cons_none]
      have e : (s :: S).length + (effs info i + 1) = ((⟨nx', hp'⟩ : XS) :: s :: S).length + effs info i := by simp; omega
      rw [e]
      simpa using h3

/-- Who wrote a slot last. -/
def Wr (ops : Array Oper) (i t : Nat) : Prop := ∃ o, ops[i]? = some o ∧ o.dst = some t
def InvF (ops : Array Oper) (X : Nat → AV) (f0 : Fr) (L : Nat → Prop) (fr : Fr) : Prop :=
  ∀ t, (∃ i, L i ∧ Wr ops i t ∧ (∀ k, L k → Wr ops k t → k ≤ i) ∧ fr t = X i) ∨ ((∀ k, L k → ¬ Wr ops k t) ∧ fr t = f0 t)
theorem InvF.agree {X : Nat → AV} {f0 fr fr' : Fr} {L L' : Nat → Prop} {t : Nat} (h : InvF ops X f0 L fr) (h' : InvF ops X f0 L' fr') (hl : ∀ k, Wr ops k t → (L k ↔ L' k)) : fr t = fr' t := by
  rcases h t with ⟨i, h1, h2, h3, h4⟩ | ⟨h1, h2⟩
  · rcases h' t with ⟨j, g1, g2, g3, g4⟩ | ⟨g1, _⟩
    · have : i = j := Nat.le_antisymm (g3 i ((hl i h2).1 h1) h2) (h3 j ((hl j g2).2 g1) g2)
      rw [h4, g4, this]
    · exact absurd h2 (g1 i ((hl i h2).1 h1))
  · rcases h' t with ⟨j, g1, g2, _⟩ | ⟨_, g2⟩
    · exact absurd g2 (h1 j ((hl j g2).2 g1))
    · rw [h2, g2]
theorem InvF.put {X : Nat → AV} {f0 fr : Fr} {L : Nat → Prop} {i : Nat} {o : Oper} (h : InvF ops X f0 L fr) (ho : ops[i]? = some o) (hm : ∀ t k, o.dst = some t → L k → Wr ops k t → k ≤ i) : InvF ops X f0 (fun k => L k ∨ k = i) (fr.put o.dst (X i)) := fun t => by
  by_cases e : o.dst = some t
  · refine .inl ⟨i, .inr rfl, ⟨o, ho, e⟩, fun k hk hw => hk.elim (fun hk => hm t k e hk hw) (fun hk => by omega), ?_⟩
    rw [e]
    show (fr.set t (X i)) t = X i
    rw [fr_set_eq, if_pos rfl]
  · have ef : fr.put o.dst (X i) t = fr t := by
      cases hd : o.dst with
      | none => rfl
      | some d =>
        show (fr.set d (X i)) t = fr t
        rw [fr_set_eq, if_neg (fun e' => e (by rw [hd, e']))]
    have hn : ∀ k, k = i → ¬ Wr ops k t := fun k hk ⟨o', h1, h2⟩ => by
      subst hk; rw [ho] at h1; injection h1 with h1; subst h1; exact e h2
    rw [ef]
    rcases h t with ⟨j, h1, h2, h3, h4⟩ | ⟨h1, h2⟩
    · exact .inl ⟨j, .inl h1, h2, fun k hk hw => hk.elim (fun hk => h3 k hk hw) (fun hk => absurd hw (hn k hk)), h4⟩
    · exact .inr ⟨fun k hk => hk.elim (fun hk => h1 k hk) (hn k), h2⟩

theorem XRun.frames {info : List (Option Nat)} {l S fr xs fs S' fr'} (h : XRun J ops info l S fr xs fs S' fr') : ∀ (k : Nat) (X : Nat → AV) (f0 : Fr), (∀ j, l[j]? = ops[k + j]?) → (∀ j x, xs[j]? = some x → X (k + j) = x) → InvF ops X f0 (· < k) fr →
    (∀ j f, fs[j]? = some f → InvF ops X f0 (· < k + j) f) ∧ InvF ops X f0 (· < k + l.length) fr' := by
  have key : ∀ {o : Oper} {rest : List Oper} {x : AV} {xs : List AV} {fr : Fr} (k : Nat) (X : Nat → AV) (f0 : Fr), (∀ j, (o :: rest)[j]? = ops[k + j]?) → (∀ j y, (x :: xs)[j]? = some y → X (k + j) = y) → InvF ops X f0 (· < k) fr → InvF ops X f0 (· < k + 1) (fr.put o.dst x) := by
    intro o rest x xs fr k X f0 hl hX hI
    have h0 : ops[k]? = some o := by simpa using (hl 0).symm
    have hx : X k = x := by simpa using hX 0 x rfl
    have := hI.put h0 (fun t j _ hj _ => Nat.le_of_lt hj)
    rw [hx] at this
    have e : (fun j => j < k ∨ j = k) = (· < k + 1) := by funext j; exact propext ⟨fun h => by omega, fun h => by omega⟩
    rw [e] at this; exact this
  induction h with
  | nil => intro k X f0 _ _ hI; exact ⟨fun j f hj => by simp at hj, hI⟩
  | g h H ih =>
    intro k X f0 hl hX hI
    have h2 := key k X f0 hl hX hI
    obtain ⟨h3, h4⟩ := ih (k + 1) X f0 (fun j => by have := hl (j + 1); simpa [Nat.add_assoc, Nat.add_comm 1 j] using this) (fun j x hx => by have := hX (j + 1) x (by simpa using hx); rw [← this]; congr 1; omega) h2
    refine ⟨fun j f hj => ?_, by simpa [Nat.add_assoc, Nat.add_comm 1] using h4⟩
    cases j with
    | zero => simp at hj; subst hj; exact hI
    | succ j => have := h3 j f (by simpa using hj); simpa [Nat.add_assoc, Nat.add_comm 1 j] using this
  | e h H ih =>
    intro k X f0 hl hX hI
    have h2 := key k X f0 hl hX hI
    obtain ⟨h3, h4⟩ := ih (k + 1) X f0 (fun j => by have := hl (j + 1); simpa [Nat.add_assoc, Nat.add_comm 1 j] using this) (fun j x hx => by have := hX (j + 1) x (by simpa using hx); rw [← this]; congr 1; omega) h2
    refine ⟨fun j f hj => ?_, by simpa [Nat.add_assoc, Nat.add_comm 1] using h4⟩
    cases j with
    | zero => simp at hj; subst hj; exact hI
    | succ j => have := h3 j f (by simpa using hj); simpa [Nat.add_assoc, Nat.add_comm 1 j] using this

/-- Listed operations are closed under waiting. -/
def Closed (md : Region.Mode) (ops : Array Oper) (L : Nat → Bool) : Prop := ∀ i o, ops[i]? = some o → L i = true → ∀ e ∈ o.after, Region.binds md e = true → L e.on = true
theorem needs_closed {md : Region.Mode} {L : Nat → Bool} (hc : Closed md ops L) : ∀ (f j i : Nat) (o : Oper), ops[j]? = some o → (∀ e ∈ o.after, Region.binds md e = true → L e.on = true) → needsB md ops f j i = true → L i = true
  | 0, _, _, _, _, _, h => by simp [needsB] at h
  | f + 1, j, i, o, ho, hd, h => by
    unfold needsB at h
    rw [ho] at h
    simp only [Array.any_eq_true] at h
    obtain ⟨x, hx, h⟩ := h
    have hm : o.after[x] ∈ o.after := Array.getElem_mem hx
    simp only [Bool.and_eq_true, Bool.or_eq_true, beq_iff_eq] at h
    obtain ⟨hb, h | h⟩ := h
    · rw [← h]; exact hd _ hm hb
    · have hl := hd _ hm hb
      cases ho' : ops[(o.after[x]).on]? with
      | none =>
        cases f with
        | zero => simp [needsB] at h
        | succ f => unfold needsB at h; rw [ho'] at h; simp at h
      | some o' => exact needs_closed hc f _ i o' ho' (hc _ o' ho' hl) h

theorem checkX_spec {md : Region.Mode} {info : List (Option Nat)} (h : checkX md ops info = true) : info.length = ops.size ∧ ∀ i o, ops[i]? = some o → ∃ inf, info[i]? = some inf ∧ inf ≠ some 0 ∧
    (∀ e ∈ o.after, Region.binds md e = true → e.on < i) ∧
    ∀ j oj infj, j < i → ops[j]? = some oj → info[j]? = some infj → needsB md ops ops.size i j = true ∨ (oj.apart ops o = true ∧ ∃ m, inf = some m ∧ (infj = none → effs info i < effs info j + m)) := by
  unfold checkX at h
  simp only [Bool.and_eq_true, beq_iff_eq, List.all_eq_true, List.mem_range] at h
  refine ⟨h.1, fun i o ho => ?_⟩
  have hi : i < ops.size := (Array.getElem?_eq_some_iff.1 ho).1
  have h2 := h.2 i hi
  obtain ⟨inf, hinf⟩ : ∃ inf, info[i]? = some inf := ⟨_, List.getElem?_eq_getElem (by omega)⟩
  rw [ho, hinf] at h2
  simp only [Bool.and_eq_true, Array.all_eq_true_iff_forall_mem, Bool.or_eq_true, Bool.not_eq_true', List.all_eq_true, List.mem_range] at h2
  refine ⟨inf, hinf, by simpa using h2.1.1, fun e he hb => ?_, fun j oj infj hj hoj hij => ?_⟩
  · have := (h2.1.2 e he).resolve_left (by simp [hb])
    simpa using this
  · have h3 := h2.2 j hj
    rw [hoj, hij] at h3
    simp only [Bool.or_eq_true, Bool.and_eq_true] at h3
    refine h3.imp id fun ⟨⟨h4, h5⟩, h6⟩ => ⟨h4, ?_⟩
    cases inf with
    | none => simp at h5
    | some m =>
      refine ⟨m, rfl, fun e => ?_⟩
      subst e
      simpa using h6

def Arr (listed : Array Bool) (i : Nat) : Bool := listed.getD i false

theorem getD_set {listed : Array Bool} {i k : Nat} (hi : i < listed.size) (d : Bool) : (listed.setIfInBounds i true).getD k d = if k = i then true else listed.getD k d := by
  by_cases e : k = i
  · subst e; rw [if_pos rfl]; simp [Array.getD, hi]
  · rw [if_neg e]
    have : i ≠ k := fun h => e h.symm
    simp [Array.getD_eq_getD_getElem?, Array.getElem?_setIfInBounds, this]
theorem effs_le {info : List (Option Nat)} {i j : Nat} (h : i ≤ j) : effs info i ≤ effs info j := by
  unfold effs
  exact (List.Sublist.filter _ ((List.take_prefix_take_left h).sublist)).length_le
theorem effs_succ {info : List (Option Nat)} {i : Nat} {x : Option Nat} (h : info[i]? = some x) : effs info (i + 1) = effs info i + (if x.isNone then 1 else 0) := by
  unfold effs
  rw [List.take_add_one, h]
  simp only [Option.toList_some, List.filter_append, List.length_append, List.filter_cons, List.filter_nil]
  split <;> rfl

theorem effs_at {info : List (Option Nat)} : ∀ {i q : Nat}, q < effs info i → ∃ e, e < i ∧ info[e]? = some none ∧ effs info e = q
  | 0, q, h => by rw [effs_zero] at h; omega
  | i + 1, q, h => by
    cases hx : info[i]? with
    | none =>
      have hl : info.length ≤ i := by simpa using hx
      have : effs info (i + 1) = effs info i := by unfold effs; rw [List.take_of_length_le (by omega), List.take_of_length_le hl]
      rw [this] at h
      obtain ⟨e, h1, h2⟩ := effs_at h
      exact ⟨e, by omega, h2⟩
    | some x =>
      rw [effs_succ hx] at h
      by_cases c : q < effs info i
      · obtain ⟨e, h1, h2⟩ := effs_at c
        exact ⟨e, by omega, h2⟩
      · cases x with
        | none => exact ⟨i, by omega, hx, by simp at h; omega⟩
        | some m => simp at h; omega

def cntU (L : Nat → Bool) : Nat → Nat
  | 0 => 0
  | n + 1 => cntU L n + (if L n then 0 else 1)
theorem cntU_same {L L' : Nat → Bool} : ∀ {n : Nat}, (∀ k, k < n → L k = L' k) → cntU L n = cntU L' n
  | 0, _ => rfl
  | n + 1, h => by unfold cntU; rw [cntU_same (fun k hk => h k (by omega)), h n (by omega)]
theorem cntU_set {L L' : Nat → Bool} {i : Nat} (h0 : L i = false) (h1 : L' i = true) (he : ∀ k, k ≠ i → L' k = L k) : ∀ {n : Nat}, i < n → cntU L' n + 1 = cntU L n
  | 0, h => by omega
  | n + 1, h => by
    unfold cntU
    by_cases c : i = n
    · subst c
      rw [h0, h1, cntU_same (fun k hk => he k (by omega))]
      simp
    · have := cntU_set h0 h1 he (n := n) (by omega)
      rw [he n (by omega)]; omega
theorem cntU_zero {L : Nat → Bool} : ∀ {n : Nat}, cntU L n = 0 → ∀ k, k < n → L k = true
  | 0, _, k, hk => by omega
  | n + 1, h, k, hk => by
    unfold cntU at h
    by_cases c : k = n
    · subst c
      cases e : L k with
      | true => rfl
      | false => rw [e] at h; simp at h
    · exact cntU_zero (L := L) (n := n) (by omega) k (by omega)

theorem wpList_one {o : Oper} {i : Nat} {k : List It} {T : Act → World → Prop} {a : Act} {w : World} (ho : ops[i]? = some o) (h : wpListIn J.F 0 J.P ops (Kont J (.again T :: k)) [o] a w) : wpOpIn J.F 0 J.P ops (Kont J k) i T a w := by
  unfold wpOpIn
  rw [ho]
  unfold wpListIn at h
  have hs : ∀ {a w}, wpListIn J.F 0 J.P ops (Kont J (.again T :: k)) [] a w = T a w := rfl
  show if _ then _ else _
  split
  · rename_i hw
    rw [if_pos hw] at h
    refine ⟨h.1, ?_⟩
    have h := h.2
    generalize (Oper.semAt J.F.round a.eval o).run J.P w = r at h ⊢
    cases r with
    | ok n w' =>
      cases n <;> simp only [Oper.uponIn] at h ⊢ <;>
        first
          | exact h
          | exact ⟨h.1, CallsIn.mono h.2 (fun e w'' he => by cases e <;> exact he)⟩
          | exact ⟨h.1, RoundIn.mono h.2 (fun e w'' he => by cases e <;> exact he)⟩
    | halt x w' => cases x <;> simp only [Oper.uponIn] at h ⊢ <;> exact h
  · rename_i hw
    rw [if_neg hw] at h
    exact h

theorem any_conc2 {md : Region.Mode} {info : List (Option Nat)} {s0 : XS} {f0 fr' : Fr} {xs : List AV} {fs : List Fr} {S' : List XS} {k : List It} (hc : checkX md ops info = true) (hr : XRun J ops info ops.toList [s0] f0 xs fs S' fr')
    (hQ : AW J (stAt S' (effs info info.length)).nx fr' (stAt S' (effs info info.length)).hp k) :
    ∀ (fuel : Nat) (listed : Array Bool) (fr : Fr) (c : Nat) (a : Act) (w : World), listed.size = ops.size → Closed md ops (Arr listed) → InvF ops (fun i => (xs[i]?).getD .idk) f0 (fun i => Arr listed i = true) fr →
      (∀ e, info[e]? = some none → (Arr listed e = true ↔ effs info e < c)) → c ≤ effs info ops.size → cntU (Arr listed) ops.size ≤ fuel → Sim J (stAt S' c).nx fr (stAt S' c).hp a w → wpAnyIn J.F 0 J.P md ops (Kont J k) fuel listed a w := by
  obtain ⟨hlen, hck⟩ := checkX_spec hc
  have hxl := hr.len
  obtain ⟨hfs, hfin⟩ := hr.frames 0 (fun i => (xs[i]?).getD .idk) f0 (fun j => by simp) (fun j x hx => by simp [hx]) (fun t => .inr ⟨fun k hk => by omega, rfl⟩)
  have hend : ∀ (listed : Array Bool) (fr : Fr) (c : Nat) (a : Act) (w : World), InvF ops (fun i => (xs[i]?).getD .idk) f0 (fun i => Arr listed i = true) fr → (∀ e, info[e]? = some none → (Arr listed e = true ↔ effs info e < c)) → c ≤ effs info ops.size →
      (∀ k, k < ops.size → Arr listed k = true) → Sim J (stAt S' c).nx fr (stAt S' c).hp a w → Kont J k .normal a w := fun listed fr c a w hi he hcn hall s => by
    have e1 : fr = fr' := funext fun t => hi.agree hfin fun k ⟨o, ho, _⟩ => by
      have hk : k < ops.size := (Array.getElem?_eq_some_iff.1 ho).1
      exact ⟨fun _ => by simpa using hk, fun _ => hall k hk⟩
    have e2 : c = effs info info.length := by
      rw [hlen]
      refine Nat.le_antisymm hcn (Nat.le_of_not_lt fun hlt => ?_)
      obtain ⟨e, h1, h2, h3⟩ := effs_at hlt
      have := (he e h2).1 (hall e h1)
      omega
    subst e1; subst e2
    exact hQ a w s
  have hready : ∀ (listed : Array Bool), listed.size = ops.size → Region.ready md ops listed = [] → ∀ k, k < ops.size → Arr listed k = true := fun listed hsz h0 k => by
    induction k using Nat.strongRecOn with
    | _ k ih =>
      intro hk
      cases e : Arr listed k with
      | true => rfl
      | false =>
        have hu : listed.getD k true = false := by
          unfold Arr at e
          simp [Array.getD, hsz, hk] at e ⊢; exact e
        obtain ⟨o, ho⟩ : ∃ o, ops[k]? = some o := ⟨_, Array.getElem?_eq_getElem hk⟩
        obtain ⟨inf, _, _, hb, _⟩ := hck k o ho
        have : k ∈ Region.ready md ops listed := mem_ready.2 ⟨hu, o, ho, fun e he hbe => ih e.on (hb e he hbe) (by have := hb e he hbe; omega)⟩
        rw [h0] at this; cases this
  intro fuel
  induction fuel with
  | zero =>
    intro listed fr c a w hsz hcl hi he hcn hcnt s
    have hall := cntU_zero (Nat.le_zero.1 hcnt)
    refine ⟨List.eq_nil_iff_forall_not_mem.2 fun i hi' => ?_, hend listed fr c a w hi he hcn hall s⟩
    obtain ⟨h1, o, ho, _⟩ := mem_ready.1 hi'
    have hk : i < ops.size := (Array.getElem?_eq_some_iff.1 ho).1
    have h2 := hall i hk
    unfold Arr at h2
    simp [Array.getD, hsz, hk] at h1 h2
    rw [h1] at h2; cases h2
  | succ fuel ih =>
    intro listed fr c a w hsz hcl hi he hcn hcnt s
    refine ⟨fun h0 => hend listed fr c a w hi he hcn (hready listed hsz h0) s, fun i hir => ?_⟩
    obtain ⟨hun, o, ho, hdeps⟩ := mem_ready.1 hir
    have hin : i < ops.size := (Array.getElem?_eq_some_iff.1 ho).1
    have hun' : Arr listed i = false := by
      unfold Arr; simp [Array.getD, hsz, hin] at hun ⊢; exact hun
    obtain ⟨inf, hinf, hinf0, hback, hpair⟩ := hck i o ho
    have hneed : ∀ j, needsB md ops ops.size i j = true → Arr listed j = true := fun j hj => needs_closed hcl _ i j o ho hdeps hj
    have hneed' : ∀ k o', ops[k]? = some o' → Arr listed k = true → needsB md ops ops.size k i = true → False := fun k o' ho' hk hn => by
      have := needs_closed hcl _ k i o' ho' (hcl k o' ho' hk) hn
      rw [this] at hun'; cases hun'
    obtain ⟨x, f, hx, hf, hcase⟩ := hr.at (by simp) i o (by simpa using ho)
    have hff := hfs i f hf
    have hagr : ∀ t ∈ o.looksAt ops, fr t = f t := fun t ht => hi.agree hff fun k ⟨o', ho', hd'⟩ => by
      have hk : k < ops.size := (Array.getElem?_eq_some_iff.1 ho').1
      constructor
      · intro hl
        show k < 0 + i
        rw [Nat.zero_add]
        refine Nat.lt_of_not_le fun hle => ?_
        have hne : i ≠ k := fun e => by subst e; rw [hl] at hun'; cases hun'
        obtain ⟨inf', hinf', _, _, hpair'⟩ := hck k o' ho'
        rcases hpair' i o inf (by omega) ho hinf with h | ⟨h, _⟩
        · exact hneed' k o' ho' hl h
        · exact (Oper.apart_spec h).2.2 t hd' ht
      · intro hl
        have hl : k < i := by simpa using hl
        obtain ⟨infk, hinfk⟩ : ∃ y, info[k]? = some y := ⟨_, List.getElem?_eq_getElem (by omega)⟩
        rcases hpair k o' infk hl ho' hinfk with h | ⟨h, _⟩
        · exact hneed k h
        · exact absurd ht ((Oper.apart_spec h).1 t hd')
    have hX : (xs[i]?).getD AV.idk = x := by simp [hx]
    have hsz' : (listed.setIfInBounds i true).size = ops.size := by simpa using hsz
    have hArr : ∀ k, Arr (listed.setIfInBounds i true) k = if k = i then true else Arr listed k := fun k => getD_set (by omega) false
    have hcl' : Closed md ops (Arr (listed.setIfInBounds i true)) := fun k o' ho' hk e he' hb => by
      rw [hArr] at hk ⊢
      by_cases c1 : e.on = i
      · rw [if_pos c1]
      · rw [if_neg c1]
        by_cases c2 : k = i
        · subst c2; rw [ho] at ho'; injection ho' with ho'; subst ho'
          exact hdeps e he' hb
        · rw [if_neg c2] at hk; exact hcl k o' ho' hk e he' hb
    have hi' : InvF ops (fun i => (xs[i]?).getD .idk) f0 (fun k => Arr (listed.setIfInBounds i true) k = true) (fr.put o.dst x) := by
      have := hi.put ho (fun t k hd hk ⟨o', ho', hd'⟩ => by
        refine Nat.le_of_not_lt fun hlt => ?_
        obtain ⟨inf', hinf', _, _, hpair'⟩ := hck k o' ho'
        rcases hpair' i o inf hlt ho hinf with h | ⟨h, _⟩
        · exact hneed' k o' ho' hk h
        · exact (Oper.apart_spec h).2.1 t hd hd')
      rw [hX] at this
      have e : (fun k => Arr listed k = true ∨ k = i) = fun k => Arr (listed.setIfInBounds i true) k = true := by
        funext k
        rw [hArr]
        by_cases c : k = i
        · simp [c]
        · simp [c]
      rw [e] at this; exact this
    have hcnt' : cntU (Arr (listed.setIfInBounds i true)) ops.size ≤ fuel := by
      have := cntU_set (L := Arr listed) (L' := Arr (listed.setIfInBounds i true)) hun' (by rw [hArr, if_pos rfl]) (fun k hk => by rw [hArr, if_neg hk]) hin
      omega
    have hcle : ∀ e, info[e]? = some none → e < i → effs info e = c → needsB md ops ops.size i e = true → False := fun e h1 h2 h3 h4 => by
      have := (he e h1).1 (hneed e h4)
      omega
    have hcge : ∀ e, info[e]? = some none → i < e → effs info e < c → False := fun e h1 h2 h3 => by
      have hl := (he e h1).2 h3
      have hen : e < ops.size := by
        have := (List.getElem?_eq_some_iff.1 h1).1
        omega
      obtain ⟨o', ho'⟩ : ∃ o', ops[e]? = some o' := ⟨_, Array.getElem?_eq_getElem hen⟩
      obtain ⟨inf', hinf', _, _, hpair'⟩ := hck e o' ho'
      rw [h1] at hinf'; injection hinf' with hinf'
      rcases hpair' i o inf h2 ho hinf with h | ⟨_, m, h, _⟩
      · exact hneed' e o' ho' hl h
      · rw [← hinf'] at h; cases h
    rcases hcase with ⟨m, hm, hval⟩ | ⟨hm, heff⟩
    · -- gentle
      have hinf' : inf = some m := by rw [hinf] at hm; injection hm
      have c1 : c ≤ effs info i := Nat.le_of_not_lt fun hlt => by
        obtain ⟨e, h1, h2, h3⟩ := effs_at (show effs info i < effs info ops.size by omega)
        rcases Nat.lt_trichotomy e i with h | h | h
        · have := effs_le (info := info) (show e + 1 ≤ i by omega)
          rw [effs_succ h2] at this
          simp at this; omega
        · subst h; rw [h2] at hm; cases hm
        · exact hcge e h2 h (by omega)
      have c2 : effs info i < c + m := by
        by_cases hlt : c < effs info i
        · obtain ⟨e, h1, h2, h3⟩ := effs_at hlt
          obtain ⟨oe, hoe⟩ : ∃ o', ops[e]? = some o' := ⟨_, Array.getElem?_eq_getElem (by omega)⟩
          rcases hpair e oe none h1 hoe h2 with h | ⟨_, m', h4, h5⟩
          · exact (hcle e h2 h1 h3 h).elim
          · rw [hinf'] at h4; injection h4 with h4; subst h4
            have := h5 rfl
            omega
        · have : m ≠ 0 := fun e => hinf0 (by rw [hinf', e])
          omega
      have hy := (hval c (by simp; omega) (by simp; omega)).agree (fr' := fr) hagr
      have hstep : ∀ (a' : Act) (w' : World), Sim J (stAt S' c).nx (fr.put o.dst x) (stAt S' c).hp a' w' → wpAnyIn J.F 0 J.P md ops (Kont J k) fuel (listed.setIfInBounds i true) a' w' := fun a' w' s' =>
        ih _ _ c a' w' hsz' hcl' hi' (fun e h1 => by
          rw [hArr, ← he e h1]
          have : e ≠ i := fun h => by subst h; rw [h1] at hm; cases hm
          rw [if_neg this]) hcn hcnt' s'
      unfold wpOpIn
      rw [ho]
      obtain ⟨ρ, s'⟩ := s
      obtain ⟨d, hd, hlt, hgd⟩ := hy.dst
      rw [hd] at hstep
      rcases hy.out with ⟨hw, hg⟩ | ⟨hw, rfl⟩
      · show if _ then _ else _
        rw [wanted_conc s' hw hgd, if_pos rfl]
        refine opIn hg.nd (hg.run s'.toSimH (fun y _ => ev_rel s' y) (fun y _ => ev_under s'.fnx y) fun v w' hb hxv => ?_)
        rw [hd]
        exact hstep _ _ ⟨ρ, (s'.later hb).put hlt hxv (hg.und s'.hbelow (fun y _ => ev_under s'.fnx y))⟩
      · show if _ then _ else _
        rw [wanted_conc s' hw hgd, if_neg (by simp), hd]
        exact ⟨fun _ _ => trivial, hstep _ _ ⟨ρ, s'.put (x := .lit undef) hlt rfl trivial⟩⟩
    · -- it writes
      have hinf' : inf = none := by rw [hinf] at hm; injection hm
      have c1 : c = effs info i := by
        rcases Nat.lt_trichotomy c (effs info i) with h | h | h
        · obtain ⟨e, h1, h2, h3⟩ := effs_at h
          obtain ⟨oe, hoe⟩ : ∃ o', ops[e]? = some o' := ⟨_, Array.getElem?_eq_getElem (by omega)⟩
          rcases hpair e oe none h1 hoe h2 with h | ⟨_, m', h4, _⟩
          · exact (hcle e h2 h1 h3 h).elim
          · rw [hinf'] at h4; cases h4
        · exact h
        · have := (he i hm).2 h
          rw [this] at hun'; cases hun'
      have e1 : [s0].length + effs info i - 1 = c := by simp; omega
      have e2 : [s0].length + effs info i = c + 1 := by simp; omega
      rw [e1, e2] at heff
      refine wpList_one ho (heff fr hagr (.again (wpAnyIn J.F 0 J.P md ops (Kont J k) fuel (listed.setIfInBounds i true)) :: k) (fun a' w' s' => ?_) a w s)
      refine ih _ _ (c + 1) a' w' hsz' hcl' hi' (fun e h1 => ?_) ?_ hcnt' s'
      · rw [hArr]
        by_cases c2 : e = i
        · subst c2; rw [if_pos rfl]; exact ⟨fun _ => by omega, fun _ => rfl⟩
        · rw [if_neg c2, he e h1]
          constructor
          · intro h; omega
          · intro h
            have : effs info e ≠ effs info i := fun hq => by
              rcases Nat.lt_or_gt_of_ne c2 with h' | h'
              · have := effs_le (info := info) (show e + 1 ≤ i by omega)
                rw [effs_succ h1] at this; simp at this; omega
              · have := effs_le (info := info) (show i + 1 ≤ e by omega)
                rw [effs_succ hm] at this; simp at this; omega
            omega
      · have := effs_le (info := info) (show i + 1 ≤ ops.size by omega)
        rw [effs_succ hm] at this; simp at this; omega

/-- The walk, and what is to be done behind it. -/
def XK (J : Job) (ops : Array Oper) (k : List It) (info : List (Option Nat)) (l : List Oper) (S : List XS) (fr : Fr) : Prop := ∃ xs fs s S' fr', XRun J ops info l S fr xs fs (s :: S') fr' ∧ AW J s.nx fr' s.hp k
theorem aw_drawx {nx : Nat} {fr : Fr} {hp : Hp} {k : List It} {id : Nat} {l : List Oper} (info : List (Option Nat)) (hm : J.P.follows .mixedOrders = true) (hB : checkX .any l.toArray info = true) (h : XK J l.toArray k info l [⟨nx, hp⟩] fr) :
    AW J nx fr hp (.code (.region id l.toArray true) :: k) := by
  obtain ⟨xs, fs, s1, S', fr', hr, hQ⟩ := h
  intro a w ⟨ρ, s⟩
  have s' : SimR J nx ρ fr hp a { w with drawn := w.drawn + 1 } := s.later ⟨⟨rfl, rfl, rfl, Nat.le_refl _, fun _ _ => rfl⟩, Nat.le_succ _⟩
  refine wpIn_region_any hm ?_
  obtain ⟨T, hT, hTl⟩ := hr.suffix
  have e0 : stAt (s1 :: S') 0 = ⟨nx, hp⟩ := by rw [hT, stAt_suffix T _ 0 (by simp)]; rfl
  have e1 : stAt (s1 :: S') (effs info info.length) = s1 := by
    have : S'.length = effs info info.length := by
      have := congrArg List.length hT
      simp at this; omega
    rw [← this]; exact stAt_head s1 S'
  have h0 : ∀ i, Arr (Array.replicate l.toArray.size false) i = false := fun i => by
    unfold Arr; simp [Array.getD]
  refine any_conc2 hB (s0 := ⟨nx, hp⟩) hr (by rw [e1]; exact hQ) _ _ fr 0 a _ (by simp) (fun i o _ hi => by rw [h0] at hi; cases hi) (fun t => .inr ⟨fun k hk => absurd (show Arr _ k = true from hk) (by rw [h0]; simp), rfl⟩) (fun e _ => by rw [h0]; simp) (Nat.zero_le _) ?_ (by rw [e0]; exact ⟨ρ, s'⟩)
  have : ∀ (L : Nat → Bool) n, cntU L n ≤ n := fun L n => by
    induction n with
    | zero => exact Nat.le_refl _
    | succ n ih => unfold cntU; split <;> omega
  exact this _ _

section
variable {k : List It} {info : List (Option Nat)} {o : Oper} {rest : List Oper} {S : List XS} {fr : Fr} {x : AV}
theorem XK.nil {s : XS} (h : AW J s.nx fr s.hp k) : XK J ops k [] [] (s :: S) fr := ⟨[], [], s, S, fr, .nil, h⟩
theorem XK.nil' {nx : Nat} {hp : Hp} (h : AW J nx fr hp k) : XK J ops k [] [] (⟨nx, hp⟩ :: S) fr := XK.nil h
theorem XK.y {m : Nat} (h : ∀ s ∈ S.take m, YieldA J s.hp ops o x fr) (H : XK J ops k info rest S (fr.put o.dst x)) : XK J ops k (some m :: info) (o :: rest) S fr :=
  let ⟨_, _, _, _, _, h1, h2⟩ := H; ⟨_, _, _, _, _, .g h h1, h2⟩
theorem yield_g {hp : Hp} {d : Nat} (h : OpG J o fr hp x) (hd : o.dst = some d) (hg : o.guard = none) (hlt : Nat.blt d J.nt = true) : YieldA J hp ops o x fr :=
  ⟨⟨d, hd, by simpa using hlt, fun b j t oj e => by rw [hg] at e; cases e⟩, .inl ⟨by unfold wantedA; rw [hg], h⟩⟩
theorem XK.g {s : XS} {d : Nat} (h : OpG J o fr s.hp x) (hd : o.dst = some d) (hg : o.guard = none) (hlt : Nat.blt d J.nt = true) (H : XK J ops k info rest (s :: S) (fr.set d x)) : XK J ops k (some 1 :: info) (o :: rest) (s :: S) fr :=
  XK.y (x := x) (fun s' hs => by simp at hs; subst hs; exact yield_g h hd hg hlt) (by rw [hd]; exact H)
theorem XK.g2 {s s2 : XS} {d : Nat} (h : OpG J o fr s.hp x) (h' : OpG J o fr s2.hp x) (hd : o.dst = some d) (hg : o.guard = none) (hlt : Nat.blt d J.nt = true) (H : XK J ops k info rest (s :: s2 :: S) (fr.set d x)) : XK J ops k (some 2 :: info) (o :: rest) (s :: s2 :: S) fr :=
  XK.y (x := x) (fun s' hs => by simp at hs; rcases hs with hs | hs <;> subst hs <;> first | exact yield_g h hd hg hlt | exact yield_g h' hd hg hlt) (by rw [hd]; exact H)
theorem XK.e {s : XS} {nx' : Nat} {hp' : Hp} (h : EffA J ops s.nx s.hp nx' hp' o x fr) (H : XK J ops k info rest (⟨nx', hp'⟩ :: s :: S) (fr.put o.dst x)) : XK J ops k (none :: info) (o :: rest) (s :: S) fr :=
  let ⟨_, _, _, _, _, h1, h2⟩ := H; ⟨_, _, _, _, _, .e h h1, h2⟩
end
end
end Go.Ab
