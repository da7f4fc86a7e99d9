/- Regions that draw their order: where all operations are gentle, one walk in the text's order serves every order (after the library's own theorem on quiet operations, over what is known in the place of values). -/
import Derived.Test.YtmfgemnmelbflaaWr
import Derived.Still
namespace Go.Ab
set_option linter.unusedVariables false
set_option linter.unusedSimpArgs false
open Go.RowKit

section
variable {J : Job} {hp : Hp} {ops : Array Oper} {md : Region.Mode}

/-- Is an operation carried out? -/
def wantedA (ops : Array Oper) (o : Oper) (fr : Fr) (b : Bool) : Prop :=
  match o.guard with
  | none => b = true
  | some (j, want) => ∃ oj t, ops[j]? = some oj ∧ oj.dst = some t ∧ ((∃ c, fr t = .val boolT c ∧ b = (c == want)) ∨ (fr t = .lit undef ∧ b = false))

structure YieldA (J : Job) (hp : Hp) (ops : Array Oper) (o : Oper) (x : AV) (fr : Fr) : Prop where
  dst : ∃ d, o.dst = some d ∧ d < J.nt ∧ ∀ b j t oj, o.guard = some (j, b) → ops[j]? = some oj → oj.dst = some t → t < J.nt
  out : (wantedA ops o fr true ∧ OpG J o fr hp x) ∨ (wantedA ops o fr false ∧ x = .lit undef)

def Fr.put (fr : Fr) (d : Option Tmp) (x : AV) : Fr := match d with | .some d => fr.set d x | .none => fr

def qA (J : Job) (hp : Hp) (ops : Array Oper) (i : Nat) (K : Fr → Prop) (fr : Fr) : Prop :=
  match ops[i]? with
  | none => K fr
  | some o => ∃ x, YieldA J hp ops o x fr ∧ K (fr.put o.dst x)

def anyA (J : Job) (hp : Hp) (md : Region.Mode) (ops : Array Oper) (Q : Fr → Prop) : Nat → Array Bool → Fr → Prop
  | 0, listed, fr => Region.ready md ops listed = [] ∧ Q fr
  | fuel + 1, listed, fr => (Region.ready md ops listed = [] → Q fr) ∧ ∀ i ∈ Region.ready md ops listed, qA J hp ops i (anyA J hp md ops Q fuel (listed.setIfInBounds i true)) fr

theorem qA_mono {i : Nat} {fr : Fr} {K K' : Fr → Prop} (h : ∀ fr, K fr → K' fr) (hh : qA J hp ops i K fr) : qA J hp ops i K' fr := by
  unfold qA at *
  split
  · rename_i e; rw [e] at hh; exact h _ hh
  · rename_i o e; rw [e] at hh; obtain ⟨x, hy, hk⟩ := hh; exact ⟨x, hy, h _ hk⟩

theorem wanted_conc {nx : Nat} {ρ : Nat → Value} {fr : Fr} {a : Act} {w : World} {o : Oper} {b : Bool} (s : SimR J nx ρ fr hp a w) (h : wantedA ops o fr b) (hd : ∀ c j t oj, o.guard = some (j, c) → ops[j]? = some oj → oj.dst = some t → t < J.nt) :
    Region.wanted o (yielded ops a.tmps) = b := by
  unfold wantedA at h
  split at h
  · rename_i e; simp [Region.wanted, e, h]
  · rename_i j want e
    obtain ⟨oj, t, h1, h2, ⟨c, h3, rfl⟩ | ⟨h3, rfl⟩⟩ := h
    · exact wanted_of s e h1 h2 h3 (by simpa using hd want j t oj e h1 h2)
    · exact unwanted_of s e h1 h2 h3 (by simpa using hd want j t oj e h1 h2)

theorem any_conc {Q : Fr → Prop} {Q' : Exit → Act → World → Prop} {nx : Nat} (hQ : ∀ fr a w, Sim J nx fr hp a w → Q fr → Q' .normal a w) : ∀ (fuel : Nat) (listed : Array Bool) (fr : Fr) (a : Act) (w : World), Sim J nx fr hp a w →
    anyA J hp md ops Q fuel listed fr → wpAnyIn J.F 0 J.P md ops Q' fuel listed a w
  | 0, _, _, _, _, s, h => ⟨h.1, hQ _ _ _ s h.2⟩
  | fuel + 1, listed, fr, a, w, s, h => ⟨fun h0 => hQ _ _ _ s (h.1 h0), fun i hi => by
      have h1 := h.2 i hi
      unfold qA at h1
      unfold wpOpIn
      split
      · rename_i e; rw [e] at h1; exact any_conc hQ fuel _ fr a w s h1
      · rename_i o e
        rw [e] at h1
        obtain ⟨x, hy, hk⟩ := h1
        obtain ⟨ρ, s'⟩ := s
        obtain ⟨d, hd, hlt, hgd⟩ := hy.dst
        rw [hd] at hk
        rcases hy.out with ⟨hw, hg⟩ | ⟨hw, rfl⟩
        · rw [wanted_conc s' hw hgd, if_pos rfl]
          refine opIn hg.nd (hg.run s'.toSimH (fun y _ => ev_rel s' y) (fun y _ => ev_under s'.fnx y) fun v w' hb hx => ?_)
          rw [hd]
          exact any_conc hQ fuel _ _ _ _ ⟨ρ, (s'.later hb).put hlt hx (hg.und s'.hbelow (fun y _ => ev_under s'.fnx y))⟩ hk
        · rw [wanted_conc s' hw hgd, if_neg (by simp), hd]
          exact ⟨fun _ _ => trivial, any_conc hQ fuel _ _ _ _ ⟨ρ, s'.put (x := .lit undef) hlt rfl trivial⟩ hk⟩⟩

theorem ev_put {fr : Fr} {d : Option Tmp} {x : AV} {y : Operand} (h : ∀ e, d = some e → y ≠ .tmp e) : (fr.put d x).ev y = fr.ev y := by
  cases d with
  | none => rfl
  | some e =>
    cases y with
    | tmp t =>
      show (fr.set e x) t = fr t
      rw [fr_set_eq, if_neg (fun he => h e rfl (by rw [he]))]
    | _ => rfl

theorem put_comm {fr : Fr} {d e : Option Tmp} {x y : AV} (h : ∀ t, d = some t → e ≠ some t) : (fr.put d x).put e y = (fr.put e y).put d x := by
  cases d with
  | none => rfl
  | some d =>
    cases e with
    | none => rfl
    | some e =>
      have hne : d ≠ e := fun he => h d rfl (he ▸ rfl)
      funext t
      show (fr.set d x).set e y t = (fr.set e y).set d x t
      rw [fr_set_eq, fr_set_eq, fr_set_eq, fr_set_eq]
      by_cases h1 : t = e <;> by_cases h2 : t = d
      · exact absurd (h2.symm.trans h1) hne
      · rw [if_pos h1, if_neg h2, if_pos h1]
      · rw [if_neg h1, if_pos h2, if_pos h2]
      · rw [if_neg h1, if_neg h2, if_neg h2, if_neg h1]

theorem OpG.congr {o : Oper} {fr fr' : Fr} {x : AV} (h : OpG J o fr hp x) (he : ∀ y ∈ o.op.operands, fr'.ev y = fr.ev y) : OpG J o fr' hp x where
  run s hr hn _ _ hK := h.run s (fun y hy => by rw [← he y hy]; exact hr y hy) (fun y hy => by rw [← he y hy]; exact hn y hy) hK
  und hx hn := h.und hx (fun y hy => by rw [← he y hy]; exact hn y hy)
  nd := h.nd

/-- Slots that an operation does not look at make no difference to it. -/
theorem YieldA.congr {o : Oper} {x : AV} {fr : Fr} {d : Option Tmp} {z : AV} (hl : ∀ e, d = some e → e ∉ o.looksAt ops) (h : YieldA J hp ops o x fr) : YieldA J hp ops o x (fr.put d z) := by
  have he : ∀ y ∈ o.op.operands, (fr.put d z).ev y = fr.ev y := fun y hy => ev_put fun e hd hye => hl e hd (by
    subst hye
    exact List.mem_append_left _ (List.mem_filterMap.2 ⟨.tmp e, by simpa using hy, rfl⟩))
  have hw : ∀ b, wantedA ops o fr b → wantedA ops o (fr.put d z) b := fun b hb => by
    unfold wantedA at *
    split
    · rename_i e; rw [e] at hb; exact hb
    · rename_i j want e
      rw [e] at hb
      obtain ⟨oj, t, h1, h2, h3⟩ := hb
      refine ⟨oj, t, h1, h2, ?_⟩
      cases d with
      | none => exact h3
      | some d =>
        show (∃ c, (fr.set d z) t = _ ∧ _) ∨ ((fr.set d z) t = _ ∧ _)
        rw [fr_set_eq, if_neg (fun e' => hl d rfl ?_)]
        · exact h3
        · refine List.mem_append_right _ ?_
          rw [e]
          simp [h1, h2, e']
  exact ⟨h.dst, h.out.imp (fun ⟨a, b⟩ => ⟨hw _ a, b.congr he⟩) (fun ⟨a, b⟩ => ⟨hw _ a, b⟩)⟩

theorem YieldA.uncongr {o : Oper} {x : AV} {fr : Fr} {d : Option Tmp} {z : AV} (hl : ∀ e, d = some e → e ∉ o.looksAt ops) (h : YieldA J hp ops o x (fr.put d z)) : YieldA J hp ops o x fr := by
  cases d with
  | none => exact h
  | some d =>
    have e : (fr.put (some d) z).put (some d) (fr d) = fr := by
      funext t
      show ((fr.set d z).set d (fr d)) t = fr t
      rw [fr_set_eq, fr_set_eq]
      by_cases c : t = d
      · rw [if_pos c, c]
      · rw [if_neg c, if_neg c]
    have := h.congr (d := some d) (z := fr d) hl
    rwa [e] at this

theorem qA_put {j : Nat} {oi oj : Oper} {v : AV} (hj : ops[j]? = some oj) (hap : oi.apart ops oj = true) {K : Fr → Prop} {fr : Fr}
    (hy : YieldA J hp ops oi v fr) (h : qA J hp ops j K (fr.put oi.dst v)) : qA J hp ops j (fun fr' => YieldA J hp ops oi v fr' ∧ K (fr'.put oi.dst v)) fr := by
  obtain ⟨h1, h2, h3⟩ := Oper.apart_spec hap
  unfold qA at *
  rw [hj] at h ⊢
  obtain ⟨x, hx, hk⟩ := h
  exact ⟨x, hx.uncongr h1, hy.congr h3, by rw [← put_comm h2]; exact hk⟩

theorem anyA_first {Q : Fr → Prop} {i : Nat} {oi : Oper} {v : AV} (hi : ops[i]? = some oi) :
    ∀ (fuel : Nat) (listed : Array Bool) (fr : Fr),
      (∀ j oj, ops[j]? = some oj → j ≠ i → listed.getD j true = false → (∀ e ∈ oj.after, Region.binds md e = true → e.on ≠ i) → oi.apart ops oj = true) →
      i ∈ Region.ready md ops listed → YieldA J hp ops oi v fr → anyA J hp md ops Q fuel (listed.setIfInBounds i true) (fr.put oi.dst v) → anyA J hp md ops Q (fuel + 1) listed fr := by
  intro fuel
  induction fuel with
  | zero =>
    intro listed fr _ hr hy H
    refine ⟨fun h => (by rw [h] at hr; cases hr), fun j hj => ?_⟩
    by_cases hji : j = i
    · subst hji; unfold qA; rw [hi]; exact ⟨v, hy, H⟩
    · have := ready_mono hj hji
      rw [H.1] at this
      cases this
  | succ fuel ih =>
    intro listed fr hfree hr hy H
    refine ⟨fun h => (by rw [h] at hr; cases hr), fun j hj => ?_⟩
    by_cases hji : j = i
    · subst hji; unfold qA; rw [hi]; exact ⟨v, hy, H⟩
    · have h1 := H.2 j (ready_mono hj hji)
      obtain ⟨hjun, oj, hoj, hall⟩ := mem_ready.1 hj
      have hnot : ∀ e ∈ oj.after, Region.binds md e = true → e.on ≠ i := fun e he hb heq => by
        have h1 := hall e he hb
        have h0 := (mem_ready.1 hr).1
        rw [heq] at h1
        rcases Nat.lt_or_ge i listed.size with h' | h'
        · simp [h'] at h0 h1; rw [h0] at h1; cases h1
        · simp [Array.getElem?_eq_none h'] at h1
      have h2 := qA_put hoj (hfree j oj hoj hji hjun hnot) hy h1
      have hfree' : ∀ k ok, ops[k]? = some ok → k ≠ i → (listed.setIfInBounds j true).getD k true = false →
          (∀ e ∈ ok.after, Region.binds md e = true → e.on ≠ i) → oi.apart ops ok = true := fun k ok hk hki hun hno => by
        refine hfree k ok hk hki ?_ hno
        by_cases hjk : j = k
        · subst hjk; exact hjun
        · rw [getD_set_ne true hjk] at hun; exact hun
      refine qA_mono (fun fr' h3 => ih (listed.setIfInBounds j true) fr' hfree' (ready_mono hr (Ne.symm hji)) h3.1 ?_) h2
      rw [Array.setIfInBounds_comm _ _ hji]
      exact h3.2

/-- The walk in the text's order. -/
inductive GRun (J : Job) (hp : Hp) (ops : Array Oper) : List Oper → Fr → Fr → Prop
  | nil {fr} : GRun J hp ops [] fr fr
  | cons {o rest fr fr' x} (h : YieldA J hp ops o x fr) (H : GRun J hp ops rest (fr.put o.dst x) fr') : GRun J hp ops (o :: rest) fr fr'

theorem anyA_lex {Q : Fr → Prop} {fr' : Fr} (hQ : Q fr') : ∀ (l : List Oper) (k : Nat) (listed : Array Bool) (fr : Fr), (∀ j, l[j]? = ops[k + j]?) →
    Region.lexFrom md ops l.length k listed = true → GRun J hp ops l fr fr' → anyA J hp md ops Q l.length listed fr
  | [], _, _, _, _, hB, h => by cases h; exact ⟨by simpa [Region.lexFrom] using hB, hQ⟩
  | o :: l, k, listed, fr, hl, hB, h => by
    have h0 : ops[k]? = some o := by simpa using (hl 0).symm
    simp only [List.length_cons, Region.lexFrom, Bool.and_eq_true] at hB
    obtain ⟨⟨hr, hf⟩, hB'⟩ := hB
    cases h with
    | cons hy H =>
      exact anyA_first h0 l.length listed fr (Region.free_spec h0 hf) (by simpa using hr) hy
        (anyA_lex hQ l (k + 1) _ _ (fun j => by have := hl (j + 1); simpa [Nat.add_assoc, Nat.add_comm 1 j] using this) hB' H)

theorem aw_draw0 {nx : Nat} {fr fr' : Fr} {k : List It} {id : Nat} {l : List Oper} (hm : J.P.follows .mixedOrders = true) (hB : Region.lexB .any l.toArray = true) (h : GRun J hp l.toArray l fr fr') (H : AW J nx fr' hp k) :
    AW J nx fr hp (.code (.region id l.toArray true) :: k) := by
  intro a w ⟨ρ, s⟩
  simp only [Region.lexB, Bool.and_eq_true] at hB
  have s' : SimR J nx ρ fr hp a { w with drawn := w.drawn + 1 } := s.later ⟨⟨rfl, rfl, rfl, Nat.le_refl _, fun _ _ => rfl⟩, Nat.le_succ _⟩
  refine wpIn_region_any hm (any_conc (J := J) (hp := hp) (nx := nx) (Q := fun f => f = fr') (fun f a w s e => by subst e; exact H a w s) _ _ fr a _ ⟨ρ, s'⟩ ?_)
  have := anyA_lex (J := J) (hp := hp) (md := .any) (Q := fun f => f = fr') rfl l 0 (Array.replicate l.toArray.size false) fr (by simp) (by simpa using hB.2) h
  simpa using this

/-- The walk, and what is to be done behind it. -/
def GK (J : Job) (nx : Nat) (hp : Hp) (ops : Array Oper) (k : List It) (l : List Oper) (fr : Fr) : Prop := ∃ fr', GRun J hp ops l fr fr' ∧ AW J nx fr' hp k
theorem aw_draw {nx : Nat} {fr : Fr} {k : List It} {id : Nat} {l : List Oper} (hm : J.P.follows .mixedOrders = true) (hB : Region.lexB .any l.toArray = true) (h : GK J nx hp l.toArray k l fr) :
    AW J nx fr hp (.code (.region id l.toArray true) :: k) := let ⟨_, h1, h2⟩ := h; aw_draw0 hm hB h1 h2

/-! What a step of the walk wants. -/
theorem GRun.g {o : Oper} {rest : List Oper} {fr fr' : Fr} {x : AV} {d : Nat} (h : OpG J o fr hp x) (hd : o.dst = some d) (hg : o.guard = none) (hlt : Nat.blt d J.nt = true) (H : GRun J hp ops rest (fr.set d x) fr') : GRun J hp ops (o :: rest) fr fr' :=
  .cons (x := x) ⟨⟨d, hd, by simpa using hlt, fun b j t oj e => by rw [hg] at e; cases e⟩, .inl ⟨by unfold wantedA; rw [hg], h⟩⟩ (by rw [hd]; exact H)
theorem GRun.gi {o oj : Oper} {rest : List Oper} {fr fr' : Fr} {x : AV} {d j t : Nat} {b want : Bool} (h : OpG J o fr hp x) (hd : o.dst = some d) (hg : o.guard = some (j, want)) (ho : ops[j]? = some oj) (hj : oj.dst = some t) (hv : fr t = .val boolT b)
    (ht : Nat.blt t J.nt = true) (hw : b = want) (hlt : Nat.blt d J.nt = true) (H : GRun J hp ops rest (fr.set d x) fr') : GRun J hp ops (o :: rest) fr fr' :=
  .cons (x := x) ⟨⟨d, hd, by simpa using hlt, fun b' j' t' oj' e h1 h2 => by
    rw [hg] at e; cases e; rw [ho] at h1; cases h1; rw [hj] at h2; cases h2; simpa using ht⟩, .inl ⟨by unfold wantedA; rw [hg]; exact ⟨oj, t, ho, hj, .inl ⟨b, hv, by rw [hw]; cases want <;> rfl⟩⟩, h⟩⟩ (by rw [hd]; exact H)
theorem GRun.gn {o oj : Oper} {rest : List Oper} {fr fr' : Fr} {d j t : Nat} {b want : Bool} (hd : o.dst = some d) (hg : o.guard = some (j, want)) (ho : ops[j]? = some oj) (hj : oj.dst = some t) (hv : fr t = .val boolT b)
    (ht : Nat.blt t J.nt = true) (hw : (b == want) = false) (hlt : Nat.blt d J.nt = true) (H : GRun J hp ops rest (fr.set d (.lit undef)) fr') : GRun J hp ops (o :: rest) fr fr' :=
  .cons (x := .lit undef) ⟨⟨d, hd, by simpa using hlt, fun b' j' t' oj' e h1 h2 => by
    rw [hg] at e; cases e; rw [ho] at h1; cases h1; rw [hj] at h2; cases h2; simpa using ht⟩, .inr ⟨by unfold wantedA; rw [hg]; exact ⟨oj, t, ho, hj, .inl ⟨b, hv, hw.symm⟩⟩, rfl⟩⟩ (by rw [hd]; exact H)
theorem GRun.gu {o oj : Oper} {rest : List Oper} {fr fr' : Fr} {d j t : Nat} {want : Bool} (hd : o.dst = some d) (hg : o.guard = some (j, want)) (ho : ops[j]? = some oj) (hj : oj.dst = some t) (hv : fr t = .lit undef)
    (ht : Nat.blt t J.nt = true) (hlt : Nat.blt d J.nt = true) (H : GRun J hp ops rest (fr.set d (.lit undef)) fr') : GRun J hp ops (o :: rest) fr fr' :=
  .cons (x := .lit undef) ⟨⟨d, hd, by simpa using hlt, fun b' j' t' oj' e h1 h2 => by
    rw [hg] at e; cases e; rw [ho] at h1; cases h1; rw [hj] at h2; cases h2; simpa using ht⟩, .inr ⟨by unfold wantedA; rw [hg]; exact ⟨oj, t, ho, hj, .inr ⟨hv, rfl⟩⟩, rfl⟩⟩ (by rw [hd]; exact H)
theorem GK.gu {nx : Nat} {k : List It} {o oj : Oper} {rest : List Oper} {fr : Fr} {d j t : Nat} {want : Bool} (hd : o.dst = some d) (hg : o.guard = some (j, want)) (ho : ops[j]? = some oj) (hj : oj.dst = some t) (hv : fr t = .lit undef)
    (ht : Nat.blt t J.nt = true) (hlt : Nat.blt d J.nt = true) (H : GK J nx hp ops k rest (fr.set d (.lit undef))) : GK J nx hp ops k (o :: rest) fr :=
  let ⟨f, h1, h2⟩ := H; ⟨f, GRun.gu hd hg ho hj hv ht hlt h1, h2⟩
theorem GK.nil {nx : Nat} {k : List It} {fr : Fr} (h : AW J nx fr hp k) : GK J nx hp ops k [] fr := ⟨fr, .nil, h⟩
theorem GK.g {nx : Nat} {k : List It} {o : Oper} {rest : List Oper} {fr : Fr} {x : AV} {d : Nat} (h : OpG J o fr hp x) (hd : o.dst = some d) (hg : o.guard = none) (hlt : Nat.blt d J.nt = true) (H : GK J nx hp ops k rest (fr.set d x)) : GK J nx hp ops k (o :: rest) fr :=
  let ⟨f, h1, h2⟩ := H; ⟨f, GRun.g h hd hg hlt h1, h2⟩
theorem GK.gi {nx : Nat} {k : List It} {o oj : Oper} {rest : List Oper} {fr : Fr} {x : AV} {d j t : Nat} {b want : Bool} (h : OpG J o fr hp x) (hd : o.dst = some d) (hg : o.guard = some (j, want)) (ho : ops[j]? = some oj) (hj : oj.dst = some t) (hv : fr t = .val boolT b)
    (ht : Nat.blt t J.nt = true) (hw : b = want) (hlt : Nat.blt d J.nt = true) (H : GK J nx hp ops k rest (fr.set d x)) : GK J nx hp ops k (o :: rest) fr :=
  let ⟨f, h1, h2⟩ := H; ⟨f, GRun.gi h hd hg ho hj hv ht hw hlt h1, h2⟩
theorem GK.gn {nx : Nat} {k : List It} {o oj : Oper} {rest : List Oper} {fr : Fr} {d j t : Nat} {b want : Bool} (hd : o.dst = some d) (hg : o.guard = some (j, want)) (ho : ops[j]? = some oj) (hj : oj.dst = some t) (hv : fr t = .val boolT b)
    (ht : Nat.blt t J.nt = true) (hw : (b == want) = false) (hlt : Nat.blt d J.nt = true) (H : GK J nx hp ops k rest (fr.set d (.lit undef))) : GK J nx hp ops k (o :: rest) fr :=
  let ⟨f, h1, h2⟩ := H; ⟨f, GRun.gn hd hg ho hj hv ht hw hlt h1, h2⟩
end
end Go.Ab
