/- Another name for a piece of memory: so that a loop's rounds end with the names that they began with. -/
import Derived.Test.YtmfgemnmelbflaaArr
namespace Go.Ab
set_option linter.unusedVariables false
set_option linter.unusedSimpArgs false
open Go.RowKit

def swp (m n i : Nat) (f : Nat → AV) : AV := bif Nat.beq i m then f n else bif Nat.beq i n then .idk else f i
def AV.ren (m n : Nat) : AV → AV
  | .own i => swp m n i fun j => .own j
  | .ptr i off => swp m n i fun j => .ptr j off
  | .eptr i a b c => swp m n i fun j => .eptr j a b c
  | .vw i a b => swp m n i fun j => .vw j a b
  | .osub i a b c => swp m n i fun j => .osub j a b c
  | .clo f caps => bif caps.all (fun i => !(Nat.beq i m) && !(Nat.beq i n)) then .clo f caps else .idk
  | .tup2 a b => .tup2 (a.ren m n) (b.ren m n)
  | .tup3 a b c => .tup3 (a.ren m n) (b.ren m n) (c.ren m n)
  | x => x
def Fr.ren (m n : Nat) (f : Fr) : Fr := fun t => (f t).ren m n
def HE.ren (m n : Nat) : HE → HE
  | .parts ty xs => .parts ty (xs.map (AV.ren m n))
  | x => x
def Hp.ren (m n : Nat) (f : Hp) : Hp := fun t => (f t).ren m n
theorem HE.ren_live {m n : Nat} : ∀ {x : HE}, (x.ren m n).live ↔ x.live
  | .none_ => Iff.rfl
  | .box .. => Iff.rfl
  | .row .. => Iff.rfl
  | .parts .. => Iff.rfl
  | .objAt .. => Iff.rfl

section
variable {J : Job} {nx : Nat} {ρ : Nat → Value} {fr : Fr} {hp : Hp} {a : Act} {w w' : World} {k : List It}

theorem swp_rel {ρ ρ' : Nat → Value} {B U N : Nat → Prop} {m n i : Nat} {f : Nat → AV} {v : Value} (hf : ∀ i j, ρ' j = ρ i → (f i).rel ρ B U N w v → (f j).rel ρ' B U N w v) (hn : ρ' n = ρ m) (hi : ∀ i, i ≠ n → ρ' i = ρ i) (h : (f i).rel ρ B U N w v) : (swp m n i f).rel ρ' B U N w v := by
  unfold swp
  rw [beq_set (γ := AV) i m]
  by_cases c : i = m
  · rw [if_pos c]; subst c; exact hf _ _ hn h
  · rw [if_neg c, beq_set (γ := AV) i n]
    by_cases c' : i = n
    · rw [if_pos c']; trivial
    · rw [if_neg c']; exact hf _ _ (hi i c') h

theorem AV.rel_swp {ρ ρ' : Nat → Value} {B U N : Nat → Prop} {m n : Nat} (hn : ρ' n = ρ m) (hi : ∀ i, i ≠ n → ρ' i = ρ i) : ∀ {x : AV} {v : Value}, x.rel ρ B U N w v → (x.ren m n).rel ρ' B U N w v
  | .idk, _, _ => trivial
  | .lit _, _, h => h
  | .val .., _, h => h
  | .rptr .., _, h => h
  | .fresh .., _, h => h
  | .fn1 .., _, h => h
  | .fn2 .., _, h => h
  | .own i, _, h => swp_rel (f := fun j => .own j) (fun i j e (h : _ = _) => show _ = _ from h.trans e.symm) hn hi h
  | .ptr i off, _, h => swp_rel (f := fun j => .ptr j off) (fun i j e h => by obtain ⟨g, e1, e2⟩ := h; exact ⟨g, e.trans e1, e2⟩) hn hi h
  | .eptr i a b c, _, h => swp_rel (f := fun j => .eptr j a b c) (fun i j e h => by obtain ⟨g, l, cp, e1, e2⟩ := h; exact ⟨g, l, cp, e.trans e1, e2⟩) hn hi h
  | .vw i a b, _, h => swp_rel (f := fun j => .vw j a b) (fun i j e h => by obtain ⟨g, cp, e1, e2⟩ := h; exact ⟨g, cp, e.trans e1, e2⟩) hn hi h
  | .osub i a b c, _, h => swp_rel (f := fun j => .osub j a b c) (fun i j e h => by obtain ⟨g, l, cp, e1, e2⟩ := h; exact ⟨g, l, cp, e.trans e1, e2⟩) hn hi h
  | .clo f caps, v, h => by
    show (AV.rel ρ' B U N w (bif caps.all (fun i => !(Nat.beq i m) && !(Nat.beq i n)) then .clo f caps else .idk) v)
    cases hc : caps.all (fun i => !(Nat.beq i m) && !(Nat.beq i n)) with
    | false => trivial
    | true =>
      have e : caps.map ρ' = caps.map ρ := List.map_congr_left fun c hm => hi c (fun e => by
        have := List.all_eq_true.1 hc c hm
        rw [e] at this; simp at this)
      show v = .func (.func f) #[] (caps.map ρ').toArray
      rw [e]; exact h
  | .tup2 a b, _, ⟨x, y, e, h1, h2⟩ => ⟨x, y, e, AV.rel_swp hn hi h1, AV.rel_swp hn hi h2⟩
  | .tup3 a b c, _, ⟨x, y, z, e, h1, h2, h3⟩ => ⟨x, y, z, e, AV.rel_swp hn hi h1, AV.rel_swp hn hi h2, AV.rel_swp hn hi h3⟩

theorem swp_under {nx' m n i : Nat} {f : Nat → AV} (hf : ∀ j, j < nx' → (f j).under nx') (hn : n < nx') (hi : i < nx') : (swp m n i f).under nx' := by
  unfold swp
  rw [beq_set (γ := AV) i m]
  by_cases c : i = m
  · rw [if_pos c]; exact hf _ hn
  · rw [if_neg c, beq_set (γ := AV) i n]
    by_cases c' : i = n
    · rw [if_pos c']; trivial
    · rw [if_neg c']; exact hf _ hi
theorem AV.ren_under {nx' m n : Nat} (hn : n < nx') : ∀ {x : AV}, x.under nx' → (x.ren m n).under nx'
  | .idk, _ => trivial
  | .lit _, _ => trivial
  | .val .., _ => trivial
  | .rptr .., _ => trivial
  | .fresh .., h => h.elim
  | .fn1 .., _ => trivial
  | .fn2 .., _ => trivial
  | .own i, h => swp_under (f := fun j => .own j) (fun _ h => h) hn h
  | .ptr i off, h => swp_under (f := fun j => .ptr j off) (fun _ h => h) hn h
  | .eptr i a b c, h => swp_under (f := fun j => .eptr j a b c) (fun _ h => h) hn h
  | .vw i a b, h => swp_under (f := fun j => .vw j a b) (fun _ h => h) hn h
  | .osub i a b c, h => swp_under (f := fun j => .osub j a b c) (fun _ h => h) hn h
  | .clo f caps, h => by
    show (AV.under nx' (bif caps.all (fun i => !(Nat.beq i m) && !(Nat.beq i n)) then .clo f caps else .idk))
    cases caps.all (fun i => !(Nat.beq i m) && !(Nat.beq i n)) with
    | false => trivial
    | true => exact h
  | .tup2 a b, h => ⟨AV.ren_under hn h.1, AV.ren_under hn h.2⟩
  | .tup3 a b c, h => ⟨AV.ren_under hn h.1, AV.ren_under hn h.2.1, AV.ren_under hn h.2.2⟩

theorem swp_cells {m n i : Nat} {f : Nat → AV} (hf : ∀ j, (f j).cells = 1) : (swp m n i f).cells = 1 := by
  unfold swp
  rw [beq_set (γ := AV) i m]
  by_cases c : i = m
  · rw [if_pos c]; exact hf _
  · rw [if_neg c, beq_set (γ := AV) i n]
    by_cases c' : i = n
    · rw [if_pos c']; rfl
    · rw [if_neg c']; exact hf _
theorem AV.ren_cells {m n : Nat} : ∀ {x : AV}, (x.ren m n).cells = x.cells
  | .idk => rfl
  | .lit _ => rfl
  | .val .. => rfl
  | .rptr .. => rfl
  | .fresh .. => rfl
  | .fn1 .. => rfl
  | .fn2 .. => rfl
  | .own i => swp_cells (f := fun j => .own j) fun _ => rfl
  | .ptr i off => swp_cells (f := fun j => .ptr j off) fun _ => rfl
  | .eptr i a b c => swp_cells (f := fun j => .eptr j a b c) fun _ => rfl
  | .vw i a b => swp_cells (f := fun j => .vw j a b) fun _ => rfl
  | .osub i a b c => swp_cells (f := fun j => .osub j a b c) fun _ => rfl
  | .clo f caps => by
    show (AV.cells (bif caps.all (fun i => !(Nat.beq i m) && !(Nat.beq i n)) then .clo f caps else .idk)) = 1
    cases caps.all (fun i => !(Nat.beq i m) && !(Nat.beq i n)) <;> rfl
  | .tup2 .. => rfl
  | .tup3 .. => rfl
theorem AV.relL_swp {ρ ρ' : Nat → Value} {B U N : Nat → Prop} {m n : Nat} (hn : ρ' n = ρ m) (hi : ∀ i, i ≠ n → ρ' i = ρ i) : ∀ {xs : List AV} {vs : List Value}, AV.relL ρ B U N w xs vs → AV.relL ρ' B U N w (xs.map (AV.ren m n)) vs
  | [], _, h => h
  | x :: xs, _, ⟨v, us, e, h1, h2, h3, h4⟩ => ⟨v, us, e, AV.rel_swp hn hi h1, h2.trans AV.ren_cells.symm, h3, AV.relL_swp hn hi h4⟩
theorem HE.rel_swp {ρ ρ' : Nat → Value} {B U N : Nat → Prop} {m n : Nat} {p : Value} (hn : ρ' n = ρ m) (hi : ∀ i, i ≠ n → ρ' i = ρ i) : ∀ {x : HE}, x.rel ρ B U N w p → (x.ren m n).rel ρ' B U N w p
  | .none_, _ => trivial
  | .box .., h => h
  | .row .., h => h
  | .objAt .., h => h
  | .parts .., ⟨g, vs, e, hg, hr⟩ => ⟨g, vs, e, hg, AV.relL_swp hn hi hr⟩
theorem HE.ren_under {nx' m n : Nat} (hn : n < nx') : ∀ {x : HE}, x.under nx' → (x.ren m n).under nx'
  | .none_, _ => trivial
  | .box .., _ => trivial
  | .row .., _ => trivial
  | .objAt .., _ => trivial
  | .parts ty xs, h => fun x hx => by
    obtain ⟨y, hy, rfl⟩ := List.mem_map.1 hx
    exact AV.ren_under hn (h y hy)

/-- A piece of the call's own is forgotten. -/
theorem aw_drop (n : Nat) (H : AW J nx fr (hp.set n .none_) k) : AW J nx fr hp k := fun a w ⟨ρ, s⟩ => H a w ⟨ρ, s.drop n⟩
/-- A slice of nothing, as a row of the call's own. -/
theorem aw_nilrow {α : Type} {T : GoT α} {d : Nat} (e : Nat) (hs : fr d = .lit (.slice none 0 0)) (H : AW J (nx + 1) (fr.set d (.own nx)) (hp.set nx (.row e T [])) k) : AW J nx fr hp k := fun a w ⟨ρ, h⟩ => by
  have hv := h.frel d
  rw [hs] at hv
  have s2 := h.bind (p := .slice none 0 0) (x := .row e T []) (Below.refl _ _) (fun b hb => by cases hb) fun kp => ⟨[], World.ownsRow_nil w 0 e T.size, rfl⟩
  refine H _ _ ⟨_, { s2.toSimH with size := s2.size, defers := s2.defers, frel := fun t => ?_, fnx := fun t => ?_, brel := s2.brel }⟩
  · rw [fr_set_eq]
    by_cases c : t = d
    · rw [if_pos c, c]
      show _ = ren _ _ _ _
      rw [show ren ρ nx (Value.slice none 0 0) nx = Value.slice none 0 0 by unfold ren; simp]
      exact hv
    · rw [if_neg c]; exact s2.frel t
  · rw [fr_set_eq]
    by_cases c : t = d
    · rw [if_pos c]; exact Nat.lt_succ_self nx
    · rw [if_neg c]; exact s2.fnx t
/-- Name 'n' for what 'm' names. -/
theorem aw_ren (m n nx' : Nat) {x : HE} (h0 : hp n = .none_) (hm : hp m = x) (hne : Nat.beq m n = false) (hle : Nat.ble nx nx' = true) (hn : Nat.blt n nx' = true) (hk : Nat.ble (max J.kg J.bn) n = true) (H : AW J nx' (fr.ren m n) (Hp.ren m n ((hp.set m .none_).set n x)) k) : AW J nx fr hp k := fun a w ⟨ρ, s⟩ => by
  subst hm
  have hle : nx ≤ nx' := by simpa using hle
  have hn : n < nx' := by simpa using hn
  have hkb : max J.kg J.bn ≤ n := Nat.le_of_ble_eq_true hk
  have hk : J.kg ≤ n := by omega
  have hne : m ≠ n := fun e => by rw [e] at hne; simp at hne
  obtain ⟨ρ', hρ⟩ : ∃ ρ' : Nat → Value, ρ' = fun i => if i = n then ρ m else ρ i := ⟨_, rfl⟩
  have e1 : ρ' n = ρ m := by rw [hρ]; simp
  have e2 : ∀ i, i ≠ n → ρ' i = ρ i := fun i hi => by rw [hρ]; simp [hi]
  have hset : ∀ i, ((hp.set m .none_).set n (hp m)) i = if i = n then hp m else if i = m then .none_ else hp i := fun i => by rw [hp_set_eq, hp_set_eq]
  -- where a name comes from
  have hback : ∀ i, (((hp.set m .none_).set n (hp m)) i).live → ∃ j, (hp j).live ∧ ρ' i = ρ j ∧ ((i = n ∧ j = m) ∨ (i ≠ n ∧ i ≠ m ∧ j = i)) := fun i hl => by
    rw [hset] at hl
    by_cases c : i = n
    · rw [if_pos c] at hl; exact ⟨m, hl, by rw [c, e1], .inl ⟨c, rfl⟩⟩
    · rw [if_neg c] at hl
      by_cases c' : i = m
      · rw [if_pos c'] at hl; exact hl.elim
      · rw [if_neg c'] at hl; exact ⟨i, hl, e2 i c, .inr ⟨c, c', rfl⟩⟩
  have hN : ∀ b, Nn ρ' ((hp.set m .none_).set n (hp m)) b ↔ Nn ρ hp b := fun b => by
    constructor
    · rintro ⟨i, hl, hb⟩
      obtain ⟨j, h1, h2, _⟩ := hback i hl
      exact ⟨j, h1, by rw [← h2]; exact hb⟩
    · rintro ⟨i, hl, hb⟩
      by_cases c : i = m
      · exact ⟨n, by rw [hset, if_pos rfl, ← c]; exact hl, by rw [e1, ← c]; exact hb⟩
      · have hin : i ≠ n := fun e => by rw [e, h0] at hl; exact hl
        exact ⟨i, by rw [hset, if_neg hin, if_neg c]; exact hl, by rw [e2 i hin]; exact hb⟩
  have hNe : Nn ρ' (Hp.ren m n ((hp.set m .none_).set n (hp m))) = Nn ρ hp := funext fun b => propext (Iff.trans ⟨fun ⟨i, h1, h2⟩ => ⟨i, HE.ren_live.1 h1, h2⟩, fun ⟨i, h1, h2⟩ => ⟨i, HE.ren_live.2 h1, h2⟩⟩ (hN b))
  have hUe : Uu J ρ' (Hp.ren m n ((hp.set m .none_).set n (hp m))) = Uu J ρ hp := funext fun b => by unfold Uu; rw [hNe]
  refine H a w ⟨ρ', { kle := Nat.le_trans s.kle hle, ble := Nat.le_trans s.ble hle, brel := fun q hq t => ?_, named := fun i hi => (e2 i (by omega)).trans (s.named i hi), below := s.below, hrel := fun i => ?_, hun := fun i => ?_, hnx := fun i hi => ?_, new := fun i b hl hb => ?_, inj := fun i j b h1 h2 g1 g2 => ?_, size := s.size, defers := s.defers, frel := fun t => ?_, fnx := fun t => ?_ }⟩
  · rw [hUe, hNe]
    show ((((hp.set m .none_).set n (hp m)) i).ren m n).rel _ _ _ _ _ _
    refine HE.rel_swp e1 e2 ?_
    rw [hset]
    by_cases c : i = n
    · rw [if_pos c, c, e1]; exact s.hrel m
    · rw [if_neg c, e2 i c]
      by_cases c' : i = m
      · rw [if_pos c']; trivial
      · rw [if_neg c']; exact s.hrel i
  · refine HE.ren_under hn ?_
    rw [hset]
    by_cases c : i = n
    · rw [if_pos c]; exact HE.under_mono hle (s.hun m)
    · rw [if_neg c]
      by_cases c' : i = m
      · rw [if_pos c']; trivial
      · rw [if_neg c']; exact HE.under_mono hle (s.hun i)
  · show (((hp.set m .none_).set n (hp m)) i).ren m n = .none_
    rw [hset, if_neg (by omega)]
    split
    · rfl
    · rw [s.hnx i (by omega)]; rfl
  · obtain ⟨j, h1, h2, _⟩ := hback i (HE.ren_live.1 hl)
    exact s.new j b h1 (by rw [← h2]; exact hb)
  · obtain ⟨i', a1, a2, a3⟩ := hback i (HE.ren_live.1 h1)
    obtain ⟨j', b1, b2, b3⟩ := hback j (HE.ren_live.1 h2)
    have := s.inj i' j' b a1 b1 (by rw [← a2]; exact g1) (by rw [← b2]; exact g2)
    omega
  · rw [hUe, hNe]; exact AV.rel_swp e1 e2 (s.frel t)
  · exact AV.ren_under hn (AV.under_mono hle (s.fnx t))
  · rw [hUe, hNe]
    exact AV.rel_ren (nx := J.bn) (fun i hi => e2 i (by omega)) (J.bgb q hq t) (s.brel q hq t)
end
end Go.Ab
