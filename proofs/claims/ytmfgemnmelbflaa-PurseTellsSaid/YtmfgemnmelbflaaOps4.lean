/- Slices of the call's own: appended to, made, read, written; calls that answer with new memory. -/
import Derived.Test.YtmfgemnmelbflaaOps3
import Derived.Lib.SliceRun
namespace Go.Ab
set_option linter.unusedVariables false
set_option linter.unusedSimpArgs false
open Go.RowKit

section
variable {J : Job} {nx : Nat} {ρ : Nat → Value} {fr : Fr} {hp : Hp} {a : Act} {w w' : World} {k : List It} {ops : Array Oper} {rest : List Oper} {o : Oper}
variable {α β γ : Type} {T : GoT α} {S : GoT β} {get : α → β} {set : α → β → α}

theorem append_where {P : Program} {t ty e : TypeId} {i : TypeInfo} {z : Value} (ht : P.underlying t = some (.slice e)) (hi : P.info? e = some i) (hz : i.zero = some z) (hzs : z.cells.size = i.size) (hsz : 0 < i.size)
    {v : Value} {n : Nat} {xs : List Value} (hown : w.ownsRow 0 e i.size v n xs) {a : Addr} {m c : Nat} {news : List Value} (hl : news.length = m * i.size) (hnews : ∀ j u, news[j]? = some u → w.cell? (a.add j) = some u) (h1 : ∀ u ∈ news, u.oneCell' = true)
    (h63 : n + m ≤ maxLen) (hbytes : (n + m) * i.bytes ≤ 140737488355328) :
    ∃ v' w', (Builtin.append_ #[t, t] ty #[v, .slice (some a) m c]).run P w = .ok v' w' ∧ w'.ownsRow 0 e i.size v' (n + m) (xs ++ news) ∧ w.grownBy w' (blkOf v) ∧ ∀ b, blkOf v' = some b → blkOf v = some b ∨ (w.heap.size ≤ b ∧ b < w'.heap.size) := by
  have hblk : v.ownBlock = blkOf v := by
    rcases hown.2 with ⟨rfl, _⟩ | ⟨g, cap, cur, rfl, _⟩ <;> rfl
  obtain ⟨v', w', hr, h2, h3, h4⟩ := run_append_own (P := P) w 0 t ty e i z i.size i.bytes ht hi hz rfl rfl hzs hsz v n xs hown a m c news hl hnews h1 h63 hbytes (Nat.zero_le _)
  refine ⟨v', w', hr, h2, hblk ▸ h3, fun b hb => ?_⟩
  have hsmall : n + m ≤ 9223372036854775807 := by simp only [maxLen] at h63; omega
  rcases hown.2 with ⟨rfl, rfl⟩ | ⟨g, cap, cur, rfl, hbg, hg, hnc, hcm, hcs, htake⟩
  · by_cases hm : m = 0
    · have := h4.2 ⟨rfl, hm⟩
      rw [this] at hb; cases hb
    · have hr' := run_append_nil (P := P) w t ty e i z ht hi hz a m c news hl hnews (by omega) (by omega) (by have hb := hbytes; simp only [Nat.zero_add] at hb; omega)
      rw [hr'] at hr
      injection hr with e1 e2
      rw [← e1] at hb
      simp only [blkOf, Option.some.injEq] at hb
      rw [← e2]
      exact .inr ⟨by omega, by simp; omega⟩
  · by_cases hroom : n + m ≤ cap
    · have hfit : n * i.size + news.length ≤ cur.size := by rw [hl, hcs, ← Nat.add_mul]; exact Nat.mul_le_mul_right _ hroom
      have hr' := run_append_room (P := P) w t ty e i ht hi g n cap cur hg a m c news hl hnews h1 hroom hfit
      rw [hr'] at hr
      injection hr with e1 e2
      rw [← e1] at hb
      exact .inl hb
    · have holds : ∀ j u, xs[j]? = some u → w.cell? ((⟨g, 0, none⟩ : Addr).add j) = some u := hown.cells (g := g) rfl
      have hr' := run_append_grow (P := P) w t ty e i z ht hi hz ⟨g, 0, none⟩ n cap xs hown.1 holds a m c news hl hnews (by omega) (by omega) (growslice_fits (by omega) hbytes)
      rw [hr'] at hr
      injection hr with e1 e2
      rw [← e1] at hb
      simp only [blkOf, Option.some.injEq] at hb
      rw [← e2]
      exact .inr ⟨by omega, by simp; omega⟩

theorem run_append_nosrc {P : Program} {t ty e : TypeId} {i : TypeInfo} (ht : P.underlying t = some (.slice e)) (hi : P.info? e = some i) {v : Value} {n c : Nat} {xs : List Value} (hown : w.ownsRow 0 e i.size v n xs) :
    (Builtin.append_ #[t, t] ty #[v, .slice none 0 c]).run P w = .ok v w := by
  rcases hown.2 with ⟨rfl, rfl⟩ | ⟨g, cap, cur, rfl, hbg, hg, hnc, hcm, hcs, htake⟩
  · simp [Builtin.append_, run_underlying ht, sizeOf, typeInfo, hi, Builtin.lenOf, Builtin.firstCells]
  · simp [Builtin.append_, run_underlying ht, sizeOf, typeInfo, hi, Builtin.lenOf, Builtin.firstCells, hnc, storeCells]

/-- A slice of the call's own becomes another one: the elder name is void. -/
theorem SimR.move (h : SimR J nx ρ fr hp a w) {n e : Nat} {l l' : List α} {p : Value} (hn : hp n = .row e T l) (hg : w.grownBy w' (blkOf (ρ n))) (hdr : w.drawn ≤ w'.drawn) (hb : ∀ b, blkOf p = some b → blkOf (ρ n) = some b ∨ (w.heap.size ≤ b ∧ b < w'.heap.size))
    (hx : Keeps (Uu J ρ hp) (Nn ρ hp) w (Uu J (ren ρ nx p) ((hp.set n .none_).set nx (.row e T l'))) (Nn (ren ρ nx p) ((hp.set n .none_).set nx (.row e T l'))) w' → (HE.row e T l').rel (ren ρ nx p) J.B (Uu J (ren ρ nx p) ((hp.set n .none_).set nx (.row e T l'))) (Nn (ren ρ nx p) ((hp.set n .none_).set nx (.row e T l'))) w' p) :
    SimR J (nx + 1) (ren ρ nx p) fr ((hp.set n .none_).set nx (.row e T l')) a w' := by
  have hnlt : n < nx := Nat.lt_of_not_le fun hle => by
    have := h.hnx n hle
    rw [hn] at this; cases this
  have hlive : (hp n).live := by rw [hn]; trivial
  -- what a name of the new heap was
  have hold : ∀ m, m ≠ nx → (((hp.set n .none_).set nx (.row e T l')) m).live → (hp m).live ∧ m ≠ n := fun m hm hl => by
    rw [hp_set_eq, if_neg hm, hp_set_eq] at hl
    by_cases c : m = n
    · rw [if_pos c] at hl; exact hl.elim
    · rw [if_neg c] at hl; exact ⟨hl, c⟩
  have hren : ∀ m, m ≠ nx → ren ρ nx p m = ρ m := fun m hm => by unfold ren; rw [if_neg hm]
  have hrenx : ren ρ nx p nx = p := by unfold ren; rw [if_pos rfl]
  have hN : ∀ b, b < w.heap.size → Nn (ren ρ nx p) ((hp.set n .none_).set nx (.row e T l')) b → Nn ρ hp b := fun b hlt ⟨m, hl, hb'⟩ => by
    by_cases c : m = nx
    · rw [c, hrenx] at hb'
      rcases hb b hb' with h1 | h1
      · exact ⟨n, hlive, h1⟩
      · omega
    · rw [hren m c] at hb'
      exact ⟨m, (hold m c hl).1, hb'⟩
  have kp : Keeps (Uu J ρ hp) (Nn ρ hp) w (Uu J (ren ρ nx p) ((hp.set n .none_).set nx (.row e T l'))) (Nn (ren ρ nx p) ((hp.set n .none_).set nx (.row e T l'))) w' :=
    ⟨h.sub, hg.size, fun b hlt hb' => hg.block b hlt (fun e => hb' ⟨n, hlive, e.symm⟩), fun b hlt hu => hu.imp id (hN b hlt), hN⟩
  exact
  { kle := by have := h.kle; omega
    ble := by have := h.ble; omega
    named := fun m hm => by rw [hren m (by have := h.kle; omega)]; exact h.named m hm
    below := ⟨hg.os.trans h.below.os, hg.tape.trans h.below.tape, hg.output.trans h.below.output, Nat.le_trans h.below.size hg.size, fun b hlt hgr =>
      (hg.block b (Nat.lt_of_lt_of_le hlt h.below.size) (fun e => ((h.new n b hlive e.symm).1).elim (fun h1 => absurd hlt (by omega)) hgr)).trans (h.below.block b hlt hgr), Nat.le_trans h.below.drawn hdr⟩
    hrel := fun m => by
      by_cases c : m = nx
      · rw [c, hp_set_eq, if_pos rfl, hrenx]; exact hx kp
      · rw [hp_set_eq, if_neg c, hren m c, hp_set_eq]
        by_cases c' : m = n
        · rw [if_pos c']; trivial
        · rw [if_neg c']
          exact HE.rel_ren (nx := nx) (fun i hi => hren i (by omega)) (h.hun m) (HE.rel_mono kp (h.hun m) (fun hl g hg' => hg.block g (h.new m g hl hg').2 (fun e => c' (h.inj m n g hl hlive hg' e.symm))) (h.hrel m))
    hun := fun m => by
      rw [hp_set_eq]
      by_cases c : m = nx
      · rw [if_pos c]; trivial
      · rw [if_neg c, hp_set_eq]
        by_cases c' : m = n
        · rw [if_pos c']; trivial
        · rw [if_neg c']; exact HE.under_mono (Nat.le_succ nx) (h.hun m)
    hnx := fun m hm => by
      rw [hp_set_eq, if_neg (by omega), hp_set_eq, if_neg (by omega)]; exact h.hnx m (by omega)
    new := fun m b hl hb' => by
      by_cases c : m = nx
      · rw [c, hrenx] at hb'
        rcases hb b hb' with h1 | h1
        · have h2 := h.new n b hlive h1; exact ⟨h2.1, Nat.lt_of_lt_of_le h2.2 hg.size⟩
        · exact ⟨.inl (Nat.le_trans h.below.size h1.1), h1.2⟩
      · rw [hren m c] at hb'
        have := h.new m b (hold m c hl).1 hb'
        exact ⟨this.1, Nat.lt_of_lt_of_le this.2 hg.size⟩
    inj := fun m1 m2 b l1 l2 e1 e2 => by
      by_cases c1 : m1 = nx <;> by_cases c2 : m2 = nx
      · rw [c1, c2]
      · rw [c1, hrenx] at e1
        rw [hren m2 c2] at e2
        have h2 := hold m2 c2 l2
        rcases hb b e1 with h1 | h1
        · exact absurd (h.inj m2 n b h2.1 hlive e2 h1) h2.2
        · have := (h.new m2 b h2.1 e2).2; omega
      · rw [c2, hrenx] at e2
        rw [hren m1 c1] at e1
        have h2 := hold m1 c1 l1
        rcases hb b e2 with h1 | h1
        · exact absurd (h.inj m1 n b h2.1 hlive e1 h1) h2.2
        · have := (h.new m1 b h2.1 e1).2; omega
      · rw [hren m1 c1] at e1
        rw [hren m2 c2] at e2
        exact h.inj m1 m2 b (hold m1 c1 l1).1 (hold m2 c2 l2).1 e1 e2
    size := h.size
    defers := h.defers
    frel := fun t => AV.rel_ren (nx := nx) (fun m hm => hren m (by omega)) (h.fnx t) (AV.rel_mono kp (h.fnx t) (h.frel t))
    fnx := fun t => AV.under_mono (by omega) (h.fnx t)
    brel := fun q hq t => AV.rel_ren (nx := nx) (fun m hm => hren m (by omega)) (AV.under_mono h.ble (J.bgb q hq t)) (AV.rel_mono kp (J.bgb q hq t) (h.brel q hq t)) }

theorem run_append_op {x s : Operand} {t : TypeId} (ho : o.op = .call { callee := .builtin .append, args := #[s, x], argTypes := #[t, t] }) {v' : Value} (hr : (Builtin.append_ #[t, t] o.type #[a.eval s, a.eval x]).run J.P w = .ok v' w') : (execOp a.eval o).run J.P w = .ok (.value v') w' := by
  unfold execOp
  simp only [ho, resolve, invoke, builtin, Sem.run_bind, Sem.run_pure, Result.andThen_ok, List.map_toArray, List.map_cons, List.map_nil, hr]

/-- What is appended: cells that lie somewhere, or nothing. -/
theorem src_cells {b : Bool} {U N : Nat → Prop} {m : List α} {v : Value} (h : (slT b T).val U N w m v) : (∃ c, m = [] ∧ v = .slice none 0 c) ∨ ∃ ad c ds, v = .slice (some ad) m.length c ∧ relAll T U N w m ds ∧ ∀ j u, ds[j]? = some u → w.cell? (ad.add j) = some u := by
  obtain ⟨ad, cap, hv, h1, h2, h3⟩ := val_sl h
  by_cases hm : m = []
  · subst hm
    cases ad with
    | none => exact .inl ⟨cap, rfl, hv⟩
    | some ad => exact .inr ⟨ad, cap, [], hv, rfl, fun j u hj => by simp at hj⟩
  · obtain ⟨ad, ds, rfl, _, hr, hc⟩ := h3 hm
    exact .inr ⟨ad, cap, ds, hv, hr, hc⟩

def Src (T : GoT α) (U N : Nat → Prop) (w : World) (m : List α) (v : Value) : Prop := (∃ c, m = [] ∧ v = .slice none 0 c) ∨ ∃ ad c ds, v = .slice (some ad) m.length c ∧ relAll T U N w m ds ∧ ∀ j u, ds[j]? = some u → w.cell? (ad.add j) = some u
theorem aw_append_s {s x : Operand} {t e d n bytes : Nat} {l m : List α} (ho : o.op = .call { callee := .builtin .append, args := #[s, x], argTypes := #[t, t] }) (hd : o.dst = some d) (hg : o.guard = none) (hlt : Nat.blt d J.nt = true)
    (hs : fr.ev s = .own n) (hn : hp n = .row e T l) (hx : ∀ {nx ρ w v}, SimH J nx ρ hp w → (fr.ev x).rel ρ J.B (Uu J ρ hp) (Nn ρ hp) w v → Src T (Uu J ρ hp) (Nn ρ hp) w m v) (ht : rowB J.P t e T.size bytes = true) (hlen : (l.length + m.length) * bytes ≤ 140737488355328 ∧ l.length + m.length ≤ 9223372036854775807)
    (H : AW J (nx + 1) (fr.set d (.own nx)) ((hp.set n .none_).set nx (.row e T (l ++ m))) (.ops ops rest :: k)) : AW J nx fr hp (.ops ops (o :: rest) :: k) := by
  intro a w ⟨ρ, h⟩
  refine wpl_plain hg (by intro c hc; rw [ho] at hc; cases hc) fun K hK => ?_
  have hsv := ev_rel h s
  have hxv := ev_rel h x
  rw [hs] at hsv
  have hsv : a.eval s = ρ n := hsv
  have hrow := h.hrel n
  rw [hn] at hrow
  obtain ⟨xs, hown, hall⟩ := hrow
  obtain ⟨hu, i, z, hi, hz, hsz, hby, hzs⟩ := rowB_spec ht
  have hTpos := T.pos
  rw [← hsz] at hown
  unfold Oper.wp
  rcases hx h.toSimH hxv with ⟨c, rfl, hxe⟩ | ⟨ad, c, ds, hxe, hds, hcell⟩
  · have hr := run_append_nosrc (P := J.P) (ty := o.type) (c := c) hu hi hown
    rw [run_append_op ho (by rw [hsv, hxe]; exact hr), Oper.upon_value, hd]
    refine hK _ _ (H _ _ ⟨_, (h.move (p := ρ n) (l' := l ++ []) hn ⟨rfl, rfl, rfl, Nat.le_refl _, fun _ _ _ => rfl⟩ (Nat.le_refl _) (fun b hb => .inl hb) fun kp => ⟨xs, by rw [show (l ++ ([] : List α)).length = l.length by simp]; rw [hsz] at hown; exact hown, by have := hall.mono kp; simpa only [List.append_nil] using this⟩).put (by simpa using hlt) (by show _ = _; unfold ren; simp) (Nat.lt_succ_self nx)⟩)
  · have hlds : ds.length = m.length * i.size := by rw [hds.len, hsz]
    obtain ⟨v', w', hr, ho', hgr, hb⟩ := append_where (P := J.P) (ty := o.type) hu hi hz (by omega) (by omega) hown (c := c) hlds hcell hds.one (by unfold maxLen; omega) (by rw [hby]; exact hlen.1)
    rw [run_append_op ho (by rw [hsv, hxe]; exact hr), Oper.upon_value, hd]
    refine hK _ _ (H _ _ ⟨_, (h.move (p := v') (l' := l ++ m) hn hgr (run_drawn _ hr) hb fun kp => ⟨xs ++ ds, by rw [List.length_append, ← hsz]; exact ho', (hall.append hds).mono kp⟩).put (by simpa using hlt) (by show _ = _; unfold ren; simp) (Nat.lt_succ_self nx)⟩)

theorem aw_append {s x : Operand} {t e d n bytes : Nat} {b : Bool} {l m : List α} (ho : o.op = .call { callee := .builtin .append, args := #[s, x], argTypes := #[t, t] }) (hd : o.dst = some d) (hg : o.guard = none) (hlt : Nat.blt d J.nt = true)
    (hs : fr.ev s = .own n) (hn : hp n = .row e T l) (hx : fr.ev x = .val (slT b T) m) (ht : rowB J.P t e T.size bytes = true) (hlen : (l.length + m.length) * bytes ≤ 140737488355328 ∧ l.length + m.length ≤ 9223372036854775807)
    (H : AW J (nx + 1) (fr.set d (.own nx)) ((hp.set n .none_).set nx (.row e T (l ++ m))) (.ops ops rest :: k)) : AW J nx fr hp (.ops ops (o :: rest) :: k) :=
  aw_append_s ho hd hg hlt hs hn (fun _ h => by rw [hx] at h; exact src_cells h) ht hlen H
/-- What is appended lies in a variable of the call's own. -/
theorem aw_append_v {s x : Operand} {t e d n n2 off len bytes ty : Nat} {hl : 0 < len} {l : List α} {γ : Type} {S : GoT γ} {get : γ → List α} {set : γ → List α → γ} {y : γ} (ho : o.op = .call { callee := .builtin .append, args := #[s, x], argTypes := #[t, t] }) (hd : o.dst = some d) (hg : o.guard = none) (hlt : Nat.blt d J.nt = true)
    (hs : fr.ev s = .own n) (hn : hp n = .row e T l) (hx : fr.ev x = .vw n2 off len) (hn2 : hp n2 = .box ty S y) (L : Lens S off (arrT len hl T) get set) (ht : rowB J.P t e T.size bytes = true) (hlen : (l.length + (get y).length) * bytes ≤ 140737488355328 ∧ l.length + (get y).length ≤ 9223372036854775807)
    (H : AW J (nx + 1) (fr.set d (.own nx)) ((hp.set n .none_).set nx (.row e T (l ++ get y))) (.ops ops rest :: k)) : AW J nx fr hp (.ops ops (o :: rest) :: k) :=
  aw_append_s ho hd hg hlt hs hn (fun {nx ρ w v} s h => by
    rw [hx] at h
    obtain ⟨g, cap, e1, rfl, h1, h2⟩ := h
    obtain ⟨g', e3, e4, cs, hr, hc⟩ := box_at s hn2 L (v := .pointer (some ((⟨g, 0, none⟩ : Addr).add off))) ⟨g, e1, rfl⟩
    obtain rfl : g = g' := by rw [e1] at e3; injection e3 with e3; injection e3 with e3; injection e3
    exact .inr ⟨_, cap, cs, by rw [hr.1], hr.2, hc⟩) ht hlen H
theorem aw_factb {n ty : Nat} {x : α} (hn : hp n = .box ty T x) {F : Prop} (h : ∀ {U N w cs}, T.rel U N w x cs → F) (H : F → AW J nx fr hp k) : AW J nx fr hp k := fun a w ⟨ρ, s⟩ => by
  have hh := s.hrel n
  rw [hn] at hh
  obtain ⟨g, cs, _, _, hr⟩ := hh
  exact H (h hr) a w ⟨ρ, s⟩

/-- To nothing. -/
theorem aw_append0 {s x : Operand} {t e d bytes : Nat} {b : Bool} {m : List α} (ho : o.op = .call { callee := .builtin .append, args := #[s, x], argTypes := #[t, t] }) (hd : o.dst = some d) (hg : o.guard = none) (hlt : Nat.blt d J.nt = true)
    (hs : fr.ev s = .lit (.slice none 0 0)) (hx : fr.ev x = .val (slT b T) m) (ht : rowB J.P t e T.size bytes = true) (hlen : m.length * bytes ≤ 140737488355328 ∧ m.length ≤ 9223372036854775807)
    (H : AW J (nx + 1) (fr.set d (.own nx)) (hp.set nx (.row e T m)) (.ops ops rest :: k)) : AW J nx fr hp (.ops ops (o :: rest) :: k) := by
  intro a w ⟨ρ, h⟩
  refine wpl_plain hg (by intro c hc; rw [ho] at hc; cases hc) fun K hK => ?_
  have hsv := ev_rel h s
  have hxv := ev_rel h x
  rw [hs] at hsv; rw [hx] at hxv
  have hsv : a.eval s = .slice none 0 0 := hsv
  obtain ⟨hu, i, z, hi, hz, hsz, hby, hzs⟩ := rowB_spec ht
  have hTpos := T.pos
  have hown := World.ownsRow_nil w 0 e i.size
  unfold Oper.wp
  rcases src_cells hxv with ⟨c, rfl, hxe⟩ | ⟨ad, c, ds, hxe, hds, hcell⟩
  · have hr := run_append_nosrc (P := J.P) (ty := o.type) (c := c) hu hi hown
    rw [run_append_op ho (by rw [hsv, hxe]; exact hr), Oper.upon_value, hd]
    refine hK _ _ (H _ _ ⟨_, (h.bind (p := .slice none 0 0) (x := .row e T []) (Below.refl _ _) (fun b hb => by cases hb) fun kp => ⟨[], by rw [← hsz]; exact hown, rfl⟩).put (by simpa using hlt) (by show _ = _; unfold ren; simp) (Nat.lt_succ_self nx)⟩)
  · have hlds : ds.length = m.length * i.size := by rw [hds.len, hsz]
    obtain ⟨v', w', hr, ho', hgr, hb⟩ := append_where (P := J.P) (ty := o.type) hu hi hz (by omega) (by omega) hown (c := c) hlds hcell hds.one (by unfold maxLen; omega) (by rw [hby, Nat.zero_add]; exact hlen.1)
    rw [run_append_op ho (by rw [hsv, hxe]; exact hr), Oper.upon_value, hd]
    have hbl : Below w.heap.size w w' := ⟨⟨hgr.os, hgr.tape, hgr.output, hgr.size, fun b hlt => hgr.block b hlt (by simp [blkOf])⟩, run_drawn _ hr⟩
    refine hK _ _ (H _ _ ⟨_, (h.bind (p := v') (x := .row e T m) hbl (fun b hb' => (hb b hb').elim (fun h => by cases h) id) fun kp => ⟨ds, by rw [← hsz]; simpa using ho', hds.mono kp⟩).put (by simpa using hlt) (by show _ = _; unfold ren; simp) (Nat.lt_succ_self nx)⟩)

theorem g_len_o {t : TypeId} {x : Operand} {n e : Nat} {l : List α} (ho : o.op = .call { callee := .builtin .len, args := #[x], argTypes := #[t] }) (hx : fr.ev x = .own n) (hn : hp n = .row e T l) (hs : (match J.P.underlying t with | some (.slice _) => true | _ => false) = true) : OpG J o fr hp (.val i64T l.length) := by
  refine .of_run (fun {_ ρ a w} s hr _ => ?_) (fun _ _ => trivial)
  have h := hr x (by rw [ho]; simp [Op.operands, Call.operands])
  rw [hx] at h
  have h : a.eval x = ρ n := h
  have hrow := s.hrel n
  rw [hn] at hrow
  obtain ⟨xs, hown, _⟩ := hrow
  have hform : ∃ ad cap, ρ n = .slice ad l.length cap ∧ l.length ≤ cap ∧ cap ≤ maxLen := by
    rcases hown.2 with ⟨e, h0⟩ | ⟨g, cap, cur, hv, _, _, h1, h2, _⟩
    · exact ⟨none, 0, by rw [e, h0], by omega, by unfold maxLen; omega⟩
    · exact ⟨_, cap, hv, h1, h2⟩
  obtain ⟨ad, cap, e1, h1, h2⟩ := hform
  refine ⟨_, ?_, val_int.2 ⟨rfl, ?_⟩⟩
  · cases hu : J.P.underlying t with
    | none => simp [hu] at hs
    | some d =>
      cases d <;> simp [hu] at hs
      unfold execOp; rw [ho]
      simp [resolve, invoke, builtin, Builtin.len_, h, e1, Sem.run_bind, run_underlying hu, goInt]
  · rw [i64_in]; unfold maxLen at h2; omega

/-- It is no longer the call's own, but read. -/
theorem aw_pub {d n e : Nat} {l : List α} (hd : fr d = .own n) (hn : hp n = .row e T l) (H : AW J nx (fr.set d (.val (sl T) l)) (hp.set n .none_) k) : AW J nx fr hp k := by
  intro a w ⟨ρ, s⟩
  have h0 := s.frel d
  rw [hd] at h0
  have h0 : a.tmps.getD d undef = ρ n := h0
  have hrow := s.hrel n
  rw [hn] at hrow
  obtain ⟨xs, hown, hall⟩ := hrow
  have s' := s.drop n
  have hlive : (hp n).live := by rw [hn]; trivial
  have hN : ∀ b, Nn ρ (hp.set n .none_) b → Nn ρ hp b ∧ blkOf (ρ n) ≠ some b := fun b ⟨m, hl, e⟩ => by
    rw [hp_set_eq] at hl
    by_cases c : m = n
    · rw [if_pos c] at hl; exact hl.elim
    · rw [if_neg c] at hl
      exact ⟨⟨m, hl, e⟩, fun e' => c (s.inj m n b hl hlive e e')⟩
  have kp : Keeps (Uu J ρ hp) (Nn ρ hp) w (Uu J ρ (hp.set n .none_)) (Nn ρ (hp.set n .none_)) w := ⟨s.sub, Nat.le_refl _, fun _ _ _ => rfl, fun b _ hu => hu.imp id (fun h => (hN b h).1), fun b _ h => (hN b h).1⟩
  have hval : (sl T).val (Uu J ρ (hp.set n .none_)) (Nn ρ (hp.set n .none_)) w l (ρ n) :=
    slice_own (b := false) hown rfl (hall.mono kp) (fun g hg hu => by
      rcases hu with hu | hu
      · rcases (s.new n g hlive hg).1 with h1 | h1
        · have := J.lt g hu; omega
        · exact J.dj g hu h1
      · exact (hN g hu).2 hg)
  refine H a w ⟨ρ, { s'.toSimH with size := s'.size, defers := s'.defers, frel := fun t => ?_, fnx := fun t => ?_, brel := s'.brel }⟩
  · rw [fr_set_eq]
    by_cases c : t = d
    · rw [if_pos c, c, h0]; exact hval
    · rw [if_neg c]; exact s'.frel t
  · rw [fr_set_eq]
    by_cases c : t = d
    · rw [if_pos c]; trivial
    · rw [if_neg c]; exact s'.fnx t

/-- A call that answers with a new slice. -/
theorem aw_callf {f : FuncId} {xs : Array Operand} {ts : Array TypeId} {As : List AV} {d e : Nat} {l : List α} (hc : Tells J.P f As (.fresh e T l)) (ho : o.op = .call { callee := .value (.func f), args := xs, argTypes := ts }) (hf : fnB J.P f = true) (ha : ArgsOk J fr hp xs.toList As)
    (hd : o.dst = some d) (hg : o.guard = none) (hlt : Nat.blt d J.nt = true) (H : AW J (nx + 1) (fr.set d (.own nx)) (hp.set nx (.row e T l)) (.ops ops rest :: k)) : AW J nx fr hp (.ops ops (o :: rest) :: k) := by
  intro a w ⟨ρ, s⟩
  refine wpl_plain hg (by intro c hc; rw [ho] at hc; cases hc) fun K hK => ?_
  obtain ⟨fn, h1, h2, h3⟩ := fnB_spec hf
  unfold Oper.wp
  rw [run_call ho h1 h2 h3, Oper.upon_enter]
  have hargs := args_rel (s := s.toSimH) (a := a) (fun y hy => ev_rel s y) ha
  have eq : (xs.toList.map a.eval).toArray = xs.map a.eval := by apply Array.ext'; simp
  have := hc (Uu J ρ hp) w _ (fun b hb => s.uu_lt hb) hargs
  rw [eq] at this
  refine Calls.mono this fun en w' he => ?_
  cases en with
  | returned v =>
    obtain ⟨hb, cs, hown, hfr, hr⟩ := he
    rw [hd]
    refine hK _ _ (H _ _ ⟨_, (s.bind (p := v) (x := .row e T l) hb hfr fun kp => ⟨cs, hown, ?_⟩).put (by simpa using hlt) (by show _ = _; unfold ren; simp) (Nat.lt_succ_self nx)⟩)
    · have hNn : ∀ b, Nn (ren ρ nx v) (hp.set nx (.row e T l)) b → Nn ρ hp b ∨ blkOf v = some b := fun b ⟨m, hl, e⟩ => by
        rw [hp_set_eq] at hl
        unfold ren at e
        by_cases c : m = nx
        · rw [if_pos c] at e; exact .inr e
        · rw [if_neg c] at hl e; exact .inl ⟨m, hl, e⟩
      exact hr.mono ⟨fun _ h => h, Nat.le_refl _, fun _ _ _ => rfl, fun b _ hu => hu.elim (fun h => .inl (.inl h)) (fun h => (hNn b h).imp .inr id), fun b _ h => (hNn b h).imp .inr id⟩
  | panicked c => exact he.elim
  | outgrown => exact he.elim
/-- A slice literal of the call's own. -/
theorem aw_bslice {t e n d bytes : Nat} {ps : List (Nat × Operand)} {xs : List α} (ho : o.op = .buildSlice t n ps.toArray) (hd : o.dst = some d) (hg : o.guard = none) (hlt : Nat.blt d J.nt = true) (hs : sliceB J.P t e T.size = true) (hrow : rowB J.P t e T.size bytes = true) (hv : ValsOk fr T 0 ps xs) (hn : n = xs.length) (hb : Nat.ble (n * T.size) 16777216 = true)
    (H : AW J (nx + 1) (fr.set d (.own nx)) (hp.set nx (.row e T xs)) (.ops ops rest :: k)) : AW J nx fr hp (.ops ops (o :: rest) :: k) := by
  intro a w ⟨ρ, s⟩
  refine wpl_plain hg (by intro c hc; rw [ho] at hc; cases hc) fun K hK => ?_
  have hz : ∃ z, (J.P.info? e).bind (·.zero) = some z ∧ z.cells.size = T.size := by
    obtain ⟨_, i, z, hi, hz, _, _, h⟩ := rowB_spec hrow
    exact ⟨z, by rw [hi]; exact hz, h⟩
  obtain ⟨cs, h1, h2⟩ := run_bslice (w := w) (a := a) (U := Uu J ρ hp) (N := Nn ρ hp) ho hs hz hv hn (by simpa using hb) (fun p hp' x hx => by
    have := ev_rel s p.2
    rw [hx] at this; exact this)
  have hlen : xs.length ≤ maxLen := by
    have h3 : n * T.size ≤ 16777216 := by simpa using hb
    have h4 := T.pos
    have : n * 1 ≤ n * T.size := Nat.mul_le_mul_left _ h4
    unfold maxLen; omega
  subst hn
  unfold Oper.wp
  rw [h1, Oper.upon_value, hd]
  refine hK _ _ (H _ _ ⟨_, (s.bind (p := .slice (some ⟨w.heap.size, 0, none⟩) xs.length xs.length) (x := .row e T xs) (below_alloc _ _) (fun b hb => by simp only [blkOf, Option.some.injEq] at hb; subst hb; exact ⟨Nat.le_refl _, by simp⟩) fun kp => ⟨cs, ⟨h2.len, .inr ⟨w.heap.size, xs.length, cs.toArray, rfl, Nat.zero_le _, heap_alloc_new w _, Nat.le_refl _, hlen, by simp [h2.len], by rw [List.take_of_length_le (by simp [h2.len])]⟩⟩, h2.mono kp⟩).put (by simpa using hlt) (by show _ = _; unfold ren; simp) (Nat.lt_succ_self nx)⟩)

/-- Is a slice nil? Then it has nothing. -/
theorem aw_eqnil {t t' d : Nat} {x : Operand} {b : Bool} {l : List α} (ho : o.op = .binOp .eql t x (.const (.slice none 0 0)) t') (hd : o.dst = some d) (hg : o.guard = none) (hlt : Nat.blt d J.nt = true) (hx : fr.ev x = .val (slT b T) l) (hs : (match J.P.underlying t with | some (.slice _) => true | _ => false) = true)
    (H : ∀ c : Bool, (c = true → l = []) → AW J nx (fr.set d (.val boolT c)) hp (.ops ops rest :: k)) : AW J nx fr hp (.ops ops (o :: rest) :: k) := by
  intro a w ⟨ρ, s⟩
  refine wpl_plain hg (by intro c hc; rw [ho] at hc; cases hc) fun K hK => ?_
  have h := ev_rel s x
  rw [hx] at h
  obtain ⟨ad, cap, hv, h1, h2, h3⟩ := val_sl h
  have hrun : (execOp a.eval o).run J.P w = .ok (.value (.bool ad.isNone)) w := by
    cases hu : J.P.underlying t with
    | none => simp [hu] at hs
    | some dsc =>
      cases dsc <;> simp [hu] at hs
      unfold execOp; rw [ho]
      have h4 := Lib.run_eql_slice_nil (P := J.P) w t _ ad l.length cap 0 0 hu
      have hc : a.eval (Operand.const (Value.slice none 0 0)) = .slice none 0 0 := rfl
      simp only [hv, hc, Sem.run_bind, eqGuard, Bool.not_eq_true', Sem.run_pure, Result.andThen_ok, h4]
      simp [Sem.run_pure, h4]
  unfold Oper.wp
  rw [hrun, Oper.upon_value, hd]
  refine hK _ _ (H ad.isNone (fun e => ?_) _ _ ⟨ρ, s.put (by simpa using hlt) (x := .val boolT ad.isNone) (val_bool.2 rfl) trivial⟩)
  cases ad with
  | none =>
    by_cases c : l = []
    · exact c
    · obtain ⟨_, _, e', _⟩ := h3 c; cases e'
  | some ad => cases e
end
end Go.Ab
