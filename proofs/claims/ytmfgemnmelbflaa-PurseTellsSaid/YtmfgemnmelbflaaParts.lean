/- Boxes whose parts are known one by one: references, closures, rows of the call's own among them. -/
import Derived.Test.YtmfgemnmelbflaaRounds
namespace Go.Ab
set_option linter.unusedVariables false
set_option linter.unusedSimpArgs false
open Go.RowKit

def partAt : Nat → List AV → Option AV
  | _, [] => none
  | off, x :: xs => bif Nat.beq off 0 then some x else bif Nat.ble x.cells off then partAt (off - x.cells) xs else none
def setPart : Nat → AV → List AV → List AV
  | _, _, [] => []
  | off, y, x :: xs => bif Nat.beq off 0 then y :: xs else bif Nat.ble x.cells off then x :: setPart (off - x.cells) y xs else x :: xs
abbrev flatV (vs : List Value) : List Value := vs.flatMap fun v => v.cells.toList

/-- Its value is one cell. -/
def AV.isOne (hp : Hp) : AV → Bool
  | .lit v => v.oneCell' && Nat.beq v.cells.size 1
  | .ptr .. | .eptr .. | .rptr .. | .clo .. | .fn1 .. | .fn2 .. | .vw .. | .osub .. => true
  | .own n => match hp n with
    | .none_ => false
    | _ => true
  | .val T _ => !T.agg
  | _ => false

section
variable {J : Job} {nx : Nat} {ρ : Nat → Value} {fr : Fr} {hp : Hp} {a : Act} {w w' : World} {k : List It} {ops : Array Oper} {rest : List Oper} {o : Oper}
variable {α β : Type} {T : GoT α} {S : GoT β} {get : α → β} {set : α → β → α} {B U N : Nat → Prop}

theorem one_ptr (p : Option Addr) : (Value.pointer p).oneCell' = true ∧ (Value.pointer p).cells.size = 1 := ⟨rfl, rfl⟩
theorem one_slice (p : Option Addr) (l c : Nat) : (Value.slice p l c).oneCell' = true ∧ (Value.slice p l c).cells.size = 1 := ⟨rfl, rfl⟩
theorem one_func (f : Fn) (b c : Array Value) : (Value.func f b c).oneCell' = true ∧ (Value.func f b c).cells.size = 1 := ⟨rfl, rfl⟩
theorem cells_one {v : Value} (h : v.oneCell' = true) (hs : v.cells.size = 1) : v.cells.toList = [v] := by cases v <;> simp_all [Value.cells, Value.oneCell']
theorem FunAt.one {v : Value} {C : World → (Nat → Prop) → FuncId → Array Value → Prop} (h : FunAt U N w v C) : v.oneCell' = true ∧ v.cells.size = 1 := by
  obtain ⟨_, _, _, _, e, _⟩ := h
  rw [e]; exact one_func _ _ _

theorem one_of (s : SimH J nx ρ hp w) : ∀ {x : AV} {v : Value}, x.isOne hp = true → x.rel ρ J.B (Uu J ρ hp) (Nn ρ hp) w v → v.oneCell' = true ∧ v.cells.size = 1
  | .lit v, _, h, (e : _ = _) => by
    rw [e]; unfold AV.isOne at h; simpa using h
  | .ptr .., _, _, ⟨_, _, e⟩ => by rw [e]; exact one_ptr _
  | .eptr .., _, _, ⟨_, _, _, _, e⟩ => by rw [e]; exact one_ptr _
  | .rptr .., _, _, ⟨_, e, _⟩ => by rw [e]; exact one_ptr _
  | .clo .., _, _, (e : _ = _) => by rw [e]; exact one_func _ _ _
  | .fn1 .., _, _, h => FunAt.one h
  | .fn2 .., _, _, h => FunAt.one h
  | .vw .., _, _, ⟨_, _, _, e, _⟩ => by rw [e]; exact one_slice _ _ _
  | .osub .., _, _, ⟨_, _, _, _, _, e⟩ => by rw [e]; exact one_slice _ _ _
  | .val T x, v, h, hv => by
    have hag : T.agg = false := by unfold AV.isOne at h; simpa using h
    have hr := GoT.val_cells hv
    have h1 := T.len hr
    rw [T.sc hag] at h1
    obtain ⟨cs, _, h2 | h2⟩ := hv
    · rw [hag] at h2; exact absurd h2.1 (by decide)
    · have := T.one (by assumption) v (by rw [h2.2]; simp)
      exact ⟨this, by simpa using h1⟩
  | .own n, v, h, (e : _ = _) => by
    have hr := s.hrel n
    have h' : (match hp n with | .none_ => false | _ => true) = true := h
    rw [e]
    generalize hp n = x at hr h'
    cases x with
    | none_ => cases h'
    | box ty T x => obtain ⟨g, _, e, _⟩ := hr; rw [e]; exact one_ptr _
    | parts ty xs => obtain ⟨g, _, e, _⟩ := hr; rw [e]; exact one_ptr _
    | objAt b o => obtain ⟨e, _⟩ := hr; rw [e]; exact one_ptr _
    | row e T l =>
      obtain ⟨xs, ho, _⟩ := hr
      rcases ho.2 with ⟨h, _⟩ | ⟨g, cap, cur, h, _⟩ <;> (rw [h]; exact one_slice _ _ _)

theorem relL_at : ∀ {xs : List AV} {vs : List Value} {off : Nat} {X : AV}, AV.relL ρ B U N w xs vs → partAt off xs = some X →
    ∃ pre v post, vs = pre ++ v :: post ∧ X.rel ρ B U N w v ∧ (flatV pre).length = off ∧ v.cells.size = X.cells ∧ (∀ u ∈ v.cells.toList, u.oneCell' = true) ∧
      ∀ (Y : AV) (v' : Value), Y.rel ρ B U N w v' → v'.cells.size = Y.cells → (∀ u ∈ v'.cells.toList, u.oneCell' = true) → AV.relL ρ B U N w (setPart off Y xs) (pre ++ v' :: post)
  | [], _, _, _, _, h => by cases h
  | x :: xs, vs, off, X, ⟨v, us, e, h1, h2, h3, h4⟩, h => by
    unfold partAt at h
    cases c : Nat.beq off 0 with
    | true =>
      rw [c] at h
      simp only [cond_true, Option.some.injEq] at h
      subst h
      obtain rfl : off = 0 := Nat.eq_of_beq_eq_true c
      exact ⟨[], v, us, e, h1, rfl, h2, h3, fun Y v' g1 g2 g3 => ⟨v', us, rfl, g1, g2, g3, h4⟩⟩
    | false =>
      rw [c] at h
      simp only [cond_false] at h
      cases c2 : Nat.ble x.cells off with
      | false => rw [c2] at h; cases h
      | true =>
        rw [c2] at h
        simp only [cond_true] at h
        obtain ⟨pre, u, post, e1, g1, g2, g3, g4, g5⟩ := relL_at h4 h
        have hle := Nat.le_of_ble_eq_true c2
        refine ⟨v :: pre, u, post, by rw [e, e1]; rfl, g1, ?_, g3, g4, fun Y v' a1 a2 a3 => ?_⟩
        · rw [flatV, List.flatMap_cons, List.length_append]
          have : v.cells.toList.length = x.cells := by simpa using h2
          rw [this, g2]; omega
        · unfold setPart
          rw [c, c2]
          exact ⟨v, _, rfl, h1, h2, h3, g5 Y v' a1 a2 a3⟩
theorem setPart_under : ∀ {xs : List AV} {off : Nat} {Y : AV}, (∀ x ∈ xs, x.under nx) → Y.under nx → ∀ x ∈ setPart off Y xs, x.under nx
  | [], _, _, _, _, x, hx => by cases hx
  | z :: xs, off, Y, hx, hY, x, hm => by
    unfold setPart at hm
    cases c : Nat.beq off 0 with
    | true =>
      rw [c] at hm
      rcases List.mem_cons.1 hm with e | hm
      · rw [e]; exact hY
      · exact hx x (by simp [hm])
    | false =>
      rw [c] at hm
      cases c2 : Nat.ble z.cells off with
      | false =>
        rw [c2] at hm
        exact hx x hm
      | true =>
        rw [c2] at hm
        rcases List.mem_cons.1 hm with e | hm
        · rw [e]; exact hx z (by simp)
        · exact setPart_under (fun y hy => hx y (by simp [hy])) hY x hm

theorem partAt_mem : ∀ {xs : List AV} {off : Nat} {X : AV}, partAt off xs = some X → X ∈ xs
  | [], _, _, h => by cases h
  | x :: xs, off, X, h => by
    unfold partAt at h
    cases c : Nat.beq off 0 with
    | true => rw [c] at h; simp at h; simp [h]
    | false =>
      rw [c] at h
      cases c2 : Nat.ble x.cells off with
      | false => rw [c2] at h; cases h
      | true => rw [c2] at h; exact List.mem_cons_of_mem _ (partAt_mem h)
/-- A new variable, a part of which is no plain datum. -/
theorem aw_box_p {ty d : Nat} {y : Operand} {Y : AV} (ho : o.op = .box ty y) (hd : o.dst = some d) (hg : o.guard = none) (hlt : Nat.blt d J.nt = true) (hy : fr.ev y = Y) (h1 : Y.isOne hp = true) (hc : Y.cells = 1)
    (H : AW J (nx + 1) (fr.set d (.ptr nx 0)) (hp.set nx (.parts ty [Y])) (.ops ops rest :: k)) : AW J nx fr hp (.ops ops (o :: rest) :: k) := by
  intro a w ⟨ρ, s⟩
  refine wpl_plain hg (by intro c hc; rw [ho] at hc; cases hc) fun K hK => ?_
  have h := ev_rel s y
  have hu := ev_under s.fnx y
  rw [hy] at h hu
  obtain ⟨g1, g2⟩ := one_of s.toSimH h1 h
  have hrun : (execOp a.eval o).run J.P w = .ok (.value (.pointer (some ⟨w.heap.size, 0, none⟩))) (w.alloc (.cells (a.eval y).cells ty)) := by
    unfold execOp; rw [ho]
    simp [Instr.box, Sem.run_bind, newVar, newRow, newObj, Sem.run]
  unfold Oper.wp
  rw [hrun, Oper.upon_value, hd]
  have hcs : (a.eval y).cells = (flatV [a.eval y]).toArray := by simp
  refine hK _ _ (H _ _ ⟨_, (s.bind (p := .pointer (some ⟨w.heap.size, 0, none⟩)) (x := .parts ty [Y]) (below_alloc _ _) (fun b e => by simp only [blkOf, Option.some.injEq] at e; subst e; exact ⟨Nat.le_refl _, by simp⟩)
    (fun kp => ⟨w.heap.size, [a.eval y], rfl, by rw [← hcs]; exact heap_alloc_new w _, a.eval y, [], rfl, AV.rel_ren (nx := nx) (fun n hn => by unfold ren; rw [if_neg (by omega)]) hu (AV.rel_mono kp hu h), g2.trans hc.symm, (fun u hu => by rw [cells_one g1 g2] at hu; simp at hu; rw [hu]; exact g1), rfl⟩)
    (fun x hx => by simp only [List.mem_singleton] at hx; subst hx; exact AV.under_mono (Nat.le_succ nx) hu)).put (by simpa using hlt) ⟨w.heap.size, by unfold ren; simp, rfl⟩ (Nat.lt_succ_self nx)⟩)
theorem aw_alloc_p {ty d : Nat} {v : Value} (hz : (J.P.info? ty).bind (·.zero) = some v) (h1 : v.oneCell' = true) (h2 : v.cells.size = 1) (ho : o.op = .alloc ty) (hd : o.dst = some d) (hg : o.guard = none) (hlt : Nat.blt d J.nt = true)
    (H : AW J (nx + 1) (fr.set d (.ptr nx 0)) (hp.set nx (.parts ty [.lit v])) (.ops ops rest :: k)) : AW J nx fr hp (.ops ops (o :: rest) :: k) := by
  intro a w ⟨ρ, s⟩
  refine wpl_plain hg (by intro c hc; rw [ho] at hc; cases hc) fun K hK => ?_
  obtain ⟨i, h3, h4⟩ := Option.bind_eq_some_iff.1 hz
  have hrun : (execOp a.eval o).run J.P w = .ok (.value (.pointer (some ⟨w.heap.size, 0, none⟩))) (w.alloc (.cells v.cells ty)) := by
    unfold execOp; rw [ho]
    simp [Instr.alloc, zeroValue, typeInfo, Sem.run_bind, h3, h4, newVar, newRow, newObj, Sem.run]
  unfold Oper.wp
  rw [hrun, Oper.upon_value, hd]
  have hcs : v.cells = (flatV [v]).toArray := by simp
  refine hK _ _ (H _ _ ⟨_, (s.bind (p := .pointer (some ⟨w.heap.size, 0, none⟩)) (x := .parts ty [.lit v]) (below_alloc _ _) (fun b e => by simp only [blkOf, Option.some.injEq] at e; subst e; exact ⟨Nat.le_refl _, by simp⟩)
    (fun kp => ⟨w.heap.size, [v], rfl, by rw [← hcs]; exact heap_alloc_new w _, v, [], rfl, rfl, h2, (fun u hu => by rw [cells_one h1 h2] at hu; simp at hu; rw [hu]; exact h1), rfl⟩)
    (fun x hx => by simp only [List.mem_singleton] at hx; subst hx; trivial)).put (by simpa using hlt) ⟨w.heap.size, by unfold ren; simp, rfl⟩ (Nat.lt_succ_self nx)⟩)

/-- Where a part lies. -/
theorem part_at (s : SimH J nx ρ hp w) {n off ty : Nat} {xs : List AV} {X : AV} {v : Value} (hn : hp n = .parts ty xs) (hX : partAt off xs = some X) (hv : (AV.ptr n off).rel ρ J.B (Uu J ρ hp) (Nn ρ hp) w v) :
    ∃ g pre u post, ρ n = .pointer (some ⟨g, 0, none⟩) ∧ v = .pointer (some ((⟨g, 0, none⟩ : Addr).add off)) ∧ w.heap[g]? = some (.cells (flatV (pre ++ u :: post)).toArray ty (0, 0)) ∧ (flatV pre).length = off ∧ X.rel ρ J.B (Uu J ρ hp) (Nn ρ hp) w u ∧ u.cells.size = X.cells ∧ (∀ z ∈ u.cells.toList, z.oneCell' = true) ∧
      (∀ (Y : AV) (v' : Value), Y.rel ρ J.B (Uu J ρ hp) (Nn ρ hp) w v' → v'.cells.size = Y.cells → (∀ u ∈ v'.cells.toList, u.oneCell' = true) → AV.relL ρ J.B (Uu J ρ hp) (Nn ρ hp) w (setPart off Y xs) (pre ++ v' :: post)) ∧
      ∀ (j : Nat) z, u.cells[j]? = some z → w.cell? (((⟨g, 0, none⟩ : Addr).add off).add j) = some z := by
  obtain ⟨g, e1, e2⟩ := hv
  have hh := s.hrel n
  rw [hn] at hh
  obtain ⟨g', vs, e3, hg, hr⟩ := hh
  obtain rfl : g = g' := by rw [e1] at e3; injection e3 with e3; injection e3 with e3; injection e3
  obtain ⟨pre, u, post, e4, h1, h2, h3, h4, h5⟩ := relL_at hr hX
  refine ⟨g, pre, u, post, e1, e2, by rw [← e4]; exact hg, h2, h1, h3, h4, h5, fun j z hz => ?_⟩
  rw [add_of_add, lit_add, cell_of_row w g _ _ ty (0, 0) hg, e4]
  have : flatV (pre ++ u :: post) = flatV pre ++ (u.cells.toList ++ flatV post) := by simp [flatV]
  simp only [this, List.getElem?_toArray]
  have hj := (Array.getElem?_eq_some_iff.1 hz).1
  rw [List.getElem?_append_right (by rw [h2]; exact Nat.le_add_right _ _), h2, Nat.add_sub_cancel_left, List.getElem?_append_left (by simpa using hj)]
  simpa using hz

theorem g_load_p {t ty n off : Nat} {x : Operand} {xs : List AV} {X : AV} (ho : o.op = .load t x) (hx : fr.ev x = .ptr n off) (hn : hp n = .parts ty xs) (hX : partAt off xs = some X) (h1 : X.isOne hp = true) (ht : tyB J.P t 1 false = true) : OpG J o fr hp X where
  run {nx ρ a w} s hr hu K Q hK := by
    have h := hr x (by rw [ho]; simp [Op.operands])
    rw [hx] at h
    obtain ⟨g, pre, u, post, e1, e2, hg, h2, h3, h4, h5, _, h6⟩ := part_at s hn hX h
    obtain ⟨g1, g2⟩ := one_of s h1 h3
    have hc := h6 0 u (by have := cells_one g1 g2; rw [← Array.getElem?_toList, this]; rfl)
    rw [add_zero] at hc
    obtain ⟨_, t1, t2⟩ := tyB_spec ht w
    have hrun : (execOp a.eval o).run J.P w = .ok (.value u) w := by
      unfold execOp; rw [ho]
      simp [Instr.loadAt, Instr.sureAddr, Sem.run_bind, e2, loadVar, t1, load, Sem.run, hc]
    unfold Oper.wp
    rw [hrun]
    exact hK u w (Below.refl _ _) h3
  und {nx} hb _ := by
    have := (hb n).2
    rw [hn] at this
    exact this X (partAt_mem hX)
  nd c hc := by rw [ho] at hc; cases hc
theorem part_val (s : SimH J nx ρ hp w) {n off ty : Nat} {xs : List AV} {x : α} {v : Value} (hn : hp n = .parts ty xs) (hX : partAt off xs = some (.val T x)) (hv : (AV.ptr n off).rel ρ J.B (Uu J ρ hp) (Nn ρ hp) w v) :
    ∃ g, ρ n = .pointer (some ⟨g, 0, none⟩) ∧ v = .pointer (some ((⟨g, 0, none⟩ : Addr).add off)) ∧ T.at_ (Uu J ρ hp) (Nn ρ hp) w ((⟨g, 0, none⟩ : Addr).add off) x := by
  obtain ⟨g, pre, u, post, e1, e2, _, _, h3, _, _, _, h6⟩ := part_at s hn hX hv
  exact ⟨g, e1, e2, _, GoT.val_cells h3, fun j z hz => h6 j z (by simpa using hz)⟩
theorem g_load_pv {t ty n off : Nat} {x : Operand} {xs : List AV} {c : α} (ho : o.op = .load t x) (hx : fr.ev x = .ptr n off) (hn : hp n = .parts ty xs) (hX : partAt off xs = some (.val T c)) (ht : tyB J.P t T.size T.agg = true) : OpG J o fr hp (.val T c) := by
  refine .of_run (fun s hr _ => ?_) (fun _ _ => trivial)
  have h := hr x (by rw [ho]; simp [Op.operands])
  rw [hx] at h
  obtain ⟨g, _, e, hat⟩ := part_val s hn hX h
  obtain ⟨v, h1, h2⟩ := run_loadVar_at ht hat
  refine ⟨v, ?_, h2⟩
  unfold execOp; rw [ho]
  simp [Instr.loadAt, Instr.sureAddr, Sem.run_bind, e, h1]

/-- A part is written. -/
theorem aw_store_p {t ty : TypeId} {x y : Operand} {n off : Nat} {xs : List AV} {X Y : AV} {ag : Bool} (ho : o.op = .store t x y) (hd : o.dst = none) (hg : o.guard = none) (hx : fr.ev x = .ptr n off) (hn : hp n = .parts ty xs) (hX : partAt off xs = some X)
    (hy : fr.ev y = Y) (h1 : Y.isOne hp = true) (hc : Y.cells = 1) (hcX : X.cells = 1) (ht : tyB J.P t 1 ag = true) (H : AW J nx fr (hp.set n (.parts ty (setPart off Y xs))) (.ops ops rest :: k)) : AW J nx fr hp (.ops ops (o :: rest) :: k) := by
  intro a w ⟨ρ, s⟩
  refine wpl_plain hg (by intro c hc; rw [ho] at hc; cases hc) fun K hK => ?_
  have h := ev_rel s x
  have h' := ev_rel s y
  have hu := ev_under s.fnx y
  rw [hx] at h
  rw [hy] at h' hu
  obtain ⟨g1, g2⟩ := one_of s.toSimH h1 h'
  obtain ⟨g, pre, u, post, e1, e2, hgc, h2, h3, h4, h5, h6, _⟩ := part_at s.toSimH hn hX h
  have hu1 : u.cells.size = 1 := h4.trans hcX
  have hrun := run_storeVar_row (w := w) (P := J.P) (off := off) (v := a.eval y) ht g2 (fun z hz => by rw [cells_one g1 g2] at hz; simp at hz; rw [hz]; exact g1) hgc (by
    have : (flatV (pre ++ u :: post)).length = (flatV pre).length + (u.cells.size + (flatV post).length) := by simp only [flatV, List.flatMap_append, List.flatMap_cons, List.length_append, Array.length_toList]
    rw [List.size_toArray, this, h2, hu1]; omega)
  have hnew : (flatV (pre ++ u :: post)).toArray.toList.take off ++ (a.eval y).cells.toList ++ (flatV (pre ++ u :: post)).toArray.toList.drop (off + 1) = flatV (pre ++ a.eval y :: post) := by
    have e3 : flatV (pre ++ u :: post) = flatV pre ++ (u.cells.toList ++ flatV post) := by simp only [flatV, List.flatMap_append, List.flatMap_cons]
    have e4 : flatV (pre ++ a.eval y :: post) = flatV pre ++ ((a.eval y).cells.toList ++ flatV post) := by simp only [flatV, List.flatMap_append, List.flatMap_cons]
    rw [List.toList_toArray, e3, e4, ← h2, List.take_left' rfl, ← List.drop_drop, List.drop_left' rfl, List.drop_left' (by simpa using hu1), List.append_assoc]
  rw [hnew] at hrun
  have hex : (execOp a.eval o).run J.P w = .ok .skip (w.setRow g (flatV (pre ++ a.eval y :: post)).toArray) := by
    unfold execOp; rw [ho]
    simp only [e2, Instr.storeAt, Instr.sureAddr, Sem.run_bind, Sem.run_pure, Result.andThen_ok, hrun]
  unfold Oper.wp
  rw [hex, Oper.upon_skip, hd]
  refine hK _ _ ?_
  have hux : ∀ x ∈ setPart off Y xs, x.under nx := setPart_under (by have := s.hun n; rw [hn] at this; exact this) hu
  exact H _ _ ⟨ρ, s.modify (x := .parts ty (setPart off Y xs)) hn trivial trivial (by simp) rfl rfl rfl (fun b hb => setRow_other w g b _ (fun e => hb (by rw [e1]; simp [blkOf, e])))
    (fun kp => ⟨g, pre ++ a.eval y :: post, e1, setRow_heap w g _ _ ty (0, 0) hgc, AV.relL_mono kp hux (h6 Y _ h' (g2.trans hc.symm) (fun z hz => by rw [cells_one g1 g2] at hz; simp at hz; rw [hz]; exact g1))⟩) (Nat.le_refl _) hux⟩
end
end Go.Ab
