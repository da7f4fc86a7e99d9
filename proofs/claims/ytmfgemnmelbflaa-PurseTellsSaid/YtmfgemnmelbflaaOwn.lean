/- Rows and arrays of the call's own: reading, writing, cutting, making. -/
import Derived.Test.YtmfgemnmelbflaaNums
import Derived.Laws.OwnMore
namespace Go.Ab
set_option linter.unusedVariables false
set_option linter.unusedSimpArgs false
open Go.RowKit

section
variable {J : Job} {nx : Nat} {ρ : Nat → Value} {fr : Fr} {hp : Hp} {a : Act} {w w' : World} {k : List It} {ops : Array Oper} {rest : List Oper} {o : Oper}
variable {α β γ : Type} {T : GoT α} {S : GoT β} {get : α → β} {set : α → β → α}

/-- A place of an array. -/
theorem Lens.elem [Inhabited α] {n i : Nat} {h : 0 < n} (hi : i < n) (T : GoT α) : Lens (arrT n h T) (i * T.size) T (fun l => l.getD i default) (fun l y => l.set i y) where
  fit := by
    show i * T.size + T.size ≤ n * T.size
    have := Nat.mul_le_mul_right T.size (show i + 1 ≤ n by omega)
    rw [Nat.add_mul, Nat.one_mul] at this; exact this
  get_ {U N w x cs} hr := by
    obtain ⟨hl, hr⟩ := hr
    have hx : x[i]? = some (x.getD i default) := by
      rw [List.getD_eq_getElem?_getD, List.getElem?_eq_getElem (by omega)]; rfl
    exact hr.get hx
  set_ {U N w x cs y ds} hr hk := by
    obtain ⟨hl, hr⟩ := hr
    refine ⟨by simp [hl], ?_⟩
    have := hr.set (i := i) (by omega) hk
    rw [Nat.add_mul, Nat.one_mul] at this
    exact this

/-- The address of a place of an array of the call's own. -/
theorem g_ia_b {t e m sz n off i : Nat} {x y : Operand} {j : Int} (ho : o.op = .indexAddr t x y) (hx : fr.ev x = .ptr n off) (hy : fr.ev y = .val i64T j) (hj : j = (i : Int)) (ha : arrB J.P t m e sz = true) (hi : i < m) {off' : Nat} (he : off + i * sz = off') : OpG J o fr hp (.ptr n off') := by
  subst he; subst hj
  refine .of_run (fun {_ _ _ w} s hr _ => ?_) (fun h hn => by have := hn x (by rw [ho]; simp [Op.operands]); rw [hx] at this; exact this)
  have h := hr x (by rw [ho]; simp [Op.operands])
  have h' := hr y (by rw [ho]; simp [Op.operands])
  rw [hx] at h; rw [hy] at h'
  obtain ⟨g, e1, e2⟩ := h
  obtain ⟨h1, h2⟩ := arrB_spec ha w
  refine ⟨_, ?_, g, e1, rfl⟩
  unfold execOp; rw [ho]
  have hlt : (i : Int) < (m : Int) := by omega
  simp [Instr.indexAt, asIntOf, Sem.run_bind, run_underlying h1, e2, (val_int.1 h').1, Instr.sureAddr, hlt, h2, add_of_add, hi]
theorem g_ia_b0 {t e m sz n i : Nat} {x y : Operand} {j : Int} (ho : o.op = .indexAddr t x y) (hx : fr.ev x = .ptr n 0) (hy : fr.ev y = .val i64T j) (hj : j = (i : Int)) (ha : arrB J.P t m e sz = true) (hi : i < m) : OpG J o fr hp (.ptr n (i * sz)) := g_ia_b ho hx hy hj ha hi (Nat.zero_add _)
theorem g_nc {x : Operand} {n off : Nat} (ho : o.op = .nilCheck x) (hx : fr.ev x = .ptr n off) : OpG J o fr hp (.ptr n off) := by
  refine .of_run (fun {_ _ _ w} s hr _ => ?_) (fun h hn => by have := hn x (by rw [ho]; simp [Op.operands]); rw [hx] at this; exact this)
  have h := hr x (by rw [ho]; simp [Op.operands])
  rw [hx] at h
  refine ⟨_, ?_, h⟩
  obtain ⟨g, e1, e2⟩ := h
  unfold execOp; rw [ho]
  simp [e2]
theorem val_pack {U N : Nat → Prop} {x : α} {cs : List Value} (h : T.rel U N w x cs) : T.val U N w x (if T.agg then .agg cs.toArray else cs.headD undef) := by
  cases hb : T.agg with
  | true => exact ⟨cs, h, .inl ⟨hb, by simp⟩⟩
  | false =>
    have hl := T.len h
    rw [T.sc hb] at hl
    obtain ⟨v, rfl⟩ := List.length_eq_one_iff.1 hl
    exact ⟨[v], h, .inr ⟨hb, by simp⟩⟩
/-- A place of an array's value. -/
theorem g_index {t e m : Nat} {hm : 0 < m} {x y : Operand} {j : Int} {i : Nat} {l : List α} {c : α} (ho : o.op = .index t x y) (hx : fr.ev x = .val (arrT m hm T) l) (hy : fr.ev y = .val i64T j) (hj : j = (i : Int)) (ha : arrB J.P t m e T.size = true) (ht : tyB J.P e T.size T.agg = true) (hc : l[i]? = some c) : OpG J o fr hp (.val T c) := by
  subst hj
  refine .of_run (fun {_ _ _ w} s hr _ => ?_) (fun _ _ => trivial)
  have h := hr x (by rw [ho]; simp [Op.operands])
  have h' := hr y (by rw [ho]; simp [Op.operands])
  rw [hx] at h; rw [hy] at h'
  obtain ⟨cs, ⟨hl, hr⟩, hv⟩ := h
  have hv : _ = Value.agg cs.toArray := hv.elim (fun h => h.2) (fun h => by cases h.1)
  obtain ⟨h1, h2⟩ := arrB_spec ha w
  have hi : i < m := by rw [← hl]; exact (List.getElem?_eq_some_iff.1 hc).1
  have hlt : (i : Int) < (m : Int) := by omega
  have hlen := hr.len
  have hfit : i * T.size + T.size ≤ cs.length := by
    rw [hlen, hl]
    have := Nat.mul_le_mul_right T.size (show i + 1 ≤ m by omega)
    rw [Nat.add_mul, Nat.one_mul] at this; exact this
  have hp := run_part (w := w) (off := i * T.size) ht T.sc T.pos hfit
  have hg := hr.get hc
  refine ⟨_, ?_, val_pack hg⟩
  unfold execOp; rw [ho]
  simp [Instr.index, asIntOf, Sem.run_bind, run_underlying h1, (val_int.1 h').1, hv, hlt, h2, hp, hi]

/-! ## Places of a row of the call's own -/
theorem row_form {e n : Nat} {l : List α} (h : SimH J nx ρ hp w) (hn : hp n = .row e T l) (h0 : 0 < l.length) : ∃ g cap cur xs, ρ n = .slice (some ⟨g, 0, none⟩) l.length cap ∧ w.heap[g]? = some (.cells cur e (0, 0)) ∧ l.length ≤ cap ∧ cap ≤ maxLen ∧ cur.size = cap * T.size ∧ cur.toList.take (l.length * T.size) = xs ∧ relAll T (Uu J ρ hp) (Nn ρ hp) w l xs ∧ xs.length = l.length * T.size := by
  have hh := h.hrel n
  rw [hn] at hh
  obtain ⟨xs, ⟨h1, h2⟩, hr⟩ := hh
  rcases h2 with ⟨_, h2⟩ | ⟨g, cap, cur, hv, _, hg, hle, hm, hs, ht⟩
  · omega
  · exact ⟨g, cap, cur, xs, hv, hg, hle, hm, hs, ht, hr, h1⟩
theorem g_ia_o {t e n : Nat} {x y : Operand} {j : Int} {i : Nat} {l : List α} (ho : o.op = .indexAddr t x y) (hx : fr.ev x = .own n) (hn : hp n = .row e T l) (hy : fr.ev y = .val i64T j) (hj : j = (i : Int)) (hs : sliceB J.P t e T.size = true) (hi : i < l.length) : OpG J o fr hp (.eptr n i T.size 0) := by
  subst hj
  refine .of_run (fun {_ _ _ w} s hr _ => ?_) (fun h hn => by have := hn x (by rw [ho]; simp [Op.operands]); rw [hx] at this; exact this)
  have h := hr x (by rw [ho]; simp [Op.operands])
  have h' := hr y (by rw [ho]; simp [Op.operands])
  rw [hx] at h; rw [hy] at h'
  have h : _ = _ := h
  obtain ⟨g, cap, cur, xs, e1, _⟩ := row_form s hn (by omega)
  obtain ⟨hs1, hs2, _⟩ := sliceB_spec hs w
  refine ⟨_, ?_, g, _, _, e1, rfl⟩
  unfold execOp; rw [ho]
  have hlt : (i : Int) < (l.length : Int) := by omega
  simp [Instr.indexAt, asIntOf, Sem.run_bind, run_underlying hs1, h, e1, (val_int.1 h').1, hlt, hs2, hi]
theorem row_at {e n i : Nat} {l : List α} {c : α} (h : SimH J nx ρ hp w) (hn : hp n = .row e T l) (hc : l[i]? = some c) : ∃ g len cap, ρ n = .slice (some ⟨g, 0, none⟩) len cap ∧ T.at_ (Uu J ρ hp) (Nn ρ hp) w ((⟨g, 0, none⟩ : Addr).add (i * T.size)) c := by
  have hi : i < l.length := (List.getElem?_eq_some_iff.1 hc).1
  obtain ⟨g, cap, cur, xs, e1, hg, hle, hm, hs, ht, hr, hl⟩ := row_form h hn (by omega)
  refine ⟨g, _, cap, e1, _, hr.get hc, fun j v hj => ?_⟩
  rw [add_of_add, lit_add, cell_of_row w g _ cur e (0, 0) hg]
  rw [List.getElem?_take] at hj
  split at hj
  · rw [List.getElem?_drop, ← ht, List.getElem?_take] at hj
    split at hj
    · simpa using hj
    · simp at hj
  · simp at hj
theorem g_load_e {t e n i sz off : Nat} {x : Operand} {l : List α} {c : α} (ho : o.op = .load t x) (hx : fr.ev x = .eptr n i sz off) (hn : hp n = .row e T l) (hsz : sz = T.size) (hc : l[i]? = some c) (L : Lens T off S get set) (ht : tyB J.P t S.size S.agg = true) : OpG J o fr hp (.val S (get c)) := by
  subst hsz
  refine .of_run (fun {_ _ _ w} s hr _ => ?_) (fun _ _ => trivial)
  have h := hr x (by rw [ho]; simp [Op.operands])
  rw [hx] at h
  obtain ⟨g, len, cap, e1, e2⟩ := h
  obtain ⟨g', len', cap', e3, hat⟩ := row_at s hn hc
  rw [e1] at e3
  injection e3 with e3 _ _
  injection e3 with e3
  injection e3 with e3
  subst e3
  have h2 := lens_at L hat
  rw [add_of_add] at h2
  obtain ⟨v, hv, hx⟩ := run_loadVar_at (P := J.P) ht h2
  refine ⟨v, ?_, hx⟩
  unfold execOp; rw [ho]
  simp [Instr.loadAt, e2, Instr.sureAddr, Sem.run_bind, hv]

/-- What is written at a place of a row. -/
theorem aw_store_e {t e n i sz off : Nat} {x y : Operand} {l : List α} {c : α} {z : β} (ho : o.op = .store t x y) (hd : o.dst = none) (hg : o.guard = none) (hx : fr.ev x = .eptr n i sz off) (hn : hp n = .row e T l) (hsz : sz = T.size) (hc : l[i]? = some c) (L : Lens T off S get set)
    (ht : tyB J.P t S.size S.agg = true) (hy : fr.ev y = .val S z) (H : AW J nx fr (hp.set n (.row e T (l.set i (set c z)))) (.ops ops rest :: k)) : AW J nx fr hp (.ops ops (o :: rest) :: k) := by
  subst hsz
  intro a w ⟨ρ, s⟩
  refine wpl_plain hg (by intro c hc; rw [ho] at hc; cases hc) fun K hK => ?_
  have h := ev_rel s x
  have h' := ev_rel s y
  rw [hx] at h
  rw [hy] at h'
  obtain ⟨g, len, cap, e1, e2⟩ := h
  have hi : i < l.length := (List.getElem?_eq_some_iff.1 hc).1
  obtain ⟨g', cap', cur, xs, e3, hgc, hle, hm, hcs, hxs, hr, hxl⟩ := row_form s.toSimH hn (by omega)
  rw [e1] at e3
  injection e3 with e3 e4 e5
  injection e3 with e3; injection e3 with e3
  subst e3; subst e4; subst e5
  have hyr := GoT.val_cells h'
  have hlen : (a.eval y).cells.size = S.size := by simpa using S.len hyr
  have hfit := L.fit
  have hpos : 0 < l.length := by omega
  have hrow : i * T.size + T.size ≤ l.length * T.size := by
    have := Nat.mul_le_mul_right T.size (show i + 1 ≤ l.length by omega)
    rw [Nat.add_mul, Nat.one_mul] at this; exact this
  have hcl : l.length * T.size ≤ cap * T.size := Nat.mul_le_mul_right _ hle
  have hrun := run_storeVar_row (w := w) (off := i * T.size + off) ht hlen (S.one hyr) hgc (by omega)
  have hex : (execOp a.eval o).run J.P w = .ok .skip (w.setRow g (cur.toList.take (i * T.size + off) ++ (a.eval y).cells.toList ++ cur.toList.drop (i * T.size + off + S.size)).toArray) := by
    unfold execOp; rw [ho]
    simp only [e2, Instr.storeAt, Instr.sureAddr, Sem.run_bind, Sem.run_pure, Result.andThen_ok, hrun]
  unfold Oper.wp
  rw [hex, Oper.upon_skip, hd]
  refine hK _ _ ?_
  refine H _ _ ⟨ρ, s.modify hn trivial trivial (by simp) rfl rfl rfl (fun b hb => setRow_other w g b _ (fun e => hb (by rw [e1]; simp [blkOf, e]))) fun kp => ?_⟩
  -- the list's cells
  letI : Inhabited α := ⟨c⟩
  have hA : (arrT l.length hpos T).rel (Uu J ρ hp) (Nn ρ hp) w l xs := ⟨rfl, hr⟩
  have LL := (Lens.elem (h := hpos) hi T).comp L
  have h2 := LL.set_ hA hyr
  have hgd : l.getD i default = c := by rw [List.getD_eq_getElem?_getD, hc]; rfl
  simp only [hgd] at h2
  obtain ⟨_, h2⟩ := h2
  have hlen2 : (l.set i (set c z)).length = l.length := by simp
  refine ⟨xs.take (i * T.size + off) ++ (a.eval y).cells.toList ++ xs.drop (i * T.size + off + S.size), ⟨by rw [h2.len], ?_⟩, h2.mono kp⟩
  refine .inr ⟨g, cap, _, by rw [e1, hlen2], Nat.zero_le _, setRow_heap w g cur _ e _ hgc, by rw [hlen2]; exact hle, hm, ?_, ?_⟩
  · simp only [List.size_toArray, List.length_append, List.length_take, List.length_drop, Array.length_toList, hlen]; omega
  · rw [hlen2, ← hxs]
    have hls : (a.eval y).cells.toList.length = S.size := by simpa using hlen
    apply List.ext_getElem?
    intro j
    simp only [List.getElem?_append, List.getElem?_take, List.getElem?_drop, List.length_append, List.length_take, List.length_drop, Array.length_toList, hls]
    rw [Nat.min_eq_left (show i * T.size + off ≤ cur.size by omega), Nat.min_eq_left (show l.length * T.size ≤ cur.size by omega), Nat.min_eq_left (show i * T.size + off ≤ l.length * T.size by omega)]
    by_cases c1 : j < l.length * T.size
    · rw [if_pos c1]
      by_cases c2 : j < i * T.size + off
      · rw [if_pos (by omega), if_pos c2, if_pos c2, if_pos (by omega), if_pos c2, if_pos c2, if_pos c1]
      · by_cases c3 : j < i * T.size + off + S.size
        · rw [if_pos c3, if_neg c2, if_pos c3, if_neg c2]
        · rw [if_neg c3, if_neg c3, if_pos (by omega)]
    · rw [if_neg c1]
      rw [if_neg (by omega), if_neg (by omega)]

/-- A new row of nothing but zeros. -/
theorem relAll_made {U N : Nat → Prop} {x : α} {z : Value} (hz : ∀ U N w, T.rel U N w x z.cells.toList) (n : Nat) : relAll T U N w (List.replicate n x) ((List.replicate n z.cells.toList).flatten) := zero_all (fun U N w => hz U N w) U N w n
theorem made_flat (cs : Array Value) (h0 : 0 < cs.size) : ∀ n, (madeCells cs (n * cs.size)).toList = (List.replicate n cs.toList).flatten
  | 0 => by simp [madeCells]
  | n + 1 => by
    have ih := made_flat cs h0 n
    simp only [madeCells, Array.toList_map, Array.toList_range] at ih ⊢
    rw [Nat.add_mul, Nat.one_mul, List.range_add, List.map_append, ih, List.replicate_succ', List.flatten_append]
    congr 1
    simp only [List.map_map, List.flatten_cons, List.flatten_nil, List.append_nil]
    apply List.ext_getElem?
    intro i
    simp only [List.getElem?_map, List.getElem?_range', Function.comp_def]
    by_cases c : i < cs.size
    · rw [List.getElem?_range c]
      simp [Nat.mod_eq_of_lt c, c]
    · rw [List.getElem?_eq_none (by simpa using c), List.getElem?_eq_none (by simpa using c)]
      rfl
theorem zero_flat (cs : Array Value) (h0 : 0 < cs.size) (n : Nat) : (Builtin.zeroCells cs n).toList = (List.replicate n cs.toList).flatten := made_flat cs h0 n

/-- A row of so many zeros. -/
theorem aw_mks {t e d bytes n : Nat} {x y : Operand} {z0 : α} {i j : Int} (ho : o.op = .makeSlice t x y) (hd : o.dst = some d) (hg : o.guard = none) (hlt : Nat.blt d J.nt = true) (hx : fr.ev x = .val i64T i) (hy : fr.ev y = .val i64T j) (hi : i = (n : Int)) (hj : j = (n : Int)) (ht : rowB J.P t e T.size bytes = true) (hz : ZeroAt J.P e T z0)
    (hb : bytes * n ≤ 281474976710656 ∧ n ≤ 9223372036854775807 ∧ n * T.size ≤ 16777216) (H : AW J (nx + 1) (fr.set d (.own nx)) (hp.set nx (.row e T (List.replicate n z0))) (.ops ops rest :: k)) : AW J nx fr hp (.ops ops (o :: rest) :: k) := by
  intro a w ⟨ρ, s⟩
  subst hi; subst hj
  refine wpl_plain hg (by intro c hc; rw [ho] at hc; cases hc) fun K hK => ?_
  have h1 := ev_rel s x
  have h2 := ev_rel s y
  rw [hx] at h1; rw [hy] at h2
  obtain ⟨hu, inf, z, hinf, hzi, hsz, hby, hzs⟩ := rowB_spec ht
  obtain ⟨z', hz', hzr⟩ := hz
  have : z = z' := by rw [hinf] at hz'; simpa [hzi] using hz'
  subst this
  obtain ⟨w', hr, hown, hgr⟩ := run_makeSlice_full (P := J.P) w 0 t e inf z T.size hu hinf hzi hsz .i64 .i64 n hb.2.2 (by rw [hby]; exact hb.1) (by unfold maxLen; omega) (Nat.zero_le _)
  have hex : (execOp a.eval o).run J.P w = .ok (.value (.slice (some ⟨w.heap.size, 0, none⟩) n n)) w' := by
    unfold execOp; rw [ho]
    simp only [(val_int.1 h1).1, (val_int.1 h2).1, Sem.run_bind, hr]
    rfl
  unfold Oper.wp
  rw [hex, Oper.upon_value, hd]
  have hbl : Below w.heap.size w w' := ⟨⟨hgr.os, hgr.tape, hgr.output, hgr.size, fun b hlt => hgr.block b hlt (by simp)⟩, run_drawn _ hr⟩
  have hsz' : w.heap.size < w'.heap.size := by
    rcases hown.2 with ⟨h, _⟩ | ⟨g, cap, cur, hv, _, hg, _⟩
    · cases h
    · injection hv with hv _ _; injection hv with hv; injection hv with hv
      rw [hv]; exact (Array.getElem?_eq_some_iff.1 hg).1
  refine hK _ _ (H _ _ ⟨_, (s.bind (p := .slice (some ⟨w.heap.size, 0, none⟩) n n) (x := .row e T (List.replicate n z0)) hbl (fun b hb' => by simp only [blkOf, Option.some.injEq] at hb'; omega) fun kp => ⟨_, by rw [List.length_replicate]; exact hown, ?_⟩).put (by simpa using hlt) (by show _ = _; unfold ren; simp) (Nat.lt_succ_self nx)⟩)
  rw [← hzs, made_flat z.cells (by rw [hzs]; exact T.pos)]
  exact relAll_made (fun U N w => hzr U N w) n

/-! ## Parts of a row of the call's own -/
section
variable {t e n lo len : Nat} {x y z : Operand} {l : List α} {i j : Int} {p q : Nat}
theorem osub_cut {sz cap L g : Nat} (h : ρ n = .slice (some ⟨g, 0, none⟩) L cap) (hc : lo + len ≤ cap) : (AV.osub n sz lo len).rel ρ J.B (Uu J ρ hp) (Nn ρ hp) w (.slice (some (if cap = lo then ⟨g, 0, none⟩ else (⟨g, 0, none⟩ : Addr).add (lo * sz))) len (cap - lo)) := ⟨g, L, cap, h, hc, rfl⟩
theorem ite_some {γ : Type} {c : Prop} [Decidable c] {x y : γ} : (if c then some x else some y) = some (if c then x else y) := by split <;> rfl
/-- Its beginning. -/
theorem g_os_h (ho : o.op = .slice t x none (some z) none) (hx : fr.ev x = .own n) (hn : hp n = .row e T l) (hz : fr.ev z = .val i64T j) (hs : sliceB J.P t e T.size = true) (hq : j = (q : Int)) (h : 0 < l.length ∧ q ≤ l.length) : OpG J o fr hp (.osub n T.size 0 q) := by
  subst hq
  refine .of_run (fun {_ _ _ w} s hr _ => ?_) (fun h hn => by have := hn x (by rw [ho]; simp [Op.operands]); rw [hx] at this; exact this)
  have h1 := hr x (by rw [ho]; simp [Op.operands])
  have h2 := hr z (by rw [ho]; simp [Op.operands])
  rw [hx] at h1; rw [hz] at h2
  have h1 : _ = _ := h1
  obtain ⟨g, cap, cur, xs, e1, hg, hle, hm, _⟩ := row_form s hn h.1
  obtain ⟨hs1, hs2, _⟩ := sliceB_spec hs w
  refine ⟨_, ?_, osub_cut (w := w) (lo := 0) (len := q) e1 (by omega)⟩
  unfold execOp; rw [ho]
  have hb : (q : Int) ≤ (cap : Int) := by omega
  have hq : q ≤ cap := by omega
  simp [Instr.sliceAt, Instr.slice, Sem.run_bind, run_underlying hs1, h1, e1, (val_int.1 h2).1, Instr.sliceBounds, Instr.sliceBound, asIntOf, hb, hs2, hq, add_zero]
/-- Its end. -/
theorem g_os_l (ho : o.op = .slice t x (some y) none none) (hx : fr.ev x = .own n) (hn : hp n = .row e T l) (hy : fr.ev y = .val i64T i) (hs : sliceB J.P t e T.size = true) (hp' : i = (p : Int)) (h : 0 < l.length ∧ p ≤ l.length) : OpG J o fr hp (.osub n T.size p (l.length - p)) := by
  subst hp'
  refine .of_run (fun {_ _ _ w} s hr _ => ?_) (fun h hn => by have := hn x (by rw [ho]; simp [Op.operands]); rw [hx] at this; exact this)
  have h1 := hr x (by rw [ho]; simp [Op.operands])
  have h2 := hr y (by rw [ho]; simp [Op.operands])
  rw [hx] at h1; rw [hy] at h2
  have h1 : _ = _ := h1
  obtain ⟨g, cap, cur, xs, e1, hg, hle, hm, _⟩ := row_form s hn h.1
  obtain ⟨hs1, hs2, _⟩ := sliceB_spec hs w
  refine ⟨_, ?_, osub_cut (w := w) (lo := p) (len := l.length - p) e1 (by omega)⟩
  unfold execOp; rw [ho]
  have hb : (p : Int) ≤ (l.length : Int) := by omega
  simp [Instr.sliceAt, Instr.slice, Sem.run_bind, run_underlying hs1, h1, e1, (val_int.1 h2).1, Instr.sliceBounds, Instr.sliceBound, asIntOf, hb, hs2, h.2]
  split <;> rfl
/-- A part of its beginning, up to where the row ends. -/
theorem g_os_lh (ho : o.op = .slice t x (some y) (some z) none) (hx : fr.ev x = .osub n T.size 0 len) (hn : hp n = .row e T l) (hy : fr.ev y = .val i64T i) (hz : fr.ev z = .val i64T j) (hs : sliceB J.P t e T.size = true) (hp' : i = (p : Int)) (hq : j = (q : Int)) (h : 0 < l.length ∧ p ≤ q ∧ q ≤ l.length) : OpG J o fr hp (.osub n T.size p (q - p)) := by
  subst hp'; subst hq
  refine .of_run (fun {_ _ _ w} s hr _ => ?_) (fun h hn => by have := hn x (by rw [ho]; simp [Op.operands]); rw [hx] at this; exact this)
  have h1 := hr x (by rw [ho]; simp [Op.operands])
  have h2 := hr y (by rw [ho]; simp [Op.operands])
  have h3 := hr z (by rw [ho]; simp [Op.operands])
  rw [hx] at h1; rw [hy] at h2; rw [hz] at h3
  obtain ⟨g, cap, cur, xs, e1, hg, hle, hm, _⟩ := row_form s hn h.1
  obtain ⟨g', L', cap', e2, hc, e3⟩ := h1
  rw [e1] at e2
  injection e2 with e2 e4 e5
  injection e2 with e2; injection e2 with e2
  subst e2; subst e4; subst e5
  obtain ⟨hs1, hs2, _⟩ := sliceB_spec hs w
  refine ⟨_, ?_, osub_cut (w := w) (lo := p) (len := q - p) e1 (by omega)⟩
  have hb : (q : Int) ≤ (cap : Int) := by omega
  have hb2 : q ≤ cap := by omega
  have hc0 : cap ≠ 0 := by omega
  unfold execOp; rw [ho]
  have e3' : (if cap = 0 then (⟨g, 0, none⟩ : Addr) else (⟨g, 0, none⟩ : Addr).add (0 * T.size)) = ⟨g, 0, none⟩ := by rw [if_neg hc0, Nat.zero_mul, add_zero]
  rw [e3', Nat.sub_zero] at e3
  simp [Instr.sliceAt, Instr.slice, Sem.run_bind, run_underlying hs1, e3, (val_int.1 h2).1, (val_int.1 h3).1, Instr.sliceBounds, Instr.sliceBound, asIntOf, hb, hb2, hs2, h.2.1]
  split <;> rfl
end

/-- A part whose bounds are looked at alone. -/
theorem g_os_chk {t e n : Nat} {x y z m : Operand} {l : List α} {i j c : Int} {p q r : Nat} (ho : o.op = .slice t x (some y) (some z) (some m)) (hx : fr.ev x = .own n) (hn : hp n = .row e T l) (hy : fr.ev y = .val i64T i) (hz : fr.ev z = .val i64T j) (hm' : fr.ev m = .val i64T c) (hs : sliceB J.P t e T.size = true)
    (hp' : i = (p : Int)) (hq : j = (q : Int)) (hr' : c = (r : Int)) (h : 0 < l.length ∧ p ≤ q ∧ q ≤ r ∧ r ≤ l.length) : OpG J o fr hp .idk := by
  subst hp'; subst hq; subst hr'
  refine .of_run (fun {_ _ _ w} s hr _ => ?_) (fun _ _ => trivial)
  have h1 := hr x (by rw [ho]; simp [Op.operands])
  have h2 := hr y (by rw [ho]; simp [Op.operands])
  have h3 := hr z (by rw [ho]; simp [Op.operands])
  have h4 := hr m (by rw [ho]; simp [Op.operands])
  rw [hx] at h1; rw [hy] at h2; rw [hz] at h3; rw [hm'] at h4
  have h1 : _ = _ := h1
  obtain ⟨g, cap, cur, xs, e1, hg, hle, hm, _⟩ := row_form s hn h.1
  obtain ⟨hs1, hs2, _⟩ := sliceB_spec hs w
  have hb : (r : Int) ≤ (cap : Int) := by omega
  have hb2 : r ≤ cap := by omega
  refine ⟨.slice (if r = p then some ⟨g, 0, none⟩ else some ((⟨g, 0, none⟩ : Addr).add (p * T.size))) (q - p) (r - p), ?_, trivial⟩
  unfold execOp; rw [ho]
  simp [Instr.sliceAt, Instr.slice, Sem.run_bind, run_underlying hs1, h1, e1, (val_int.1 h2).1, (val_int.1 h3).1, (val_int.1 h4).1, Instr.sliceBounds, Instr.sliceBound, asIntOf, hb, hb2, hs2, h.2.1, h.2.2.1]
theorem g_len_s {t : TypeId} {x : Operand} {n sz lo len : Nat} (ho : o.op = .call { callee := .builtin .len, args := #[x], argTypes := #[t] }) (hx : fr.ev x = .osub n sz lo len) (hl : len ≤ 9223372036854775807) (hs : (match J.P.underlying t with | some (.slice _) => true | _ => false) = true) : OpG J o fr hp (.val i64T len) := by
  refine .of_run (fun {_ ρ a w} s hr _ => ?_) (fun _ _ => trivial)
  have h := hr x (by rw [ho]; simp [Op.operands, Call.operands])
  rw [hx] at h
  obtain ⟨g, L, cap, e1, hc, e2⟩ := h
  refine ⟨_, ?_, val_int.2 ⟨rfl, by rw [i64_in]; omega⟩⟩
  cases hu : J.P.underlying t with
  | none => simp [hu] at hs
  | some d =>
    cases d <;> simp [hu] at hs
    unfold execOp; rw [ho]
    simp [resolve, invoke, builtin, Builtin.len_, e2, Sem.run_bind, run_underlying hu, goInt]
theorem g_len_nil {t : TypeId} {x : Operand} (ho : o.op = .call { callee := .builtin .len, args := #[x], argTypes := #[t] }) (hx : fr.ev x = .lit (.slice none 0 0)) (hs : (match J.P.underlying t with | some (.slice _) => true | _ => false) = true) : OpG J o fr hp (.val i64T 0) := by
  refine .of_run (fun {_ ρ a w} s hr _ => ?_) (fun _ _ => trivial)
  have h := hr x (by rw [ho]; simp [Op.operands, Call.operands])
  rw [hx] at h
  have h : _ = _ := h
  refine ⟨_, ?_, val_int.2 ⟨rfl, by rw [i64_in]; omega⟩⟩
  cases hu : J.P.underlying t with
  | none => simp [hu] at hs
  | some d =>
    cases d <;> simp [hu] at hs
    unfold execOp; rw [ho]
    simp [resolve, invoke, builtin, Builtin.len_, h, Sem.run_bind, run_underlying hu, goInt]
theorem g_cap_nil {t : TypeId} {x : Operand} (ho : o.op = .call { callee := .builtin .cap, args := #[x], argTypes := #[t] }) (hx : fr.ev x = .lit (.slice none 0 0)) (hs : (match J.P.underlying t with | some (.slice _) => true | _ => false) = true) : OpG J o fr hp (.val i64T 0) := by
  refine .of_run (fun {_ ρ a w} s hr _ => ?_) (fun _ _ => trivial)
  have h := hr x (by rw [ho]; simp [Op.operands, Call.operands])
  rw [hx] at h
  have h : _ = _ := h
  refine ⟨_, ?_, val_int.2 ⟨rfl, by rw [i64_in]; omega⟩⟩
  cases hu : J.P.underlying t with
  | none => simp [hu] at hs
  | some d =>
    cases d <;> simp [hu] at hs
    unfold execOp; rw [ho]
    simp [resolve, invoke, builtin, Builtin.cap_, h, Sem.run_bind, run_underlying hu, goInt]
/-- Of nothing there is nothing but a beginning of nothing. -/
theorem g_sl_nil {t e : Nat} {x z : Operand} {sz : Nat} {j : Int} (ho : o.op = .slice t x none (some z) none) (hx : fr.ev x = .lit (.slice none 0 0)) (hz : fr.ev z = .val i64T j) (hj : j = 0) (hs : sliceB J.P t e sz = true) : OpG J o fr hp (.lit (.slice none 0 0)) := by
  subst hj
  refine .of_run (fun {_ _ _ w} s hr _ => ?_) (fun _ _ => trivial)
  have h1 := hr x (by rw [ho]; simp [Op.operands])
  have h2 := hr z (by rw [ho]; simp [Op.operands])
  rw [hx] at h1; rw [hz] at h2
  have h1 : _ = _ := h1
  obtain ⟨hs1, hs2, _⟩ := sliceB_spec hs w
  refine ⟨_, ?_, rfl⟩
  unfold execOp; rw [ho]
  simp [Instr.sliceAt, Instr.slice, Sem.run_bind, run_underlying hs1, h1, (val_int.1 h2).1, Instr.sliceBounds, Instr.sliceBound, asIntOf, hs2]

/-- Two parts of one row, the second one moved up to the first one. -/
theorem aw_append_in {s x : Operand} {t e n d bytes p q m : Nat} {l : List α} (ho : o.op = .call { callee := .builtin .append, args := #[s, x], argTypes := #[t, t] }) (hd : o.dst = some d) (hg : o.guard = none) (hlt : Nat.blt d J.nt = true)
    (hs : fr.ev s = .osub n T.size 0 p) (hx : fr.ev x = .osub n T.size q m) (hn : hp n = .row e T l) (ht : rowB J.P t e T.size bytes = true) (hlen : 0 < l.length ∧ p ≤ q ∧ q + m = l.length)
    (H : AW J nx (fr.set d (.osub n T.size 0 (p + m))) (hp.set n (.row e T (l.take p ++ l.drop q ++ l.drop (p + m)))) (.ops ops rest :: k)) : AW J nx fr hp (.ops ops (o :: rest) :: k) := by
  intro a w ⟨ρ, h⟩
  refine wpl_plain hg (by intro c hc; rw [ho] at hc; cases hc) fun K hK => ?_
  have hsv := ev_rel h s
  have hxv := ev_rel h x
  rw [hs] at hsv; rw [hx] at hxv
  obtain ⟨g, cap, cur, xs, e1, hgc, hle, hm, hcs, hxs, hr, hxl⟩ := row_form h.toSimH hn hlen.1
  obtain ⟨hu, i, z, hi, hz, hsz, hby, hzs⟩ := rowB_spec ht
  have hTpos := T.pos
  obtain ⟨g1, L1, c1, f1, f2, f3⟩ := hsv
  obtain ⟨g2, L2, c2, k1, k2, k3⟩ := hxv
  rw [e1] at f1 k1
  injection f1 with f1 f4 f5; injection f1 with f1; injection f1 with f1
  injection k1 with k1 k4 k5; injection k1 with k1; injection k1 with k1
  subst f1; subst f4; subst f5; subst k1; subst k4; subst k5
  have hc0 : cap ≠ 0 := by omega
  rw [if_neg hc0, Nat.zero_mul, add_zero, Nat.sub_zero] at f3
  have hmul : p * T.size + m * T.size ≤ cap * T.size := by rw [← Nat.add_mul]; exact Nat.mul_le_mul_right _ (by omega)
  have hqm : q * T.size + m * T.size = l.length * T.size := by rw [← Nat.add_mul, hlen.2.2]
  have hpq : p * T.size ≤ q * T.size := Nat.mul_le_mul_right _ hlen.2.1
  have hlc : l.length * T.size ≤ cap * T.size := Nat.mul_le_mul_right _ hle
  -- what is moved
  have hds : relAll T (Uu J ρ hp) (Nn ρ hp) w (l.drop q) (xs.drop (q * T.size)) := hr.drop q
  have hdl : (xs.drop (q * T.size)).length = m * T.size := by rw [List.length_drop, hxl]; omega
  have hrun : (Builtin.append_ #[t, t] o.type #[a.eval s, a.eval x]).run J.P w = .ok (.slice (some ⟨g, 0, none⟩) (p + m) cap) (w.setRow g (cur.toList.take (p * T.size) ++ xs.drop (q * T.size) ++ cur.toList.drop (p * T.size + m * T.size)).toArray) := by
    have := run_append_room (P := J.P) w t o.type e i hu hi g p cap cur hgc (if cap = q then ⟨g, 0, none⟩ else (⟨g, 0, none⟩ : Addr).add (q * T.size)) m (cap - q) (xs.drop (q * T.size)) (by rw [hsz]; exact hdl) (fun j u hj => by
      by_cases c : cap = q
      · exfalso
        have : m = 0 := by omega
        have h0 : (xs.drop (q * T.size)).length = 0 := by rw [hdl, this, Nat.zero_mul]
        rw [List.length_eq_zero_iff.1 h0] at hj; simp at hj
      · rw [if_neg c, add_of_add, lit_add, cell_of_row w g _ cur e (0, 0) hgc]
        rw [List.getElem?_drop, ← hxs, List.getElem?_take] at hj
        split at hj
        · simpa using hj
        · simp at hj) hds.one (by omega) (by rw [hsz, hdl, hcs]; exact hmul)
    rw [hsz, hdl] at this
    rw [f3, k3]; exact this
  unfold Oper.wp
  rw [run_append_op ho hrun, Oper.upon_value, hd]
  have hll : (l.take p ++ l.drop q ++ l.drop (p + m)).length = l.length := by simp; omega
  refine hK _ _ (H _ _ ⟨ρ, SimR.put (x := .osub n T.size 0 (p + m)) (h.modify (w' := w.setRow g (cur.toList.take (p * T.size) ++ xs.drop (q * T.size) ++ cur.toList.drop (p * T.size + m * T.size)).toArray) (x := .row e T (l.take p ++ l.drop q ++ l.drop (p + m))) hn trivial trivial (by simp) rfl rfl rfl (fun b hb => setRow_other w g b _ (fun e => hb (by rw [e1]; simp [blkOf, e]))) fun kp => ?_) (by simpa using hlt) ⟨g, l.length, cap, e1, by omega, by rw [if_neg hc0, Nat.zero_mul, add_zero, Nat.sub_zero]⟩ (by
    show n < nx
    exact Nat.lt_of_not_le fun hle => by
      have := h.hnx n hle
      rw [hn] at this; cases this)⟩)
  have e5 : (p + m) * T.size = p * T.size + m * T.size := Nat.add_mul ..
  refine ⟨xs.take (p * T.size) ++ xs.drop (q * T.size) ++ xs.drop ((p + m) * T.size), ⟨?_, .inr ⟨g, cap, _, by rw [e1, hll], Nat.zero_le _, setRow_heap w g cur _ e _ hgc, by rw [hll]; exact hle, hm, ?_, ?_⟩⟩, (((hr.take p).append hds).append (hr.drop (p + m))).mono kp⟩
  · rw [hll]; simp only [List.length_append, List.length_take, List.length_drop, hxl]; rw [e5]; omega
  · simp only [List.size_toArray, List.length_append, List.length_take, Array.length_toList, List.length_drop, hdl, hxl]
    omega
  · rw [hll]
    rw [← hxs, e5]
    apply List.ext_getElem?
    intro j
    simp only [List.getElem?_append, List.getElem?_take, List.getElem?_drop, List.length_append, List.length_take, List.length_drop, Array.length_toList]
    rw [hcs, Nat.min_eq_left (show p * T.size ≤ cap * T.size by omega), Nat.min_eq_left (show l.length * T.size ≤ cap * T.size by omega), Nat.min_eq_left (show p * T.size ≤ l.length * T.size by omega)]
    have e6 : l.length * T.size - q * T.size = m * T.size := by omega
    rw [e6]
    by_cases c1 : j < l.length * T.size
    · rw [if_pos c1]
      by_cases c2 : j < p * T.size
      · rw [if_pos (by omega), if_pos c2, if_pos c2, if_pos (by omega), if_pos c2, if_pos c2, if_pos c1]
      · by_cases c3 : j < p * T.size + m * T.size
        · rw [if_pos c3, if_neg c2, if_pos c3, if_neg c2]
        · rw [if_neg c3, if_neg c3, if_pos (by omega)]
    · rw [if_neg c1, if_neg (by omega), if_neg (by omega)]

theorem run_clear {P : Program} {t ty e : TypeId} {i : TypeInfo} {z : Value} (ht : P.underlying t = some (.slice e)) (hi : P.info? e = some i) (hz : i.zero = some z) (hzs : z.cells.size = i.size) (hp' : 0 < i.size) {g lo len cap : Nat} {cur : Array Value} (hgc : w.heap[g]? = some (.cells cur e (0, 0))) (hlen : 0 < len) (hfit : lo + len * i.size ≤ cur.size) (h1 : ∀ u ∈ z.cells.toList, u.oneCell' = true) :
    (Builtin.clear_ #[t] ty #[.slice (some ((⟨g, 0, none⟩ : Addr).add lo)) len cap]).run P w = .ok (.tuple #[]) (w.setRow g (cur.toList.take lo ++ (List.replicate len z.cells.toList).flatten ++ cur.toList.drop (lo + len * i.size)).toArray) := by
  have hzero : (zeroValue e).run P w = .ok z w := by simp [zeroValue, typeInfo, hi, hz]
  have hfl := zero_flat z.cells (by omega) len
  have hl : ((List.replicate len z.cells.toList).flatten).length = len * i.size := by simp [hzs]
  have hst := run_storeCells_at P g lo e ((List.replicate len z.cells.toList).flatten) 0 cur w hgc (by rw [hl]; simpa using hfit) (fun v hv => by
    obtain ⟨x, hx, hv⟩ := List.mem_flatten.1 hv
    rw [(List.mem_replicate.1 hx).2] at hv
    exact h1 v hv)
  rw [Nat.add_zero, hl] at hst
  obtain ⟨m, rfl⟩ : ∃ m, len = m + 1 := ⟨len - 1, by omega⟩
  rw [lit_add]
  simp only [Builtin.clear_, List.getElem?_toArray, List.getElem?_cons_zero, Sem.run_bind, run_underlying ht, Result.andThen_ok, hzero, hfl, hst, Sem.run_pure]

/-- The end of a row becomes nothing but zeros. -/
theorem aw_clear {x : Operand} {t e n bytes lo len : Nat} {z0 : α} {l : List α} (ho : o.op = .call { callee := .builtin .clear, args := #[x], argTypes := #[t] }) (hd : o.dst = none) (hg : o.guard = none) (hx : fr.ev x = .osub n T.size lo len) (hn : hp n = .row e T l) (ht : rowB J.P t e T.size bytes = true) (hz : ZeroAt J.P e T z0)
    (hlen : 0 < len ∧ lo + len = l.length) (H : AW J nx fr (hp.set n (.row e T (l.take lo ++ List.replicate len z0))) (.ops ops rest :: k)) : AW J nx fr hp (.ops ops (o :: rest) :: k) := by
  intro a w ⟨ρ, h⟩
  refine wpl_plain hg (by intro c hc; rw [ho] at hc; cases hc) fun K hK => ?_
  have hxv := ev_rel h x
  rw [hx] at hxv
  obtain ⟨g, cap, cur, xs, e1, hgc, hle, hm, hcs, hxs, hr, hxl⟩ := row_form h.toSimH hn (by omega)
  obtain ⟨hu, i, z, hi, hzi, hsz, hby, hzs⟩ := rowB_spec ht
  obtain ⟨z', hz', hzr⟩ := hz
  have : z = z' := by rw [hi] at hz'; simpa [hzi] using hz'
  subst this
  have hTpos := T.pos
  obtain ⟨g2, L2, c2, k1, k2, k3⟩ := hxv
  rw [e1] at k1
  injection k1 with k1 k4 k5; injection k1 with k1; injection k1 with k1
  subst k1; subst k4; subst k5
  rw [if_neg (by omega)] at k3
  have e5 : lo * T.size + len * T.size = l.length * T.size := by rw [← Nat.add_mul, hlen.2]
  have hlc : l.length * T.size ≤ cap * T.size := Nat.mul_le_mul_right _ hle
  have hrun := run_clear (ty := o.type) (cap := cap - lo) hu hi hzi (by rw [hzs, hsz]) (by omega) hgc hlen.1 (lo := lo * T.size) (by rw [hsz]; omega) (T.one (hzr (Uu J ρ hp) (Nn ρ hp) w))
  rw [hsz] at hrun
  have hex : (execOp a.eval o).run J.P w = .ok (.value (.tuple #[])) (w.setRow g (cur.toList.take (lo * T.size) ++ (List.replicate len z.cells.toList).flatten ++ cur.toList.drop (lo * T.size + len * T.size)).toArray) := by
    unfold execOp
    simp only [ho, resolve, invoke, builtin, Sem.run_bind, Sem.run_pure, Result.andThen_ok, List.map_toArray, List.map_cons, List.map_nil, k3, hrun]
  unfold Oper.wp
  rw [hex, Oper.upon_value, hd]
  have hll : (l.take lo ++ List.replicate len z0).length = l.length := by simp; omega
  have hfl : ((List.replicate len z.cells.toList).flatten).length = len * T.size := by simp [hzs]
  refine hK _ _ (H _ _ ⟨ρ, h.modify (x := .row e T (l.take lo ++ List.replicate len z0)) hn trivial trivial (by simp) rfl rfl rfl (fun b hb => setRow_other w g b _ (fun e => hb (by rw [e1]; simp [blkOf, e]))) fun kp => ?_⟩)
  refine ⟨xs.take (lo * T.size) ++ (List.replicate len z.cells.toList).flatten, ⟨?_, .inr ⟨g, cap, _, by rw [e1, hll], Nat.zero_le _, setRow_heap w g cur _ e _ hgc, by rw [hll]; exact hle, hm, ?_, ?_⟩⟩, ((hr.take lo).append (relAll_made hzr len)).mono kp⟩
  · rw [hll]; simp only [List.length_append, List.length_take, hxl, hfl]; omega
  · simp only [List.size_toArray, List.length_append, List.length_take, Array.length_toList, List.length_drop, hfl]; omega
  · rw [hll, ← hxs]
    apply List.ext_getElem?
    intro j
    simp only [List.getElem?_append, List.getElem?_take, List.getElem?_drop, List.length_append, List.length_take, List.length_drop, Array.length_toList, hfl]
    rw [hcs, Nat.min_eq_left (show lo * T.size ≤ cap * T.size by omega), Nat.min_eq_left (show l.length * T.size ≤ cap * T.size by omega), Nat.min_eq_left (show lo * T.size ≤ l.length * T.size by omega)]
    by_cases c1 : j < l.length * T.size
    · rw [if_pos c1, if_pos (by omega)]
      by_cases c2 : j < lo * T.size
      · simp only [if_pos c2, if_pos c1]
      · simp only [if_neg c2]
    · rw [if_neg c1, if_neg (by omega), List.getElem?_eq_none (by rw [hfl]; omega)]

/-- What is answered: the beginning of a row. -/
theorem own_part {e n len : Nat} {l : List α} {v : Value} (s : SimH J nx ρ hp w) (hn : hp n = .row e T l) (hl : len ≤ l.length) (hv : (AV.osub n T.size 0 len).rel ρ J.B (Uu J ρ hp) (Nn ρ hp) w v) (h0 : 0 < l.length) : ∃ xs, w.ownsRow 0 e T.size v len xs ∧ blkOf v = blkOf (ρ n) ∧ relAll T (Uu J ρ hp) (Nn ρ hp) w (l.take len) xs := by
  obtain ⟨g, cap, cur, xs, e1, hgc, hle, hm, hcs, hxs, hr, hxl⟩ := row_form s hn h0
  obtain ⟨g2, L2, c2, k1, k2, k3⟩ := hv
  rw [e1] at k1
  injection k1 with k1 k4 k5; injection k1 with k1; injection k1 with k1
  subst k1; subst k4; subst k5
  rw [if_neg (by omega), Nat.zero_mul, add_zero, Nat.sub_zero] at k3
  have hmul : len * T.size ≤ l.length * T.size := Nat.mul_le_mul_right _ hl
  refine ⟨xs.take (len * T.size), ⟨by rw [List.length_take, hxl]; omega, .inr ⟨g, cap, cur, k3, Nat.zero_le _, hgc, by omega, hm, hcs, ?_⟩⟩, by rw [k3, e1]; rfl, hr.take len⟩
  rw [← hxs, List.take_take, Nat.min_eq_left hmul]
theorem ret_fresh_s [Strict T] {X : AV} {n e len : Nat} {l l' : List α} (h : X = .osub n T.size 0 len) (hn : hp n = .row e T l) (hl : 0 < l.length ∧ len ≤ l.length) (he : l.take len = l') : RetOk J hp X (.fresh e T l') := fun nx ρ w v s hx => by
  subst h; subst he
  obtain ⟨xs, ho, hb, hr⟩ := own_part s hn hl.2 hx hl.1
  have hlen : (l.take len).length = len := by simp; omega
  refine ⟨xs, by rw [hlen]; exact ho, fun b hb' => s.new n b (by rw [hn]; trivial) (by rw [← hb]; exact hb'), (hr.strict (N' := Uu J ρ hp)).mono ⟨fun _ h => h, Nat.le_refl _, fun _ _ _ => rfl, fun b _ h => h.imp id (fun h => ⟨n, by rw [hn]; trivial, hb ▸ h⟩), fun b _ h => h.imp id (fun h => ⟨n, by rw [hn]; trivial, hb ▸ h⟩)⟩⟩
theorem retm_fresh_s [Strict T] {X : AV} {n e len : Nat} {l l' : List α} (h : X = .osub n T.size 0 len) (hn : hp n = .row e T l) (hl : 0 < l.length ∧ len ≤ l.length) (he : l.take len = l') : RetOkM J hp .none_ X (.fresh e T l') := fun nx ρ w v p hk hρ hgr s hx => by
  subst h; subst he
  obtain ⟨xs, ho, hb, hr⟩ := own_part s hn hl.2 hx hl.1
  have hlen : (l.take len).length = len := by simp; omega
  have hlive : (hp n).live := by rw [hn]; trivial
  refine ⟨xs, by rw [hlen]; exact ho, fun b hb' => ?_, (hr.strict (N' := Uu J ρ hp)).mono ⟨fun _ h => h, Nat.le_refl _, fun _ _ _ => rfl, fun b _ h => h.elim (bU_sub (h' := .none_) hk hρ (fun h => False.elim h) s b) (fun h => .inr ⟨n, hlive, hb ▸ h⟩), fun b _ h => h.elim (bU_sub (h' := .none_) hk hρ (fun h => False.elim h) s b) (fun h => .inr ⟨n, hlive, hb ▸ h⟩)⟩⟩
  have := s.new n b hlive (by rw [← hb]; exact hb')
  refine ⟨this.1.imp id fun h => ⟨by rw [hgr] at h; exact h, fun h => h⟩, this.2⟩

theorem aw_factrow {n e : Nat} {l : List α} (hn : hp n = .row e T l) (H : l.length ≤ 9223372036854775807 → AW J nx fr hp k) : AW J nx fr hp k := fun a w ⟨ρ, s⟩ => by
  refine H ?_ a w ⟨ρ, s⟩
  by_cases c : 0 < l.length
  · obtain ⟨g, cap, cur, xs, _, _, h1, h2, _⟩ := row_form s.toSimH hn c
    unfold maxLen at h2; omega
  · omega
end
end Go.Ab
