/- Arrays built whole; results that lie in memory; appended zeros; closures that answer with new slices. -/
import Derived.Test.YtmfgemnmelbflaaOwn
import Derived.Lib.AppendZeros
namespace Go.Ab
set_option linter.unusedVariables false
set_option linter.unusedSimpArgs false
open Go.RowKit

section
variable {J : Job} {nx : Nat} {ρ : Nat → Value} {fr : Fr} {hp : Hp} {a : Act} {w w' : World} {k : List It} {ops : Array Oper} {rest : List Oper} {o : Oper}
variable {α β γ : Type} {T : GoT α} {S : GoT β} {get : α → β} {set : α → β → α}

/-- An array of which each place is told. -/
theorem g_buildA {t e m : Nat} {hm : 0 < m} {ps : List (Nat × Operand)} {xs x0 : List α} (ho : o.op = .build t ps.toArray) (ha : arrB J.P t m e T.size = true) (hz : ZeroAt J.P t (arrT m hm T) x0) (hv : ValsOk fr T 0 ps xs) (hl : Nat.beq ps.length m = true) : OpG J o fr hp (.val (arrT m hm T) xs) := by
  refine .of_run (fun {_ ρ a w} s hr _ => ?_) (fun _ _ => trivial)
  obtain ⟨h1, h2⟩ := arrB_spec ha w
  obtain ⟨z, hz1, hz2⟩ := hz
  obtain ⟨i, hi, hiz⟩ := Option.bind_eq_some_iff.1 hz1
  have hlen := vals_len hv
  have hl : ps.length = m := Nat.eq_of_beq_eq_true hl
  have hsz : z.cells.size = m * T.size := by
    have := (arrT m hm T).len (hz2 (Uu J ρ hp) (Nn ρ hp) w)
    rw [Array.length_toList] at this; exact this
  obtain ⟨out, mid, f1, f2, f3⟩ := fill_all (w := w) (a := a) (U := Uu J ρ hp) (N := Nn ρ hp) ps xs 0 z.cells hv (fun p hp' x hx => by
    have := hr p.2 (by rw [ho]; simp [Op.operands]; exact ⟨_, hp'⟩)
    rw [hx] at this; exact this) (by rw [hsz, ← hl, hlen]; simp)
  have hout : out = mid := by
    rw [f2]
    have : (0 + xs.length) * T.size = z.cells.toList.length := by
      have e1 : z.cells.toList.length = m * T.size := by rw [← hsz]; rfl
      rw [e1, Nat.zero_add, ← hlen, hl]
    rw [this]; simp
  refine ⟨.agg out.toArray, ?_, out, ⟨by rw [← hlen, hl], by rw [hout]; exact f3⟩, .inl ⟨rfl, rfl⟩⟩
  have hzr : (zeroValue t).run J.P w = .ok z w := by simp [zeroValue, typeInfo, hi, hiz]
  have hp : (ps.toArray.map fun (i, x) => (i, a.eval x)).toList = ps.map fun p => (p.1, a.eval p.2) := by simp
  unfold execOp; rw [ho]
  simp only [Instr.build, Sem.run_bind, hzr, Result.andThen_ok, run_underlying h1, h2, hp, f1, Sem.run_pure]
/-- An array of nothing but zeros. -/
theorem g_buildZ {t e m sz : Nat} {x0 : α} (ho : o.op = .build t #[]) (ha : arrB J.P t m e sz = true) (hz : ZeroAt J.P t T x0) (hagg : T.agg = true) : OpG J o fr hp (.val T x0) := by
  refine .of_run (fun {_ ρ a w} s hr _ => ?_) (fun _ _ => trivial)
  obtain ⟨h1, h2⟩ := arrB_spec ha w
  obtain ⟨z, hz1, hz2⟩ := hz
  obtain ⟨i, hi, hiz⟩ := Option.bind_eq_some_iff.1 hz1
  refine ⟨.agg z.cells, ?_, z.cells.toList, hz2 _ _ _, .inl ⟨hagg, by simp⟩⟩
  have hzr : (zeroValue t).run J.P w = .ok z w := by simp [zeroValue, typeInfo, hi, hiz]
  unfold execOp; rw [ho]
  simp [Instr.build, Sem.run_bind, hzr, run_underlying h1, h2, Instr.fill]

/-- A result that lies in a variable. -/
theorem run_cell {t ty n tb : Nat} {fn : Func} {x : α} (h : SimR J nx ρ fr hp a w) (hfn : fn.results = #[.cell t ty]) (ht : fr t = .ptr n 0) (hn : hp n = .box tb T x) (hty : tyB J.P ty T.size T.agg = true) : ∃ v, (results fn a.tmps).run J.P w = .ok v w ∧ T.val (Uu J ρ hp) (Nn ρ hp) w x v := by
  have h1 := h.frel t
  rw [ht] at h1
  have h2 := box_at h.toSimH hn (Lens.self T) h1
  obtain ⟨ad, _, hv, hat⟩ := h2
  obtain ⟨v, hl, hx⟩ := run_loadVar_at (P := J.P) hty hat
  refine ⟨v, ?_, hx⟩
  rw [results, hfn]
  have hv' : a.tmps[t]?.getD undef = _ := (Array.getD_eq_getD_getElem? ..).symm.trans hv
  simp [hv', asAddr, Sem.run_bind, hl]
theorem ar_retc1 [Strict T] {t ty n tb : Nat} {x y : α} (hR : J.R = CallPostG J.ext J.gr J.w0 (.val T y)) (hfn : J.fn.results = #[.cell t ty]) (ht : fr t = .ptr n 0) (hn : hp n = .box tb T x) (hty : tyB J.P ty T.size T.agg = true) (e : x = y) (hds : J.ds = [] ∧ J.rd = none := by exact ⟨rfl, rfl⟩) : AR J nx fr hp := by
  subst e
  intro a w ⟨ρ, s⟩
  obtain ⟨v, h1, h2⟩ := run_cell s hfn ht hn hty
  refine J.fin hds.2 _ _ _ (s.defers.trans hds.1) h1 s.below ?_
  rw [hR]
  exact ⟨s.below, GoT.val_mono (keeps_ret s.toSimH) (GoT.val_strict h2)⟩

theorem aw_retc1 [Strict T] {t ty n tb : Nat} {x y : α} (hR : J.R = CallPostG J.ext J.gr J.w0 (.val T y)) (hfn : J.fn.results = #[.cell t ty]) (ht : fr t = .ptr n 0) (hn : hp n = .box tb T x) (hty : tyB J.P ty T.size T.agg = true) (e : x = y) (hds : J.ds = [] ∧ J.rd = none := by exact ⟨rfl, rfl⟩) : AW J nx fr hp (.code .ret :: k) := aw_of_ar (ar_retc1 hR hfn ht hn hty e hds)
/-- So many zeros behind nothing. -/
theorem aw_appendz {s x : Operand} {t t2 e d bytes n : Nat} {j : Int} {z0 : α} (ho : o.op = .call { callee := .builtin .append, args := #[s, x], argTypes := #[t, t2] }) (hd : o.dst = some d) (hg : o.guard = none) (hlt : Nat.blt d J.nt = true)
    (hs : fr.ev s = .lit (.slice none 0 0)) (hx : fr.ev x = .val i64T j) (hj : j = (n : Int)) (ht : rowB J.P t e T.size bytes = true) (hz : ZeroAt J.P e T z0) (h2 : J.P.underlying t2 = some (.int .i64)) (hlen : 0 < n ∧ n * bytes ≤ 140737488355328 ∧ n ≤ 9223372036854775807)
    (H : AW J (nx + 1) (fr.set d (.own nx)) (hp.set nx (.row e T (List.replicate n z0))) (.ops ops rest :: k)) : AW J nx fr hp (.ops ops (o :: rest) :: k) := by
  intro a w ⟨ρ, h⟩
  subst hj
  refine wpl_plain hg (by intro c hc; rw [ho] at hc; cases hc) fun K hK => ?_
  have hsv := ev_rel h s
  have hxv := ev_rel h x
  rw [hs] at hsv; rw [hx] at hxv
  have hsv : a.eval s = .slice none 0 0 := hsv
  obtain ⟨hu, i, z, hi, hzi, hsz, hby, hzs⟩ := rowB_spec ht
  obtain ⟨z', hz', hzr⟩ := hz
  have : z = z' := by rw [hi] at hz'; simpa [hzi] using hz'
  subst this
  have hTpos := T.pos
  have hr := Lib.run_append_nil_zeros (P := J.P) w t t2 o.type e i z .i64 .i64 hu h2 hi hzi n hlen.1 (by omega) (by omega) (by rw [hby]; omega)
  refine Lib.wp_append_run w s x t t2 ho _ _ hsv (val_int.1 hxv).1 _ _ hr ?_
  rw [hd]
  have hbl : Below w.heap.size w (w.drew.alloc (.cells (Builtin.zeroCells z.cells n ++ Builtin.zeroCells z.cells (grownCap w n 0 e - n)) e)) := by
    have h1 : Below w.heap.size w w.drew := ⟨⟨rfl, rfl, rfl, Nat.le_refl _, fun _ _ => rfl⟩, Nat.le_succ _⟩
    exact h1.trans (below_alloc w.drew _)
  have hcap := grownCap_ge w n 0 e
  have hcm := grownCap_le_maxLen w n 0 e (by unfold maxLen; omega)
  have hflat := zero_flat z.cells (by omega) n
  refine hK _ _ (H _ _ ⟨_, (h.bind (p := .slice (some ⟨w.heap.size, 0, none⟩) n (grownCap w n 0 e)) (x := .row e T (List.replicate n z0)) hbl (fun b hb => by simp only [blkOf, Option.some.injEq] at hb; subst hb; exact ⟨Nat.le_refl _, by simp⟩) fun kp => ⟨(List.replicate n z.cells.toList).flatten, ⟨by simp [hzs], .inr ⟨w.heap.size, grownCap w n 0 e, _, by rw [List.length_replicate], Nat.zero_le _, heap_alloc_new w.drew _, by rw [List.length_replicate]; exact hcap, ?_, ?_, ?_⟩⟩, relAll_made hzr n⟩).put (by simpa using hlt) (by show _ = _; unfold ren; simp) (Nat.lt_succ_self nx)⟩)
  · exact hcm
  · simp [Builtin.zeroCells, hzs]
    rw [← Nat.add_mul]; congr 1; omega
  · rw [List.length_replicate, Array.toList_append, hflat, List.take_left' (by simp [hzs])]

/-- A new slice may be read, and handed on. -/
theorem fresh_pub [Strict T] {e : TypeId} {l : List α} {ext : Nat → Prop} {w0 w : World} {v : Value} (hlt : ∀ b, ext b → b < w0.heap.size) (h : (AV.fresh e T l).rel ρ0 (fun b => w0.heap.size ≤ b) ext ext w v) : (AV.val (sl T) l).rel ρ0 (fun b => w0.heap.size ≤ b) ext ext w v := by
  obtain ⟨xs, ho, hf, hr⟩ := h
  refine slice_own (b := false) ho rfl (hr.mono ⟨fun _ h => h, Nat.le_refl _, fun _ _ _ => rfl, fun _ _ h => .inl h, fun _ _ h => .inl h⟩) (fun g hg he => ?_)
  have := (hf g hg).1
  have := hlt g he
  omega
theorem tells_pub [Strict T] {P : Program} {f : FuncId} {As : List AV} {e : TypeId} {l : List α} (h : Tells P f As (.fresh e T l)) : Tells P f As (.val (sl T) l) := fun ext w vs hlt ha =>
  Calls.mono (h ext w vs hlt ha) fun en w' he => by
    cases en with
    | returned v => exact ⟨he.1, fresh_pub hlt he.2⟩
    | panicked c => exact he
    | outgrown => exact he
theorem tells_pub2 [Strict T] {P : Program} {f : FuncId} {As : List AV} {e : TypeId} {l : List α} {X : AV} (h : Tells P f As (.tup2 (.fresh e T l) X)) : Tells P f As (.tup2 (.val (sl T) l) X) := fun ext w vs hlt ha =>
  Calls.mono (h ext w vs hlt ha) fun en w' he => by
    cases en with
    | returned v =>
      obtain ⟨hb, x, y, rfl, hx, hy⟩ := he
      exact ⟨hb, x, y, rfl, fresh_pub hlt hx, hy⟩
    | panicked c => exact he
    | outgrown => exact he
theorem tells_pub3 [Strict T] {P : Program} {f : FuncId} {As : List AV} {e : TypeId} {l : List α} {X Y : AV} (h : Tells P f As (.tup3 (.fresh e T l) X Y)) : Tells P f As (.tup3 (.val (sl T) l) X Y) := fun ext w vs hlt ha =>
  Calls.mono (h ext w vs hlt ha) fun en w' he => by
    cases en with
    | returned v =>
      obtain ⟨hb, x, y, z, rfl, hx, hy⟩ := he
      exact ⟨hb, x, y, z, rfl, fresh_pub hlt hx, hy⟩
    | panicked c => exact he
    | outgrown => exact he
end
end Go.Ab
