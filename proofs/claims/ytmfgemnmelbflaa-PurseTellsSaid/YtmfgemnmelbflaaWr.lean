/- New memory, writing, appending, calls, beginning and end of a call. -/
import Derived.Test.YtmfgemnmelbflaaMem
namespace Go.Ab
set_option linter.unusedVariables false
set_option linter.unusedSimpArgs false
open Go.RowKit

section
variable {J : Job} {nx : Nat} {ρ : Nat → Value} {fr : Fr} {hp : Hp} {a : Act} {w w' : World} {k : List It} {ops : Array Oper} {rest : List Oper} {o : Oper}
variable {α β : Type} {T : GoT α} {S : GoT β} {get : α → β} {set : α → β → α}

theorem below_alloc (w : World) (o : Obj) : Below w.heap.size w (w.alloc o) := (Below.refl _ _).alloc (Nat.le_refl _) o

/-- A new variable. -/
theorem SimR.newbox (h : SimR J nx ρ fr hp a w) {ty : TypeId} {x : α} {cs : List Value} (hr : T.rel (Uu J ρ hp) (Nn ρ hp) w x cs) :
    SimR J (nx + 1) (ren ρ nx (.pointer (some ⟨w.heap.size, 0, none⟩))) fr (hp.set nx (.box ty T x)) a (w.alloc (.cells cs.toArray ty)) :=
  h.bind (below_alloc _ _) (fun b e => by simp only [blkOf, Option.some.injEq] at e; subst e; exact ⟨Nat.le_refl _, by simp⟩)
    (fun k => ⟨w.heap.size, cs, rfl, heap_alloc_new w _, T.mono k hr⟩)

/-- The cells of a zero value. -/
def Zero (T : GoT α) (x : α) (cs : List Value) : Prop := ∀ U N w, T.rel U N w x cs
theorem zero_pair {A : GoT α} {B : GoT β} {x : α} {y : β} {c d : List Value} (h : Zero A x c) (h' : Zero B y d) : Zero (pairT A B) (x, y) (c ++ d) := fun U N w => ⟨c, d, rfl, h U N w, h' U N w⟩
theorem zero_all {x : α} {c : List Value} (h : Zero T x c) (U N : Nat → Prop) (w : World) : ∀ n, relAll T U N w (List.replicate n x) ((List.replicate n c).flatten)
  | 0 => rfl
  | n + 1 => ⟨c, _, rfl, h U N w, zero_all h U N w n⟩
theorem zero_arr {x : α} {c : List Value} {n : Nat} (hn : 0 < n) (h : Zero T x c) : Zero (arrT n hn T) (List.replicate n x) ((List.replicate n c).flatten) := fun U N w => ⟨by simp, zero_all h U N w n⟩
theorem zero_i64 : Zero i64T 0 [.int .i64 0] := fun _ _ _ => ⟨rfl, i64_in.2 (by omega)⟩
theorem zero_bool : Zero boolT false [.bool false] := fun _ _ _ => ⟨rfl, trivial⟩
theorem zero_u8 : Zero u8T 0 [.int .u8 0] := fun _ _ _ => ⟨rfl, trivial⟩
theorem zero_u32 : Zero u32T 0 [.int .u32 0] := fun _ _ _ => ⟨rfl, trivial⟩
theorem zero_u64 : Zero u64T 0 [.int .u64 0] := fun _ _ _ => ⟨rfl, trivial⟩
theorem zero_sl {b : Bool} : Zero (slT b T) [] [.slice none 0 0] := fun _ _ _ => ⟨none, 0, rfl, Nat.le_refl _, by unfold maxLen; omega, fun h => absurd rfl h⟩
theorem zero_id : Zero idT (List.replicate 32 0) ((List.replicate 32 [.int .u8 0]).flatten) := zero_arr (by decide) zero_u8
def ZeroAt (P : Program) (ty : TypeId) (T : GoT α) (x : α) : Prop := ∃ z, (P.info? ty).bind (·.zero) = some z ∧ ∀ U N w, T.rel U N w x z.cells.toList
theorem zeroAt_agg {P : Program} {ty : TypeId} {x : α} {cs : List Value} (h : Zero T x cs) (hz : (P.info? ty).bind (·.zero) = some (.agg cs.toArray)) : ZeroAt P ty T x := ⟨_, hz, fun U N w => by simpa [Value.cells] using h U N w⟩
theorem zeroAt_one {P : Program} {ty : TypeId} {x : α} {v : Value} (h : Zero T x [v]) (hz : (P.info? ty).bind (·.zero) = some v) : ZeroAt P ty T x := ⟨_, hz, fun U N w => by
  have := T.one (h U N w) v (by simp)
  have e : v.cells = #[v] := by cases v <;> simp_all [Value.cells, Value.oneCell']
  rw [e]; exact h U N w⟩

theorem aw_alloc {ty d : Nat} {x : α} (hz : ZeroAt J.P ty T x) (ho : o.op = .alloc ty) (hd : o.dst = some d) (hg : o.guard = none) (hlt : Nat.blt d J.nt = true)
    (H : AW J (nx + 1) (fr.set d (.ptr nx 0)) (hp.set nx (.box ty T x)) (.ops ops rest :: k)) : AW J nx fr hp (.ops ops (o :: rest) :: k) := by
  intro a w ⟨ρ, s⟩
  refine wpl_plain hg (by intro c hc; rw [ho] at hc; cases hc) fun K hK => ?_
  obtain ⟨z, h1, h3⟩ := hz
  obtain ⟨i, h1, h2⟩ := Option.bind_eq_some_iff.1 h1
  have hrun : (execOp a.eval o).run J.P w = .ok (.value (.pointer (some ⟨w.heap.size, 0, none⟩))) (w.alloc (.cells z.cells ty)) := by
    unfold execOp; rw [ho]
    simp [Instr.alloc, zeroValue, typeInfo, Sem.run_bind, h1, h2, newVar, newRow, newObj, Sem.run]
  unfold Oper.wp
  rw [hrun, Oper.upon_value, hd]
  refine hK _ _ (H _ _ ⟨_, (s.newbox (cs := z.cells.toList) (h3 _ _ _)).put (by simpa using hlt) ⟨w.heap.size, by unfold ren; simp, rfl⟩ (Nat.lt_succ_self nx)⟩)

theorem aw_box {ty d : Nat} {x : α} {y : Operand} (ho : o.op = .box ty y) (hd : o.dst = some d) (hg : o.guard = none) (hlt : Nat.blt d J.nt = true) (hy : fr.ev y = .val T x)
    (H : AW J (nx + 1) (fr.set d (.ptr nx 0)) (hp.set nx (.box ty T x)) (.ops ops rest :: k)) : AW J nx fr hp (.ops ops (o :: rest) :: k) := by
  intro a w ⟨ρ, s⟩
  refine wpl_plain hg (by intro c hc; rw [ho] at hc; cases hc) fun K hK => ?_
  have h := ev_rel s y
  rw [hy] at h
  have hr := GoT.val_cells h
  have hrun : (execOp a.eval o).run J.P w = .ok (.value (.pointer (some ⟨w.heap.size, 0, none⟩))) (w.alloc (.cells (a.eval y).cells ty)) := by
    unfold execOp; rw [ho]
    simp [Instr.box, Sem.run_bind, newVar, newRow, newObj, Sem.run]
  unfold Oper.wp
  rw [hrun, Oper.upon_value, hd]
  refine hK _ _ (H _ _ ⟨_, (s.newbox (cs := (a.eval y).cells.toList) hr).put (by simpa using hlt) ⟨w.heap.size, by unfold ren; simp, rfl⟩ (Nat.lt_succ_self nx)⟩)

theorem lit_add (g n : Nat) : ((⟨g, 0, none⟩ : Addr).add n) = ⟨g, n, none⟩ := by unfold Addr.add; split <;> simp_all

theorem run_storeVar_row {P : Program} {t g off : Nat} {ty : TypeId} {cur : Array Value} {v : Value} {n : Nat} {b : Bool} (ht : tyB P t n b = true) (hv : v.cells.size = n) (h1 : ∀ u ∈ v.cells.toList, u.oneCell' = true) (hg : w.heap[g]? = some (.cells cur ty (0, 0))) (hl : off + n ≤ cur.size) :
    (storeVar t ((⟨g, 0, none⟩ : Addr).add off) v).run P w = .ok () (w.setRow g (cur.toList.take off ++ v.cells.toList ++ cur.toList.drop (off + n)).toArray) := by
  obtain ⟨_, _, h2⟩ := tyB_spec ht w
  have := run_storeCells_at P g off ty v.cells.toList 0 cur w hg (by simpa [hv] using hl) h1
  rw [lit_add]
  simp only [Nat.add_zero, Array.length_toList, hv] at this
  simp [storeVar, Sem.run_bind, h2, hv, this]

theorem aw_store_b {t ty : TypeId} {x y : Operand} {n off : Nat} {c : α} {z : β} (ho : o.op = .store t x y) (hd : o.dst = none) (hg : o.guard = none) (hx : fr.ev x = .ptr n off) (hn : hp n = .box ty T c) (L : Lens T off S get set)
    (ht : tyB J.P t S.size S.agg = true) (hy : fr.ev y = .val S z) (H : AW J nx fr (hp.set n (.box ty T (set c z))) (.ops ops rest :: k)) : AW J nx fr hp (.ops ops (o :: rest) :: k) := by
  intro a w ⟨ρ, s⟩
  refine wpl_plain hg (by intro c hc; rw [ho] at hc; cases hc) fun K hK => ?_
  have h := ev_rel s x
  have h' := ev_rel s y
  rw [hx] at h
  rw [hy] at h'
  obtain ⟨g, e1, e2⟩ := h
  have hh := s.hrel n
  rw [hn] at hh
  obtain ⟨g', cs, e3, hgc, hr⟩ := hh
  obtain rfl : g = g' := by rw [e1] at e3; injection e3 with e3; injection e3 with e3; injection e3
  have hyr := GoT.val_cells h'
  have hlen : (a.eval y).cells.size = S.size := by simpa using S.len hyr
  have hrun := run_storeVar_row (w := w) (off := off) ht hlen (S.one hyr) hgc (by have := L.fit; have := T.len hr; simpa [this] using L.fit)
  have hex : (execOp a.eval o).run J.P w = .ok .skip (w.setRow g (cs.take off ++ (a.eval y).cells.toList ++ cs.drop (off + S.size)).toArray) := by
    unfold execOp; rw [ho]
    simp only [e2, Instr.storeAt, Instr.sureAddr, Sem.run_bind, Sem.run_pure, Result.andThen_ok, hrun]
  unfold Oper.wp
  rw [hex, Oper.upon_skip, hd]
  refine hK _ _ ?_
  refine H _ _ ⟨ρ, s.modify hn trivial trivial (by simp) rfl rfl rfl (fun b hb => setRow_other w g b _ (fun e => hb (by rw [e1]; simp [blkOf, e]))) fun kp => ?_⟩
  refine ⟨g, cs.take off ++ (a.eval y).cells.toList ++ cs.drop (off + S.size), e1, ?_, ?_⟩
  · exact setRow_heap w g _ _ ty (0, 0) hgc
  · exact T.mono kp (L.set_ hr hyr)

/-! ## Calls -/
def ρ0 : Nat → Value := fun _ => undef
def noN : Nat → Prop := fun _ => False

def CallPost (ext : Nat → Prop) (w0 : World) (res : AV) : Ending → World → Prop
  | .returned v, w => Below w0.heap.size w0 w ∧ res.rel ρ0 (fun b => w0.heap.size ≤ b) ext ext w v
  | .outgrown, _ => False
  | _, _ => False

/-- What a call answers to which some blocks are granted. -/
def CallPostG (ext gr : Nat → Prop) (w0 : World) (res : AV) : Ending → World → Prop
  | .returned v, w => BelowX gr w0 w ∧ res.rel ρ0 (fun b => w0.heap.size ≤ b ∨ gr b) ext ext w v
  | .outgrown, _ => False
  | _, _ => False
theorem CallPostG.pure {ext : Nat → Prop} {w0 : World} {res : AV} {e : Ending} {w : World} (h : CallPostG ext (fun _ => False) w0 res e w) : CallPost ext w0 res e w := by
  cases e with
  | returned v =>
    refine ⟨BelowX.none h.1, ?_⟩
    have e : (fun b => w0.heap.size ≤ b ∨ False) = fun b => w0.heap.size ≤ b := by funext b; exact propext ⟨fun h => h.elim id (fun h => h.elim), .inl⟩
    rw [← e]; exact h.2
  | panicked c => exact h
  | outgrown => exact h.elim

def ArgsRel (ext : Nat → Prop) (w : World) : List AV → List Value → Prop
  | [], [] => True
  | A :: As, v :: vs => A.rel ρ0 noN ext noN w v ∧ ArgsRel ext w As vs
  | _, _ => False

/-- What a function answers at what is known of its arguments. -/
def Tells (P : Program) (f : FuncId) (args : List AV) (res : AV) : Prop :=
  ∀ (ext : Nat → Prop) (w : World) (vs : List Value), (∀ b, ext b → b < w.heap.size) → ArgsRel ext w args vs → Calls P f vs.toArray w (CallPost ext w res)

def ArgOk (J : Job) (hp : Hp) (X A : AV) : Prop := ∀ nx ρ w v, SimH J nx ρ hp w → X.rel ρ J.B (Uu J ρ hp) (Nn ρ hp) w v → A.rel ρ0 noN (Uu J ρ hp) noN w v
def ArgsOk (J : Job) (fr : Fr) (hp : Hp) : List Operand → List AV → Prop
  | [], [] => True
  | x :: xs, A :: As => ArgOk J hp (fr.ev x) A ∧ ArgsOk J fr hp xs As
  | _, _ => False

theorem keeps_arg (s : SimH J nx ρ hp w) : Keeps (Uu J ρ hp) (Nn ρ hp) w (Uu J ρ hp) noN w := ⟨s.sub, Nat.le_refl _, fun _ _ _ => rfl, fun _ _ h => h, fun _ _ h => h.elim⟩

theorem arg_val {X : AV} {T S : GoT α} {x : α} (h : X = .val T x) (hs : Sub T S) : ArgOk J hp X (.val S x) := fun _ _ _ _ s hx => by
  subst h
  exact hs (fun b h => h.elim) (GoT.val_mono (keeps_arg s) hx)
theorem arg_same {X : AV} {T : GoT α} {x : α} (h : X = .val T x) : ArgOk J hp X (.val T x) := arg_val h (Sub.refl T)
theorem arg_bsl {X : AV} {T : GoT α} {x : List α} (h : X = .val (sl T) x) : ArgOk J hp X (.val (bsl T) x) := arg_val h (sub_bsl T)
class SubC (T S : GoT α) : Prop where
  out : Sub T S
instance (T : GoT α) : SubC T T := ⟨Sub.refl T⟩
instance (T : GoT α) : SubC (slT false T) (slT true T) := ⟨sub_bsl T⟩
theorem arg_v {X : AV} {T S : GoT α} {x : α} [c : SubC T S] (h : X = .val T x) : ArgOk J hp X (.val S x) := arg_val h c.out
theorem slice_own {B e n : Nat} {U N : Nat → Prop} {v : Value} {xs : List Value} {l : List α} {b : Bool} (ho : w.ownsRow B e T.size v n xs) (hl : n = l.length) (hr : relAll T U N w l xs) (hU : ∀ g, blkOf v = some g → ¬ (if b then N else U) g) : (slT b T).val U N w l v := by
  subst hl
  obtain ⟨h1, h2⟩ := ho
  rcases h2 with ⟨rfl, h0⟩ | ⟨g, cap, cur, rfl, hg, hh, hn, hc, hsz, htk⟩
  · have : l = [] := List.length_eq_zero_iff.1 h0
    subst this
    exact ⟨_, ⟨none, 0, rfl, Nat.le_refl _, by unfold maxLen; omega, fun h => absurd rfl h⟩, .inr ⟨rfl, rfl⟩⟩
  · refine ⟨_, ⟨some ⟨g, 0, none⟩, cap, rfl, hn, hc, fun _ => ⟨⟨g, 0, none⟩, xs, rfl, hU g rfl, hr, fun j v hj => ?_⟩⟩, .inr ⟨rfl, rfl⟩⟩
    rw [lit_add, cell_of_row w g j cur e (0, 0) hh]
    rw [← htk] at hj
    rw [List.getElem?_take] at hj
    split at hj
    · simpa using hj
    · simp at hj
theorem arg_own {X : AV} {n e : Nat} {l : List α} (h : X = .own n) (hn : hp n = .row e T l) : ArgOk J hp X (.val (bsl T) l) := fun _ _ _ _ s hx => by
  subst h
  have hh := s.hrel n
  rw [hn] at hh
  obtain ⟨xs, ho, hr⟩ := hh
  have hx : _ = _ := hx
  rw [hx]
  exact slice_own (b := true) ho rfl (hr.mono (keeps_arg s)) (fun _ _ h => h)
theorem arg_nil {X : AV} {b : Bool} (h : X = .lit (.slice none 0 0)) : ArgOk J hp X (.val (slT b T) []) := fun _ _ _ _ s hx => by
  subst h
  have hx : _ = _ := hx
  rw [hx]
  exact ⟨_, ⟨none, 0, rfl, Nat.le_refl _, by unfold maxLen; omega, fun h => absurd rfl h⟩, .inr ⟨rfl, rfl⟩⟩
theorem arg_clo {X : AV} {f : FuncId} (h : X = .clo f []) : ArgOk J hp X (.clo f []) := fun _ _ _ _ s hx => by
  subst h; exact hx
theorem arg_lit {X : AV} {v : Value} (h : X = .lit v) : ArgOk J hp X (.lit v) := fun _ _ _ _ s hx => by
  subst h; exact hx

theorem args_rel {s : SimH J nx ρ hp w} {a : Act} : ∀ {xs : List Operand} {As : List AV}, (∀ y ∈ xs, (fr.ev y).rel ρ J.B (Uu J ρ hp) (Nn ρ hp) w (a.eval y)) → ArgsOk J fr hp xs As → ArgsRel (Uu J ρ hp) w As (xs.map a.eval)
  | [], [], _, _ => trivial
  | x :: xs, A :: As, hr, h => ⟨h.1 _ _ _ _ s (hr x (by simp)), args_rel (s := s) (fun y hy => hr y (by simp [hy])) h.2⟩
  | [], _ :: _, _, h => h.elim
  | _ :: _, [], _, h => h.elim

/-- From what a call tells to what its caller knows. -/
theorem res_keeps (s : SimH J nx ρ hp w) (w' : World) : Keeps (Uu J ρ hp) (Uu J ρ hp) w' (Uu J ρ hp) (Nn ρ hp) w' := ⟨fun _ h => h, Nat.le_refl _, fun _ _ _ => rfl, fun _ _ h => h, fun b _ h => s.sub b h⟩

theorem run_call {f : FuncId} {xs : Array Operand} {ts : Array TypeId} {fn : Func} (ho : o.op = .call { callee := .value (.func f), args := xs, argTypes := ts }) (hf : J.P.funcs[f]? = some fn) (hb : fn.body.isSome = true) (hnm : (fn.name == "runtime.NumGoroutine") = false) (a : Act) (w : World) :
    (execOp a.eval o).run J.P w = .ok (.enter f (xs.map a.eval)) w := by
  have hb' : fn.body.isNone = false := by cases h : fn.body <;> simp_all
  unfold execOp; rw [ho]
  simp only [resolve, Act.eval, Deferred.ofValue, Sem.run_bind, Sem.run_pure, Result.andThen_ok, invoke, callFunc, Array.empty_append, Array.append_empty]
  have hne : fn.name ≠ "runtime.NumGoroutine" := by simpa using hnm
  have hbn : fn.body ≠ none := by intro e; rw [e] at hb; cases hb
  simp [hf, hne, hbn]

theorem Calls.weaken {P : Program} {f : FuncId} {args : Array Value} {w : World} {R R' : Ending → World → Prop} (h : Calls P f args w R) (hr : ∀ e w', R e w' → R' e w') : Calls P f args w R' := Calls.mono h hr

theorem g_call {f : FuncId} {xs : Array Operand} {ts : Array TypeId} {As : List AV} {X : AV} (hc : Tells J.P f As X) (ho : o.op = .call { callee := .value (.func f), args := xs, argTypes := ts }) (hf : fnB J.P f = true) (ha : ArgsOk J fr hp xs.toList As) (hX' : X.under0 = true) : OpG J o fr hp X where
  run {nx ρ a w} s hr _ K Q hK := by
    have hX := AV.under0_spec hX'
    obtain ⟨fn, h1, h2, h3⟩ := fnB_spec hf
    unfold Oper.wp
    rw [run_call ho h1 h2 h3, Oper.upon_enter]
    have hargs := args_rel (s := s) (a := a) (fun y hy => hr y (by rw [ho]; simp only [Op.operands, Call.operands]; exact Array.mem_append.2 (.inr (Array.mem_toList_iff.1 hy)))) ha
    have e : (xs.toList.map a.eval).toArray = xs.map a.eval := by apply Array.ext'; simp
    have := hc (Uu J ρ hp) w _ (fun b hb => s.uu_lt hb) hargs
    rw [e] at this
    refine Calls.mono this fun e w' he => ?_
    cases e with
    | returned v =>
      refine hK v w' he.1 ?_
      exact AV.rel_mono (nx := 0) (res_keeps s w') hX (AV.rel_ren (ρ := ρ0) (ρ' := ρ) (fun n hn => by omega) hX (AV.rel_B (B' := J.B) hX he.2))
    | panicked c => exact he.elim
    | outgrown => exact he.elim
  und _ _ := AV.under_mono (Nat.zero_le _) (AV.under0_spec hX')
  nd c hc := by rw [ho] at hc; cases hc

/-! ## The beginning and the end -/
def Fr.args : Nat → List AV → Fr → Fr
  | _, [], f => f
  | i, A :: As, f => Fr.args (i + 1) As (f.set i A)

theorem args_frame {P : Nat → AV → Value → Prop} (hidk : ∀ t v, P t .idk v) : ∀ {As : List AV} {vs : List Value} {i : Nat} {f : Fr} {g : Nat → Value},
    (As.length = vs.length) → (∀ (j : Nat) (A : AV) (v : Value), As[j]? = some A → vs[j]? = some v → ∀ t, P t A v) → (∀ t, P t (f t) (if t < i then g t else undef)) → (∀ t, i ≤ t → f t = .idk) →
    ∀ t, P t (Fr.args i As f t) (if t < i then g t else (vs[t - i]?).getD undef)
  | [], vs, i, f, g, hl, _, hf, _, t => by
    have : vs = [] := List.length_eq_zero_iff.1 hl.symm
    subst this
    simpa [Fr.args] using hf t
  | A :: As, [], i, f, g, hl, _, _, _, t => by simp at hl
  | A :: As, v :: vs, i, f, g, hl, hA, hf, hi, t => by
    have h0 := hA 0 A v rfl rfl
    have := args_frame (P := P) hidk (As := As) (vs := vs) (i := i + 1) (f := f.set i A) (g := fun t => if t = i then v else g t) (by simpa using hl) (fun j B u h1 h2 => hA (j + 1) B u (by simpa using h1) (by simpa using h2))
      (fun t => by
        rw [fr_set_eq]
        by_cases e : t = i
        · rw [if_pos e, if_pos (by omega), if_pos e]; exact h0 t
        · rw [if_neg e]
          have h2 := hf t
          by_cases c : t < i
          · rw [if_pos (by omega), if_neg e]; rwa [if_pos c] at h2
          · rw [if_neg (by omega)]; rwa [if_neg c] at h2)
      (fun t ht => by rw [fr_set_eq, if_neg (by omega)]; exact hi t (by omega)) t
    have e2 : (if t < i + 1 then (if t = i then v else g t) else (vs[t - (i + 1)]?).getD undef) = if t < i then g t else ((v :: vs)[t - i]?).getD undef := by
      by_cases c : t < i
      · rw [if_pos (by omega), if_neg (by omega), if_pos c]
      · by_cases e : t = i
        · rw [if_pos (by omega), if_pos e, if_neg c, e, Nat.sub_self]; rfl
        · rw [if_neg (by omega), if_neg c]
          have : t - i = (t - (i + 1)) + 1 := by omega
          rw [this]; rfl
    rw [← e2]; exact this

theorem ArgsRel.spec {ext : Nat → Prop} : ∀ {As : List AV} {vs : List Value}, ArgsRel ext w As vs → As.length = vs.length ∧ ∀ (j : Nat) (A : AV) (v : Value), As[j]? = some A → vs[j]? = some v → A.rel ρ0 noN ext noN w v
  | [], [], _ => ⟨rfl, fun j A v h => by simp at h⟩
  | A :: As, v :: vs, h => by
    obtain ⟨h1, h2⟩ := ArgsRel.spec h.2
    refine ⟨by simp [h1], fun j B u hb hu => ?_⟩
    cases j with
    | zero => simp at hb hu; subst hb; subst hu; exact h.1
    | succ j => exact h2 j B u (by simpa using hb) (by simpa using hu)
  | [], _ :: _, h => h.elim
  | _ :: _, [], h => h.elim

theorem bodyM_fin {P : Program} {fn : Func} {R : Ending → World → Prop} {a : Act} {w : World} {v : Value} (h1 : a.defers = []) (h2 : (results fn a.tmps).run P w = .ok v w) (h3 : R (.returned v) w) : bodyPostM Fence.wide 0 P fn R .ret a w := by
  show LeavesInM Fence.wide 0 P fn a.tmps R a.defers .returning w
  rw [h1]; exact ⟨v, h2, h3⟩
theorem bodyM_mark {P : Program} {fn : Func} {R : Ending → World → Prop} {a : Act} {w w' : World} {D : Nat} (h1 : a.defers = [{ target := .collected D, args := #[] }]) (h2 : (Instr.takeDeferred D).run P w = .ok [] w') (h3 : bodyPostM Fence.wide 0 P fn R .ret { a with defers := [] } w') : bodyPostM Fence.wide 0 P fn R .ret a w := by
  show LeavesInM Fence.wide 0 P fn a.tmps R a.defers .returning w
  rw [h1]; exact ⟨by simp, .inl ⟨D, w', rfl, h2, h3⟩⟩
theorem calls_of_wpM {P : Program} {f : FuncId} {fn : Func} {c : Code} {args : Array Value} {w : World} {R : Ending → World → Prop} (hf : P.funcs[f]? = some fn) (hb : fn.body = some c)
    (h : c.wpIn Fence.wide 0 P (bodyPostM Fence.wide 0 P fn R) { tmps := args ++ Array.replicate (fn.ntmps - args.size) undef, defers := [] } w) : Calls P f args w R :=
  callsIn_wide.1 (callsIn_of_wp_marks hf hb trivial h)

def Job.of (P : Program) (fn : Func) (res : AV) (ext : Nat → Prop) (w : World) (h : ∀ b, ext b → b < w.heap.size) : Job :=
  { P, fn, w0 := w, ext, gr := fun _ => False, kg := 0, ρg := ρ0, dj := fun _ _ h => h, nt := fn.ntmps, R := CallPostG ext (fun _ => False) w res, rd := none, ds := [], bg := [], bn := 0, bgb := fun p hp => (nomatch hp), post := bodyPostM Fence.wide 0 P fn (CallPostG ext (fun _ => False) w res), nrm := fun _ _ _ h => h, fin := fun _ _ _ _ h1 h2 _ h3 => bodyM_fin h1 h2 h3, mark := fun _ _ _ _ _ h1 h2 h3 => bodyM_mark h1 h2 h3, lt := h }

/-- A call is what its body does. -/
theorem fn_of_aw {P : Program} {f : FuncId} {fn : Func} {c : Code} {As : List AV} {res : AV} (hf : P.funcs[f]? = some fn) (hb : fn.body = some c) (hn : Nat.ble As.length fn.ntmps = true) (hu : As.all AV.under0 = true)
    (H : ∀ (ext : Nat → Prop) (w : World) (h : ∀ b, ext b → b < w.heap.size), AW (Job.of P fn res ext w h) 0 (Fr.args 0 As Fr.none) Hp.none [.code c]) : Tells P f As res := by
  intro ext w vs hext ha
  obtain ⟨hl, hrel⟩ := ha.spec
  have hn : As.length ≤ fn.ntmps := by simpa using hn
  have hu : ∀ A ∈ As, A.under 0 := fun A hA => AV.under0_spec (List.all_eq_true.1 hu A hA)
  refine Calls.mono (R := CallPostG ext (fun _ => False) w res) ?_ (fun _ _ h => CallPostG.pure h)
  refine calls_of_wpM hf hb ?_
  have hNN : ∀ b, Nn (fun _ => undef) Hp.none b → False := fun b ⟨n, hl, _⟩ => hl
  have k : Keeps ext noN w (Uu (Job.of P fn res ext w hext) ρ0 Hp.none) (Nn ρ0 Hp.none) w := ⟨fun _ h => h.elim, Nat.le_refl _, fun _ _ _ => rfl, fun b _ h => h.elim id (fun h => (hNN b h).elim), fun b _ h => (hNN b h).elim⟩
  have hfr := args_frame (P := fun _ A v => A.rel ρ0 (Job.of P fn res ext w hext).B (Uu (Job.of P fn res ext w hext) ρ0 Hp.none) (Nn ρ0 Hp.none) w v ∧ A.under 0) (fun _ _ => ⟨trivial, trivial⟩) (i := 0) (f := Fr.none) (g := fun _ => undef) hl
    (fun j A v h1 h2 _ => by
      have hu' := hu A (List.mem_of_getElem? h1)
      exact ⟨AV.rel_mono k hu' (AV.rel_B hu' (hrel j A v h1 h2)), hu'⟩) (fun t => ⟨trivial, trivial⟩) (fun _ _ => rfl)
  refine H ext w hext _ w ⟨ρ0, { kle := Nat.le_refl _, ble := Nat.zero_le _, brel := fun q hq => (nomatch hq), named := fun _ _ => rfl, below := BelowX.refl _ _, hrel := fun _ => trivial, hun := fun _ => trivial, hnx := fun _ _ => rfl, new := fun n b hl _ => hl.elim, inj := fun n m b hl => hl.elim, size := ?_, defers := rfl, frel := fun t => ?_, fnx := fun t => (hfr t).2 }⟩
  · show (vs.toArray ++ _).size = fn.ntmps
    simp; omega
  · have e : (vs.toArray ++ Array.replicate (fn.ntmps - vs.toArray.size) undef).getD t undef = (vs[t]?).getD undef := by
      rw [Array.getD_eq_getD_getElem?, Array.getElem?_append]
      by_cases c : t < vs.toArray.size
      · rw [if_pos c]; simp
      · rw [if_neg c]
        have hv : vs[t]? = none := by simpa using c
        rw [hv, Array.getElem?_replicate]
        split <;> rfl
    rw [e]
    have h1 := (hfr t).1
    rw [if_neg (Nat.not_lt_zero t), Nat.sub_zero] at h1
    exact h1

/-- A pure call's own words: nothing is granted. -/
def RetOk (J : Job) (hp : Hp) (X A : AV) : Prop := ∀ nx ρ w v, SimH J nx ρ hp w → X.rel ρ J.B (Uu J ρ hp) (Nn ρ hp) w v → A.rel ρ0 J.B J.ext J.ext w v

theorem keeps_ret (s : SimH J nx ρ hp w) : Keeps (Uu J ρ hp) (Uu J ρ hp) w J.ext J.ext w := ⟨fun _ h => h, Nat.le_refl _, fun _ _ _ => rfl, fun _ _ h => .inl h, fun _ _ h => .inl h⟩
theorem ret_val [Strict T] {X : AV} {x : α} (h : X = .val T x) : RetOk J hp X (.val T x) := fun _ _ _ _ s hx => by
  subst h; exact GoT.val_mono (keeps_ret s) (GoT.val_strict hx)
theorem ret_eq [Strict T] {X : AV} {x y : α} (h : X = .val T x) (e : x = y) : RetOk J hp X (.val T y) := e ▸ ret_val h
theorem ret_lit {X : AV} {v : Value} (h : X = .lit v) : RetOk J hp X (.lit v) := fun _ _ _ _ s hx => by
  subst h; exact hx
theorem ret_fresh [Strict T] {X : AV} {n e : Nat} {l : List α} (h : X = .own n) (hn : hp n = .row e T l) : RetOk J hp X (.fresh e T l) := fun nx ρ w v s hx => by
  subst h
  have hh := s.hrel n
  rw [hn] at hh
  obtain ⟨xs, ho, hr⟩ := hh
  have hx : _ = _ := hx
  rw [hx]
  refine ⟨xs, ho, fun b hb => ?_, (hr.strict (N' := Uu J ρ hp)).mono ⟨fun _ h => h, Nat.le_refl _, fun _ _ _ => rfl, fun b _ h => h.imp id (fun h => ⟨n, by rw [hn]; trivial, h⟩), fun b _ h => h.imp id (fun h => ⟨n, by rw [hn]; trivial, h⟩)⟩⟩
  exact s.new n b (by rw [hn]; trivial) hb
theorem ret_fresh_eq [Strict T] {X : AV} {n e : Nat} {l l' : List α} (h : X = .own n) (hn : hp n = .row e T l) (hl : l = l') : RetOk J hp X (.fresh e T l') := hl ▸ ret_fresh h hn
theorem ret_fresh_nil {X : AV} {e : Nat} (h : X = .lit (.slice none 0 0)) : RetOk J hp X (.fresh e T []) := fun _ _ _ _ s hx => by
  subst h
  have hx : _ = _ := hx
  rw [hx]
  exact ⟨[], ⟨by simp, .inl ⟨rfl, rfl⟩⟩, fun b hb => by simp [blkOf] at hb, rfl⟩
theorem ret_own [Strict T] {X : AV} {n e : Nat} {l : List α} (h : X = .own n) (hn : hp n = .row e T l) : RetOk J hp X (.val (sl T) l) := fun nx ρ w v s hx => by
  subst h
  have hh := s.hrel n
  rw [hn] at hh
  obtain ⟨xs, ho, hr⟩ := hh
  have hx : _ = _ := hx
  rw [hx]
  refine slice_own (b := false) ho rfl ((hr.strict (N' := Uu J _ hp)).mono (keeps_ret s)) (fun g hg he => ?_)
  have h1 := J.lt g he
  rcases (s.new n g (by rw [hn]; trivial) hg).1 with h2 | h2
  · omega
  · exact J.dj g he h2
theorem ret_nil {X : AV} (h : X = .lit (.slice none 0 0)) : RetOk J hp X (.val (sl T) []) := fun _ _ _ _ s hx => by
  subst h
  have hx : _ = _ := hx
  rw [hx]
  exact ⟨_, ⟨none, 0, rfl, Nat.le_refl _, by unfold maxLen; omega, fun h => absurd rfl h⟩, .inr ⟨rfl, rfl⟩⟩

theorem ar_ret1 {t : Tmp} {A : AV} (hR : J.R = CallPostG J.ext J.gr J.w0 A) (hfn : J.fn.results = #[.tmp t]) (h : RetOk J hp (fr t) A) (hds : J.ds = [] ∧ J.rd = none := by exact ⟨rfl, rfl⟩) : AR J nx fr hp := by
  intro a w ⟨ρ, s⟩
  refine J.fin hds.2 _ _ _ (s.defers.trans hds.1) (results_tmp hfn _ _ _) s.below ?_
  rw [hR]
  exact ⟨s.below, h _ _ _ _ s.toSimH (s.frel t)⟩
theorem aw_ret1 {t : Tmp} {A : AV} (hR : J.R = CallPostG J.ext J.gr J.w0 A) (hfn : J.fn.results = #[.tmp t]) (h : RetOk J hp (fr t) A) (hds : J.ds = [] ∧ J.rd = none := by exact ⟨rfl, rfl⟩) : AW J nx fr hp (.code .ret :: k) := aw_of_ar (ar_ret1 hR hfn h hds)
theorem ar_ret2 {t u : Tmp} {A B : AV} (hR : J.R = CallPostG J.ext J.gr J.w0 (.tup2 A B)) (hfn : J.fn.results = #[.tmp t, .tmp u]) (h : RetOk J hp (fr t) A) (h' : RetOk J hp (fr u) B) (hds : J.ds = [] ∧ J.rd = none := by exact ⟨rfl, rfl⟩) : AR J nx fr hp := by
  intro a w ⟨ρ, s⟩
  refine J.fin hds.2 _ _ _ (s.defers.trans hds.1) (results_tmp2 hfn _ _ _) s.below ?_
  rw [hR]
  exact ⟨s.below, _, _, rfl, h _ _ _ _ s.toSimH (s.frel t), h' _ _ _ _ s.toSimH (s.frel u)⟩
theorem aw_ret2 {t u : Tmp} {A B : AV} (hR : J.R = CallPostG J.ext J.gr J.w0 (.tup2 A B)) (hfn : J.fn.results = #[.tmp t, .tmp u]) (h : RetOk J hp (fr t) A) (h' : RetOk J hp (fr u) B) (hds : J.ds = [] ∧ J.rd = none := by exact ⟨rfl, rfl⟩) : AW J nx fr hp (.code .ret :: k) := aw_of_ar (ar_ret2 hR hfn h h' hds)
theorem ar_ret3 {t u v : Tmp} {A B C : AV} (hR : J.R = CallPostG J.ext J.gr J.w0 (.tup3 A B C)) (hfn : J.fn.results = #[.tmp t, .tmp u, .tmp v]) (h : RetOk J hp (fr t) A) (h' : RetOk J hp (fr u) B) (h'' : RetOk J hp (fr v) C) (hds : J.ds = [] ∧ J.rd = none := by exact ⟨rfl, rfl⟩) : AR J nx fr hp := by
  intro a w ⟨ρ, s⟩
  have hres : (results J.fn a.tmps).run J.P w = .ok (.tuple #[a.tmps.getD t undef, a.tmps.getD u undef, a.tmps.getD v undef]) w := by simp [results, hfn]
  refine J.fin hds.2 _ _ _ (s.defers.trans hds.1) hres s.below ?_
  rw [hR]
  exact ⟨s.below, _, _, _, rfl, h _ _ _ _ s.toSimH (s.frel t), h' _ _ _ _ s.toSimH (s.frel u), h'' _ _ _ _ s.toSimH (s.frel v)⟩
theorem aw_ret3 {t u v : Tmp} {A B C : AV} (hR : J.R = CallPostG J.ext J.gr J.w0 (.tup3 A B C)) (hfn : J.fn.results = #[.tmp t, .tmp u, .tmp v]) (h : RetOk J hp (fr t) A) (h' : RetOk J hp (fr u) B) (h'' : RetOk J hp (fr v) C) (hds : J.ds = [] ∧ J.rd = none := by exact ⟨rfl, rfl⟩) : AW J nx fr hp (.code .ret :: k) := aw_of_ar (ar_ret3 hR hfn h h' h'' hds)
/-- No result. -/
theorem ar_ret0 {A : AV} (hR : J.R = CallPostG J.ext J.gr J.w0 A) (hA : A = .lit (.tuple #[])) (hfn : J.fn.results = #[]) (hds : J.ds = [] ∧ J.rd = none := by exact ⟨rfl, rfl⟩) : AR J nx fr hp := by
  intro a w ⟨ρ, s⟩
  refine J.fin hds.2 _ _ _ (s.defers.trans hds.1) (results_none hfn _ _ _) s.below ?_
  rw [hR, hA]
  exact ⟨s.below, rfl⟩
theorem aw_ret0 {A : AV} (hR : J.R = CallPostG J.ext J.gr J.w0 A) (hA : A = .lit (.tuple #[])) (hfn : J.fn.results = #[]) (hds : J.ds = [] ∧ J.rd = none := by exact ⟨rfl, rfl⟩) : AW J nx fr hp (.code .ret :: k) := aw_of_ar (ar_ret0 hR hA hfn hds)
end
end Go.Ab
