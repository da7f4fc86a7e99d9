/- More operations: slices, literals, function values, parts of values, calls whose answer is new memory. -/
import Derived.Test.YtmfgemnmelbflaaLoop
namespace Go.Ab
set_option linter.unusedVariables false
set_option linter.unusedSimpArgs false
open Go.RowKit

section
variable {J : Job} {nx : Nat} {ρ : Nat → Value} {fr : Fr} {hp : Hp} {a : Act} {w w' : World} {k : List It} {ops : Array Oper} {rest : List Oper} {o : Oper}
variable {α β γ : Type} {T : GoT α} {S : GoT β} {get : α → β} {set : α → β → α}

/-! ## Arguments -/
theorem arg_vw {X : AV} {n off len ty : Nat} {hl : 0 < len} {S : GoT β} {get : α → List β} {set : α → List β → α} {x : α} (h : X = .vw n off len) (hn : hp n = .box ty T x) (L : Lens T off (arrT len hl S) get set) : ArgOk J hp X (.val (bsl S) (get x)) := fun nx ρ w v s hx => by
  subst h
  obtain ⟨g, cap, e1, rfl, h1, h2⟩ := hx
  obtain ⟨g', e3, e4, cs, hr, hc⟩ := box_at s hn L (v := .pointer (some ((⟨g, 0, none⟩ : Addr).add off))) ⟨g, e1, rfl⟩
  obtain rfl : g = g' := by rw [e1] at e3; injection e3 with e3; injection e3 with e3; injection e3
  have hlen := hr.1
  refine ⟨_, ⟨some ((⟨g, 0, none⟩ : Addr).add off), cap, by rw [hlen], by omega, h2, fun _ => ⟨_, cs, rfl, fun h => h, (hr.2.mono (keeps_arg s)), hc⟩⟩, .inr ⟨rfl, rfl⟩⟩
theorem arg_ptr {X : AV} {n off ty : Nat} {x : α} (h : X = .ptr n off) (hn : hp n = .box ty T x) (L : Lens T off S get set) : ArgOk J hp X (.rptr S (get x)) := fun _ _ _ _ s hx => by
  subst h
  obtain ⟨g, e1, e2, hat⟩ := box_at s hn L hx
  obtain ⟨cs, hr, hc⟩ := hat
  exact ⟨_, e2, fun h => h, cs, S.mono (keeps_arg s) hr, hc⟩
theorem arg_rptr {X : AV} {x : α} (h : X = .rptr T x) : ArgOk J hp X (.rptr T x) := fun _ _ _ _ s hx => by
  subst h
  obtain ⟨ad, e, hn, hat⟩ := hx
  exact ⟨ad, e, fun h => h, GoT.at_mono (keeps_arg s) hn hat⟩

/-- What a function value has caught. -/
def CapsOk (J : Job) (hp : Hp) : List Nat → List AV → Prop
  | [], [] => True
  | n :: ns, A :: As => ArgOk J hp (.ptr n 0) A ∧ CapsOk J hp ns As
  | _, _ => False
theorem caps_rel (s : SimH J nx ρ hp w) : ∀ {ns : List Nat} {As : List AV}, CapsOk J hp ns As → (∀ n ∈ ns, ∃ g, ρ n = .pointer (some ⟨g, 0, none⟩)) → ArgsRel (Uu J ρ hp) w As (ns.map ρ)
  | [], [], _, _ => trivial
  | n :: ns, A :: As, h, hb => by
    obtain ⟨g, e⟩ := hb n (by simp)
    exact ⟨h.1 _ _ _ _ s ⟨g, e, e⟩, caps_rel s h.2 fun m hm => hb m (by simp [hm])⟩
  | [], _ :: _, h, _ => h.elim
  | _ :: _, [], h, _ => h.elim

theorem ArgsRel.append {ext : Nat → Prop} : ∀ {As Bs : List AV} {vs us : List Value}, ArgsRel ext w As vs → ArgsRel ext w Bs us → ArgsRel ext w (As ++ Bs) (vs ++ us)
  | [], _, [], _, _, h => h
  | _ :: _, _, _ :: _, _, h, h' => ⟨h.1, ArgsRel.append h.2 h'⟩
  | [], _, _ :: _, _, h, _ => h.elim
  | _ :: _, _, [], _, h, _ => h.elim

/-- Arguments without names read later as they did. -/
theorem ArgsRel.later {ext ext' : Nat → Prop} (hs : w.heap.size ≤ w'.heap.size) (hb : ∀ b, b < w.heap.size → w'.heap[b]? = w.heap[b]?) (he : ∀ b, b < w.heap.size → ext' b → ext b) : ∀ {As : List AV} {vs : List Value}, As.all AV.under0 = true → ArgsRel ext w As vs → ArgsRel ext' w' As vs
  | [], [], _, _ => trivial
  | A :: As, v :: vs, hu, h => by
    simp only [List.all_cons, Bool.and_eq_true] at hu
    exact ⟨AV.rel_mono ⟨fun _ h => h.elim, hs, fun b hlt _ => hb b hlt, he, fun _ _ h => h⟩ (AV.under0_spec hu.1) h.1, ArgsRel.later hs hb he hu.2 h.2⟩
  | [], _ :: _, _, h => h.elim
  | _ :: _, [], _, h => h.elim

theorem callpost_val {ext : Nat → Prop} {w0 : World} {B : GoT β} {y : β} {e : Ending} {w : World} (h : CallPost ext w0 (.val B y) e w) : ValPost ext w0 B y e w := by
  cases e <;> exact h

/-- A function value, handed on, answers as its function does. (What it has caught is read, never written.) -/
theorem arg_fn1 {A : GoT α} {B : GoT β} {f : α → β} {X : AV} {g : FuncId} {caps : List Nat} {Cs : List AV} (h : X = .clo g caps) (hf : fnB J.P g = true) (hb : ∀ n ∈ caps, ∃ ty, ∃ (γ : Type) (T : GoT γ) (x : γ), hp n = .box ty T x) (hc : CapsOk J hp caps Cs) (hu : Cs.all AV.under0 = true)
    (hT : ∀ x, Tells J.P g (.val A x :: Cs) (.val B (f x))) : ArgOk J hp X (.fn1 J.P A B f) := fun nx ρ w v s hx => by
  subst h
  have hx : v = _ := hx
  subst hx
  have hcaps := caps_rel s hc fun n hn => by
    obtain ⟨ty, γ, T, x, e⟩ := hb n hn
    have := s.hrel n
    rw [e] at this
    obtain ⟨g, _, e, _⟩ := this
    exact ⟨g, e⟩
  refine ⟨w, Uu J ρ hp, g, _, rfl, Nat.le_refl _, fun b _ => ⟨fun h => h, rfl, fun h => h⟩, fun w' ext hs hw hext => ⟨hf, fun x vx hvx => ?_⟩⟩
  have := hT x ext w' (vx :: caps.map ρ) hext ⟨hvx, ArgsRel.later hs (fun b hb => (hw b hb).1) (fun b hb => (hw b hb).2) hu hcaps⟩
  have e : (vx :: caps.map ρ).toArray = #[vx] ++ (caps.map ρ).toArray := by simp
  rw [e] at this
  exact Calls.mono this fun e w h => callpost_val h
theorem arg_fn2 {A : GoT α} {A' : GoT γ} {B : GoT β} {f : α → γ → β} {X : AV} {g : FuncId} {caps : List Nat} {Cs : List AV} (h : X = .clo g caps) (hf : fnB J.P g = true) (hb : ∀ n ∈ caps, ∃ ty, ∃ (γ : Type) (T : GoT γ) (x : γ), hp n = .box ty T x) (hc : CapsOk J hp caps Cs) (hu : Cs.all AV.under0 = true)
    (hT : ∀ x y, Tells J.P g (.val A x :: .val A' y :: Cs) (.val B (f x y))) : ArgOk J hp X (.fn2 J.P A A' B f) := fun nx ρ w v s hx => by
  subst h
  have hx : v = _ := hx
  subst hx
  have hcaps := caps_rel s hc fun n hn => by
    obtain ⟨ty, γ, T, x, e⟩ := hb n hn
    have := s.hrel n
    rw [e] at this
    obtain ⟨g, _, e, _⟩ := this
    exact ⟨g, e⟩
  refine ⟨w, Uu J ρ hp, g, _, rfl, Nat.le_refl _, fun b _ => ⟨fun h => h, rfl, fun h => h⟩, fun w' ext hs hw hext => ⟨hf, fun x vx y vy hvx hvy => ?_⟩⟩
  have := hT x y ext w' (vx :: vy :: caps.map ρ) hext ⟨hvx, hvy, ArgsRel.later hs (fun b hb => (hw b hb).1) (fun b hb => (hw b hb).2) hu hcaps⟩
  have e : (vx :: vy :: caps.map ρ).toArray = #[vx, vy] ++ (caps.map ρ).toArray := by simp
  rw [e] at this
  exact Calls.mono this fun e w h => callpost_val h
/-- A function value that was handed on is handed on again. -/
theorem arg_fn {X : AV} {A : AV} (h : X = A) (hA : A.under0 = true) : ArgOk J hp X A := fun nx ρ w v s hx => by
  subst h
  exact AV.rel_ren (nx := 0) (fun n hn => by omega) (AV.under0_spec hA) (AV.rel_B (AV.under0_spec hA) (AV.rel_mono (keeps_arg s) (AV.under0_spec hA) hx))

/-! ## Calls of function values -/
theorem run_callv {x : Operand} {xs : Array Operand} {ts : Array TypeId} {f : FuncId} {caps : Array Value} {fn : Func} (ho : o.op = .call { callee := .value x, args := xs, argTypes := ts }) (hx : a.eval x = .func (.func f) #[] caps) (hf : J.P.funcs[f]? = some fn) (hb : fn.body.isSome = true) (hnm : (fn.name == "runtime.NumGoroutine") = false) :
    (execOp a.eval o).run J.P w = .ok (.enter f (xs.map a.eval ++ caps)) w := by
  unfold execOp; rw [ho]
  simp only [resolve, hx, Deferred.ofValue, Sem.run_bind, Sem.run_pure, Result.andThen_ok, invoke, callFunc, Array.empty_append]
  have hne : fn.name ≠ "runtime.NumGoroutine" := by simpa using hnm
  have hbn : fn.body ≠ none := by intro e; rw [e] at hb; cases hb
  simp [hf, hne, hbn]

theorem g_callc {x : Operand} {f : FuncId} {caps : List Nat} {xs : Array Operand} {ts : Array TypeId} {As Cs : List AV} {X : AV} (hc : Tells J.P f (As ++ Cs) X) (ho : o.op = .call { callee := .value x, args := xs, argTypes := ts }) (hx : fr.ev x = .clo f caps) (hf : fnB J.P f = true) (ha : ArgsOk J fr hp xs.toList As)
    (hb : ∀ n ∈ caps, ∃ ty, ∃ (γ : Type) (T : GoT γ) (x : γ), hp n = .box ty T x) (hcs : CapsOk J hp caps Cs) (hX' : X.under0 = true) : OpG J o fr hp X where
  run {nx ρ a w} s hr _ K Q hK := by
    have hX := AV.under0_spec hX'
    obtain ⟨fn, h1, h2, h3⟩ := fnB_spec hf
    have hv := hr x (by rw [ho]; simp [Op.operands, Call.operands])
    rw [hx] at hv
    have hv : a.eval x = _ := hv
    unfold Oper.wp
    rw [run_callv ho hv h1 h2 h3, Oper.upon_enter]
    have hargs := args_rel (s := s) (a := a) (fun y hy => hr y (by rw [ho]; simp only [Op.operands, Call.operands]; exact Array.mem_append.2 (.inr (Array.mem_toList_iff.1 hy)))) ha
    have hcaps := caps_rel s hcs fun n hn => by
      obtain ⟨ty, γ, T, x, e⟩ := hb n hn
      have := s.hrel n
      rw [e] at this
      obtain ⟨g, _, e, _⟩ := this
      exact ⟨g, e⟩
    have e : (xs.toList.map a.eval ++ caps.map ρ).toArray = xs.map a.eval ++ (caps.map ρ).toArray := by apply Array.ext'; simp
    have := hc (Uu J ρ hp) w _ (fun b hb => s.uu_lt hb) (ArgsRel.append hargs hcaps)
    rw [e] at this
    refine Calls.mono this fun e w' he => ?_
    cases e with
    | returned v =>
      refine hK v w' he.1 ?_
      exact AV.rel_mono (nx := 0) (res_keeps s w') hX (AV.rel_ren (ρ := ρ0) (ρ' := ρ) (fun n hn => by omega) hX (AV.rel_B (B' := J.B) hX he.2))
    | panicked c => exact he.elim
    | outgrown => exact he.elim
  und _ _ := AV.under_mono (Nat.zero_le _) (AV.under0_spec hX')
  nd c hc := by rw [ho] at hc; cases hc

/-- A call of a function value of which its answers alone are known. -/
theorem g_callf1 {x : Operand} {A : GoT α} {B : GoT β} {f : α → β} {y : Operand} {ts : Array TypeId} {z : α} (ho : o.op = .call { callee := .value x, args := #[y], argTypes := ts }) (hx : fr.ev x = .fn1 J.P A B f) (ha : ArgOk J hp (fr.ev y) (.val A z)) : OpG J o fr hp (.val B (f z)) where
  run {nx ρ a w} s hr _ K Q hK := by
    have hv := hr x (by rw [ho]; simp [Op.operands, Call.operands])
    rw [hx] at hv
    obtain ⟨w1, U1, g, caps, e, hs, hb, hc⟩ := hv
    obtain ⟨hf, hC⟩ := hc w (Uu J ρ hp) hs (fun b hlt => ⟨(hb b hlt).2.1, (hb b hlt).2.2⟩) (fun b hb => s.uu_lt hb)
    obtain ⟨fn, h1, h2, h3⟩ := fnB_spec hf
    unfold Oper.wp
    rw [run_callv ho e h1 h2 h3, Oper.upon_enter]
    have hy := ha _ _ _ _ s (hr y (by rw [ho]; simp [Op.operands, Call.operands]))
    have := hC z (a.eval y) hy
    refine Calls.mono (by simpa using this) fun e w' he => ?_
    cases e with
    | returned v => exact hK v w' he.1 (AV.rel_mono (x := .val B (f z)) (nx := 0) (ρ := ρ) (B := J.B) (res_keeps s w') trivial he.2)
    | panicked c => exact he.elim
    | outgrown => exact he.elim
  und _ _ := trivial
  nd c hc := by rw [ho] at hc; cases hc
theorem g_callf2 {x : Operand} {A : GoT α} {A' : GoT γ} {B : GoT β} {f : α → γ → β} {y y' : Operand} {ts : Array TypeId} {z : α} {z' : γ} (ho : o.op = .call { callee := .value x, args := #[y, y'], argTypes := ts }) (hx : fr.ev x = .fn2 J.P A A' B f) (ha : ArgOk J hp (fr.ev y) (.val A z)) (ha' : ArgOk J hp (fr.ev y') (.val A' z')) : OpG J o fr hp (.val B (f z z')) where
  run {nx ρ a w} s hr _ K Q hK := by
    have hv := hr x (by rw [ho]; simp [Op.operands, Call.operands])
    rw [hx] at hv
    obtain ⟨w1, U1, g, caps, e, hs, hb, hc⟩ := hv
    obtain ⟨hf, hC⟩ := hc w (Uu J ρ hp) hs (fun b hlt => ⟨(hb b hlt).2.1, (hb b hlt).2.2⟩) (fun b hb => s.uu_lt hb)
    obtain ⟨fn, h1, h2, h3⟩ := fnB_spec hf
    unfold Oper.wp
    rw [run_callv ho e h1 h2 h3, Oper.upon_enter]
    have hy := ha _ _ _ _ s (hr y (by rw [ho]; simp [Op.operands, Call.operands]))
    have hy' := ha' _ _ _ _ s (hr y' (by rw [ho]; simp [Op.operands, Call.operands]))
    have := hC z (a.eval y) z' (a.eval y') hy hy'
    refine Calls.mono (by simpa using this) fun e w' he => ?_
    cases e with
    | returned v => exact hK v w' he.1 (AV.rel_mono (x := .val B (f z z')) (nx := 0) (ρ := ρ) (B := J.B) (res_keeps s w') trivial he.2)
    | panicked c => exact he.elim
    | outgrown => exact he.elim
  und _ _ := trivial
  nd c hc := by rw [ho] at hc; cases hc

/-- A function value is made. -/
theorem g_mkf {f : FuncId} {xs : Array Operand} {caps : List Nat} (ho : o.op = .makeFunc (.func f) #[] xs) (hx : xs.toList.map fr.ev = caps.map fun n => .ptr n 0) : OpG J o fr hp (.clo f caps) := by
  have key : ∀ (xs : List Operand) (caps : List Nat) {ρ : Nat → Value} {B : Nat → Prop} {U N : Nat → Prop} {w : World} {a : Act}, xs.map fr.ev = caps.map (fun n => .ptr n 0) → (∀ y ∈ xs, (fr.ev y).rel ρ B U N w (a.eval y)) → xs.map a.eval = caps.map ρ := by
    intro xs
    induction xs with
    | nil => intro caps _ _ _ _ _ _ h _; cases caps <;> simp_all
    | cons x xs ih =>
      intro caps ρ B U N w a h hr
      cases caps with
      | nil => simp at h
      | cons c caps =>
        simp only [List.map_cons, List.cons.injEq] at h
        have h1 := hr x (by simp)
        rw [h.1] at h1
        obtain ⟨g, e1, e2⟩ := h1
        rw [List.map_cons, List.map_cons, ih caps h.2 (fun y hy => hr y (by simp [hy])), e1]
        rw [e2]; rfl
  refine .of_run (fun {_ ρ a _} s hr _ => ⟨.func (.func f) #[] (xs.map a.eval), ?_, ?_⟩) (fun _ hn c hc => ?_)
  · unfold execOp; rw [ho]; simp [Instr.makeFunc, Sem.run_bind]
  · show _ = _
    have := key xs.toList caps hx (fun y hy => hr y (by rw [ho]; simp [Op.operands]; exact Array.mem_toList_iff.1 hy))
    rw [← this]
    congr 1
    apply Array.ext'; simp
  · have hm : AV.ptr c 0 ∈ xs.toList.map fr.ev := by rw [hx]; exact List.mem_map.2 ⟨c, hc, rfl⟩
    obtain ⟨y, hy, e⟩ := List.mem_map.1 hm
    have := hn y (by rw [ho]; simp [Op.operands]; exact Array.mem_toList_iff.1 hy)
    rw [e] at this; exact this

/-! ## Slices -/
theorem arrB_spec {P : Program} {t n e sz : Nat} (h : arrB P t n e sz = true) (w : World) : P.underlying t = some (.array n e) ∧ (sizeOf e).run P w = .ok sz w := by
  unfold arrB at h
  rw [Bool.and_eq_true] at h
  obtain ⟨h1, h2⟩ := h
  have h2 : (P.info? e).map (·.size) = some sz := by simpa using h2
  cases hu : P.underlying t with
  | none => simp [hu] at h1
  | some d =>
    cases d <;> simp [hu] at h1
    rename_i n' e'
    obtain rfl : n = n' := h1.1.symm
    obtain rfl : e = e' := h1.2.symm
    cases hi : P.info? e with
    | none => simp [hi] at h2
    | some i =>
      have : i.size = sz := by simpa [hi] using h2
      exact ⟨rfl, by simp [sizeOf, typeInfo, hi, this]⟩

theorem g_slice_b {t e m n off sz : Nat} {x : Operand} (ho : o.op = .slice t x none none none) (hx : fr.ev x = .ptr n off) (ht : arrB J.P t m e sz = true) (hm : Nat.ble m maxLen = true) (hm0 : Nat.blt 0 m = true) : OpG J o fr hp (.vw n off m) := by
  refine .of_run (fun {_ _ _ w} s hr _ => ?_) (fun _ hn => ?_)
  · have h := hr x (by rw [ho]; simp [Op.operands])
    rw [hx] at h
    obtain ⟨g, e1, e2⟩ := h
    obtain ⟨h1, h2⟩ := arrB_spec ht w
    refine ⟨_, ?_, g, m, e1, rfl, Nat.le_refl _, by simpa using hm⟩
    have h0 : m ≠ 0 := by have : 0 < m := by simpa using hm0
                          omega
    unfold execOp; rw [ho]
    simp [Instr.sliceAt, Sem.run_bind, run_underlying h1, e2, Instr.sureAddr, Instr.sliceBounds, h2, h0, Addr.add]
  · have h := hn x (by rw [ho]; simp [Op.operands])
    rw [hx] at h; exact h

/-- All of an array that is read, as a slice that is read. -/
theorem g_slice_r {t e m n sz : Nat} {h : 0 < n} {l : List α} {x : Operand} (ho : o.op = .slice t x none none none) (hx : fr.ev x = .rptr (arrT n h T) l) (ht : arrB J.P t m e sz = true) (hnm : n = m) (hm : Nat.ble n maxLen = true) : OpG J o fr hp (.val (bsl T) l) := by
  subst hnm
  refine .of_run (fun {_ _ _ w} s hr _ => ?_) (fun _ hn => trivial)
  have h' := hr x (by rw [ho]; simp [Op.operands])
  rw [hx] at h'
  obtain ⟨ad, e1, hN, cs, ⟨hl, hr'⟩, hc⟩ := h'
  obtain ⟨h1, h2⟩ := arrB_spec ht w
  have hmx : n ≤ maxLen := by simpa using hm
  refine ⟨.slice (some ad) n n, ?_, _, ⟨some ad, n, by rw [hl], by omega, hmx, fun _ => ⟨ad, cs, rfl, hN, hr', hc⟩⟩, .inr ⟨rfl, rfl⟩⟩
  have h0 : n ≠ 0 := by omega
  unfold execOp; rw [ho]
  simp [Instr.sliceAt, Sem.run_bind, run_underlying h1, e1, Instr.sureAddr, Instr.sliceBounds, h2, h0, Addr.add]

/-- A slice of a slice that is read. 'lo', 'hi': where it is cut. -/
theorem slice_cut {b : Bool} {U N : Nat → Prop} {l : List α} {lo hi : Nat} {ad : Option Addr} {cap m : Nat} (hl : lo ≤ hi) (hh : hi ≤ l.length) (hcap : l.length ≤ cap) (hm : cap ≤ maxLen) (hm1 : hi ≤ m) (hm2 : m ≤ cap)
    (h3 : l ≠ [] → ∃ a ds, ad = some a ∧ ¬ (if b then N else U) a.block ∧ relAll T U N w l ds ∧ ∀ j v, ds[j]? = some v → w.cell? (a.add j) = some v) :
    (slT b T).val U N w ((l.take hi).drop lo) (.slice (if m = lo then ad else ad.map (·.add (lo * T.size))) (hi - lo) (m - lo)) := by
  have hlen : ((l.take hi).drop lo).length = hi - lo := by simp; omega
  refine ⟨_, ⟨_, m - lo, by rw [hlen], by omega, by omega, fun hne => ?_⟩, .inr ⟨rfl, rfl⟩⟩
  have hlt : lo < hi := by
    have : 0 < ((l.take hi).drop lo).length := List.length_pos_iff.2 hne
    omega
  obtain ⟨a, ds, rfl, hu, hr, hc⟩ := h3 (by intro e; rw [e] at hh; simp at hh; omega)
  rw [if_neg (by omega)]
  refine ⟨a.add (lo * T.size), (ds.take (hi * T.size)).drop (lo * T.size), rfl, by rw [block_of_add]; exact hu, (hr.take hi).drop lo, fun j v hj => ?_⟩
  rw [add_of_add]
  rw [List.getElem?_drop, List.getElem?_take] at hj
  split at hj
  · exact hc _ v hj
  · simp at hj

section
variable {t e : TypeId} {x y z : Operand} {b : Bool} {l : List α} {lo hi : Int}
theorem g_sl_h (ho : o.op = .slice t x none (some z) none) (hx : fr.ev x = .val (slT b T) l) (hz : fr.ev z = .val i64T hi) (hs : sliceB J.P t e T.size = true) (h : 0 ≤ hi ∧ hi ≤ l.length) : OpG J o fr hp (.val (slT b T) (l.take hi.toNat)) := by
  refine .of_run (fun {_ _ _ w} s hr _ => ?_) (fun _ _ => trivial)
  have h1 := hr x (by rw [ho]; simp [Op.operands])
  have h2 := hr z (by rw [ho]; simp [Op.operands])
  rw [hx] at h1; rw [hz] at h2
  obtain ⟨ad, cap, e1, c1, c2, c3⟩ := val_sl h1
  obtain ⟨e2, _⟩ := val_int.1 h2
  obtain ⟨hs1, hs2, _⟩ := sliceB_spec hs w
  have := slice_cut (lo := 0) (hi := hi.toNat) (m := cap) (Nat.zero_le _) (by omega) c1 c2 (by omega) (Nat.le_refl _) c3
  refine ⟨_, ?_, this⟩
  unfold execOp; rw [ho]
  have hb : hi ≤ (cap : Int) := by omega
  simp [Instr.sliceAt, Instr.slice, Sem.run_bind, run_underlying hs1, e1, e2, Instr.sliceBounds, Instr.sliceBound, asIntOf, h.1, hb, hs2]
theorem g_sl_l (ho : o.op = .slice t x (some y) none none) (hx : fr.ev x = .val (slT b T) l) (hy : fr.ev y = .val i64T lo) (hs : sliceB J.P t e T.size = true) (h : 0 ≤ lo ∧ lo ≤ l.length) : OpG J o fr hp (.val (slT b T) (l.drop lo.toNat)) := by
  refine .of_run (fun {_ _ _ w} s hr _ => ?_) (fun _ _ => trivial)
  have h1 := hr x (by rw [ho]; simp [Op.operands])
  have h2 := hr y (by rw [ho]; simp [Op.operands])
  rw [hx] at h1; rw [hy] at h2
  obtain ⟨ad, cap, e1, c1, c2, c3⟩ := val_sl h1
  obtain ⟨e2, _⟩ := val_int.1 h2
  obtain ⟨hs1, hs2, _⟩ := sliceB_spec hs w
  have := slice_cut (lo := lo.toNat) (hi := l.length) (m := cap) (by omega) (Nat.le_refl _) c1 c2 c1 (Nat.le_refl _) c3
  rw [List.take_length] at this
  refine ⟨_, ?_, this⟩
  unfold execOp; rw [ho]
  simp [Instr.sliceAt, Instr.slice, Sem.run_bind, run_underlying hs1, e1, e2, Instr.sliceBounds, Instr.sliceBound, asIntOf, h.1, h.2, hs2]
theorem g_sl_lh (ho : o.op = .slice t x (some y) (some z) none) (hx : fr.ev x = .val (slT b T) l) (hy : fr.ev y = .val i64T lo) (hz : fr.ev z = .val i64T hi) (hs : sliceB J.P t e T.size = true) (h : 0 ≤ lo ∧ lo ≤ hi ∧ hi ≤ l.length) : OpG J o fr hp (.val (slT b T) ((l.take hi.toNat).drop lo.toNat)) := by
  refine .of_run (fun {_ _ _ w} s hr _ => ?_) (fun _ _ => trivial)
  have h1 := hr x (by rw [ho]; simp [Op.operands])
  have h2 := hr y (by rw [ho]; simp [Op.operands])
  have h3 := hr z (by rw [ho]; simp [Op.operands])
  rw [hx] at h1; rw [hy] at h2; rw [hz] at h3
  obtain ⟨ad, cap, e1, c1, c2, c3⟩ := val_sl h1
  obtain ⟨e2, _⟩ := val_int.1 h2
  obtain ⟨e3, _⟩ := val_int.1 h3
  obtain ⟨hs1, hs2, _⟩ := sliceB_spec hs w
  have := slice_cut (lo := lo.toNat) (hi := hi.toNat) (m := cap) (by omega) (by omega) c1 c2 (by omega) (Nat.le_refl _) c3
  refine ⟨_, ?_, this⟩
  unfold execOp; rw [ho]
  have hb : hi ≤ (cap : Int) := by omega
  have hc : 0 ≤ hi := by omega
  have hd : lo ≤ max hi 0 := by omega
  simp [Instr.sliceAt, Instr.slice, Sem.run_bind, run_underlying hs1, e1, e2, e3, Instr.sliceBounds, Instr.sliceBound, asIntOf, h.1, hb, hc, hd, hs2]
theorem g_sl_lhm {u : Operand} {mx : Int} (ho : o.op = .slice t x (some y) (some z) (some u)) (hx : fr.ev x = .val (slT b T) l) (hy : fr.ev y = .val i64T lo) (hz : fr.ev z = .val i64T hi) (hu : fr.ev u = .val i64T mx) (hs : sliceB J.P t e T.size = true) (h : 0 ≤ lo ∧ lo ≤ hi ∧ hi ≤ mx ∧ mx ≤ l.length) : OpG J o fr hp (.val (slT b T) ((l.take hi.toNat).drop lo.toNat)) := by
  refine .of_run (fun {_ _ _ w} s hr _ => ?_) (fun _ _ => trivial)
  have h1 := hr x (by rw [ho]; simp [Op.operands])
  have h2 := hr y (by rw [ho]; simp [Op.operands])
  have h3 := hr z (by rw [ho]; simp [Op.operands])
  have h4 := hr u (by rw [ho]; simp [Op.operands])
  rw [hx] at h1; rw [hy] at h2; rw [hz] at h3; rw [hu] at h4
  obtain ⟨ad, cap, e1, c1, c2, c3⟩ := val_sl h1
  obtain ⟨e2, _⟩ := val_int.1 h2
  obtain ⟨e3, _⟩ := val_int.1 h3
  obtain ⟨e4, _⟩ := val_int.1 h4
  obtain ⟨hs1, hs2, _⟩ := sliceB_spec hs w
  have := slice_cut (lo := lo.toNat) (hi := hi.toNat) (m := mx.toNat) (by omega) (by omega) c1 c2 (by omega) (by omega) c3
  refine ⟨_, ?_, this⟩
  unfold execOp; rw [ho]
  have hb : hi ≤ (cap : Int) := by omega
  have hc : 0 ≤ hi := by omega
  have hd : lo ≤ max hi 0 := by omega
  have hm1 : mx ≤ (cap : Int) := by omega
  have hm2 : 0 ≤ mx := by omega
  have hm3 : hi ≤ max mx 0 := by omega
  simp [Instr.sliceAt, Instr.slice, Sem.run_bind, run_underlying hs1, e1, e2, e3, e4, hm1, hm2, hm3, Instr.sliceBounds, Instr.sliceBound, asIntOf, h.1, hb, hc, hd, hs2]
end
end
end Go.Ab
