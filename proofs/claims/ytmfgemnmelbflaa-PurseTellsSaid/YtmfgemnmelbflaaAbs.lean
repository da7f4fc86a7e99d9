/- The abstract machine: what is known of a frame and of the call's own memory; a judgement 'AW' on what is still to be done, over the kit's 'Code.wp'. No program in sight. -/
import Derived.Test.YtmfgemnmelbflaaBase
import Derived.RangeFuncOwn
import Derived.RangeFuncLeaves
import Derived.OrdersIn
import Derived.TacticsIn
namespace Go.Ab
set_option linter.unusedVariables false
set_option linter.unusedSimpArgs false
open Go.RowKit

def blkOf : Value → Option Nat
  | .pointer (some a) => some a.block
  | .slice (some a) _ _ => some a.block
  | _ => none

/-- What is known of a value. -/
inductive AV : Type 1
  | idk
  | lit (v : Value)
  | val {α : Type} (T : GoT α) (x : α)
  | ptr (n off : Nat)
  | eptr (n i sz off : Nat)
  | rptr {α : Type} (T : GoT α) (x : α)
  | own (n : Nat)
  | fresh (e : TypeId) {α : Type} (T : GoT α) (l : List α)
  | clo (f : FuncId) (caps : List Nat)
  | vw (n off len : Nat)
  | osub (n sz lo len : Nat)
  | fn1 (P : Program) {α β : Type} (A : GoT α) (B : GoT β) (f : α → β)
  | fn2 (P : Program) {α β γ : Type} (A : GoT α) (A' : GoT β) (B : GoT γ) (f : α → β → γ)
  | tup2 (a b : AV)
  | tup3 (a b c : AV)

/-- A function that can be called. -/
@[irreducible] def fnB (P : Program) (f : FuncId) : Bool := match P.funcs[f]? with | some fn => fn.body.isSome && !(fn.name == "runtime.NumGoroutine") | none => false
theorem fnB_spec {P : Program} {f : FuncId} (h : fnB P f = true) : ∃ fn, P.funcs[f]? = some fn ∧ fn.body.isSome = true ∧ (fn.name == "runtime.NumGoroutine") = false := by
  unfold fnB at h
  cases hf : P.funcs[f]? with
  | none => simp [hf] at h
  | some fn => simp [hf] at h; exact ⟨fn, rfl, h.1, by simpa using h.2⟩

/-- A function value that answers so, wherever what lay when it was handed on lies as it did. -/
def FunAt (U N : Nat → Prop) (w : World) (v : Value) (C : World → (Nat → Prop) → FuncId → Array Value → Prop) : Prop :=
  ∃ (w1 : World) (U1 : Nat → Prop) (g : FuncId) (caps : Array Value), v = .func (.func g) #[] caps ∧ w1.heap.size ≤ w.heap.size ∧ (∀ b, b < w1.heap.size → ¬ N b ∧ w.heap[b]? = w1.heap[b]? ∧ (U b → U1 b)) ∧
    ∀ w' ext, w1.heap.size ≤ w'.heap.size → (∀ b, b < w1.heap.size → w'.heap[b]? = w1.heap[b]? ∧ (ext b → U1 b)) → (∀ b, ext b → b < w'.heap.size) → C w' ext g caps

/-- What a call answers, of a value without names. -/
def ValPost {β : Type} (ext : Nat → Prop) (w0 : World) (B : GoT β) (y : β) : Ending → World → Prop
  | .returned v, w => Below w0.heap.size w0 w ∧ B.val ext ext w y v
  | .outgrown, _ => False
  | _, _ => False

def AV.rel (ρ : Nat → Value) (B : Nat → Prop) (U N : Nat → Prop) (w : World) : AV → Value → Prop
  | .idk, _ => True
  | .lit x, v => v = x
  | .val T x, v => T.val U N w x v
  | .ptr n off, v => ∃ g, ρ n = .pointer (some ⟨g, 0, none⟩) ∧ v = .pointer (some ((⟨g, 0, none⟩ : Addr).add off))
  | .eptr n i sz off, v => ∃ g len cap, ρ n = .slice (some ⟨g, 0, none⟩) len cap ∧ v = .pointer (some ((⟨g, 0, none⟩ : Addr).add (i * sz + off)))
  | .rptr T x, v => ∃ ad, v = .pointer (some ad) ∧ ¬ N ad.block ∧ T.at_ U N w ad x
  | .own n, v => v = ρ n
  | .fresh e T l, v => ∃ xs, w.ownsRow 0 e T.size v l.length xs ∧ (∀ b, blkOf v = some b → B b ∧ b < w.heap.size) ∧ relAll T (fun b => U b ∨ blkOf v = some b) (fun b => U b ∨ blkOf v = some b) w l xs
  | .clo f caps, v => v = .func (.func f) #[] (caps.map ρ).toArray
  | .vw n off len, v => ∃ g cap, ρ n = .pointer (some ⟨g, 0, none⟩) ∧ v = .slice (some ((⟨g, 0, none⟩ : Addr).add off)) len cap ∧ len ≤ cap ∧ cap ≤ maxLen
  | .osub n sz lo len, v => ∃ g L cap, ρ n = .slice (some ⟨g, 0, none⟩) L cap ∧ lo + len ≤ cap ∧ v = .slice (some (if cap = lo then ⟨g, 0, none⟩ else (⟨g, 0, none⟩ : Addr).add (lo * sz))) len (cap - lo)
  | .fn1 P A B f, v => FunAt U N w v fun w' ext g caps => fnB P g = true ∧ ∀ x vx, A.val ext (fun _ => False) w' x vx → Calls P g (#[vx] ++ caps) w' (ValPost ext w' B (f x))
  | .fn2 P A A' B f, v => FunAt U N w v fun w' ext g caps => fnB P g = true ∧ ∀ x vx y vy, A.val ext (fun _ => False) w' x vx → A'.val ext (fun _ => False) w' y vy → Calls P g (#[vx, vy] ++ caps) w' (ValPost ext w' B (f x y))
  | .tup2 a b, v => ∃ x y, v = .tuple #[x, y] ∧ a.rel ρ B U N w x ∧ b.rel ρ B U N w y
  | .tup3 a b c, v => ∃ x y z, v = .tuple #[x, y, z] ∧ a.rel ρ B U N w x ∧ b.rel ρ B U N w y ∧ c.rel ρ B U N w z

/-- It names only what is below nx; and bears no promise of new memory. -/
def AV.under (nx : Nat) : AV → Prop
  | .ptr n _ | .eptr n _ _ _ | .own n | .vw n _ _ | .osub n _ _ _ => n < nx
  | .clo _ caps => ∀ c ∈ caps, c < nx
  | .fresh .. => False
  | .tup2 a b => a.under nx ∧ b.under nx
  | .tup3 a b c => a.under nx ∧ b.under nx ∧ c.under nx
  | _ => True

def AV.under0 : AV → Bool
  | .idk | .lit _ | .val .. | .rptr .. | .fn1 .. | .fn2 .. => true
  | .clo _ caps => caps.isEmpty
  | .tup2 a b => a.under0 && b.under0
  | .tup3 a b c => a.under0 && (b.under0 && c.under0)
  | _ => false
theorem AV.under0_spec : ∀ {x : AV}, x.under0 = true → x.under 0
  | .idk, _ => trivial
  | .lit _, _ => trivial
  | .val .., _ => trivial
  | .rptr .., _ => trivial
  | .fn1 .., _ => trivial
  | .fn2 .., _ => trivial
  | .clo _ caps, h => fun c hc => by
    have : caps = [] := by simpa [AV.under0] using h
    rw [this] at hc; cases hc
  | .tup2 a b, h => by
    simp only [AV.under0, Bool.and_eq_true] at h
    exact ⟨AV.under0_spec h.1, AV.under0_spec h.2⟩
  | .tup3 a b c, h => by
    simp only [AV.under0, Bool.and_eq_true] at h
    exact ⟨AV.under0_spec h.1, AV.under0_spec h.2.1, AV.under0_spec h.2.2⟩

/-- What is known of a piece of memory of the call's own. -/
inductive HE : Type 1
  | none_
  | box (ty : TypeId) {α : Type} (T : GoT α) (x : α)
  | row (e : TypeId) {α : Type} (T : GoT α) (l : List α)
  | parts (ty : TypeId) (xs : List AV)
  | objAt (b : Nat) (o : Obj)

/-- How many cells a value bears of which this is known. -/
def AV.cells : AV → Nat
  | .val T _ => T.size
  | _ => 1
/-- Values, one behind the other. -/
def AV.relL (ρ : Nat → Value) (B U N : Nat → Prop) (w : World) : List AV → List Value → Prop
  | [], vs => vs = []
  | x :: xs, vs => ∃ v us, vs = v :: us ∧ x.rel ρ B U N w v ∧ v.cells.size = x.cells ∧ (∀ u ∈ v.cells.toList, u.oneCell' = true) ∧ AV.relL ρ B U N w xs us

def HE.live : HE → Prop
  | .none_ => False
  | _ => True

def HE.rel (ρ : Nat → Value) (B U N : Nat → Prop) (w : World) : HE → Value → Prop
  | .none_, _ => True
  | .box ty T x, p => ∃ g cs, p = .pointer (some ⟨g, 0, none⟩) ∧ w.heap[g]? = some (.cells cs.toArray ty (0, 0)) ∧ T.rel U N w x cs
  | .row e T l, p => ∃ xs, w.ownsRow 0 e T.size p l.length xs ∧ relAll T U N w l xs
  | .parts ty xs, p => ∃ g vs, p = .pointer (some ⟨g, 0, none⟩) ∧ w.heap[g]? = some (.cells (vs.flatMap (fun v => v.cells.toList)).toArray ty (0, 0)) ∧ AV.relL ρ B U N w xs vs
  | .objAt b o, p => p = .pointer (some ⟨b, 0, none⟩) ∧ w.heap[b]? = some o

/-- It names only what is below nx. -/
def HE.under (nx : Nat) : HE → Prop
  | .parts _ xs => ∀ x ∈ xs, x.under nx
  | _ => True

abbrev Fr := Nat → AV
abbrev Hp := Nat → HE
def Fr.set (f : Fr) (d : Nat) (v : AV) : Fr := fun t => bif Nat.beq t d then v else f t
def Hp.set (f : Hp) (d : Nat) (v : HE) : Hp := fun t => bif Nat.beq t d then v else f t
def Fr.none : Fr := fun _ => .idk
def Hp.none : Hp := fun _ => .none_

theorem beq_set {γ : Type 1} (t d : Nat) (x y : γ) : (bif Nat.beq t d then x else y) = if t = d then x else y := by
  by_cases h : t = d
  · simp [h]
  · have : Nat.beq t d = false := by
      cases e : Nat.beq t d
      · rfl
      · exact absurd (Nat.eq_of_beq_eq_true e) h
    simp [this, h]

/-- All that was there stands, but for what is granted. -/
structure BelowX (gr : Nat → Prop) (w w' : World) : Prop where
  os : w'.os = w.os
  tape : w'.tape = w.tape
  output : w'.output = w.output
  size : w.heap.size ≤ w'.heap.size
  block : ∀ b, b < w.heap.size → ¬ gr b → w'.heap[b]? = w.heap[b]?
  drawn : w.drawn ≤ w'.drawn
theorem BelowX.refl (gr : Nat → Prop) (w : World) : BelowX gr w w := ⟨rfl, rfl, rfl, Nat.le_refl _, fun _ _ _ => rfl, Nat.le_refl _⟩
theorem BelowX.later {gr : Nat → Prop} {a b c : World} (h : BelowX gr a b) (k : Below b.heap.size b c) : BelowX gr a c :=
  ⟨k.os.trans h.os, k.tape.trans h.tape, k.output.trans h.output, Nat.le_trans h.size k.size, fun i hi hg => (k.block i (Nat.lt_of_lt_of_le hi h.size)).trans (h.block i hi hg), Nat.le_trans h.drawn k.drawn⟩
theorem BelowX.none {w w' : World} (h : BelowX (fun _ => False) w w') : Below w.heap.size w w' := ⟨⟨h.os, h.tape, h.output, h.size, fun b hb => h.block b hb (fun h => h)⟩, h.drawn⟩

/-- One call: its program, its function, where it began, what others own, how many slots, what is wanted at the end. -/
structure Job where
  P : Program
  fn : Func
  w0 : World
  ext : Nat → Prop
  gr : Nat → Prop
  kg : Nat
  ρg : Nat → Value
  nt : Nat
  R : Ending → World → Prop
  rd : Option Nat
  ds : List Deferred
  bg : List (Fr × Act)
  bn : Nat
  bgb : ∀ p ∈ bg, ∀ t, (p.1 t).under bn
  post : Exit → Act → World → Prop
  nrm : rd = none → ∀ a w, post .ret a w → post .normal a w
  fin : rd = none → ∀ a w v, a.defers = [] → (results fn a.tmps).run P w = .ok v w → BelowX gr w0 w → R (.returned v) w → post .ret a w
  mark : rd = none → ∀ a w w' D, a.defers = [{ target := .collected D, args := #[] }] → (Instr.takeDeferred D).run P w = .ok [] w' → post .ret { a with defers := [] } w' → post .ret a w
  lt : ∀ b, ext b → b < w0.heap.size
  dj : ∀ b, ext b → gr b → False

/-- The fence: none but that a round of a loop over a function has its number. -/
def Job.F (J : Job) : Fence := { Fence.wide with round := J.rd }
/-- What is the call's own to hand on. -/
def Job.B (J : Job) (b : Nat) : Prop := J.w0.heap.size ≤ b ∨ J.gr b
def Nn (ρ : Nat → Value) (hp : Hp) (b : Nat) : Prop := ∃ n, (hp n).live ∧ blkOf (ρ n) = some b
def Uu (J : Job) (ρ : Nat → Value) (hp : Hp) (b : Nat) : Prop := J.ext b ∨ Nn ρ hp b

/-- The heap's part. -/
structure SimH (J : Job) (nx : Nat) (ρ : Nat → Value) (hp : Hp) (w : World) : Prop where
  kle : J.kg ≤ nx
  ble : J.bn ≤ nx
  named : ∀ n, n < J.kg → ρ n = J.ρg n
  below : BelowX J.gr J.w0 w
  hrel : ∀ n, (hp n).rel ρ J.B (Uu J ρ hp) (Nn ρ hp) w (ρ n)
  hun : ∀ n, (hp n).under nx
  hnx : ∀ n, nx ≤ n → hp n = .none_
  new : ∀ n b, (hp n).live → blkOf (ρ n) = some b → (J.w0.heap.size ≤ b ∨ J.gr b) ∧ b < w.heap.size
  inj : ∀ n m b, (hp n).live → (hp m).live → blkOf (ρ n) = some b → blkOf (ρ m) = some b → n = m

structure SimR (J : Job) (nx : Nat) (ρ : Nat → Value) (fr : Fr) (hp : Hp) (a : Act) (w : World) : Prop extends SimH J nx ρ hp w where
  size : a.tmps.size = J.nt
  defers : a.defers = J.ds
  frel : ∀ t, (fr t).rel ρ J.B (Uu J ρ hp) (Nn ρ hp) w (a.tmps.getD t undef)
  fnx : ∀ t, (fr t).under nx
  brel : ∀ p ∈ J.bg, ∀ t, (p.1 t).rel ρ J.B (Uu J ρ hp) (Nn ρ hp) w (p.2.tmps.getD t undef)

def Sim (J : Job) (nx : Nat) (fr : Fr) (hp : Hp) (a : Act) (w : World) : Prop := ∃ ρ, SimR J nx ρ fr hp a w

section
variable {J : Job} {nx : Nat} {ρ : Nat → Value} {fr : Fr} {hp : Hp} {a : Act} {w w' : World}

theorem at_lt {α : Type} {T : GoT α} {U N ad x} (h : T.at_ U N w ad x) : ad.block < w.heap.size := by
  obtain ⟨cs, hr, hc⟩ := h
  have hp : 0 < cs.length := by rw [T.len hr]; exact T.pos
  have := cell_lt (hc 0 _ (List.getElem?_eq_getElem hp))
  rwa [block_of_add] at this

theorem FunAt.mono {U N U' N' : Nat → Prop} {v : Value} {C : World → (Nat → Prop) → FuncId → Array Value → Prop} (k : Keeps U N w U' N' w') (h : FunAt U N w v C) : FunAt U' N' w' v C := by
  obtain ⟨w1, U1, g, caps, e, hs, hb, hc⟩ := h
  exact ⟨w1, U1, g, caps, e, Nat.le_trans hs k.size, fun b hlt => ⟨fun hn => (hb b hlt).1 (k.nn b (Nat.lt_of_lt_of_le hlt hs) hn), (k.blk b (Nat.lt_of_lt_of_le hlt hs) (hb b hlt).1).trans (hb b hlt).2.1,
    fun hu => (hb b hlt).2.2 (k.up b (Nat.lt_of_lt_of_le hlt hs) hu)⟩, hc⟩

theorem AV.rel_mono {B : Nat → Prop} {U N U' N' : Nat → Prop} (k : Keeps U N w U' N' w') :
    ∀ {x : AV} {v : Value}, x.under nx → x.rel ρ B U N w v → x.rel ρ B U' N' w' v
  | .idk, _, _, h => trivial
  | .lit _, _, _, h => h
  | .val T x, _, _, h => T.val_mono k h
  | .ptr .., _, _, h => h
  | .eptr .., _, _, h => h
  | .rptr T x, _, _, ⟨ad, e, hn, h⟩ => ⟨ad, e, fun h' => hn (k.nn _ (at_lt h) h'), T.at_mono k hn h⟩
  | .own _, _, _, h => h
  | .fresh .., _, hu, _ => hu.elim
  | .clo .., _, _, h => h
  | .vw .., _, _, h => h
  | .osub .., _, _, h => h
  | .fn1 .., _, _, h => FunAt.mono k h
  | .fn2 .., _, _, h => FunAt.mono k h
  | .tup2 a b, _, hu, ⟨x, y, e, h1, h2⟩ => ⟨x, y, e, AV.rel_mono k hu.1 h1, AV.rel_mono k hu.2 h2⟩
  | .tup3 a b c, _, hu, ⟨x, y, z, e, h1, h2, h3⟩ => ⟨x, y, z, e, AV.rel_mono k hu.1 h1, AV.rel_mono k hu.2.1 h2, AV.rel_mono k hu.2.2 h3⟩

theorem AV.under_mono {n m : Nat} (h : n ≤ m) : ∀ {x : AV}, x.under n → x.under m
  | .idk, _ => trivial
  | .lit _, _ => trivial
  | .val .., _ => trivial
  | .ptr .., h' => Nat.lt_of_lt_of_le h' h
  | .eptr .., h' => Nat.lt_of_lt_of_le h' h
  | .rptr .., _ => trivial
  | .own _, h' => Nat.lt_of_lt_of_le h' h
  | .fresh .., h' => h'.elim
  | .vw .., h' => Nat.lt_of_lt_of_le h' h
  | .osub .., h' => Nat.lt_of_lt_of_le h' h
  | .fn1 .., _ => trivial
  | .fn2 .., _ => trivial
  | .clo .., h' => fun c hc => Nat.lt_of_lt_of_le (h' c hc) h
  | .tup2 .., h' => ⟨AV.under_mono h h'.1, AV.under_mono h h'.2⟩
  | .tup3 .., h' => ⟨AV.under_mono h h'.1, AV.under_mono h h'.2.1, AV.under_mono h h'.2.2⟩

/-- The names' meaning may be turned where they are not used. -/
theorem AV.rel_ren {B : Nat → Prop} {U N : Nat → Prop} {ρ' : Nat → Value} (hρ : ∀ n, n < nx → ρ' n = ρ n) :
    ∀ {x : AV} {v : Value}, x.under nx → x.rel ρ B U N w v → x.rel ρ' B U N w v
  | .idk, _, _, h => trivial
  | .lit _, _, _, h => h
  | .val .., _, _, h => h
  | .ptr .., _, hu, ⟨g, e1, e2⟩ => ⟨g, (hρ _ hu).trans e1, e2⟩
  | .eptr .., _, hu, ⟨g, l, c, e1, e2⟩ => ⟨g, l, c, (hρ _ hu).trans e1, e2⟩
  | .rptr .., _, _, h => h
  | .own n, v, hu, h => Eq.trans (b := ρ n) h (hρ _ hu).symm
  | .fresh .., _, hu, _ => hu.elim
  | .clo f caps, v, hu, h => by
    have e : caps.map ρ' = caps.map ρ := List.map_congr_left fun c hc => hρ c (hu c hc)
    show v = .func (.func f) #[] (caps.map ρ').toArray
    rw [e]; exact h
  | .vw .., _, hu, ⟨g, c, e1, e2⟩ => ⟨g, c, (hρ _ hu).trans e1, e2⟩
  | .osub .., _, hu, ⟨g, l, c, e1, e2⟩ => ⟨g, l, c, (hρ _ hu).trans e1, e2⟩
  | .fn1 .., _, _, h => h
  | .fn2 .., _, _, h => h
  | .tup2 a b, _, hu, ⟨x, y, e, h1, h2⟩ => ⟨x, y, e, AV.rel_ren hρ hu.1 h1, AV.rel_ren hρ hu.2 h2⟩
  | .tup3 a b c, _, hu, ⟨x, y, z, e, h1, h2, h3⟩ => ⟨x, y, z, e, AV.rel_ren hρ hu.1 h1, AV.rel_ren hρ hu.2.1 h2, AV.rel_ren hρ hu.2.2 h3⟩

/-- Where the call began matters to what is new alone. -/
theorem AV.rel_B {B B' : Nat → Prop} {U N : Nat → Prop} : ∀ {x : AV} {v : Value}, x.under nx → x.rel ρ B U N w v → x.rel ρ B' U N w v
  | .idk, _, _, h => trivial
  | .lit _, _, _, h => h
  | .val .., _, _, h => h
  | .ptr .., _, _, h => h
  | .eptr .., _, _, h => h
  | .rptr .., _, _, h => h
  | .own _, _, _, h => h
  | .fresh .., _, hu, _ => hu.elim
  | .clo .., _, _, h => h
  | .vw .., _, _, h => h
  | .osub .., _, _, h => h
  | .fn1 .., _, _, h => h
  | .fn2 .., _, _, h => h
  | .tup2 a b, _, hu, ⟨x, y, e, h1, h2⟩ => ⟨x, y, e, AV.rel_B hu.1 h1, AV.rel_B hu.2 h2⟩
  | .tup3 a b c, _, hu, ⟨x, y, z, e, h1, h2, h3⟩ => ⟨x, y, z, e, AV.rel_B hu.1 h1, AV.rel_B hu.2.1 h2, AV.rel_B hu.2.2 h3⟩

theorem ownsRow_of_block {B e size n : Nat} {v : Value} {xs : List Value} (h : w.ownsRow B e size v n xs) (hb : ∀ g, blkOf v = some g → w'.heap[g]? = w.heap[g]?) : w'.ownsRow B e size v n xs := by
  obtain ⟨h1, h2⟩ := h
  refine ⟨h1, ?_⟩
  rcases h2 with h2 | ⟨g, cap, cur, hv, hg, hh, r⟩
  · exact .inl h2
  · exact .inr ⟨g, cap, cur, hv, hg, by rw [hb g (by rw [hv]; rfl)]; exact hh, r⟩

theorem AV.relL_mono {B U N U' N' : Nat → Prop} (k : Keeps U N w U' N' w') : ∀ {xs : List AV} {vs : List Value}, (∀ x ∈ xs, x.under nx) → AV.relL ρ B U N w xs vs → AV.relL ρ B U' N' w' xs vs
  | [], _, _, h => h
  | x :: xs, _, hu, ⟨v, us, e, h1, h2, h3, h4⟩ => ⟨v, us, e, AV.rel_mono k (hu x (by simp)) h1, h2, h3, AV.relL_mono k (fun y hy => hu y (by simp [hy])) h4⟩
theorem AV.relL_ren {B U N : Nat → Prop} {ρ' : Nat → Value} (hρ : ∀ n, n < nx → ρ' n = ρ n) : ∀ {xs : List AV} {vs : List Value}, (∀ x ∈ xs, x.under nx) → AV.relL ρ B U N w xs vs → AV.relL ρ' B U N w xs vs
  | [], _, _, h => h
  | x :: xs, _, hu, ⟨v, us, e, h1, h2, h3, h4⟩ => ⟨v, us, e, AV.rel_ren hρ (hu x (by simp)) h1, h2, h3, AV.relL_ren hρ (fun y hy => hu y (by simp [hy])) h4⟩
theorem AV.relL_B {B B' U N : Nat → Prop} : ∀ {xs : List AV} {vs : List Value}, (∀ x ∈ xs, x.under nx) → AV.relL ρ B U N w xs vs → AV.relL ρ B' U N w xs vs
  | [], _, _, h => h
  | x :: xs, _, hu, ⟨v, us, e, h1, h2, h3, h4⟩ => ⟨v, us, e, AV.rel_B (hu x (by simp)) h1, h2, h3, AV.relL_B (fun y hy => hu y (by simp [hy])) h4⟩
theorem HE.under_mono {n m : Nat} (h : n ≤ m) : ∀ {x : HE}, x.under n → x.under m
  | .none_, _ => trivial
  | .box .., _ => trivial
  | .row .., _ => trivial
  | .objAt .., _ => trivial
  | .parts .., h' => fun x hx => AV.under_mono h (h' x hx)
theorem HE.rel_ren {B U N : Nat → Prop} {ρ' : Nat → Value} {p : Value} (hρ : ∀ n, n < nx → ρ' n = ρ n) : ∀ {x : HE}, x.under nx → x.rel ρ B U N w p → x.rel ρ' B U N w p
  | .none_, _, h => h
  | .box .., _, h => h
  | .row .., _, h => h
  | .objAt .., _, h => h
  | .parts .., hu, ⟨g, vs, e, hg, hr⟩ => ⟨g, vs, e, hg, AV.relL_ren hρ hu hr⟩
theorem HE.rel_B {B B' U N : Nat → Prop} {p : Value} : ∀ {x : HE}, x.under nx → x.rel ρ B U N w p → x.rel ρ B' U N w p
  | .none_, _, h => h
  | .box .., _, h => h
  | .row .., _, h => h
  | .objAt .., _, h => h
  | .parts .., hu, ⟨g, vs, e, hg, hr⟩ => ⟨g, vs, e, hg, AV.relL_B hu hr⟩
theorem HE.rel_mono {B U N U' N' : Nat → Prop} (k : Keeps U N w U' N' w') {p : Value} :
    ∀ {x : HE}, x.under nx → (x.live → ∀ g, blkOf p = some g → w'.heap[g]? = w.heap[g]?) → x.rel ρ B U N w p → x.rel ρ B U' N' w' p
  | .none_, _, _, _ => trivial
  | .objAt b o, _, hb, ⟨e, hg⟩ => ⟨e, by rw [hb trivial b (by rw [e]; rfl)]; exact hg⟩
  | .parts ty xs, hu, hb, ⟨g, vs, e, hg, hr⟩ => ⟨g, vs, e, by rw [hb trivial g (by rw [e]; rfl)]; exact hg, AV.relL_mono k hu hr⟩
  | .box ty T x, _, hb, ⟨g, cs, e, hg, hr⟩ => ⟨g, cs, e, by rw [hb trivial g (by rw [e]; rfl)]; exact hg, T.mono k hr⟩
  | .row e T l, _, hb, ⟨xs, ho, hr⟩ => ⟨xs, ownsRow_of_block ho (hb trivial), hr.mono k⟩

theorem SimH.sub (h : SimH J nx ρ hp w) : ∀ b, Nn ρ hp b → Uu J ρ hp b := fun _ hb => .inr hb

theorem SimH.ext_lt (h : SimH J nx ρ hp w) {b : Nat} (hb : J.ext b) : b < w.heap.size := Nat.lt_of_lt_of_le (J.lt b hb) h.below.size

theorem SimH.uu_lt (h : SimH J nx ρ hp w) {b : Nat} (hb : Uu J ρ hp b) : b < w.heap.size := by
  rcases hb with hb | ⟨n, hl, e⟩
  · exact h.ext_lt hb
  · exact (h.new n b hl e).2

/-- New blocks alone have come. -/
theorem SimH.later (h : SimH J nx ρ hp w) (hb : Below w.heap.size w w') : SimH J nx ρ hp w' where
  kle := h.kle
  ble := h.ble
  named := h.named
  below := h.below.later hb
  hun := h.hun
  hrel n := HE.rel_mono ⟨h.sub, hb.size, fun b hlt _ => hb.block b hlt, fun _ _ x => x, fun _ _ x => x⟩ (h.hun n) (fun hl g hg => hb.block g (h.new n g hl hg).2) (h.hrel n)
  hnx := h.hnx
  new n b hl e := ⟨(h.new n b hl e).1, Nat.lt_of_lt_of_le (h.new n b hl e).2 hb.size⟩
  inj := h.inj

theorem SimH.keeps (h : SimH J nx ρ hp w) (hb : Below w.heap.size w w') : Keeps (Uu J ρ hp) (Nn ρ hp) w (Uu J ρ hp) (Nn ρ hp) w' :=
  ⟨h.sub, hb.size, fun b hlt _ => hb.block b hlt, fun _ _ x => x, fun _ _ x => x⟩

theorem SimR.later (h : SimR J nx ρ fr hp a w) (hb : Below w.heap.size w w') : SimR J nx ρ fr hp a w' :=
  { h.toSimH.later hb with
    size := h.size
    defers := h.defers
    frel := fun t => AV.rel_mono (h.keeps hb) (h.fnx t) (h.frel t)
    fnx := h.fnx
    brel := fun p hp t => AV.rel_mono (h.keeps hb) (J.bgb p hp t) (h.brel p hp t) }

theorem getD_put (a : Act) (d t : Nat) (v : Value) (hd : d < a.tmps.size) : (a.put (some d) v).tmps.getD t undef = if t = d then v else a.tmps.getD t undef := by
  show (a.tmps.setIfInBounds d v).getD t undef = _
  by_cases h : t = d
  · subst h; simp [Array.getD, hd]
  · rw [if_neg h]
    have : d ≠ t := fun e => h e.symm
    simp [Array.getD_eq_getD_getElem?, Array.getElem?_setIfInBounds, this]

theorem SimR.put (h : SimR J nx ρ fr hp a w) {d : Nat} {v : Value} {x : AV} (hd : d < J.nt) (hx : x.rel ρ J.B (Uu J ρ hp) (Nn ρ hp) w v) (hu : x.under nx) :
    SimR J nx ρ (fr.set d x) hp (a.put (some d) v) w :=
  { h.toSimH with
    size := by show (a.tmps.setIfInBounds d v).size = _; simpa using h.size
    defers := h.defers
    frel := fun t => by
      rw [getD_put a d t v (by rw [h.size]; exact hd)]
      simp only [Fr.set, beq_set]
      by_cases e : t = d
      · rw [if_pos e, if_pos e]; exact hx
      · rw [if_neg e, if_neg e]; exact h.frel t
    fnx := fun t => by
      simp only [Fr.set, beq_set]
      by_cases e : t = d
      · rw [if_pos e]; exact hu
      · rw [if_neg e]; exact h.fnx t
    brel := h.brel }

theorem SimR.put_none (h : SimR J nx ρ fr hp a w) {v : Value} : SimR J nx ρ fr hp (a.put none v) w := h

/-- Less is known. -/
def Fr.le (f g : Fr) : Prop := ∀ t, f t = .idk ∨ f t = g t
def Hp.le (f g : Hp) : Prop := ∀ n, f n = .none_ ∨ f n = g n
theorem Fr.le_none (g : Fr) : Fr.le Fr.none g := fun _ => .inl rfl
theorem Fr.le_refl (g : Fr) : Fr.le g g := fun _ => .inr rfl
theorem Fr.le_set {f g : Fr} {d : Nat} {v : AV} (h : Fr.le f g) (hv : g d = v) : Fr.le (f.set d v) g := fun t => by
  simp only [Fr.set, beq_set]
  by_cases e : t = d
  · rw [if_pos e, e]; exact .inr hv.symm
  · rw [if_neg e]; exact h t
theorem Hp.le_none (g : Hp) : Hp.le Hp.none g := fun _ => .inl rfl
theorem Hp.le_refl (g : Hp) : Hp.le g g := fun _ => .inr rfl
theorem Hp.le_set {f g : Hp} {d : Nat} {v : HE} (h : Hp.le f g) (hv : g d = v) : Hp.le (f.set d v) g := fun t => by
  simp only [Hp.set, beq_set]
  by_cases e : t = d
  · rw [if_pos e, e]; exact .inr hv.symm
  · rw [if_neg e]; exact h t

def AV.underB (nx : Nat) : AV → Bool
  | .ptr n _ | .eptr n _ _ _ | .own n | .vw n _ _ | .osub n _ _ _ => Nat.blt n nx
  | .clo _ caps => caps.all fun c => Nat.blt c nx
  | .fresh .. => false
  | .tup2 a b => a.underB nx && b.underB nx
  | .tup3 a b c => a.underB nx && (b.underB nx && c.underB nx)
  | _ => true
theorem AV.underB_spec {nx : Nat} : ∀ {x : AV}, x.underB nx = true → x.under nx
  | .idk, _ => trivial
  | .lit _, _ => trivial
  | .val .., _ => trivial
  | .rptr .., _ => trivial
  | .fn1 .., _ => trivial
  | .fn2 .., _ => trivial
  | .ptr n _, h => show n < nx by simpa [AV.underB] using h
  | .eptr n _ _ _, h => show n < nx by simpa [AV.underB] using h
  | .own n, h => show n < nx by simpa [AV.underB] using h
  | .vw n _ _, h => show n < nx by simpa [AV.underB] using h
  | .osub n _ _ _, h => show n < nx by simpa [AV.underB] using h
  | .clo _ caps, h => fun c hc => by
    have := List.all_eq_true.1 h c hc
    simpa using this
  | .fresh .., h => by cases h
  | .tup2 a b, h => by
    simp only [AV.underB, Bool.and_eq_true] at h
    exact ⟨AV.underB_spec h.1, AV.underB_spec h.2⟩
  | .tup3 a b c, h => by
    simp only [AV.underB, Bool.and_eq_true] at h
    exact ⟨AV.underB_spec h.1, AV.underB_spec h.2.1, AV.underB_spec h.2.2⟩
def HE.underB (nx : Nat) : HE → Bool
  | .parts _ xs => xs.all (AV.underB nx)
  | _ => true
theorem HE.underB_spec {nx : Nat} : ∀ {x : HE}, x.underB nx = true → x.under nx
  | .none_, _ => trivial
  | .box .., _ => trivial
  | .row .., _ => trivial
  | .objAt .., _ => trivial
  | .parts _ xs, h => fun x hx => AV.underB_spec (List.all_eq_true.1 h x hx)
def Fr.below_ (nx : Nat) (f : Fr) : Prop := ∀ t, (f t).under nx
theorem Fr.below_none (nx : Nat) : Fr.below_ nx Fr.none := fun _ => trivial
theorem Fr.below_set {nx : Nat} {f : Fr} {d : Nat} {v : AV} (h : Fr.below_ nx f) (hv : v.under nx) : Fr.below_ nx (f.set d v) := fun t => by
  simp only [Fr.set, beq_set]
  by_cases e : t = d
  · rw [if_pos e]; exact hv
  · rw [if_neg e]; exact h t
def Hp.below_ (nx : Nat) (f : Hp) : Prop := ∀ n, (nx ≤ n → f n = .none_) ∧ (f n).under nx
theorem Hp.below_none (nx : Nat) : Hp.below_ nx Hp.none := fun _ => ⟨fun _ => rfl, trivial⟩
theorem Fr.below_setB {nx : Nat} {f : Fr} {d : Nat} {v : AV} (h : Fr.below_ nx f) (hv : v.underB nx = true) : Fr.below_ nx (f.set d v) := Fr.below_set h (AV.underB_spec hv)
theorem Hp.below_set {nx : Nat} {f : Hp} {d : Nat} {v : HE} (h : Hp.below_ nx f) (hv : d < nx) (hu : v.underB nx = true := by rfl) : Hp.below_ nx (f.set d v) := fun t => by
  simp only [Hp.set, beq_set]
  by_cases e : t = d
  · rw [if_pos e]; exact ⟨fun ht => absurd ht (by omega), HE.underB_spec hu⟩
  · rw [if_neg e]; exact h t

theorem SimR.weaken {fr' : Fr} {hp' : Hp} {nx' : Nat} (h : SimR J nx ρ fr hp a w) (hk : Nat.ble (max J.kg J.bn) nx' = true) (hf : Fr.le fr' fr) (hh : Hp.le hp' hp) (bf : Fr.below_ nx' fr') (bh : Hp.below_ nx' hp') : SimR J nx' ρ fr' hp' a w := by
  have hl : ∀ n, (hp' n).live → hp' n = hp n := fun n hl => by
    rcases hh n with e | e
    · rw [e] at hl; exact hl.elim
    · exact e
  have hN : ∀ b, Nn ρ hp' b → Nn ρ hp b := fun b ⟨n, h1, h2⟩ => ⟨n, by rw [← hl n h1]; exact h1, h2⟩
  have hkb : max J.kg J.bn ≤ nx' := Nat.le_of_ble_eq_true hk
  have hkg : J.kg ≤ nx' := by omega
  have hk : Keeps (Uu J ρ hp) (Nn ρ hp) w (Uu J ρ hp') (Nn ρ hp') w := ⟨h.sub, Nat.le_refl _, fun _ _ _ => rfl, fun b _ hb => hb.imp id (hN b), fun b _ hb => hN b hb⟩
  exact
  { kle := hkg
    ble := by omega
    named := h.named
    below := h.below
    hrel := fun n => by
      rcases hh n with e | e
      · rw [e]; trivial
      · rw [e]; exact HE.rel_mono hk (h.hun n) (fun _ _ _ => rfl) (h.hrel n)
    hun := fun n => (bh n).2
    hnx := fun n => (bh n).1
    new := fun n b h1 h2 => h.new n b (by rw [← hl n h1]; exact h1) h2
    inj := fun n m b h1 h2 => h.inj n m b (by rw [← hl n h1]; exact h1) (by rw [← hl m h2]; exact h2)
    size := h.size
    defers := h.defers
    frel := fun t => by
      rcases hf t with e | e
      · rw [e]; trivial
      · rw [e]; exact AV.rel_mono hk (h.fnx t) (h.frel t)
    fnx := bf
    brel := fun p hp t => AV.rel_mono hk (J.bgb p hp t) (h.brel p hp t) }
end

theorem SimH.hbelow {J : Job} {nx : Nat} {ρ : Nat → Value} {hp : Hp} {w : World} (s : SimH J nx ρ hp w) : Hp.below_ nx hp := fun n => ⟨s.hnx n, s.hun n⟩

/-! ## What is still to be done -/
inductive It
  | code (c : Code)
  | ops (ops : Array Oper) (l : List Oper)
  | inBlock (id : Nat)
  | again (T : Act → World → Prop)

def Kont (J : Job) : List It → Exit → Act → World → Prop
  | [] => J.post
  | .code c :: k => Exit.then (fun a w => c.wpIn J.F 0 J.P (Kont J k) a w) (Kont J k)
  | .ops ops l :: k => Exit.then (fun a w => wpListIn J.F 0 J.P ops (Kont J k) l a w) (Kont J k)
  | .inBlock id :: k => Exit.inBlock id (Kont J k)
  | .again T :: k => Exit.then T (Kont J k)

theorem callsIn_J {J : Job} {n : Nat} {P : Program} {f : FuncId} {args : Array Value} {w : World} {R : Ending → World → Prop} (h : Calls P f args w R) : CallsIn J.F n P f args w R := callsIn_wide (n := n).2 h
theorem opIn {J : Job} {o : Oper} {a : Act} {w : World} {K : Act → World → Prop} {Q : Exit → Act → World → Prop} (nd : ∀ c, o.op ≠ .defer c) (h : o.wp J.P a w K Q) : o.wpIn J.F 0 J.P a w K Q := by
  refine ⟨fun _ _ => trivial, ?_⟩
  have e : Oper.semAt J.F.round a.eval o = execOp a.eval o := by
    cases hr : J.F.round with
    | none => rfl
    | some l => exact Oper.semAt_some l a.eval o nd
  rw [e]
  unfold Oper.wp at h
  generalize (execOp a.eval o).run J.P w = r at h ⊢
  cases r with
  | ok n w' =>
    cases n with
    | enter f args => exact ⟨fun h => (by cases h), callsIn_J h⟩
    | round l f tmps as b => exact h.elim
    | row r args => exact ⟨fun h => (by cases h), fun c cs _ => let ⟨v, w', x, y⟩ := h c cs; ⟨v, w', x, stepsIn_wide.2 y⟩⟩
    | _ => exact h
  | halt x w' => cases x <;> exact h
theorem wpl_plain {J : Job} {ops : Array Oper} {Q : Exit → Act → World → Prop} {rest : List Oper} {o : Oper} {a : Act} {w : World} (hg : o.guard = none) (nd : ∀ c, o.op ≠ .defer c)
    (h : ∀ K : Act → World → Prop, (∀ a w, wpListIn J.F 0 J.P ops Q rest a w → K a w) → o.wp J.P a w K Q) : wpListIn J.F 0 J.P ops Q (o :: rest) a w :=
  wpListIn_plain hg fun K hK => opIn nd (h K hK)

def AW (J : Job) (nx : Nat) (fr : Fr) (hp : Hp) (k : List It) : Prop := ∀ a w, Sim J nx fr hp a w → Kont J k .normal a w

/-- What is needed where a function returns. -/
def AR (J : Job) (nx : Nat) (fr : Fr) (hp : Hp) : Prop := ∀ a w, Sim J nx fr hp a w → J.post .ret a w

section
variable {J : Job} {nx : Nat} {fr : Fr} {hp : Hp} {k : List It}

theorem Kont.ret (J : Job) : ∀ (k : List It) {a : Act} {w : World}, J.post .ret a w → Kont J k .ret a w
  | [], _, _, h => h
  | .code _ :: k, _, _, h => Kont.ret J k h
  | .ops .. :: k, _, _, h => Kont.ret J k h
  | .inBlock _ :: k, _, _, h => Kont.ret J k h
  | .again _ :: k, _, _, h => Kont.ret J k h
def popTo (id : Nat) : List It → Option (List It)
  | [] => none
  | .inBlock i :: k => bif Nat.beq i id then some k else popTo id k
  | _ :: k => popTo id k
theorem Kont.exit (J : Job) {id : Nat} : ∀ {k k' : List It} {a : Act} {w : World}, popTo id k = some k' → Kont J k' .normal a w → Kont J k (.exit id) a w
  | [], _, _, _, h, _ => by simp [popTo] at h
  | .code _ :: k, _, _, _, h, h' => Kont.exit J (k := k) h h'
  | .ops .. :: k, _, _, _, h, h' => Kont.exit J (k := k) h h'
  | .again _ :: k, _, _, _, h, h' => Kont.exit J (k := k) h h'
  | .inBlock i :: k, k', a, w, h, h' => by
    simp only [popTo] at h
    show (if id = i then Kont J k .normal a w else Kont J k (.exit id) a w)
    by_cases e : id = i
    · rw [if_pos e]
      have : Nat.beq i id = true := by rw [e]; simp
      rw [this] at h
      simp at h
      rw [h]; exact h'
    · rw [if_neg e]
      have : Nat.beq i id = false := by
        cases e' : Nat.beq i id
        · rfl
        · exact absurd (Nat.eq_of_beq_eq_true e').symm e
      rw [this] at h
      exact Kont.exit J (k := k) h h'

theorem aw_seq {x y : Code} (h : AW J nx fr hp (.code x :: .code y :: k)) : AW J nx fr hp (.code (x.seq y) :: k) := fun a w s => wpIn_seq (h a w s)
theorem aw_of_ar (h : AR J nx fr hp) : AW J nx fr hp (.code .ret :: k) := fun a w s => wpIn_ret (Kont.ret J k (h a w s))
theorem aw_skip (h : AW J nx fr hp k) : AW J nx fr hp (.code .skip :: k) := fun a w s => wpIn_skip (h a w s)
theorem aw_block {id : Nat} {c : Code} (h : AW J nx fr hp (.code c :: .inBlock id :: k)) : AW J nx fr hp (.code (.block id c) :: k) := fun a w s => wpIn_block (h a w s)
theorem aw_inBlock {id : Nat} (h : AW J nx fr hp k) : AW J nx fr hp (.inBlock id :: k) := fun a w s => h a w s
theorem aw_exit {id : Nat} {k' : List It} (e : popTo id k = some k') (h : AW J nx fr hp k') : AW J nx fr hp (.code (.exit id) :: k) := fun a w s => wpIn_exit (Kont.exit J e (h a w s))
theorem aw_region {id : Nat} {l : List Oper} (h : AW J nx fr hp (.ops l.toArray l :: k)) : AW J nx fr hp (.code (.region id l.toArray false) :: k) := fun a w s => wpIn_region_lit (h a w s)
theorem aw_nil {ops : Array Oper} (h : AW J nx fr hp k) : AW J nx fr hp (.ops ops [] :: k) := fun a w s => h a w s

theorem aw_weaken {nx' : Nat} {fr' : Fr} {hp' : Hp} (h : AW J nx' fr' hp' k) (hk : Nat.ble (max J.kg J.bn) nx' = true) (hf : Fr.le fr' fr) (hh : Hp.le hp' hp) (bf : Fr.below_ nx' fr') (bh : Hp.below_ nx' hp') : AW J nx fr hp k :=
  fun a w ⟨ρ, s⟩ => h a w ⟨ρ, s.weaken hk hf hh bf bh⟩

theorem least {p : Nat → Prop} (h : ∃ n, p n) : ∃ n, p n ∧ ∀ m, p m → n ≤ m := by
  obtain ⟨n, hn⟩ := h
  induction n using Nat.strongRecOn with
  | _ n ih =>
    by_cases c : ∃ m, m < n ∧ p m
    · obtain ⟨m, hm, hp⟩ := c; exact ih m hm hp
    · exact ⟨n, hn, fun m hm => Nat.le_of_not_lt fun hlt => c ⟨m, hlt, hm⟩⟩

/-- A loop: 'I n': what holds at a round's head, by a number that each round lowers. -/
theorem aw_loop {c : Code} (I : Nat → Act → World → Prop) {n0 : Nat} (h0 : ∀ a w, Sim J nx fr hp a w → I n0 a w)
    (round : ∀ n a w, I n a w → Kont J (.code c :: .again (fun a w => ∃ m, m < n ∧ I m a w) :: k) .normal a w) : AW J nx fr hp (.code (.loop c) :: k) := by
  intro a w s
  classical
  let μ : Act → World → Nat := fun a w => if h : ∃ n, I n a w then (least h).choose else 0
  have hμ : ∀ n a w, I n a w → μ a w ≤ n ∧ I (μ a w) a w := fun n a w h => by
    have hex : ∃ n, I n a w := ⟨n, h⟩
    have e : μ a w = (least hex).choose := dif_pos hex
    rw [e]
    exact ⟨(least hex).choose_spec.2 n h, (least hex).choose_spec.1⟩
  refine wpIn_loop (fun a w => ∃ n, I n a w) μ ⟨n0, h0 a w s⟩ ?_
  intro a w ⟨n, hn⟩
  refine wpIn_mono (round _ a w (hμ n a w hn).2) ?_
  intro e a' w' hq
  cases e with
  | normal =>
    obtain ⟨m, hm, hI⟩ := hq
    exact ⟨⟨m, hI⟩, Nat.lt_of_le_of_lt (hμ m a' w' hI).1 hm⟩
  | _ => exact hq

end
end Go.Ab
