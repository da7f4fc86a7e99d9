/- Typed reading of Go values and memory: what a value of a Go type holds, and that it stays so while other blocks change. No program in sight. -/
import Derived.Test.YtmfgemnmelbflaaDrawn
import Derived.Deep.Draws
namespace Go.Ab
set_option linter.unusedVariables false
set_option linter.unusedSimpArgs false
open Go.RowKit

/-- All that was there stands, and no draw was taken back. -/
structure Below (B : Nat) (w w' : World) : Prop extends Go.RowKit.Below B w w' where
  drawn : w.drawn ≤ w'.drawn
theorem Below.refl (B : Nat) (w : World) : Below B w w := ⟨Go.RowKit.Below.refl B w, Nat.le_refl _⟩
theorem Below.alloc {B : Nat} {a w : World} (h : Below B a w) (hB : B ≤ w.heap.size) (o : Obj) : Below B a (w.alloc o) := ⟨h.toBelow.alloc hB o, h.drawn⟩
theorem Below.trans {B : Nat} {a b c : World} (h : Below B a b) (k : Below B b c) : Below B a c := ⟨h.toBelow.trans k.toBelow, Nat.le_trans h.drawn k.drawn⟩
theorem Below.mono {B B' : Nat} {w w' : World} (h : Below B w w') (hB : B' ≤ B) : Below B' w w' := ⟨h.toBelow.mono hB, h.drawn⟩

/-- From a world to a later one: blocks that are not ours stand; what may not be met is no more than it was. -/
structure Keeps (U N : Nat → Prop) (w : World) (U' N' : Nat → Prop) (w' : World) : Prop where
  sub : ∀ b, N b → U b
  size : w.heap.size ≤ w'.heap.size
  blk : ∀ b, b < w.heap.size → ¬ N b → w'.heap[b]? = w.heap[b]?
  up : ∀ b, b < w.heap.size → U' b → U b
  nn : ∀ b, b < w.heap.size → N' b → N b

theorem Keeps.refl {U N : Nat → Prop} {w : World} (h : ∀ b, N b → U b) : Keeps U N w U N w :=
  ⟨h, Nat.le_refl _, fun _ _ _ => rfl, fun _ _ h => h, fun _ _ h => h⟩

/-- A Go type, read as data of a Lean type: its cells. -/
structure GoT (α : Type) where
  size : Nat
  agg : Bool
  rel : (Nat → Prop) → (Nat → Prop) → World → α → List Value → Prop
  pos : 0 < size
  sc : agg = false → size = 1
  len : ∀ {U N w x cs}, rel U N w x cs → cs.length = size
  one : ∀ {U N w x cs}, rel U N w x cs → ∀ v ∈ cs, v.oneCell' = true
  mono : ∀ {U N U' N' : Nat → Prop} {w w' : World} {x cs}, Keeps U N w U' N' w' → rel U N w x cs → rel U' N' w' x cs

/-- What is read hangs on U alone. -/
class Strict {α : Type} (T : GoT α) : Prop where
  out : ∀ {U N N' w x cs}, T.rel U N w x cs → T.rel U N' w x cs

def GoT.val {α : Type} (T : GoT α) (U N : Nat → Prop) (w : World) (x : α) (v : Value) : Prop :=
  ∃ cs, T.rel U N w x cs ∧ ((T.agg = true ∧ v = .agg cs.toArray) ∨ (T.agg = false ∧ cs = [v]))

def GoT.at_ {α : Type} (T : GoT α) (U N : Nat → Prop) (w : World) (a : Addr) (x : α) : Prop :=
  ∃ cs, T.rel U N w x cs ∧ ∀ j v, cs[j]? = some v → w.cell? (a.add j) = some v

section
variable {α β γ : Type}
theorem block_of_add (a : Addr) (n : Nat) : (a.add n).block = a.block := by unfold Addr.add; split <;> rfl
theorem add_of_add (a : Addr) (i j : Nat) : (a.add i).add j = a.add (i + j) := by
  unfold Addr.add
  by_cases hi : i = 0 <;> by_cases hj : j = 0 <;> simp [hi, hj, Nat.add_assoc]
theorem add_zero (a : Addr) : a.add 0 = a := rfl
theorem cell_lt {w : World} {a : Addr} {v : Value} (h : w.cell? a = some v) : a.block < w.heap.size := block_lt_of_cell h

theorem GoT.val_cells {T : GoT α} {U N w x v} (h : T.val U N w x v) : T.rel U N w x v.cells.toList := by
  obtain ⟨cs, hr, h | h⟩ := h
  · rw [h.2]; simpa [Value.cells] using hr
  · have hv := T.one hr v (by rw [h.2]; simp)
    have : v.cells = #[v] := by cases v <;> simp_all [Value.cells, Value.oneCell']
    rw [this]; rw [h.2] at hr; exact hr

theorem GoT.val_mono {T : GoT α} {U N U' N' : Nat → Prop} {w w' : World} {x v} (k : Keeps U N w U' N' w') (h : T.val U N w x v) : T.val U' N' w' x v :=
  let ⟨cs, hr, h⟩ := h; ⟨cs, T.mono k hr, h⟩

theorem GoT.at_mono {T : GoT α} {U N U' N' : Nat → Prop} {w w' : World} {a x} (k : Keeps U N w U' N' w') (ha : ¬ N a.block) (h : T.at_ U N w a x) : T.at_ U' N' w' a x := by
  obtain ⟨cs, hr, h⟩ := h
  refine ⟨cs, T.mono k hr, fun j v hj => ?_⟩
  have := h j v hj
  rw [World.cell?_of_block (w := w)]
  · exact this
  · rw [block_of_add]
    exact k.blk _ (by have := cell_lt this; rwa [block_of_add] at this) ha

theorem GoT.val_strict {T : GoT α} [Strict T] {U N N' w x v} (h : T.val U N w x v) : T.val U N' w x v :=
  let ⟨cs, hr, h⟩ := h; ⟨cs, Strict.out hr, h⟩
theorem GoT.at_strict {T : GoT α} [Strict T] {U N N' w a x} (h : T.at_ U N w a x) : T.at_ U N' w a x :=
  let ⟨cs, hr, h⟩ := h; ⟨cs, Strict.out hr, h⟩

/-! ## Scalars -/
/-- One cell whose value goes by the datum alone. -/
def scT (f : α → Value) (ok : α → Prop) (h1 : ∀ x, (f x).oneCell' = true) : GoT α where
  size := 1
  agg := false
  rel _ _ _ x cs := cs = [f x] ∧ ok x
  pos := by decide
  sc _ := rfl
  len h := by rw [h.1]; rfl
  one h v hv := by obtain ⟨rfl, _⟩ := h; simp at hv; rw [hv]; exact h1 _
  mono _ h := h
theorem scT_strict (f : α → Value) (ok : α → Prop) (h1 : ∀ x, (f x).oneCell' = true) : Strict (scT f ok h1) := ⟨fun h => h⟩

def IntKind.InR (k : IntKind) (n : Int) : Prop := k.min ≤ n ∧ n ≤ k.max
def intT (k : IntKind) : GoT Int := scT (fun n => .int k n) (fun n => IntKind.InR k n) (fun _ => rfl)
def boolT : GoT Bool := scT (fun b => .bool b) (fun _ => True) (fun _ => rfl)
def u8T : GoT UInt8 := scT (fun n => .int .u8 n.toNat) (fun _ => True) (fun _ => rfl)
def u32T : GoT UInt32 := scT (fun n => .int .u32 n.toNat) (fun _ => True) (fun _ => rfl)
def u64T : GoT UInt64 := scT (fun n => .int .u64 n.toNat) (fun _ => True) (fun _ => rfl)
def fnT : GoT Nat := scT (fun f => .func (.func f) #[] #[]) (fun _ => True) (fun _ => rfl)
instance (k : IntKind) : Strict (intT k) := scT_strict _ _ _
instance : Strict boolT := scT_strict _ _ _
instance : Strict u8T := scT_strict _ _ _
instance : Strict u32T := scT_strict _ _ _
instance : Strict u64T := scT_strict _ _ _
instance : Strict fnT := scT_strict _ _ _
abbrev i64T : GoT Int := intT .i64

/-! ## Pairs, and structs through them -/
def pairT (A : GoT α) (B : GoT β) : GoT (α × β) where
  size := A.size + B.size
  agg := true
  rel U N w x cs := ∃ c1 c2, cs = c1 ++ c2 ∧ A.rel U N w x.1 c1 ∧ B.rel U N w x.2 c2
  pos := by have := A.pos; omega
  sc h := by cases h
  len h := by obtain ⟨c1, c2, rfl, h1, h2⟩ := h; rw [List.length_append, A.len h1, B.len h2]
  one h v hv := by
    obtain ⟨c1, c2, rfl, h1, h2⟩ := h
    rcases List.mem_append.1 hv with hv | hv
    · exact A.one h1 v hv
    · exact B.one h2 v hv
  mono k h := by obtain ⟨c1, c2, e, h1, h2⟩ := h; exact ⟨c1, c2, e, A.mono k h1, B.mono k h2⟩
instance (A : GoT α) (B : GoT β) [Strict A] [Strict B] : Strict (pairT A B) :=
  ⟨fun h => by obtain ⟨c1, c2, e, h1, h2⟩ := h; exact ⟨c1, c2, e, Strict.out h1, Strict.out h2⟩⟩

/-- The same cells, read as another Lean type. -/
def viaT (A : GoT α) (g : β → α) : GoT β where
  size := A.size
  agg := true
  rel U N w x cs := A.rel U N w (g x) cs
  pos := A.pos
  sc h := by cases h
  len h := A.len h
  one h := A.one h
  mono k h := A.mono k h
instance (A : GoT α) (g : β → α) [Strict A] : Strict (viaT A g) := ⟨fun h => Strict.out (T := A) h⟩

/-- A part of a value: where it lies, what it is, what comes of writing it. -/
structure Lens (T : GoT α) (off : Nat) (S : GoT β) (get : α → β) (set : α → β → α) : Prop where
  fit : off + S.size ≤ T.size
  get_ : ∀ {U N w x cs}, T.rel U N w x cs → S.rel U N w (get x) ((cs.drop off).take S.size)
  set_ : ∀ {U N w x cs y ds}, T.rel U N w x cs → S.rel U N w y ds → T.rel U N w (set x y) (cs.take off ++ ds ++ cs.drop (off + S.size))

theorem Lens.self (T : GoT α) : Lens T 0 T (fun x => x) (fun _ y => y) where
  fit := by omega
  get_ h := by simpa [← T.len h] using h
  set_ h k := by simpa [← T.len h] using k

theorem Lens.fst (A : GoT α) (B : GoT β) : Lens (pairT A B) 0 A (fun x => x.1) (fun x y => (y, x.2)) where
  fit := by simp [pairT]
  get_ h := by obtain ⟨c1, c2, rfl, h1, h2⟩ := h; simpa [← A.len h1] using h1
  set_ h k := by
    obtain ⟨c1, c2, rfl, h1, h2⟩ := h
    exact ⟨_, c2, by simp [← A.len h1], k, h2⟩

theorem Lens.snd (A : GoT α) (B : GoT β) : Lens (pairT A B) A.size B (fun x => x.2) (fun x y => (x.1, y)) where
  fit := by simp [pairT]
  get_ h := by obtain ⟨c1, c2, rfl, h1, h2⟩ := h; simpa [← A.len h1, ← B.len h2] using h2
  set_ h k := by
    obtain ⟨c1, c2, rfl, h1, h2⟩ := h
    refine ⟨c1, _, ?_, h1, k⟩
    simp [← A.len h1, ← B.len h2]

theorem Lens.via {A : GoT α} {o : Nat} {S : GoT γ} {get : α → γ} {set : α → γ → α} (L : Lens A o S get set) (g : β → α) (f : α → β) (hgf : ∀ x, g (f x) = x) :
    Lens (viaT A g) o S (fun x => get (g x)) (fun x y => f (set (g x) y)) where
  fit := L.fit
  get_ h := L.get_ h
  set_ h k := by show A.rel _ _ _ _ _; rw [hgf]; exact L.set_ h k

theorem Lens.comp {T : GoT α} {S : GoT β} {R : GoT γ} {o1 o2 : Nat} {get1 : α → β} {set1 : α → β → α} {get2 : β → γ} {set2 : β → γ → β} (L : Lens T o1 S get1 set1) (M : Lens S o2 R get2 set2) :
    Lens T (o1 + o2) R (fun x => get2 (get1 x)) (fun x y => set1 x (set2 (get1 x) y)) where
  fit := by have := L.fit; have := M.fit; omega
  get_ h := by
    have h1 := M.get_ (L.get_ h)
    have hf := M.fit
    rw [List.drop_take, List.take_take, List.drop_drop, Nat.min_eq_left (by omega)] at h1
    exact h1
  set_ {U N w x cs y ds} h k := by
    have h1 := M.set_ (L.get_ h) k
    have h2 := L.set_ h h1
    have hl := T.len h
    have hd := R.len k
    have f1 := L.fit
    have f2 := M.fit
    have e : cs.take o1 ++ (((cs.drop o1).take S.size).take o2 ++ ds ++ ((cs.drop o1).take S.size).drop (o2 + R.size)) ++ cs.drop (o1 + S.size) = cs.take (o1 + o2) ++ ds ++ cs.drop (o1 + o2 + R.size) := by
      apply List.ext_getElem?
      intro i
      simp only [List.getElem?_append, List.getElem?_take, List.getElem?_drop, List.length_append, List.length_take, List.length_drop, hl, hd]
      rw [Nat.min_eq_left (by omega : o1 ≤ T.size), Nat.min_eq_left (by omega : S.size ≤ T.size - o1), Nat.min_eq_left (by omega : o2 ≤ S.size), Nat.min_eq_left (by omega : o1 + o2 ≤ T.size)]
      by_cases c1 : i < o1
      · rw [if_pos (by omega), if_pos (by omega), if_pos (by omega), if_pos (by omega), if_pos (by omega), if_pos (by omega)]
      · by_cases c2 : i < o1 + o2
        · rw [if_pos (by omega), if_neg (by omega), if_pos (by omega), if_pos (by omega), if_pos (by omega), if_pos (by omega), if_pos (by omega), if_pos (by omega), if_pos (by omega)]
          congr 1; omega
        · by_cases c3 : i < o1 + o2 + R.size
          · rw [if_pos (by omega), if_neg (by omega), if_pos (by omega), if_neg (by omega), if_pos (by omega), if_neg (by omega)]
            congr 1; omega
          · by_cases c4 : i < o1 + S.size
            · rw [if_pos (by omega), if_neg (by omega), if_neg (by omega), if_pos (by omega), if_neg (by omega)]
              congr 1; omega
            · rw [if_neg (by omega), if_neg (by omega)]
              congr 1; omega
    rw [e] at h2
    exact h2

theorem Lens.cast {T : GoT α} {S : GoT β} {o o' : Nat} {get get' : α → β} {set set' : α → β → α} (L : Lens T o S get set) (ho : o = o') (hg : ∀ x, get x = get' x) (hs : ∀ x y, set x y = set' x y) : Lens T o' S get' set' := by
  obtain rfl : get = get' := funext hg
  obtain rfl : set = set' := funext fun x => funext fun y => hs x y
  exact ho ▸ L

/-! ## Arrays -/
/-- The cells of a list of values, one behind the other. -/
def relAll (T : GoT α) (U N : Nat → Prop) (w : World) : List α → List Value → Prop
  | [], cs => cs = []
  | x :: l, cs => ∃ c1 c2, cs = c1 ++ c2 ∧ T.rel U N w x c1 ∧ relAll T U N w l c2

theorem relAll.len {T : GoT α} {U N w} : ∀ {l : List α} {cs}, relAll T U N w l cs → cs.length = l.length * T.size
  | [], cs, h => by simp [show cs = [] from h]
  | x :: l, cs, h => by
    obtain ⟨c1, c2, rfl, h1, h2⟩ := h
    rw [List.length_append, T.len h1, h2.len, List.length_cons, Nat.add_mul]; omega
theorem relAll.one {T : GoT α} {U N w} : ∀ {l : List α} {cs}, relAll T U N w l cs → ∀ v ∈ cs, v.oneCell' = true
  | [], cs, h, v, hv => by rw [show cs = [] from h] at hv; simp at hv
  | x :: l, cs, h, v, hv => by
    obtain ⟨c1, c2, rfl, h1, h2⟩ := h
    rcases List.mem_append.1 hv with hv | hv
    · exact T.one h1 v hv
    · exact h2.one v hv
theorem relAll.mono {T : GoT α} {U N U' N' : Nat → Prop} {w w' : World} (k : Keeps U N w U' N' w') : ∀ {l : List α} {cs}, relAll T U N w l cs → relAll T U' N' w' l cs
  | [], _, h => h
  | _ :: _, _, ⟨c1, c2, e, h1, h2⟩ => ⟨c1, c2, e, T.mono k h1, h2.mono k⟩
theorem relAll.strict {T : GoT α} [Strict T] {U N N' w} : ∀ {l : List α} {cs}, relAll T U N w l cs → relAll T U N' w l cs
  | [], _, h => h
  | _ :: _, _, ⟨c1, c2, e, h1, h2⟩ => ⟨c1, c2, e, Strict.out h1, h2.strict⟩
theorem relAll.append {T : GoT α} {U N w} : ∀ {l m : List α} {cs ds}, relAll T U N w l cs → relAll T U N w m ds → relAll T U N w (l ++ m) (cs ++ ds)
  | [], m, cs, ds, h, k => by rw [show cs = [] from h]; exact k
  | x :: l, m, cs, ds, ⟨c1, c2, e, h1, h2⟩, k => ⟨c1, c2 ++ ds, by rw [e, List.append_assoc], h1, h2.append k⟩
theorem relAll.get {T : GoT α} {U N w} : ∀ {l : List α} {cs} {i : Nat} (_ : relAll T U N w l cs) {x : α}, l[i]? = some x → T.rel U N w x ((cs.drop (i * T.size)).take T.size)
  | [], _, _, _, _, hi => by simp at hi
  | y :: l, cs, 0, h, x, hi => by
    obtain ⟨c1, c2, rfl, h1, h2⟩ := h
    simp at hi
    subst hi
    simpa [← T.len h1] using h1
  | y :: l, cs, i + 1, h, x, hi => by
    obtain ⟨c1, c2, rfl, h1, h2⟩ := h
    have := h2.get (i := i) (by simpa using hi)
    have e : (c1 ++ c2).drop ((i + 1) * T.size) = c2.drop (i * T.size) := by
      rw [Nat.add_mul, Nat.one_mul, Nat.add_comm, ← T.len h1, ← List.drop_drop]
      simp
    rw [e]; exact this
theorem relAll.set {T : GoT α} {U N w} : ∀ {l : List α} {cs} {i : Nat} (_ : relAll T U N w l cs) {y : α} {ds}, i < l.length → T.rel U N w y ds →
    relAll T U N w (l.set i y) (cs.take (i * T.size) ++ ds ++ cs.drop ((i + 1) * T.size))
  | [], _, _, _, _, _, hi, _ => by simp at hi
  | x :: l, cs, 0, h, y, ds, _, k => by
    obtain ⟨c1, c2, rfl, h1, h2⟩ := h
    refine ⟨ds, c2, ?_, k, h2⟩
    simp [← T.len h1]
  | x :: l, cs, i + 1, h, y, ds, hi, k => by
    obtain ⟨c1, c2, rfl, h1, h2⟩ := h
    have := h2.set (i := i) (by simpa using hi) k
    refine ⟨c1, _, ?_, h1, this⟩
    have e1 : (c1 ++ c2).take ((i + 1) * T.size) = c1 ++ c2.take (i * T.size) := by
      rw [Nat.add_mul, Nat.one_mul, Nat.add_comm, ← T.len h1, List.take_length_add_append]
    have e2 : (c1 ++ c2).drop ((i + 1 + 1) * T.size) = c2.drop ((i + 1) * T.size) := by
      rw [Nat.add_mul (i + 1), Nat.one_mul, Nat.add_comm ((i + 1) * T.size), ← T.len h1, List.drop_length_add_append]
    rw [e1, e2, List.append_assoc, List.append_assoc, List.append_assoc]
theorem relAll.take {T : GoT α} {U N w} : ∀ {l : List α} {cs} (i : Nat), relAll T U N w l cs → relAll T U N w (l.take i) (cs.take (i * T.size))
  | [], cs, i, h => by rw [show cs = [] from h]; simp [relAll]
  | x :: l, cs, 0, _ => by simp [relAll]
  | x :: l, cs, i + 1, h => by
    obtain ⟨c1, c2, rfl, h1, h2⟩ := h
    refine ⟨c1, c2.take (i * T.size), ?_, h1, h2.take i⟩
    rw [Nat.add_mul, Nat.one_mul, Nat.add_comm, ← T.len h1, List.take_length_add_append]
theorem relAll.drop {T : GoT α} {U N w} : ∀ {l : List α} {cs} (i : Nat), relAll T U N w l cs → relAll T U N w (l.drop i) (cs.drop (i * T.size))
  | [], cs, i, h => by rw [show cs = [] from h]; simp [relAll]
  | x :: l, cs, 0, h => by simpa using h
  | x :: l, cs, i + 1, h => by
    obtain ⟨c1, c2, rfl, h1, h2⟩ := h
    have e : (c1 ++ c2).drop ((i + 1) * T.size) = c2.drop (i * T.size) := by
      rw [Nat.add_mul, Nat.one_mul, Nat.add_comm, ← T.len h1, List.drop_length_add_append]
    rw [e, List.drop_succ_cons]
    exact h2.drop i

def arrT (n : Nat) (hn : 0 < n) (T : GoT α) : GoT (List α) where
  size := n * T.size
  agg := true
  rel U N w l cs := l.length = n ∧ relAll T U N w l cs
  pos := Nat.mul_pos hn T.pos
  sc h := by cases h
  len h := by rw [h.2.len, h.1]
  one h := h.2.one
  mono k h := ⟨h.1, h.2.mono k⟩
instance (n : Nat) (hn : 0 < n) (T : GoT α) [Strict T] : Strict (arrT n hn T) := ⟨fun h => ⟨h.1, h.2.strict⟩⟩

/-- A sum of bytes. -/
abbrev Id := List UInt8
def idT : GoT Id := arrT 32 (by decide) u8T
instance : Strict idT := inferInstanceAs (Strict (arrT ..))

/-! ## Slices -/
def slT (b : Bool) (T : GoT α) : GoT (List α) where
  size := 1
  agg := false
  rel U N w l cs := ∃ a cap, cs = [.slice a l.length cap] ∧ l.length ≤ cap ∧ cap ≤ maxLen ∧
    (l ≠ [] → ∃ ad ds, a = some ad ∧ ¬ (if b then N else U) ad.block ∧ relAll T U N w l ds ∧ ∀ j v, ds[j]? = some v → w.cell? (ad.add j) = some v)
  pos := by decide
  sc _ := rfl
  len h := by obtain ⟨_, _, rfl, _⟩ := h; rfl
  one h v hv := by obtain ⟨_, _, rfl, _⟩ := h; simp at hv; rw [hv]; rfl
  mono {U N U' N' w w' x cs} k h := by
    obtain ⟨a, cap, e, h1, h2, h3⟩ := h
    refine ⟨a, cap, e, h1, h2, fun hl => ?_⟩
    obtain ⟨ad, ds, rfl, hu, hr, hc⟩ := h3 hl
    have hN : ¬ N ad.block := by
      cases b
      · exact fun hn => hu (k.sub _ hn)
      · exact hu
    have hlt : ad.block < w.heap.size := by
      have hpos : 0 < ds.length := by
        rw [hr.len]; exact Nat.mul_pos (List.length_pos_iff.2 hl) T.pos
      have := cell_lt (hc 0 _ (List.getElem?_eq_getElem hpos))
      rwa [block_of_add] at this
    refine ⟨ad, ds, rfl, ?_, hr.mono k, fun j v hj => ?_⟩
    · cases b
      · exact fun hn => hu (k.up _ hlt hn)
      · exact fun hn => hu (k.nn _ hlt hn)
    · have := hc j v hj
      rw [World.cell?_of_block (w := w)]
      · exact this
      · rw [block_of_add]; exact k.blk _ hlt hN
/-- A slice that is read, and may be handed on. -/
abbrev sl (T : GoT α) : GoT (List α) := slT false T
/-- A slice that is read, but is not handed on. -/
abbrev bsl (T : GoT α) : GoT (List α) := slT true T
instance (T : GoT α) [Strict T] : Strict (slT false T) := ⟨fun h => by
  obtain ⟨a, cap, e, h1, h2, h3⟩ := h
  refine ⟨a, cap, e, h1, h2, fun hl => ?_⟩
  obtain ⟨ad, ds, rfl, hu, hr, hc⟩ := h3 hl
  exact ⟨ad, ds, rfl, hu, hr.strict, hc⟩⟩

/-- A reading that is as good for another type. -/
def Sub (T S : GoT α) : Prop := ∀ {U N w x v}, (∀ b, N b → U b) → T.val U N w x v → S.val U N w x v
theorem Sub.refl (T : GoT α) : Sub T T := fun _ h => h
theorem sub_bsl (T : GoT α) : Sub (sl T) (bsl T) := fun hN h => by
  obtain ⟨cs, ⟨a, cap, e, h1, h2, h3⟩, h⟩ := h
  refine ⟨cs, ⟨a, cap, e, h1, h2, fun hl => ?_⟩, h⟩
  obtain ⟨ad, ds, rfl, hu, hr⟩ := h3 hl
  exact ⟨ad, ds, rfl, fun hn => hu (hN _ hn), hr⟩

end
end Go.Ab
