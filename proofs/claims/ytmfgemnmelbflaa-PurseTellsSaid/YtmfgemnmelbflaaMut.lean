/- Calls to which one piece of memory is granted: it is written, or handed on as what is returned. -/
import Derived.Test.YtmfgemnmelbflaaExt
import Derived.Test.YtmfgemnmelbflaaDraw2
namespace Go.Ab
set_option linter.unusedVariables false
set_option linter.unusedSimpArgs false
open Go.RowKit

/-- The granted block. -/
def gN (p : Value) (b : Nat) : Prop := blkOf p = some b
def gU (ext : Nat → Prop) (p : Value) (b : Nat) : Prop := ext b ∨ gN p b
/-- What is met from outside behind the call: the granted block, if it was given back. -/
def bU (ext : Nat → Prop) (p : Value) (h' : HE) (b : Nat) : Prop := ext b ∨ (h'.live ∧ gN p b)
def bF (w0 : World) (p : Value) (h' : HE) (b : Nat) : Prop := w0.heap.size ≤ b ∨ (gN p b ∧ ¬ h'.live)

def PostM (ext : Nat → Prop) (p : Value) (w0 : World) (res : AV) (h' : HE) : Ending → World → Prop
  | .returned v, w => BelowX (gN p) w0 w ∧ h'.rel ρ0 (bF w0 p h') (bU ext p h') (bU ext p h') w p ∧ res.rel ρ0 (bF w0 p h') (bU ext p h') (bU ext p h') w v
  | .outgrown, _ => False
  | _, _ => False

def ArgsRelM (ext : Nat → Prop) (p : Value) (w : World) : List AV → List Value → Prop
  | [], [] => True
  | A :: As, v :: vs => A.rel (fun _ => p) noN (gU ext p) (gN p) w v ∧ ArgsRelM ext p w As vs
  | _, _ => False

/-- What a function answers that is granted one piece of memory, 'h'; 'h'': what that is behind it ('none_': it is gone). -/
def TellsM (P : Program) (f : FuncId) (h : HE) (args : List AV) (res : AV) (h' : HE) : Prop :=
  ∀ (ext : Nat → Prop) (p : Value) (w : World) (vs : List Value), (∀ b, ext b → b < w.heap.size) → (∀ b, gN p b → b < w.heap.size ∧ ¬ ext b) → h.rel (fun _ => p) noN (gU ext p) (gN p) w p → ArgsRelM ext p w args vs → Calls P f vs.toArray w (PostM ext p w res h')

section
variable {J : Job} {nx : Nat} {ρ : Nat → Value} {fr : Fr} {hp : Hp} {a : Act} {w w' : World} {k : List It} {ops : Array Oper} {rest : List Oper} {o : Oper}
variable {α β γ : Type} {T : GoT α} {S : GoT β} {get : α → β} {set : α → β → α}

theorem ArgsRelM.spec {ext : Nat → Prop} {p : Value} : ∀ {As : List AV} {vs : List Value}, ArgsRelM ext p w As vs → As.length = vs.length ∧ ∀ (j : Nat) (A : AV) (v : Value), As[j]? = some A → vs[j]? = some v → A.rel (fun _ => p) noN (gU ext p) (gN p) w v
  | [], [], _ => ⟨rfl, fun j A v h => by simp at h⟩
  | A :: As, v :: vs, h => by
    obtain ⟨h1, h2⟩ := ArgsRelM.spec h.2
    refine ⟨by simp [h1], fun j B u hb hu => ?_⟩
    cases j with
    | zero => simp at hb hu; subst hb; subst hu; exact h.1
    | succ j => exact h2 j B u (by simpa using hb) (by simpa using hu)
  | [], _ :: _, h => h.elim
  | _ :: _, [], h => h.elim

def Job.ofM (P : Program) (fn : Func) (res : AV) (h' : HE) (ext : Nat → Prop) (p : Value) (w : World) (h : ∀ b, ext b → b < w.heap.size) (hg : ∀ b, gN p b → b < w.heap.size ∧ ¬ ext b) : Job :=
  { P, fn, w0 := w, ext, gr := gN p, kg := 1, ρg := fun _ => p, dj := fun b h1 h2 => (hg b h2).2 h1, nt := fn.ntmps, R := PostM ext p w res h', rd := none, ds := [], bg := [], bn := 0, bgb := fun p hp => (nomatch hp), post := bodyPostM Fence.wide 0 P fn (PostM ext p w res h'), nrm := fun _ _ _ h => h, fin := fun _ _ _ _ h1 h2 _ h3 => bodyM_fin h1 h2 h3, mark := fun _ _ _ _ _ h1 h2 h3 => bodyM_mark h1 h2 h3, lt := h }

def AllU (nx : Nat) : List AV → Prop
  | [] => True
  | A :: As => A.under nx ∧ AllU nx As
theorem AllU.mem : ∀ {As : List AV}, AllU nx As → ∀ A ∈ As, A.under nx
  | A :: As, h, B, hB => by
    rcases List.mem_cons.1 hB with e | e
    · rw [e]; exact h.1
    · exact AllU.mem h.2 B e

theorem fnm_of_aw {P : Program} {f : FuncId} {fn : Func} {c : Code} {As : List AV} {res : AV} {h h' : HE} (hl : h.live) (hf : P.funcs[f]? = some fn) (hb : fn.body = some c) (hn : Nat.ble As.length fn.ntmps = true) (hu : AllU 1 As)
    (H : ∀ (ext : Nat → Prop) (p : Value) (w : World) (h1 : ∀ b, ext b → b < w.heap.size) (hg : ∀ b, gN p b → b < w.heap.size ∧ ¬ ext b), AW (Job.ofM P fn res h' ext p w h1 hg) 1 (Fr.args 0 As Fr.none) (Hp.none.set 0 h) [.code c]) (hu0 : h.under 0 := by exact trivial) : TellsM P f h As res h' := by
  intro ext p w vs hext hg hrel ha
  obtain ⟨hlen, hargs⟩ := ha.spec
  have hn : As.length ≤ fn.ntmps := by simpa using hn
  refine calls_of_wpM hf hb ?_
  have hset : ∀ n, (Hp.none.set 0 h) n = if n = 0 then h else .none_ := fun n => hp_set_eq _ _ _ _
  have hN : ∀ b, Nn (fun _ => p) (Hp.none.set 0 h) b ↔ gN p b := fun b => by
    constructor
    · rintro ⟨n, _, e⟩; exact e
    · intro e; exact ⟨0, by rw [hset, if_pos rfl]; exact hl, e⟩
  have hNe : Nn (fun _ => p) (Hp.none.set 0 h) = gN p := funext fun b => propext (hN b)
  have hU : Uu (Job.ofM P fn res h' ext p w hext hg) (fun _ => p) (Hp.none.set 0 h) = gU ext p := funext fun b => propext ⟨fun h => h.imp id (hN b).1, fun h => h.imp id (hN b).2⟩
  have hfr := args_frame (P := fun _ A v => A.rel (fun _ => p) (Job.ofM P fn res h' ext p w hext hg).B (gU ext p) (gN p) w v ∧ A.under 1) (fun _ _ => ⟨trivial, trivial⟩) (i := 0) (f := Fr.none) (g := fun _ => undef) hlen
    (fun j A v h1 h2 _ => by
      have hu' := hu.mem A (List.mem_of_getElem? h1)
      exact ⟨AV.rel_B hu' (hargs j A v h1 h2), hu'⟩) (fun t => ⟨trivial, trivial⟩) (fun _ _ => rfl)
  refine H ext p w hext hg _ w ⟨fun _ => p, { kle := Nat.le_refl _, ble := Nat.zero_le _, brel := fun q hq => (nomatch hq), named := fun _ _ => rfl, below := BelowX.refl _ _, hrel := fun n => ?_, hun := fun n => ?_, hnx := fun n hn => ?_, new := fun n b hl' e => ⟨.inr e, (hg b e).1⟩, inj := fun n m b hn hm _ _ => ?_, size := ?_, defers := rfl, frel := fun t => ?_, fnx := fun t => (hfr t).2 }⟩
  · rw [hU, hNe, hset]
    by_cases c : n = 0
    · rw [if_pos c]; exact HE.rel_B hu0 hrel
    · rw [if_neg c]; trivial
  · show ((Hp.none.set 0 h) n).under 1
    rw [hset]
    by_cases c : n = 0
    · rw [if_pos c]; exact HE.under_mono (Nat.zero_le 1) hu0
    · rw [if_neg c]; trivial
  · rw [hset, if_neg (by omega)]
  · rw [hset] at hn hm
    have : n = 0 := Classical.byContradiction fun c => by rw [if_neg c] at hn; exact hn
    have : m = 0 := Classical.byContradiction fun c => by rw [if_neg c] at hm; exact hm
    omega
  · show (vs.toArray ++ _).size = fn.ntmps
    simp; omega
  · have e : (vs.toArray ++ Array.replicate (fn.ntmps - vs.toArray.size) undef).getD t undef = (vs[t]?).getD undef := by
      rw [Array.getD_eq_getD_getElem?, Array.getElem?_append]
      by_cases c : t < vs.toArray.size
      · rw [if_pos c]; simp
      · rw [if_neg c]
        have hv : vs[t]? = none := by simpa using c
        rw [hv, Array.getElem?_replicate]
        split <;> rfl
    rw [e, hU, hNe]
    have h1 := (hfr t).1
    rw [if_neg (Nat.not_lt_zero t), Nat.sub_zero] at h1
    exact h1

/-! ## The end -/
/-- What is given back. -/
def GiveOk (hp : Hp) (h' : HE) : Prop := ((h'.live → (hp 0).live) ∧ ∀ {ρ B U N w p}, (hp 0).rel ρ B U N w p → h'.rel ρ B U U w p) ∧ h'.under 0
theorem give_none : GiveOk hp .none_ := ⟨⟨fun h => h.elim, fun _ => trivial⟩, trivial⟩
theorem give_box [Strict T] {ty : TypeId} {x y : α} (h : hp 0 = .box ty T x) (e : x = y) : GiveOk hp (.box ty T y) := by
  subst e
  refine ⟨⟨fun _ => by rw [h]; trivial, fun {ρ B U N w p} hr => ?_⟩, trivial⟩
  rw [h] at hr
  obtain ⟨g, cs, h1, h2, h3⟩ := hr
  exact ⟨g, cs, h1, h2, Strict.out h3⟩
theorem give_row [Strict T] {e : TypeId} {x y : List α} (h : hp 0 = .row e T x) (he : x = y) : GiveOk hp (.row e T y) := by
  subst he
  refine ⟨⟨fun _ => by rw [h]; trivial, fun {ρ B U N w p} hr => ?_⟩, trivial⟩
  rw [h] at hr
  obtain ⟨xs, h1, h2⟩ := hr
  exact ⟨xs, h1, h2.strict⟩

def RetOkM (J : Job) (hp : Hp) (h' : HE) (X A : AV) : Prop := ∀ nx ρ w v p, J.kg = 1 → J.ρg = (fun _ => p) → J.gr = gN p → SimH J nx ρ hp w → X.rel ρ J.B (Uu J ρ hp) (Nn ρ hp) w v → A.rel ρ0 (bF J.w0 p h') (bU J.ext p h') (bU J.ext p h') w v

theorem bU_sub {h' : HE} {p : Value} (hk : J.kg = 1) (hρ : J.ρg = fun _ => p) (hg : h'.live → (hp 0).live) (s : SimH J nx ρ hp w) : ∀ b, bU J.ext p h' b → Uu J ρ hp b := fun b h => h.imp id fun h => ⟨0, hg h.1, by
  have := s.named 0 (by omega)
  rw [this, hρ]; exact h.2⟩
theorem keeps_retM {h' : HE} {p : Value} (hk : J.kg = 1) (hρ : J.ρg = fun _ => p) (hg : h'.live → (hp 0).live) (s : SimH J nx ρ hp w) : Keeps (Uu J ρ hp) (Uu J ρ hp) w (bU J.ext p h') (bU J.ext p h') w :=
  ⟨fun _ h => h, Nat.le_refl _, fun _ _ _ => rfl, fun b _ h => bU_sub hk hρ hg s b h, fun b _ h => bU_sub hk hρ hg s b h⟩
theorem retm_val [Strict T] {X : AV} {x : α} {h' : HE} (hg : GiveOk hp h') (h : X = .val T x) : RetOkM J hp h' X (.val T x) := fun _ _ _ _ _ hk hρ _ s hx => by
  subst h; exact GoT.val_mono (keeps_retM hk hρ hg.1.1 s) (GoT.val_strict hx)
theorem retm_eq [Strict T] {X : AV} {x y : α} {h' : HE} (hg : GiveOk hp h') (h : X = .val T x) (e : x = y) : RetOkM J hp h' X (.val T y) := e ▸ retm_val hg h
theorem retm_lit {X : AV} {v : Value} {h' : HE} (h : X = .lit v) : RetOkM J hp h' X (.lit v) := fun _ _ _ _ _ _ _ _ s hx => by
  subst h; exact hx
theorem retm_fresh [Strict T] {X : AV} {n e : Nat} {l l' : List α} {h' : HE} (hg : GiveOk hp h') (hn0 : h'.live → n ≠ 0) (h : X = .own n) (hn : hp n = .row e T l) (hl : l = l') : RetOkM J hp h' X (.fresh e T l') := fun nx ρ w v p hk hρ hgr s hx => by
  subst h; subst hl
  have hh := s.hrel n
  rw [hn] at hh
  obtain ⟨xs, ho, hr⟩ := hh
  have hx : _ = _ := hx
  rw [hx]
  have hlive : (hp n).live := by rw [hn]; trivial
  refine ⟨xs, ho, fun b hb => ?_, (hr.strict (N' := Uu J ρ hp)).mono ⟨fun _ h => h, Nat.le_refl _, fun _ _ _ => rfl, fun b _ h => h.elim (bU_sub hk hρ hg.1.1 s b) (fun h => .inr ⟨n, hlive, h⟩), fun b _ h => h.elim (bU_sub hk hρ hg.1.1 s b) (fun h => .inr ⟨n, hlive, h⟩)⟩⟩
  have := s.new n b hlive hb
  refine ⟨this.1.imp id fun h => ?_, this.2⟩
  rw [hgr] at h
  refine ⟨h, fun hl => hn0 hl (s.inj n 0 b hlive (hg.1.1 hl) hb ?_)⟩
  have := s.named 0 (by omega)
  rw [this, hρ]; exact h
theorem retm_fresh_nil {X : AV} {e : Nat} {h' : HE} (h : X = .lit (.slice none 0 0)) : RetOkM J hp h' X (.fresh e T []) := fun _ _ _ _ _ _ _ _ s hx => by
  subst h
  have hx : _ = _ := hx
  rw [hx]
  exact ⟨[], ⟨by simp, .inl ⟨rfl, rfl⟩⟩, fun b hb => by simp [blkOf] at hb, rfl⟩

theorem post_below {h' : HE} {p : Value} (hk : J.kg = 1) (hρ : J.ρg = fun _ => p) (hgr : J.gr = gN p) (hg : GiveOk hp h') (s : SimH J nx ρ hp w) : BelowX (gN p) J.w0 w ∧ h'.rel ρ0 (bF J.w0 p h') (bU J.ext p h') (bU J.ext p h') w p := by
  refine ⟨hgr ▸ s.below, ?_⟩
  have h0 := s.hrel 0
  have e : ρ 0 = p := by rw [s.named 0 (by omega), hρ]
  rw [e] at h0
  exact HE.rel_B hg.2 (HE.rel_ren (ρ := ρ) (nx := 0) (fun n hn => by omega) hg.2 (HE.rel_mono (keeps_retM hk hρ hg.1.1 s) hg.2 (fun _ _ _ => rfl) (hg.1.2 h0)))
theorem ar_retm0 {p : Value} {h' : HE} (hk : J.kg = 1) (hρ : J.ρg = fun _ => p) (hgr : J.gr = gN p) (hR : J.R = PostM J.ext p J.w0 (.lit (.tuple #[])) h') (hfn : J.fn.results = #[]) (hg : GiveOk hp h') (hds : J.ds = [] ∧ J.rd = none := by exact ⟨rfl, rfl⟩) : AR J nx fr hp := by
  intro a w ⟨ρ, s⟩
  refine J.fin hds.2 _ _ _ (s.defers.trans hds.1) (results_none hfn _ _ _) s.below ?_
  rw [hR]
  obtain ⟨h1, h2⟩ := post_below hk hρ hgr hg s.toSimH
  exact ⟨h1, h2, rfl⟩
theorem aw_retm0 {p : Value} {h' : HE} (hk : J.kg = 1) (hρ : J.ρg = fun _ => p) (hgr : J.gr = gN p) (hR : J.R = PostM J.ext p J.w0 (.lit (.tuple #[])) h') (hfn : J.fn.results = #[]) (hg : GiveOk hp h') (hds : J.ds = [] ∧ J.rd = none := by exact ⟨rfl, rfl⟩) : AW J nx fr hp (.code .ret :: k) := aw_of_ar (ar_retm0 hk hρ hgr hR hfn hg hds)
/-- The end of the text. -/
theorem aw_fallm0 {p : Value} {h' : HE} (hk : J.kg = 1) (hρ : J.ρg = fun _ => p) (hgr : J.gr = gN p) (hR : J.R = PostM J.ext p J.w0 (.lit (.tuple #[])) h') (hfn : J.fn.results = #[]) (hg : GiveOk hp h') (hds : J.ds = [] ∧ J.rd = none := by exact ⟨rfl, rfl⟩) : AW J nx fr hp [] := by
  intro a w ⟨ρ, s⟩
  refine J.nrm hds.2 _ _ (J.fin hds.2 _ _ _ (s.defers.trans hds.1) (results_none hfn _ _ _) s.below ?_)
  rw [hR]
  obtain ⟨h1, h2⟩ := post_below hk hρ hgr hg s.toSimH
  exact ⟨h1, h2, rfl⟩
theorem ar_retm1 {p : Value} {h' : HE} {t : Tmp} {A : AV} (hk : J.kg = 1) (hρ : J.ρg = fun _ => p) (hgr : J.gr = gN p) (hR : J.R = PostM J.ext p J.w0 A h') (hfn : J.fn.results = #[.tmp t]) (hg : GiveOk hp h') (h : RetOkM J hp h' (fr t) A) (hds : J.ds = [] ∧ J.rd = none := by exact ⟨rfl, rfl⟩) : AR J nx fr hp := by
  intro a w ⟨ρ, s⟩
  refine J.fin hds.2 _ _ _ (s.defers.trans hds.1) (results_tmp hfn _ _ _) s.below ?_
  rw [hR]
  obtain ⟨h1, h2⟩ := post_below hk hρ hgr hg s.toSimH
  exact ⟨h1, h2, h _ _ _ _ p hk hρ hgr s.toSimH (s.frel t)⟩
theorem aw_retm1 {p : Value} {h' : HE} {t : Tmp} {A : AV} (hk : J.kg = 1) (hρ : J.ρg = fun _ => p) (hgr : J.gr = gN p) (hR : J.R = PostM J.ext p J.w0 A h') (hfn : J.fn.results = #[.tmp t]) (hg : GiveOk hp h') (h : RetOkM J hp h' (fr t) A) (hds : J.ds = [] ∧ J.rd = none := by exact ⟨rfl, rfl⟩) : AW J nx fr hp (.code .ret :: k) := aw_of_ar (ar_retm1 hk hρ hgr hR hfn hg h hds)
theorem ar_retm2 {p : Value} {h' : HE} {t u : Tmp} {A B : AV} (hk : J.kg = 1) (hρ : J.ρg = fun _ => p) (hgr : J.gr = gN p) (hR : J.R = PostM J.ext p J.w0 (.tup2 A B) h') (hfn : J.fn.results = #[.tmp t, .tmp u]) (hg : GiveOk hp h') (h : RetOkM J hp h' (fr t) A) (g : RetOkM J hp h' (fr u) B) (hds : J.ds = [] ∧ J.rd = none := by exact ⟨rfl, rfl⟩) : AR J nx fr hp := by
  intro a w ⟨ρ, s⟩
  refine J.fin hds.2 _ _ _ (s.defers.trans hds.1) (results_tmp2 hfn _ _ _) s.below ?_
  rw [hR]
  obtain ⟨h1, h2⟩ := post_below hk hρ hgr hg s.toSimH
  exact ⟨h1, h2, _, _, rfl, h _ _ _ _ p hk hρ hgr s.toSimH (s.frel t), g _ _ _ _ p hk hρ hgr s.toSimH (s.frel u)⟩

theorem aw_retm2 {p : Value} {h' : HE} {t u : Tmp} {A B : AV} (hk : J.kg = 1) (hρ : J.ρg = fun _ => p) (hgr : J.gr = gN p) (hR : J.R = PostM J.ext p J.w0 (.tup2 A B) h') (hfn : J.fn.results = #[.tmp t, .tmp u]) (hg : GiveOk hp h') (h : RetOkM J hp h' (fr t) A) (g : RetOkM J hp h' (fr u) B) (hds : J.ds = [] ∧ J.rd = none := by exact ⟨rfl, rfl⟩) : AW J nx fr hp (.code .ret :: k) := aw_of_ar (ar_retm2 hk hρ hgr hR hfn hg h g hds)
/-! ## The caller -/
/-- To a later world, in which pieces of the call's own were written. -/
theorem SimR.to (h : SimR J nx ρ fr hp a w) {ρ' : Nat → Value} {hp' : Hp} {nx' : Nat} (hle : nx ≤ nx') (hρ : ∀ n, n < nx → ρ' n = ρ n) (hX : BelowX (Nn ρ hp) w w') (hN : ∀ b, b < w.heap.size → Nn ρ' hp' b → Nn ρ hp b)
    (hrel : Keeps (Uu J ρ hp) (Nn ρ hp) w (Uu J ρ' hp') (Nn ρ' hp') w' → ∀ n, (hp' n).rel ρ' J.B (Uu J ρ' hp') (Nn ρ' hp') w' (ρ' n)) (hun : ∀ n, (hp' n).under nx') (hnx : ∀ n, nx' ≤ n → hp' n = .none_) (new : ∀ n b, (hp' n).live → blkOf (ρ' n) = some b → (J.w0.heap.size ≤ b ∨ J.gr b) ∧ b < w'.heap.size)
    (inj : ∀ n m b, (hp' n).live → (hp' m).live → blkOf (ρ' n) = some b → blkOf (ρ' m) = some b → n = m) : SimR J nx' ρ' fr hp' a w' := by
  have kp : Keeps (Uu J ρ hp) (Nn ρ hp) w (Uu J ρ' hp') (Nn ρ' hp') w' := ⟨h.sub, hX.size, fun b hlt hn => hX.block b hlt hn, fun b hlt hu => hu.imp id (hN b hlt), hN⟩
  exact
  { kle := Nat.le_trans h.kle hle
    ble := Nat.le_trans h.ble hle
    named := fun n hn => (hρ n (Nat.lt_of_lt_of_le hn h.kle)).trans (h.named n hn)
    below := ⟨hX.os.trans h.below.os, hX.tape.trans h.below.tape, hX.output.trans h.below.output, Nat.le_trans h.below.size hX.size, fun b hlt hgr =>
      (hX.block b (Nat.lt_of_lt_of_le hlt h.below.size) (fun ⟨n, hl, e⟩ => (h.new n b hl e).1.elim (fun h1 => absurd hlt (by omega)) hgr)).trans (h.below.block b hlt hgr), Nat.le_trans h.below.drawn hX.drawn⟩
    hun := hun
    hrel := hrel kp
    hnx := hnx
    new := new
    inj := inj
    size := h.size
    defers := h.defers
    frel := fun t => AV.rel_ren hρ (h.fnx t) (AV.rel_mono kp (h.fnx t) (h.frel t))
    fnx := fun t => AV.under_mono hle (h.fnx t)
    brel := fun q hq t => AV.rel_ren hρ (AV.under_mono h.ble (J.bgb q hq t)) (AV.rel_mono kp (J.bgb q hq t) (h.brel q hq t)) }

/-- What is handed on beside what is granted. -/
def ArgOkM (J : Job) (hp : Hp) (n : Nat) (X A : AV) : Prop := ∀ nx ρ w v, SimH J nx ρ hp w → (hp n).live → X.rel ρ J.B (Uu J ρ hp) (Nn ρ hp) w v → A.rel (fun _ => ρ n) noN (Uu J ρ hp) (gN (ρ n)) w v
def ArgsOkM (J : Job) (fr : Fr) (hp : Hp) (n : Nat) : List Operand → List AV → Prop
  | [], [] => True
  | x :: xs, A :: As => ArgOkM J hp n (fr.ev x) A ∧ ArgsOkM J fr hp n xs As
  | _, _ => False
theorem keeps_argM (s : SimH J nx ρ hp w) {n : Nat} (hl : (hp n).live) : Keeps (Uu J ρ hp) (Nn ρ hp) w (Uu J ρ hp) (gN (ρ n)) w := ⟨s.sub, Nat.le_refl _, fun _ _ _ => rfl, fun _ _ h => h, fun _ _ h => ⟨n, hl, h⟩⟩
theorem argm_val {n : Nat} {X : AV} {T S : GoT α} {x : α} (h : X = .val T x) (hs : Sub T S) : ArgOkM J hp n X (.val S x) := fun _ _ _ _ s hl hx => by
  subst h
  exact hs (fun b h => .inr ⟨n, hl, h⟩) (GoT.val_mono (keeps_argM s hl) hx)
theorem argm_same {n : Nat} {X : AV} {T : GoT α} {x : α} (h : X = .val T x) : ArgOkM J hp n X (.val T x) := argm_val h (Sub.refl T)
theorem argm_bsl {n : Nat} {X : AV} {T : GoT α} {x : List α} (h : X = .val (sl T) x) : ArgOkM J hp n X (.val (bsl T) x) := argm_val h (sub_bsl T)
theorem argm_lit {n : Nat} {X : AV} {v : Value} (h : X = .lit v) : ArgOkM J hp n X (.lit v) := fun _ _ _ _ s _ hx => by
  subst h; exact hx
theorem argm_own {n : Nat} {X : AV} (h : X = .own n) : ArgOkM J hp n X (.own 0) := fun _ _ _ _ s _ hx => by
  subst h; exact hx
theorem argm_ptr {n off : Nat} {X : AV} (h : X = .ptr n off) : ArgOkM J hp n X (.ptr 0 off) := fun _ _ _ _ s _ hx => by
  subst h; exact hx
theorem argm_clo {n : Nat} {X : AV} {f : FuncId} (h : X = .clo f []) : ArgOkM J hp n X (.clo f []) := fun _ _ _ _ s _ hx => by
  subst h; exact hx
/-- Another piece of the call's own, read. -/
theorem argm_row {n m : Nat} {X : AV} {e : Nat} {l : List α} (h : X = .own m) (hm : hp m = .row e T l) (hne : m ≠ n) : ArgOkM J hp n X (.val (bsl T) l) := fun _ ρ _ _ s hl hx => by
  subst h
  have hh := s.hrel m
  rw [hm] at hh
  obtain ⟨xs, ho, hr⟩ := hh
  have hx : _ = _ := hx
  rw [hx]
  exact slice_own (b := true) ho rfl (hr.mono (keeps_argM s hl)) (fun g hg hg' => hne (s.inj m n g (by rw [hm]; trivial) hl hg hg'))

theorem argsm_rel {s : SimH J nx ρ hp w} {a : Act} {n : Nat} (hl : (hp n).live) : ∀ {xs : List Operand} {As : List AV}, (∀ y ∈ xs, (fr.ev y).rel ρ J.B (Uu J ρ hp) (Nn ρ hp) w (a.eval y)) → ArgsOkM J fr hp n xs As →
    ∀ {ext : Nat → Prop}, gU ext (ρ n) = Uu J ρ hp → ArgsRelM ext (ρ n) w As (xs.map a.eval)
  | [], [], _, _, _, _ => trivial
  | x :: xs, A :: As, hr, h, _, e => ⟨by rw [e]; exact h.1 _ _ _ _ s hl (hr x (by simp)), argsm_rel (s := s) hl (fun y hy => hr y (by simp [hy])) h.2 e⟩
  | [], _ :: _, _, h, _, _ => h.elim
  | _ :: _, [], _, h, _, _ => h.elim

/-- Behind a call that gave the piece back. -/
theorem SimR.given (h : SimR J nx ρ fr hp a w) {n : Nat} {h' : HE} (hl : (hp n).live) (hl' : h'.live) (hX : BelowX (gN (ρ n)) w w') (hr : h'.rel ρ J.B (Uu J ρ hp) (Uu J ρ hp) w' (ρ n)) (hu' : h'.under nx) : SimR J nx ρ fr (hp.set n h') a w' := by
  have hlive : ∀ m, ((hp.set n h') m).live → (hp m).live := fun m hm => by
    rw [hp_set_eq] at hm
    by_cases c : m = n
    · rw [c]; exact hl
    · rw [if_neg c] at hm; exact hm
  have hlive' : ∀ m, (hp m).live → ((hp.set n h') m).live := fun m hm => by
    rw [hp_set_eq]
    by_cases c : m = n
    · rw [if_pos c]; exact hl'
    · rw [if_neg c]; exact hm
  have hN : ∀ b, Nn ρ (hp.set n h') b ↔ Nn ρ hp b := fun b => ⟨fun ⟨m, h1, h2⟩ => ⟨m, hlive m h1, h2⟩, fun ⟨m, h1, h2⟩ => ⟨m, hlive' m h1, h2⟩⟩
  have hNe : Nn ρ (hp.set n h') = Nn ρ hp := funext fun b => propext (hN b)
  have hUe : Uu J ρ (hp.set n h') = Uu J ρ hp := funext fun b => by unfold Uu; rw [hNe]
  have hlt : n < nx := Nat.lt_of_not_le fun hle => by
    rw [h.hnx n hle] at hl; exact hl
  refine h.to (Nat.le_refl _) (fun _ _ => rfl) ⟨hX.os, hX.tape, hX.output, hX.size, fun b hlt hb => hX.block b hlt (fun hg => hb ⟨n, hl, hg⟩), hX.drawn⟩ (fun b _ => (hN b).1) (fun kp m => ?_) (fun m => ?_) (fun m hm => ?_) (fun m b hm e => ?_) (fun m1 m2 b l1 l2 => h.inj m1 m2 b (hlive m1 l1) (hlive m2 l2))
  · rw [hp_set_eq]
    by_cases c : m = n
    · rw [if_pos c, c, hUe, hNe]
      exact HE.rel_mono ⟨fun _ h => h, Nat.le_refl _, fun _ _ _ => rfl, fun _ _ h => h, fun b _ hb => .inr hb⟩ hu' (fun _ _ _ => rfl) hr
    · rw [if_neg c]
      exact HE.rel_mono kp (h.hun m) (fun hl2 g hg => hX.block g (h.new m g hl2 hg).2 (fun e => c (h.inj m n g hl2 hl hg e))) (h.hrel m)
  · rw [hp_set_eq]
    by_cases c : m = n
    · rw [if_pos c]; exact hu'
    · rw [if_neg c]; exact h.hun m
  · rw [hp_set_eq, if_neg (by omega)]; exact h.hnx m hm
  · have := h.new m b (hlive m hm) e
    exact ⟨this.1, Nat.lt_of_lt_of_le this.2 hX.size⟩

theorem grant_ext (h : SimH J nx ρ hp w) {n : Nat} (hl : (hp n).live) : gU (fun b => Uu J ρ hp b ∧ ¬ gN (ρ n) b) (ρ n) = Uu J ρ hp := funext fun b => propext ⟨fun h1 => h1.elim (fun h => h.1) (fun h => .inr ⟨n, hl, h⟩), fun h1 => by
  by_cases c : gN (ρ n) b
  · exact .inr c
  · exact .inl ⟨h1, c⟩⟩

theorem run_grant {f : FuncId} {fn : Func} {n : Nat} {xs : Array Operand} {ts : Array TypeId} {As : List AV} {X : AV} {h0 h' : HE} (hc : TellsM J.P f h0 As X h') (hf : fnB J.P f = true) (hn : hp n = h0) (hl : h0.live) (ha : ArgsOkM J fr hp n xs.toList As) (s : SimR J nx ρ fr hp a w) (hu0 : h0.under 0) :
    Calls J.P f (xs.map a.eval) w (PostM (fun b => Uu J ρ hp b ∧ ¬ gN (ρ n) b) (ρ n) w X h') := by
  have hlive : (hp n).live := by rw [hn]; exact hl
  have e := grant_ext s.toSimH hlive
  have hargs := argsm_rel (s := s.toSimH) (a := a) hlive (fun y hy => ev_rel s y) ha e
  have := hc (fun b => Uu J ρ hp b ∧ ¬ gN (ρ n) b) (ρ n) w _ (fun b hb => s.uu_lt hb.1) (fun b hb => ⟨(s.new n b hlive hb).2, fun h => h.2 hb⟩) (by
    rw [e]
    have h1 := s.hrel n
    rw [hn] at h1
    exact HE.rel_B hu0 (HE.rel_ren (ρ := ρ) (nx := 0) (fun n hn => by omega) hu0 (HE.rel_mono (keeps_argM s.toSimH hlive) hu0 (fun _ _ _ => rfl) h1))) hargs
  have eq : (xs.toList.map a.eval).toArray = xs.map a.eval := by apply Array.ext'; simp
  rw [eq] at this
  exact this

/-- A call that writes a piece of the caller's own, and gives it back. -/
theorem aw_callu {f : FuncId} {n : Nat} {xs : Array Operand} {ts : Array TypeId} {As : List AV} {X : AV} {h0 h' : HE} {d : Nat} (hc : TellsM J.P f h0 As X h') (ho : o.op = .call { callee := .value (.func f), args := xs, argTypes := ts }) (hf : fnB J.P f = true) (hn : hp n = h0) (hl : h0.live) (hl' : h'.live) (hX : X.under0 = true)
    (ha : ArgsOkM J fr hp n xs.toList As) (hd : o.dst = some d) (hg : o.guard = none) (hlt : Nat.blt d J.nt = true) (H : AW J nx (fr.set d X) (hp.set n h') (.ops ops rest :: k)) (hu0 : h0.under 0 := by exact trivial) (hu1 : h'.under 0 := by exact trivial) : AW J nx fr hp (.ops ops (o :: rest) :: k) := by
  intro a w ⟨ρ, s⟩
  refine wpl_plain hg (by intro c hc; rw [ho] at hc; cases hc) fun K hK => ?_
  obtain ⟨fn, h1, h2, h3⟩ := fnB_spec hf
  unfold Oper.wp
  rw [run_call ho h1 h2 h3, Oper.upon_enter]
  have hlive : (hp n).live := by rw [hn]; exact hl
  have e := grant_ext s.toSimH hlive
  refine Calls.mono (run_grant (fn := fn) (ts := ts) hc hf hn hl ha s hu0) fun en w' he => ?_
  have hbU : bU (fun b => Uu J ρ hp b ∧ ¬ gN (ρ n) b) (ρ n) h' = Uu J ρ hp := by
    refine Eq.trans ?_ e; funext b; unfold bU gU; exact propext ⟨fun h => h.imp id (fun h => h.2), fun h => h.imp id (fun h => ⟨hl', h⟩)⟩
  cases en with
  | returned v =>
    obtain ⟨hb, hr, hv⟩ := he
    rw [hbU] at hr hv
    rw [hd]
    have s' := s.given hlive hl' hb (HE.rel_B hu1 (HE.rel_ren (ρ := ρ0) (nx := 0) (fun n hn => by omega) hu1 hr)) (HE.under_mono (Nat.zero_le _) hu1)
    have hu := AV.under0_spec hX
    refine hK _ _ (H _ _ ⟨ρ, s'.put (by simpa using hlt) ?_ (AV.under_mono (Nat.zero_le _) hu)⟩)
    have hle : ∀ b, Uu J ρ (hp.set n h') b → Uu J ρ hp b := fun b hb => hb.imp id fun ⟨m, h1, h2⟩ => by
      rw [hp_set_eq] at h1
      by_cases c : m = n
      · exact ⟨n, hlive, by rw [← c]; exact h2⟩
      · rw [if_neg c] at h1; exact ⟨m, h1, h2⟩
    exact AV.rel_mono (nx := 0) ⟨fun _ h => h, Nat.le_refl _, fun _ _ _ => rfl, fun b _ h => hle b h, fun b _ h => hle b (.inr h)⟩ hu (AV.rel_ren (ρ := ρ0) (ρ' := ρ) (fun n hn => by omega) hu (AV.rel_B (B' := J.B) hu hv))
  | panicked c => exact he.elim
  | outgrown => exact he.elim

/-- Behind a call that took the piece, and answered with a slice of its own. -/
theorem SimR.taken (h : SimR J nx ρ fr hp a w) {n e : Nat} {v : Value} {l : List α} (hl : (hp n).live) (hX : BelowX (gN (ρ n)) w w') (hf : ∀ b, blkOf v = some b → (w.heap.size ≤ b ∨ gN (ρ n) b) ∧ b < w'.heap.size)
    {xs : List Value} (ho : w'.ownsRow 0 e T.size v l.length xs) (hr : relAll T (fun b => (Uu J ρ hp b ∧ ¬ gN (ρ n) b) ∨ blkOf v = some b) (fun b => (Uu J ρ hp b ∧ ¬ gN (ρ n) b) ∨ blkOf v = some b) w' l xs) :
    SimR J (nx + 1) (ren ρ nx v) fr ((hp.set n .none_).set nx (.row e T l)) a w' := by
  have hlt : n < nx := Nat.lt_of_not_le fun hle => by
    rw [h.hnx n hle] at hl; exact hl
  have hren : ∀ m, m ≠ nx → ren ρ nx v m = ρ m := fun m hm => by unfold ren; rw [if_neg hm]
  have hrenx : ren ρ nx v nx = v := by unfold ren; rw [if_pos rfl]
  have hold : ∀ m, m ≠ nx → (((hp.set n .none_).set nx (.row e T l)) m).live → (hp m).live ∧ m ≠ n := fun m hm hl => by
    rw [hp_set_eq, if_neg hm, hp_set_eq] at hl
    by_cases c : m = n
    · rw [if_pos c] at hl; exact hl.elim
    · rw [if_neg c] at hl; exact ⟨hl, c⟩
  have hN : ∀ b, Nn (ren ρ nx v) ((hp.set n .none_).set nx (.row e T l)) b → (Nn ρ hp b ∧ ¬ gN (ρ n) b) ∨ blkOf v = some b := fun b ⟨m, hm, hb⟩ => by
    by_cases c : m = nx
    · rw [c, hrenx] at hb; exact .inr hb
    · rw [hren m c] at hb
      obtain ⟨h1, h2⟩ := hold m c hm
      exact .inl ⟨⟨m, h1, hb⟩, fun hg => h2 (h.inj m n b h1 hl hb hg)⟩
  refine h.to (Nat.le_succ _) (fun m hm => hren m (by omega)) ⟨hX.os, hX.tape, hX.output, hX.size, fun b hlt hb => hX.block b hlt (fun hg => hb ⟨n, hl, hg⟩), hX.drawn⟩ (fun b hlt hb => (hN b hb).elim (fun h => h.1) (fun hb => (hf b hb).1.elim (fun h => by omega) (fun h => ⟨n, hl, h⟩))) (fun kp m => ?_) (fun m => ?_) (fun m hm => ?_) (fun m b hm hb => ?_) (fun m1 m2 b l1 l2 e1 e2 => ?_)
  · by_cases c : m = nx
    · rw [c, hp_set_eq, if_pos rfl, hrenx]
      have kN : ∀ b, Nn (ren ρ nx v) ((hp.set n .none_).set nx (.row e T l)) b → (Uu J ρ hp b ∧ ¬ gN (ρ n) b) ∨ blkOf v = some b := fun b h1 => (hN b h1).imp (fun h => ⟨.inr h.1, h.2⟩) id
      have kU : ∀ b, Uu J (ren ρ nx v) ((hp.set n .none_).set nx (.row e T l)) b → (Uu J ρ hp b ∧ ¬ gN (ρ n) b) ∨ blkOf v = some b := fun b hb => hb.elim (fun h1 => .inl ⟨.inl h1, fun hg => by
        have h3 := (h.new n b hl hg).1
        rcases h3 with h3 | h3
        · have := J.lt b h1; omega
        · exact J.dj b h1 h3⟩) (kN b)
      exact ⟨xs, ho, hr.mono ⟨fun _ h => h, Nat.le_refl _, fun _ _ _ => rfl, fun b _ hb => kU b hb, fun b _ hb => kN b hb⟩⟩
    · rw [hp_set_eq, if_neg c, hren m c, hp_set_eq]
      by_cases c' : m = n
      · rw [if_pos c']; trivial
      · rw [if_neg c']
        exact HE.rel_ren (nx := nx) (fun i hi => hren i (by omega)) (h.hun m) (HE.rel_mono kp (h.hun m) (fun hl2 g hg => hX.block g (h.new m g hl2 hg).2 (fun e => c' (h.inj m n g hl2 hl hg e))) (h.hrel m))
  · rw [hp_set_eq]
    by_cases c : m = nx
    · rw [if_pos c]; trivial
    · rw [if_neg c, hp_set_eq]
      by_cases c' : m = n
      · rw [if_pos c']; trivial
      · rw [if_neg c']; exact HE.under_mono (Nat.le_succ nx) (h.hun m)
  · rw [hp_set_eq, if_neg (by omega), hp_set_eq, if_neg (by omega)]; exact h.hnx m (by omega)
  · by_cases c : m = nx
    · rw [c, hrenx] at hb
      obtain ⟨h1, h2⟩ := hf b hb
      exact ⟨h1.elim (fun h1 => .inl (Nat.le_trans h.below.size h1)) (fun h1 => (h.new n b hl h1).1), h2⟩
    · rw [hren m c] at hb
      have := h.new m b (hold m c hm).1 hb
      exact ⟨this.1, Nat.lt_of_lt_of_le this.2 hX.size⟩
  · by_cases c1 : m1 = nx <;> by_cases c2 : m2 = nx
    · rw [c1, c2]
    · rw [c1, hrenx] at e1; rw [hren m2 c2] at e2
      obtain ⟨g1, g2⟩ := hold m2 c2 l2
      rcases (hf b e1).1 with h1 | h1
      · have := (h.new m2 b g1 e2).2; omega
      · exact absurd (h.inj m2 n b g1 hl e2 h1) g2
    · rw [c2, hrenx] at e2; rw [hren m1 c1] at e1
      obtain ⟨g1, g2⟩ := hold m1 c1 l1
      rcases (hf b e2).1 with h1 | h1
      · have := (h.new m1 b g1 e1).2; omega
      · exact absurd (h.inj m1 n b g1 hl e1 h1) g2
    · rw [hren m1 c1] at e1; rw [hren m2 c2] at e2
      exact h.inj m1 m2 b (hold m1 c1 l1).1 (hold m2 c2 l2).1 e1 e2

theorem bU_none {n : Nat} : bU (fun b => Uu J ρ hp b ∧ ¬ gN (ρ n) b) (ρ n) .none_ = fun b => Uu J ρ hp b ∧ ¬ gN (ρ n) b := by
  funext b; unfold bU; exact propext ⟨fun h => h.elim id (fun h => h.1.elim), .inl⟩

/-- What hangs on no memory. -/
def Flat (X : AV) : Prop := X.under0 = true ∧ ∀ ρ F U N w ρ' F' U' N' w' v, X.rel ρ F U N w v → X.rel ρ' F' U' N' w' v
theorem flat_int {k : IntKind} {x : Int} : Flat (.val (intT k) x) := ⟨rfl, fun _ _ _ _ _ _ _ _ _ _ _ h => val_int.2 (val_int.1 h)⟩
theorem flat_bool {x : Bool} : Flat (.val boolT x) := ⟨rfl, fun _ _ _ _ _ _ _ _ _ _ _ h => val_bool.2 (val_bool.1 h)⟩

theorem aw_callc {f : FuncId} {n : Nat} {xs : Array Operand} {ts : Array TypeId} {As : List AV} {h0 : HE} {d e : Nat} {l : List α} (hc : TellsM J.P f h0 As (.fresh e T l) .none_) (ho : o.op = .call { callee := .value (.func f), args := xs, argTypes := ts }) (hf : fnB J.P f = true) (hn : hp n = h0) (hl : h0.live)
    (ha : ArgsOkM J fr hp n xs.toList As) (hd : o.dst = some d) (hg : o.guard = none) (hlt : Nat.blt d J.nt = true) (H : AW J (nx + 1) (fr.set d (.own nx)) ((hp.set n .none_).set nx (.row e T l)) (.ops ops rest :: k)) (hu0 : h0.under 0 := by exact trivial) : AW J nx fr hp (.ops ops (o :: rest) :: k) := by
  intro a w ⟨ρ, s⟩
  refine wpl_plain hg (by intro c hc; rw [ho] at hc; cases hc) fun K hK => ?_
  obtain ⟨fn, h1, h2, h3⟩ := fnB_spec hf
  unfold Oper.wp
  rw [run_call ho h1 h2 h3, Oper.upon_enter]
  have hlive : (hp n).live := by rw [hn]; exact hl
  refine Calls.mono (run_grant (fn := fn) (ts := ts) hc hf hn hl ha s hu0) fun en w' he => ?_
  cases en with
  | returned v =>
    obtain ⟨hb, _, xs, hown, hfr, hr⟩ := he
    rw [bU_none] at hr
    rw [hd]
    exact hK _ _ (H _ _ ⟨_, (s.taken hlive hb (fun b h => ⟨(hfr b h).1.imp id (fun h => h.1), (hfr b h).2⟩) hown hr).put (by simpa using hlt) (by show _ = _; unfold ren; simp) (Nat.lt_succ_self nx)⟩)
  | panicked c => exact he.elim
  | outgrown => exact he.elim

/-- The same, of two that are answered. -/
theorem aw_callc2 {f : FuncId} {n : Nat} {xs : Array Operand} {ts : Array TypeId} {As : List AV} {h0 : HE} {d e : Nat} {l : List α} {X : AV} (hc : TellsM J.P f h0 As (.tup2 (.fresh e T l) X) .none_) (ho : o.op = .call { callee := .value (.func f), args := xs, argTypes := ts }) (hf : fnB J.P f = true) (hn : hp n = h0) (hl : h0.live) (hX : Flat X)
    (ha : ArgsOkM J fr hp n xs.toList As) (hd : o.dst = some d) (hg : o.guard = none) (hlt : Nat.blt d J.nt = true) (H : AW J (nx + 1) (fr.set d (.tup2 (.own nx) X)) ((hp.set n .none_).set nx (.row e T l)) (.ops ops rest :: k)) (hu0 : h0.under 0 := by exact trivial) : AW J nx fr hp (.ops ops (o :: rest) :: k) := by
  intro a w ⟨ρ, s⟩
  refine wpl_plain hg (by intro c hc; rw [ho] at hc; cases hc) fun K hK => ?_
  obtain ⟨fn, h1, h2, h3⟩ := fnB_spec hf
  unfold Oper.wp
  rw [run_call ho h1 h2 h3, Oper.upon_enter]
  have hlive : (hp n).live := by rw [hn]; exact hl
  refine Calls.mono (run_grant (fn := fn) (ts := ts) hc hf hn hl ha s hu0) fun en w' he => ?_
  have hu := AV.under0_spec hX.1
  cases en with
  | returned v =>
    obtain ⟨hb, _, x, y, rfl, ⟨xs, hown, hfr, hr⟩, hy⟩ := he
    rw [bU_none] at hr hy
    rw [hd]
    have s' := s.taken hlive hb (fun b h => ⟨(hfr b h).1.imp id (fun h => h.1), (hfr b h).2⟩) hown hr
    refine hK _ _ (H _ _ ⟨_, s'.put (by simpa using hlt) ⟨x, y, rfl, (by show _ = _; unfold ren; simp), hX.2 _ _ _ _ _ _ _ _ _ _ _ hy⟩ ⟨Nat.lt_succ_self nx, AV.under_mono (Nat.zero_le _) hu⟩⟩)
  | panicked c => exact he.elim
  | outgrown => exact he.elim

theorem bind_fresh (s : SimR J nx ρ fr hp a w) {v : Value} {e : Nat} {l : List α} (hb : Below w.heap.size w w') (he : (AV.fresh e T l).rel ρ0 (fun b => w.heap.size ≤ b) (Uu J ρ hp) (Uu J ρ hp) w' v) : SimR J (nx + 1) (ren ρ nx v) fr (hp.set nx (.row e T l)) a w' := by
  obtain ⟨cs, hown, hfr, hr⟩ := he
  refine s.bind (p := v) (x := .row e T l) hb hfr fun kp => ⟨cs, hown, ?_⟩
  have hNn : ∀ b, Nn (ren ρ nx v) (hp.set nx (.row e T l)) b → Nn ρ hp b ∨ blkOf v = some b := fun b ⟨m, hl, e⟩ => by
    rw [hp_set_eq] at hl
    unfold ren at e
    by_cases c : m = nx
    · rw [if_pos c] at e; exact .inr e
    · rw [if_neg c] at hl e; exact .inl ⟨m, hl, e⟩
  exact hr.mono ⟨fun _ h => h, Nat.le_refl _, fun _ _ _ => rfl, fun b _ hu => hu.elim (fun h => .inl (.inl h)) (fun h => (hNn b h).imp .inr id), fun b _ h => (hNn b h).imp .inr id⟩
theorem aw_callf2 {f : FuncId} {xs : Array Operand} {ts : Array TypeId} {As : List AV} {d e : Nat} {l : List α} {X : AV} (hc : Tells J.P f As (.tup2 (.fresh e T l) X)) (ho : o.op = .call { callee := .value (.func f), args := xs, argTypes := ts }) (hf : fnB J.P f = true) (ha : ArgsOk J fr hp xs.toList As) (hX : Flat X)
    (hd : o.dst = some d) (hg : o.guard = none) (hlt : Nat.blt d J.nt = true) (H : AW J (nx + 1) (fr.set d (.tup2 (.own nx) X)) (hp.set nx (.row e T l)) (.ops ops rest :: k)) : AW J nx fr hp (.ops ops (o :: rest) :: k) := by
  intro a w ⟨ρ, s⟩
  refine wpl_plain hg (by intro c hc; rw [ho] at hc; cases hc) fun K hK => ?_
  obtain ⟨fn, h1, h2, h3⟩ := fnB_spec hf
  unfold Oper.wp
  rw [run_call ho h1 h2 h3, Oper.upon_enter]
  have hargs := args_rel (s := s.toSimH) (a := a) (fun y hy => ev_rel s y) ha
  have eq : (xs.toList.map a.eval).toArray = xs.map a.eval := by apply Array.ext'; simp
  have := hc (Uu J ρ hp) w _ (fun b hb => s.uu_lt hb) hargs
  rw [eq] at this
  refine Calls.mono this fun en w' he => ?_
  cases en with
  | returned v =>
    obtain ⟨hb, x, y, rfl, hx, hy⟩ := he
    rw [hd]
    exact hK _ _ (H _ _ ⟨_, (bind_fresh s hb hx).put (by simpa using hlt) ⟨x, y, rfl, (by show _ = _; unfold ren; simp), hX.2 _ _ _ _ _ _ _ _ _ _ _ hy⟩ ⟨Nat.lt_succ_self nx, AV.under_mono (Nat.zero_le _) (AV.under0_spec hX.1)⟩⟩)
  | panicked c => exact he.elim
  | outgrown => exact he.elim
theorem aw_callf3 {f : FuncId} {xs : Array Operand} {ts : Array TypeId} {As : List AV} {d e : Nat} {l : List α} {X Y : AV} (hc : Tells J.P f As (.tup3 (.fresh e T l) X Y)) (ho : o.op = .call { callee := .value (.func f), args := xs, argTypes := ts }) (hf : fnB J.P f = true) (ha : ArgsOk J fr hp xs.toList As) (hX : Flat X) (hY : Flat Y)
    (hd : o.dst = some d) (hg : o.guard = none) (hlt : Nat.blt d J.nt = true) (H : AW J (nx + 1) (fr.set d (.tup3 (.own nx) X Y)) (hp.set nx (.row e T l)) (.ops ops rest :: k)) : AW J nx fr hp (.ops ops (o :: rest) :: k) := by
  intro a w ⟨ρ, s⟩
  refine wpl_plain hg (by intro c hc; rw [ho] at hc; cases hc) fun K hK => ?_
  obtain ⟨fn, h1, h2, h3⟩ := fnB_spec hf
  unfold Oper.wp
  rw [run_call ho h1 h2 h3, Oper.upon_enter]
  have hargs := args_rel (s := s.toSimH) (a := a) (fun y hy => ev_rel s y) ha
  have eq : (xs.toList.map a.eval).toArray = xs.map a.eval := by apply Array.ext'; simp
  have := hc (Uu J ρ hp) w _ (fun b hb => s.uu_lt hb) hargs
  rw [eq] at this
  refine Calls.mono this fun en w' he => ?_
  cases en with
  | returned v =>
    obtain ⟨hb, x, y, z, rfl, hx, hy, hz⟩ := he
    rw [hd]
    exact hK _ _ (H _ _ ⟨_, (bind_fresh s hb hx).put (by simpa using hlt) ⟨x, y, z, rfl, (by show _ = _; unfold ren; simp), hX.2 _ _ _ _ _ _ _ _ _ _ _ hy, hY.2 _ _ _ _ _ _ _ _ _ _ _ hz⟩ ⟨Nat.lt_succ_self nx, AV.under_mono (Nat.zero_le _) (AV.under0_spec hX.1), AV.under_mono (Nat.zero_le _) (AV.under0_spec hY.1)⟩⟩)
  | panicked c => exact he.elim
  | outgrown => exact he.elim
end
end Go.Ab
