/- Loops over a function: the iterator's text and the rounds are walked in place, over one heap. No program in sight. -/
import Derived.Test.YtmfgemnmelbflaaCap
import Derived.RangeFuncRecord
namespace Go.Ab
set_option linter.unusedVariables false
set_option linter.unusedSimpArgs false
open Go.RowKit

def Job.withDs (J : Job) (ds : List Deferred) : Job := { J with ds := ds }
theorem kont_ds (J : Job) (ds : List Deferred) : ∀ k, Kont (J.withDs ds) k = Kont J k
  | [] => rfl
  | .code c :: k => by show Exit.then _ _ = Exit.then _ _; rw [kont_ds J ds k]; rfl
  | .ops ops l :: k => by show Exit.then _ _ = Exit.then _ _; rw [kont_ds J ds k]; rfl
  | .inBlock id :: k => by show Exit.inBlock id _ = Exit.inBlock id _; rw [kont_ds J ds k]
  | .again T :: k => by show Exit.then _ _ = Exit.then _ _; rw [kont_ds J ds k]

/-- Two jobs of one call's memory. -/
structure JobEq (J' J : Job) : Prop where
  w0 : J'.w0 = J.w0
  ext : J'.ext = J.ext
  gr : J'.gr = J.gr
  kg : J'.kg = J.kg
  ρg : J'.ρg = J.ρg

section
variable {J J' : Job} {nx : Nat} {ρ : Nat → Value} {fr fr' : Fr} {hp : Hp} {a a' : Act} {w w' : World} {k : List It} {ops : Array Oper} {rest : List Oper} {o : Oper}

theorem JobEq.B (e : JobEq J' J) : J'.B = J.B := by funext b; unfold Job.B; rw [e.w0, e.gr]
theorem JobEq.Uu (e : JobEq J' J) : Uu J' ρ hp = Uu J ρ hp := by funext b; unfold Ab.Uu; rw [e.ext]
theorem SimH.job (s : SimH J nx ρ hp w) (e : JobEq J' J) (hb : J'.bn ≤ nx) : SimH J' nx ρ hp w where
  kle := by rw [e.kg]; exact s.kle
  ble := hb
  named n hn := by rw [e.ρg]; exact s.named n (by rw [← e.kg]; exact hn)
  below := by rw [e.gr, e.w0]; exact s.below
  hrel n := by rw [e.B, e.Uu]; exact s.hrel n
  hun := s.hun
  hnx := s.hnx
  new n b hl hb := by rw [e.gr, e.w0]; exact s.new n b hl hb
  inj := s.inj
theorem SimR.job (s : SimH J nx ρ hp w) (e : JobEq J' J) (hb : J'.bn ≤ nx) (hsz : a'.tmps.size = J'.nt) (hds : a'.defers = J'.ds)
    (hfr : ∀ t, (fr' t).rel ρ J.B (Uu J ρ hp) (Nn ρ hp) w (a'.tmps.getD t undef)) (hfx : ∀ t, (fr' t).under nx) (hbg : ∀ p ∈ J'.bg, ∀ t, (p.1 t).rel ρ J.B (Uu J ρ hp) (Nn ρ hp) w (p.2.tmps.getD t undef)) : SimR J' nx ρ fr' hp a' w :=
  { s.job e hb with
    size := hsz
    defers := hds
    frel := fun t => by rw [e.B, e.Uu]; exact hfr t
    fnx := hfx
    brel := fun p hp t => by rw [e.B, e.Uu]; exact hbg p hp t }

def HE.isBox : HE → Bool
  | .box .. | .parts .. => true
  | _ => false
theorem SimH.ptr_of_box (s : SimH J nx ρ hp w) {n : Nat} (h : (hp n).isBox = true) : (∃ g, ρ n = .pointer (some ⟨g, 0, none⟩)) ∧ n < nx := by
  refine ⟨?_, Nat.lt_of_not_le fun hle => by rw [s.hnx n hle] at h; cases h⟩
  have hr := s.hrel n
  revert hr h
  generalize hp n = x
  cases x with
  | box ty T x => intro _ ⟨g, _, e, _⟩; exact ⟨g, e⟩
  | parts ty xs => intro _ ⟨g, _, e, _⟩; exact ⟨g, e⟩
  | none_ => intro h; cases h
  | row => intro h; cases h
  | objAt => intro h; cases h

/-- An object that is named becomes another one. -/
theorem SimR.putObj (s : SimR J nx ρ fr hp a w) {n b : Nat} {o o' : Obj} (hn : hp n = .objAt b o) : w.heap[b]? = some o ∧ SimR J nx ρ fr (hp.set n (.objAt b o')) a (w.putObj b o') := by
  have hh := s.hrel n
  rw [hn] at hh
  obtain ⟨e, hb⟩ := hh
  refine ⟨hb, s.modify hn trivial trivial (by simp) rfl rfl rfl (fun c hc => World.putObj_heap_other (fun e' => hc (by rw [e, e']; rfl))) fun _ => ⟨e, World.putObj_heap_same (Array.getElem?_eq_some_iff.1 hb).1⟩⟩
theorem SimR.getObj (s : SimR J nx ρ fr hp a w) {n b : Nat} {o : Obj} (hn : hp n = .objAt b o) : w.heap[b]? = some o := by
  have hh := s.hrel n
  rw [hn] at hh
  exact hh.2

/-- A mark among the deferred calls is come to. -/
theorem ar_unmark {nD D : Nat} (hds : J.ds = [{ target := .collected D, args := #[] }]) (hrd : J.rd = none) (hD : hp nD = .objAt D (.deferred (some []))) (H : AR (J.withDs []) nx fr (hp.set nD (.objAt D (.deferred none)))) : AR J nx fr hp := by
  intro a w ⟨ρ, s⟩
  obtain ⟨h1, h2⟩ := s.putObj (o' := .deferred none) hD
  refine J.mark hrd a w _ D (s.defers.trans hds) (run_takeDeferred h1) (H { a with defers := [] } _ ⟨ρ, ?_⟩)
  exact SimR.job h2.toSimH ⟨rfl, rfl, rfl, rfl, rfl⟩ h2.ble h2.size rfl h2.frel h2.fnx h2.brel

/-! ## The loop -/
structure LoopOk (J : Job) (nx : Nat) (fr : Fr) (a : Act) : Prop where
  hsz : a.tmps.size = J.nt
  had : a.defers = []
  hrd : J.rd = none
  hfr : ∀ t, (fr t).under nx
  hbn : J.bn ≤ nx
/-- Where a loop over a function stands. -/
structure LoopC where
  J : Job
  nx : Nat
  fr : Fr
  a : Act
  k : List It
  fid : FuncId
  ps : Array Tmp
  asg : Code
  body : Code
  l : Nat
  D : Nat
  ok : LoopOk J nx fr a

def LoopC.mark (C : LoopC) : List Deferred := [{ target := .collected C.D, args := #[] }]
def LoopC.act (C : LoopC) : Act := { C.a with defers := C.mark }
def LoopC.record (C : LoopC) (st : LoopState) (pe : Option Code) : Loop := { state := st, pending := pe, fn := C.fid, tmps := C.a.tmps, params := C.ps, assign := C.asg, body := C.body, defers := C.D }
def LoopC.rc (C : LoopC) (st : LoopState) (pe : Option Code) : Obj := .loop (C.record st pe)
def LoopC.R (C : LoopC) (e : Ending) (w : World) : Prop := (∃ v, e = .returned v) ∧ rangePost Fence.wide 0 C.J.P C.l (Kont C.J C.k) C.act e w
/-- The iterator's job. -/
def LoopC.iter (C : LoopC) (fni : Func) : Job :=
  { C.J with
    fn := fni, nt := fni.ntmps, R := C.R, rd := none, ds := [], bg := (C.fr, C.a) :: C.J.bg, bn := C.nx
    bgb := fun p hp t => by
      rcases List.mem_cons.1 hp with e | hp
      · rw [e]; exact C.ok.hfr t
      · exact AV.under_mono C.ok.hbn (C.J.bgb p hp t)
    post := bodyPostM Fence.wide 0 C.J.P fni C.R
    nrm := fun _ _ _ h => h
    fin := fun _ _ _ _ h1 h2 _ h3 => bodyM_fin h1 h2 h3
    mark := fun _ _ _ _ _ h1 h2 h3 => bodyM_mark h1 h2 h3 }
theorem LoopC.eq (C : LoopC) (fni : Func) : JobEq (C.iter fni) C.J := ⟨rfl, rfl, rfl, rfl, rfl⟩

theorem J_wide (h : J.rd = none) : J.F = Fence.wide := by unfold Job.F; rw [h]; rfl

theorem aw_range {g : Operand} {ps : Array Tmp} {asg body : Code} {f : FuncId} {caps : List Nat} {fni : Func} {c : Code}
    (hrd : J.rd = none) (hds : J.ds = []) (hg : fr.ev g = .clo f caps) (hf : J.P.funcs[f]? = some fni) (hfb : fnB J.P f = true) (hb : fni.body = some c) (hn : Nat.ble (caps.length + 1) fni.ntmps = true) (hcb : ∀ n ∈ caps, (hp n).isBox = true)
    (H : ∀ (fid : FuncId) (a : Act) (l D : Nat) (ok : LoopOk J nx fr a) (rc : LoopState → Option Code → Obj) (hrc : rc = LoopC.rc ⟨J, nx, fr, a, k, fid, ps, asg, body, l, D, ok⟩),
      AW (LoopC.iter ⟨J, nx, fr, a, k, fid, ps, asg, body, l, D, ok⟩ fni) (nx + 2) (Fr.args 0 (.lit (.func (.yield l) #[] #[]) :: caps.map fun n => .ptr n 0) Fr.none)
        ((hp.set nx (.objAt D (.deferred (some [])))).set (nx + 1) (.objAt l (rc .ready none))) [.code c]) :
    AW J nx fr hp (.code (.rangeFunc g ps asg body) :: k) := by
  intro a w ⟨ρ, s⟩
  have hv : a.eval g = .func (.func f) #[] (caps.map ρ).toArray := by
    have := ev_rel s g
    rw [hg] at this; exact this
  have had : a.defers = [] := s.defers.trans hds
  have hn : caps.length + 1 ≤ fni.ntmps := by simpa using hn
  show (Code.rangeFunc g ps asg body).wpIn J.F 0 J.P (Kont J k) a w
  rw [J_wide hrd]
  refine wpIn_rangeFunc ?_
  intro fid hfid
  obtain ⟨C, hC⟩ : ∃ C : LoopC, C = ⟨J, nx, fr, a, k, fid, ps, asg, body, w.heap.size + 1, w.heap.size, ⟨s.size, had, hrd, s.fnx, s.ble⟩⟩ := ⟨_, rfl⟩
  have H := H fid a (w.heap.size + 1) w.heap.size ⟨s.size, had, hrd, s.fnx, s.ble⟩ _ rfl
  rw [← hC] at H
  have hrec : C.record .ready none = { state := .ready, pending := none, fn := fid, tmps := a.tmps, params := ps, assign := asg, body := body, defers := w.heap.size } := by rw [hC]; rfl
  obtain ⟨W1, hW1⟩ : ∃ W1, (w.alloc (.deferred (some []))).alloc (.loop (C.record .ready none)) = W1 := ⟨_, rfl⟩
  refine ⟨w.heap.size + 1, [{ target := .collected w.heap.size, args := #[] }], W1, { target := .fn (.func f) (caps.map ρ).toArray, args := #[.func (.yield (w.heap.size + 1)) #[] #[]] }, W1, f,
    #[.func (.yield (w.heap.size + 1)) #[] #[]] ++ (caps.map ρ).toArray, W1, ?_, ?_, fun _ _ => trivial, ?_, (fun h => by cases h), ?_⟩
  · rw [← hW1, hrec]; exact run_enterLoop_outer _ _ _ _ _
  · simp only [resolve, hv]
    simp [go_sem]
  · obtain ⟨fn', h1, h2, h3⟩ := fnB_spec hfb
    have hne : fn'.name ≠ "runtime.NumGoroutine" := by simpa using h3
    have hbn : fn'.body ≠ none := by intro e; rw [e] at h2; cases h2
    simp [invoke, callFunc, h1, hne, hbn, Sem.run_bind]
  · have h1 := s.bind (p := .pointer (some ⟨w.heap.size, 0, none⟩)) (x := .objAt w.heap.size (.deferred (some []))) (below_alloc w _) (fun b e => by simp only [blkOf, Option.some.injEq] at e; subst e; exact ⟨Nat.le_refl _, by simp⟩) fun _ => ⟨rfl, heap_alloc_new w _⟩
    have h2 := h1.bind (p := .pointer (some ⟨(w.alloc (.deferred (some []))).heap.size, 0, none⟩)) (x := .objAt (w.heap.size + 1) (C.rc .ready none)) (below_alloc _ (.loop (C.record .ready none))) (fun b e => by simp only [blkOf, Option.some.injEq] at e; subst e; exact ⟨Nat.le_refl _, by simp⟩)
      fun _ => ⟨by rw [World.size_alloc], by have := heap_alloc_new (w.alloc (.deferred (some []))) (.loop (C.record .ready none)); rwa [World.size_alloc] at this⟩
    rw [hW1] at h2
    generalize hρ2 : ren (ren ρ nx _) (nx + 1) _ = ρ2 at h2
    have hren : ∀ n, n < nx → ρ2 n = ρ n := fun n hn => by rw [← hρ2]; unfold ren; rw [if_neg (by omega), if_neg (by omega)]
    have hcap : ∀ n ∈ caps, (∃ g, ρ2 n = .pointer (some ⟨g, 0, none⟩)) ∧ n < nx := fun n hm => by
      obtain ⟨⟨g, e⟩, hlt⟩ := s.toSimH.ptr_of_box (hcb n hm)
      exact ⟨⟨g, by rw [hren n hlt, e]⟩, hlt⟩
    have hmap : caps.map ρ = caps.map ρ2 := List.map_congr_left fun n hm => (hren n (hcap n hm).2).symm
    refine CallsIn.mono (R := C.R) (callsIn_of_wp_marks hf hb trivial ?_) (fun e w' h => by have h := h.2; rw [hC] at h; simpa [LoopC.act, LoopC.mark, had] using h)
    generalize hp2 : (hp.set nx _).set (nx + 1) _ = hp2' at h2 H
    have hfr := args_frame (P := fun _ A v => A.rel ρ2 C.J.B (Uu C.J ρ2 hp2') (Nn ρ2 hp2') W1 v ∧ A.under (nx + 2)) (fun _ _ => ⟨trivial, trivial⟩) (i := 0) (f := Fr.none) (g := fun _ => undef)
      (As := .lit (.func (.yield (w.heap.size + 1)) #[] #[]) :: caps.map fun n => .ptr n 0) (vs := .func (.yield (w.heap.size + 1)) #[] #[] :: caps.map ρ2) (by simp)
      (fun j A v e1 e2 _ => by
        cases j with
        | zero => simp at e1 e2; subst e1; subst e2; exact ⟨rfl, trivial⟩
        | succ j =>
          simp only [List.getElem?_cons_succ, List.getElem?_map, Option.map_eq_some_iff] at e1 e2
          obtain ⟨n, hn1, rfl⟩ := e1
          obtain ⟨m, hm1, rfl⟩ := e2
          obtain rfl : n = m := by rw [hn1] at hm1; exact Option.some.inj hm1
          obtain ⟨⟨g, e⟩, hlt⟩ := hcap n (List.mem_of_getElem? hn1)
          exact ⟨⟨g, e, e⟩, Nat.lt_of_lt_of_le hlt (Nat.le_add_right _ _)⟩) (fun t => ⟨trivial, trivial⟩) (fun _ _ => rfl)
    have hJ : C.J = J := by rw [hC]
    have harr : #[Value.func (.yield (w.heap.size + 1)) #[] #[]] ++ (caps.map ρ).toArray = (Value.func (.yield (w.heap.size + 1)) #[] #[] :: caps.map ρ2).toArray := by rw [hmap]; simp
    rw [harr, show J.P = C.J.P by rw [hJ]]
    show Kont (C.iter fni) [.code c] .normal _ W1
    refine H { tmps := (Value.func (.yield (w.heap.size + 1)) #[] #[] :: caps.map ρ2).toArray ++ Array.replicate (fni.ntmps - (Value.func (.yield (w.heap.size + 1)) #[] #[] :: caps.map ρ2).toArray.size) undef, defers := [] } W1 ⟨ρ2, SimR.job (J := C.J) (hJ ▸ h2.toSimH) (C.eq fni) (by show C.nx ≤ nx + 2; rw [hC]; exact Nat.le_add_right _ _) ?_ rfl (fun t => ?_) (fun t => (hfr t).2) (fun p hp t => ?_)⟩
    · show ((_ : List Value).toArray ++ _).size = fni.ntmps
      simp; omega
    · have e : ((Value.func (.yield (w.heap.size + 1)) #[] #[] :: caps.map ρ2).toArray ++ Array.replicate (fni.ntmps - (Value.func (.yield (w.heap.size + 1)) #[] #[] :: caps.map ρ2).toArray.size) undef).getD t undef = ((Value.func (.yield (w.heap.size + 1)) #[] #[] :: caps.map ρ2)[t]?).getD undef := by
        generalize (Value.func (.yield (w.heap.size + 1)) #[] #[] :: caps.map ρ2) = vs
        rw [Array.getD_eq_getD_getElem?, Array.getElem?_append]
        by_cases c : t < vs.toArray.size
        · rw [if_pos c]; simp
        · rw [if_neg c]
          have hv : vs[t]? = none := by simpa using c
          rw [hv, Array.getElem?_replicate]
          split <;> rfl
      rw [e]
      have h1 := (hfr t).1
      rw [if_neg (Nat.not_lt_zero t), Nat.sub_zero] at h1
      exact h1
    · have hp : p = (C.fr, C.a) ∨ p ∈ C.J.bg := List.mem_cons.1 hp
      rw [hC] at hp ⊢
      rcases hp with e | hp
      · rw [e]; exact h2.frel t
      · exact h2.brel p hp t

/-! ## The iterator's end -/
theorem sim_back {C : LoopC} {fni : Func} {ds : List Deferred} (s : SimR (C.iter fni) nx ρ fr hp a w) (hds : ds = C.mark) : SimR (C.J.withDs ds) nx ρ C.fr hp C.act w :=
  SimR.job s.toSimH ⟨rfl, rfl, rfl, rfl, rfl⟩ (Nat.le_trans C.ok.hbn s.ble) C.ok.hsz hds.symm (s.brel (C.fr, C.a) (List.mem_cons_self ..)) (fun t => AV.under_mono s.ble (C.ok.hfr t)) fun p hp t => s.brel p (List.mem_cons_of_mem _ hp) t

theorem iter_end {C : LoopC} {fni : Func} {nL : Nat} {st : LoopState} {pe : Option Code} (hres : fni.results = #[]) {rc : LoopState → Option Code → Obj} (hrc : rc = C.rc) (hL : hp nL = .objAt C.l (rc st pe)) (hst : st ≠ .busy)
    (H : AW (C.J.withDs C.mark) nx C.fr (hp.set nL .none_) (match pe with | none => C.k | some c => .code c :: C.k)) (s : SimR (C.iter fni) nx ρ fr hp a w) : bodyPostM Fence.wide 0 C.J.P fni C.R .ret a w := by
  subst hrc
  obtain ⟨h1, h2⟩ := s.putObj (o' := .loop (C.record .exhausted pe)) hL
  refine bodyM_fin s.defers (results_none hres _ _ _) ⟨⟨_, rfl⟩, pe, _, run_endLoop h1 hst, ?_⟩
  have s2 := sim_back (h2.drop nL) (rfl : C.mark = C.mark)
  have e : (hp.set nL (.objAt C.l (.loop (C.record .exhausted pe)))).set nL .none_ = hp.set nL .none_ := by
    funext t
    rw [hp_set_eq, hp_set_eq, hp_set_eq]
    by_cases c : t = nL
    · rw [if_pos c, if_pos c]
    · rw [if_neg c, if_neg c, if_neg c]
  rw [e] at s2
  have := H _ _ ⟨ρ, s2⟩
  cases pe with
  | none => rw [kont_ds] at this; exact this
  | some c =>
    have hk : Kont (C.J.withDs C.mark) (.code c :: C.k) = Kont C.J (.code c :: C.k) := kont_ds _ _ _
    rw [hk] at this
    have h3 : c.wpIn C.J.F 0 C.J.P (Kont C.J C.k) C.act _ := this
    rw [J_wide C.ok.hrd] at h3
    exact h3
theorem aw_iter_ret {C : LoopC} {fni : Func} {nL : Nat} {st : LoopState} {pe : Option Code} (hres : fni.results = #[]) {rc : LoopState → Option Code → Obj} (hrc : rc = C.rc) (hL : hp nL = .objAt C.l (rc st pe)) (hst : st ≠ .busy)
    (H : AW (C.J.withDs C.mark) nx C.fr (hp.set nL .none_) (match pe with | none => C.k | some c => .code c :: C.k)) : AW (C.iter fni) nx fr hp (.code .ret :: k) :=
  aw_of_ar fun a w ⟨ρ, s⟩ => iter_end hres hrc hL hst H s
theorem aw_iter_fall {C : LoopC} {fni : Func} {nL : Nat} {st : LoopState} {pe : Option Code} (hres : fni.results = #[]) {rc : LoopState → Option Code → Obj} (hrc : rc = C.rc) (hL : hp nL = .objAt C.l (rc st pe)) (hst : st ≠ .busy)
    (H : AW (C.J.withDs C.mark) nx C.fr (hp.set nL .none_) (match pe with | none => C.k | some c => .code c :: C.k)) : AW (C.iter fni) nx fr hp [] :=
  fun _ _ ⟨_, s⟩ => iter_end hres hrc hL hst H s

/-! ## A round -/
structure YieldOk (C : LoopC) (fni : Func) (nx : Nat) (fr : Fr) (a : Act) (d : Nat) : Prop where
  hsz : a.tmps.size = fni.ntmps
  had : a.defers = []
  hlt : d < fni.ntmps
  hfr : ∀ t, (fr t).under nx
  hbn : C.nx ≤ nx
structure YieldC where
  C : LoopC
  fni : Func
  nx : Nat
  fr : Fr
  a : Act
  d : Nat
  k : List It
  ok : YieldOk C fni nx fr a d

def YieldC.next (Y : YieldC) (v : Value) (w : World) : Prop := Kont (Y.C.iter Y.fni) Y.k .normal (Y.a.put (some Y.d) v) w
def YieldC.R (Y : YieldC) : Ending → World → Prop
  | .returned v, w => Y.next v w
  | _, _ => False
def YieldC.round (Y : YieldC) : Job :=
  { Y.C.J with
    rd := some Y.C.l, ds := [], bg := (Y.fr, Y.a) :: (Y.C.fr, Y.C.a) :: Y.C.J.bg, bn := Y.nx
    bgb := fun p hp t => by
      rcases List.mem_cons.1 hp with e | hp
      · rw [e]; exact Y.ok.hfr t
      · rcases List.mem_cons.1 hp with e | hp
        · rw [e]; exact AV.under_mono Y.ok.hbn (Y.C.ok.hfr t)
        · exact AV.under_mono (Nat.le_trans Y.C.ok.hbn Y.ok.hbn) (Y.C.J.bgb p hp t)
    post := roundPost Y.C.J.P Y.C.l Y.R
    nrm := fun h => by cases h
    fin := fun h => by cases h
    mark := fun h => by cases h }
def YieldC.asg (Y : YieldC) : Job :=
  { Y.round with
    post := fun e a w => match e with
      | .normal => ∃ w2, (Instr.beginRound Y.C.l).run Y.C.J.P w = .ok () w2 ∧ Kont Y.round [.code Y.C.body] .normal a w2
      | _ => False
    nrm := fun h => by cases h
    fin := fun h => by cases h
    mark := fun h => by cases h }

/-- Slots that are set, one after the other. -/
def Fr.setL : Fr → List Tmp → List AV → Fr
  | f, t :: ts, x :: xs => Fr.setL (f.set t x) ts xs
  | f, _, _ => f

theorem setL_rel {P : AV → Value → Prop} (nt : Nat) : ∀ {ps : List Tmp} {xs : List AV} {vs : List Value} {f : Fr} {tm : Array Value}, tm.size = nt → (∀ p ∈ ps, p < nt) → (∀ (j : Nat) x v, xs[j]? = some x → vs[j]? = some v → P x v) → xs.length = vs.length → (∀ t, P (f t) (tm.getD t undef)) →
    ∀ t, P (Fr.setL f ps xs t) (((ps.zip vs).foldl (fun tm (p : Tmp × Value) => tm.setIfInBounds p.1 p.2) tm).getD t undef)
  | [], xs, vs, f, tm, _, _, _, _, hf, t => hf t
  | p :: ps, [], [], f, tm, _, _, _, _, hf, t => hf t
  | p :: ps, x :: xs, [], f, tm, _, _, _, hl, _, _ => by simp at hl
  | p :: ps, [], v :: vs, f, tm, _, _, _, hl, _, _ => by simp at hl
  | p :: ps, x :: xs, v :: vs, f, tm, hsz, hps, hx, hl, hf, t => by
    refine setL_rel nt (ps := ps) (xs := xs) (vs := vs) (f := f.set p x) (tm := tm.setIfInBounds p v) (by simpa using hsz) (fun q hq => hps q (by simp [hq])) (fun j y u h1 h2 => hx (j + 1) y u (by simpa using h1) (by simpa using h2)) (by simpa using hl) (fun t => ?_) t
    rw [fr_set_eq]
    by_cases e : t = p
    · subst e
      have hp : t < tm.size := by rw [hsz]; exact hps t (by simp)
      rw [if_pos rfl]
      have : (tm.setIfInBounds t v).getD t undef = v := by simp [Array.getD, hp]
      rw [this]; exact hx 0 x v rfl rfl
    · rw [if_neg e]
      have hne : p ≠ t := fun h => e h.symm
      have : (tm.setIfInBounds p v).getD t undef = tm.getD t undef := by simp [Array.getD_eq_getD_getElem?, Array.getElem?_setIfInBounds, hne]
      rw [this]; exact hf t
theorem setL_size {ps : List Tmp} : ∀ {vs : List Value} {tm : Array Value}, ((ps.zip vs).foldl (fun tm (p : Tmp × Value) => tm.setIfInBounds p.1 p.2) tm).size = tm.size := by
  induction ps with
  | nil => intro vs tm; rfl
  | cons p ps ih =>
    intro vs tm
    cases vs with
    | nil => rfl
    | cons v vs => rw [List.zip_cons_cons, List.foldl_cons, ih]; simp
theorem setL_under {nx : Nat} : ∀ {ps : List Tmp} {xs : List AV} {f : Fr}, (∀ t, (f t).under nx) → (∀ x ∈ xs, x.under nx) → ∀ t, (Fr.setL f ps xs t).under nx
  | [], _, _, hf, _, t => hf t
  | _ :: _, [], _, hf, _, t => hf t
  | p :: ps, x :: xs, f, hf, hx, t => setL_under (ps := ps) (xs := xs) (f := f.set p x) (fun t => by
    rw [fr_set_eq]
    by_cases e : t = p
    · rw [if_pos e]; exact hx x (by simp)
    · rw [if_neg e]; exact hf t) (fun y hy => hx y (by simp [hy])) t

theorem run_yield_call {x : Operand} {xs : Array Operand} {ts : Array TypeId} {P : Program} {l : Nat} {r : Loop} (ho : o.op = .call { callee := .value x, args := xs, argTypes := ts }) (hx : a.eval x = .func (.yield l) #[] #[]) (h : w.heap[l]? = some (.loop r)) (hs : xs.size = r.params.size) :
    (execOp a.eval o).run P w = .ok (.round l r.fn ((r.params.zip (xs.map a.eval)).foldl (fun tmps (t, a) => tmps.setIfInBounds t a) r.tmps) r.assign r.body) w := by
  have := run_yield (P := P) (args := xs.map a.eval) h (by simpa using hs)
  unfold execOp; rw [ho]
  simp only [resolve, hx, Deferred.ofValue, Sem.run_bind, Sem.run_pure, Result.andThen_ok, invoke, Array.empty_append, Array.append_empty]
  simpa using this

theorem roundPost_mono {P : Program} {l : Nat} {R R' : Ending → World → Prop} (h : ∀ v w, R (.returned v) w → R' (.returned v) w) : ∀ {e : Exit} {a : Act} {w : World}, roundPost P l R e a w → roundPost P l R' e a w
  | .normal, _, _, ⟨v, w', h1, h2⟩ => ⟨v, w', h1, h _ _ h2⟩
  | .ret, _, _, ⟨v, w', h1, h2⟩ => ⟨v, w', h1, h _ _ h2⟩
  | .exit _, _, _, ⟨v, w', h1, h2⟩ => ⟨v, w', h1, h _ _ h2⟩
  | .goto _, _, _, ⟨v, w', h1, h2⟩ => ⟨v, w', h1, h _ _ h2⟩
  | .panic _, _, _, h' => h'.elim
  | .outgrown, _, _, h' => h'.elim

theorem aw_yield {C : LoopC} {fni : Func} {x : Operand} {xs : Array Operand} {ts : Array TypeId} {d nL : Nat} (ho : o.op = .call { callee := .value x, args := xs, argTypes := ts }) (hd : o.dst = some d) (hg : o.guard = none) (hlt : Nat.blt d fni.ntmps = true) (hx : fr.ev x = .lit (.func (.yield C.l) #[] #[]))
    {rc : LoopState → Option Code → Obj} (hrc : rc = C.rc) (hL : hp nL = .objAt C.l (rc .ready none)) (hps : xs.size = C.ps.size) (hpl : C.ps.toList.all (fun p => Nat.blt p C.J.nt) = true)
    (H : ∀ (a : Act) (ok : YieldOk C fni nx fr a d),
      AW (YieldC.asg ⟨C, fni, nx, fr, a, d, .ops ops rest :: k, ok⟩) nx (Fr.setL C.fr C.ps.toList (xs.toList.map fr.ev)) hp [.code C.asg]) :
    AW (C.iter fni) nx fr hp (.ops ops (o :: rest) :: k) := by
  subst hrc
  intro a w ⟨ρ, s⟩
  have hlt : d < fni.ntmps := by simpa using hlt
  refine wpListIn_plain hg fun K hK => ?_
  have hxv := ev_rel s x
  rw [hx] at hxv
  have hxv : a.eval x = _ := hxv
  have hl := s.getObj hL
  have hry := run_yield_call (P := C.J.P) ho hxv hl hps
  have H := H a ⟨s.size, s.defers, hlt, s.fnx, s.ble⟩
  generalize hY : YieldC.mk C fni nx fr a d (.ops ops rest :: k) ⟨s.size, s.defers, hlt, s.fnx, s.ble⟩ = Y at H
  have hYC : Y.C = C := by rw [← hY]
  refine ⟨fun _ _ => trivial, ?_⟩
  show o.uponIn Fence.wide 0 C.J.P a K _ ((o.semAt none a.eval).run C.J.P w)
  rw [Oper.semAt_none, hry, Oper.uponIn_round]
  refine ⟨(fun h => by cases h), ?_⟩
  have key := H { tmps := (C.ps.toList.zip (xs.toList.map a.eval)).foldl (fun tm (p : Tmp × Value) => tm.setIfInBounds p.1 p.2) C.a.tmps, defers := [] } w ⟨ρ, SimR.job s.toSimH (by subst hY; exact ⟨rfl, rfl, rfl, rfl, rfl⟩) (by subst hY; exact Nat.le_refl _)
    (by rw [setL_size]; subst hY; exact C.ok.hsz) (by subst hY; rfl)
    (fun t => setL_rel (P := fun A v => A.rel ρ (C.iter fni).B (Uu (C.iter fni) ρ hp) (Nn ρ hp) w v) C.J.nt C.ok.hsz (fun p hp => by have := List.all_eq_true.1 hpl p hp; simpa using this) (fun j A v h1 h2 => by
      rw [List.getElem?_map, Option.map_eq_some_iff] at h1 h2
      obtain ⟨y, hy, rfl⟩ := h1
      obtain ⟨z, hz, rfl⟩ := h2
      obtain rfl : y = z := by rw [hy] at hz; exact Option.some.inj hz
      exact ev_rel s y) (by simp) (fun t => s.brel (C.fr, C.a) (List.mem_cons_self ..) t) t)
    (setL_under (fun t => AV.under_mono s.ble (C.ok.hfr t)) (fun A hA => by
      obtain ⟨y, _, rfl⟩ := List.mem_map.1 hA
      exact ev_under s.fnx y))
    (fun p hp t => by
      have hp : p ∈ (fr, a) :: (C.fr, C.a) :: C.J.bg := by subst hY; exact hp
      rcases List.mem_cons.1 hp with e | hp
      · rw [e]; exact s.frel t
      · exact s.brel p hp t)⟩
  have hrt : (C.ps.toList.zip (xs.toList.map a.eval)).foldl (fun tm (p : Tmp × Value) => tm.setIfInBounds p.1 p.2) C.a.tmps = ((C.record .ready none).params.zip (xs.map a.eval)).foldl (fun tmps (t, a) => tmps.setIfInBounds t a) (C.record .ready none).tmps := by
    show _ = (C.ps.zip (xs.map a.eval)).foldl _ C.a.tmps
    rw [← Array.foldl_toList, Array.toList_zip, Array.toList_map]
  rw [hrt] at key
  have hgo : ∀ ar, Kont Y.asg [.code C.asg] .normal ar w → C.asg.wpIn (Fence.wide.inRound C.l) 0 C.J.P (Kont Y.asg []) ar w := fun ar hk => by subst hY; exact hk
  refine roundIn_of_wpIn trivial (wpIn_mono (Q := Kont Y.asg []) (hgo _ key) ?_)
  intro e a1 w1 hq
  cases e with
  | normal =>
    obtain ⟨w2, h1, h2⟩ := hq
    refine ⟨w2, by rw [← hYC]; exact h1, ?_⟩
    have h3 : C.body.wpIn (Fence.wide.inRound C.l) 0 C.J.P (roundPost C.J.P C.l Y.R) a1 w2 := by subst hY; exact h2
    refine wpIn_mono h3 fun e a w h => roundPost_mono (fun v w h => hK _ _ ?_) h
    rw [hd]
    subst hY; exact h
  | _ => exact hq.elim

/-- The round begins. -/
theorem aw_begin {Y : YieldC} {nL : Nat} {rc : LoopState → Option Code → Obj} (hrc : rc = Y.C.rc) (hL : hp nL = .objAt Y.C.l (rc .ready none)) (H : AW Y.round nx fr (hp.set nL (.objAt Y.C.l (rc .busy none))) [.code Y.C.body]) : AW Y.asg nx fr hp [] := by
  subst hrc
  intro a w ⟨ρ, s⟩
  obtain ⟨h1, h2⟩ := s.putObj (o' := .loop (Y.C.record .busy none)) hL
  refine ⟨_, run_beginRound h1 rfl, H _ _ ⟨ρ, ?_⟩⟩
  exact SimR.job h2.toSimH ⟨rfl, rfl, rfl, rfl, rfl⟩ h2.ble h2.size h2.defers h2.frel h2.fnx h2.brel

theorem sim_iter {Y : YieldC} {v : Value} {b : Bool} (s : SimR Y.round nx ρ fr hp a w) (hv : v = .bool b) : SimR (Y.C.iter Y.fni) nx ρ (Y.fr.set Y.d (.val boolT b)) hp (Y.a.put (some Y.d) v) w :=
  (SimR.job (J' := Y.C.iter Y.fni) s.toSimH ⟨rfl, rfl, rfl, rfl, rfl⟩ (Nat.le_trans Y.ok.hbn s.ble) Y.ok.hsz Y.ok.had (s.brel (Y.fr, Y.a) (List.mem_cons_self ..)) (fun t => AV.under_mono s.ble (Y.ok.hfr t)) fun p hp t => s.brel p (List.mem_cons_of_mem _ hp) t).put Y.ok.hlt (val_bool.2 hv) trivial

theorem round_out {Y : YieldC} {nL : Nat} (j : Option Code) {rc : LoopState → Option Code → Obj} (hrc : rc = Y.C.rc) (hL : hp nL = .objAt Y.C.l (rc .busy none))
    (H : AW (Y.C.iter Y.fni) nx (Y.fr.set Y.d (.val boolT j.isNone)) (hp.set nL (.objAt Y.C.l (rc (if j.isNone then .ready else .done) j))) Y.k) (s : SimR Y.round nx ρ fr hp a w) : ∃ v w', (Instr.endRound Y.C.l j).run Y.C.J.P w = .ok v w' ∧ Y.R (.returned v) w' := by
  subst hrc
  obtain ⟨h1, h2⟩ := s.putObj (o' := .loop (Y.C.record (if j.isNone then .ready else .done) j)) hL
  exact ⟨_, _, run_endRound j h1, H _ _ ⟨ρ, sim_iter h2 rfl⟩⟩
/-- The round ends: on with the iterator. -/
theorem aw_round_end {Y : YieldC} {nL : Nat} {rc : LoopState → Option Code → Obj} (hrc : rc = Y.C.rc) (hL : hp nL = .objAt Y.C.l (rc .busy none))
    (H : AW (Y.C.iter Y.fni) nx (Y.fr.set Y.d (.val boolT true)) (hp.set nL (.objAt Y.C.l (rc .ready none))) Y.k) : AW Y.round nx fr hp [] :=
  fun _ _ ⟨_, s⟩ => round_out none hrc hL H s
/-- The round is left by 'ret'. -/
theorem aw_round_ret {Y : YieldC} {nL : Nat} {rc : LoopState → Option Code → Obj} (hrc : rc = Y.C.rc) (hL : hp nL = .objAt Y.C.l (rc .busy none))
    (H : AW (Y.C.iter Y.fni) nx (Y.fr.set Y.d (.val boolT false)) (hp.set nL (.objAt Y.C.l (rc .done (some .ret)))) Y.k) : AW Y.round nx fr hp (.code .ret :: k) :=
  aw_of_ar fun _ _ ⟨_, s⟩ => round_out (some .ret) hrc hL H s
theorem Kont.out (J : Job) {id : Nat} : ∀ {k : List It} {a : Act} {w : World}, popTo id k = none → J.post (.exit id) a w → Kont J k (.exit id) a w
  | [], _, _, _, h' => h'
  | .code _ :: k, _, _, h, h' => Kont.out J (k := k) h h'
  | .ops .. :: k, _, _, h, h' => Kont.out J (k := k) h h'
  | .again _ :: k, _, _, h, h' => Kont.out J (k := k) h h'
  | .inBlock i :: k, a, w, h, h' => by
    simp only [popTo] at h
    show (if id = i then Kont J k .normal a w else Kont J k (.exit id) a w)
    by_cases e : id = i
    · have : Nat.beq i id = true := by rw [e]; simp
      rw [this] at h; simp at h
    · rw [if_neg e]
      have : Nat.beq i id = false := by
        cases e' : Nat.beq i id
        · rfl
        · exact absurd (Nat.eq_of_beq_eq_true e').symm e
      rw [this] at h
      exact Kont.out J (k := k) h h'
/-- The round is left by an exit out of the loop. -/
theorem aw_round_exit {Y : YieldC} {nL id : Nat} (hk : popTo id k = none) {rc : LoopState → Option Code → Obj} (hrc : rc = Y.C.rc) (hL : hp nL = .objAt Y.C.l (rc .busy none))
    (H : AW (Y.C.iter Y.fni) nx (Y.fr.set Y.d (.val boolT false)) (hp.set nL (.objAt Y.C.l (rc .done (some (.exit id))))) Y.k) : AW Y.round nx fr hp (.code (.exit id) :: k) :=
  fun _ _ ⟨_, s⟩ => wpIn_exit (Kont.out _ hk (round_out (some (.exit id)) hrc hL H s))

/-! ## A call that is walked in place -/
structure CallOk (J : Job) (nx : Nat) (fr : Fr) (a : Act) (d : Nat) : Prop where
  hsz : a.tmps.size = J.nt
  had : a.defers = J.ds
  hlt : d < J.nt
  hfr : ∀ t, (fr t).under nx
  hbn : J.bn ≤ nx
structure CallC where
  J : Job
  nx : Nat
  fr : Fr
  a : Act
  d : Nat
  k : List It
  ok : CallOk J nx fr a d
def CallC.R (C : CallC) : Ending → World → Prop
  | .returned v, w => Kont C.J C.k .normal (C.a.put (some C.d) v) w
  | _, _ => False
def CallC.job (C : CallC) (fni : Func) : Job :=
  { C.J with
    fn := fni, nt := fni.ntmps, R := C.R, rd := none, ds := [], bg := (C.fr, C.a) :: C.J.bg, bn := C.nx
    bgb := fun p hp t => by
      rcases List.mem_cons.1 hp with e | hp
      · rw [e]; exact C.ok.hfr t
      · exact AV.under_mono C.ok.hbn (C.J.bgb p hp t)
    post := bodyPostM Fence.wide 0 C.J.P fni C.R
    nrm := fun _ _ _ h => h
    fin := fun _ _ _ _ h1 h2 _ h3 => bodyM_fin h1 h2 h3
    mark := fun _ _ _ _ _ h1 h2 h3 => bodyM_mark h1 h2 h3 }

theorem args_tmps {vs : List Value} {n t : Nat} : (vs.toArray ++ Array.replicate (n - vs.toArray.size) undef).getD t undef = (vs[t]?).getD undef := by
  rw [Array.getD_eq_getD_getElem?, Array.getElem?_append]
  by_cases c : t < vs.toArray.size
  · rw [if_pos c]; simp
  · rw [if_neg c]
    have hv : vs[t]? = none := by simpa using c
    rw [hv, Array.getElem?_replicate]
    split <;> rfl

theorem aw_inline {f : FuncId} {fni : Func} {c : Code} {xs : Array Operand} {ts : Array TypeId} {d : Nat} (ho : o.op = .call { callee := .value (.func f), args := xs, argTypes := ts }) (hd : o.dst = some d) (hg : o.guard = none) (hlt : Nat.blt d J.nt = true)
    (hf : J.P.funcs[f]? = some fni) (hfb : fnB J.P f = true) (hb : fni.body = some c) (hn : Nat.ble xs.size fni.ntmps = true)
    (H : ∀ (a : Act) (ok : CallOk J nx fr a d),
      AW (CallC.job ⟨J, nx, fr, a, d, .ops ops rest :: k, ok⟩ fni) nx (Fr.args 0 (xs.toList.map fr.ev) Fr.none) hp [.code c]) :
    AW J nx fr hp (.ops ops (o :: rest) :: k) := by
  intro a w ⟨ρ, s⟩
  have hlt : d < J.nt := by simpa using hlt
  have hn : xs.size ≤ fni.ntmps := by simpa using hn
  refine wpl_plain hg (by intro c hc; rw [ho] at hc; cases hc) fun K hK => ?_
  obtain ⟨fn', h1, h2, h3⟩ := fnB_spec hfb
  unfold Oper.wp
  rw [run_call ho h1 h2 h3, Oper.upon_enter]
  have H := H a ⟨s.size, s.defers, hlt, s.fnx, s.ble⟩
  generalize hC : CallC.mk J nx fr a d (.ops ops rest :: k) ⟨s.size, s.defers, hlt, s.fnx, s.ble⟩ = C at H
  have hfr := args_frame (P := fun _ A v => A.rel ρ J.B (Uu J ρ hp) (Nn ρ hp) w v ∧ A.under nx) (fun _ _ => ⟨trivial, trivial⟩) (i := 0) (f := Fr.none) (g := fun _ => undef)
    (As := xs.toList.map fr.ev) (vs := xs.toList.map a.eval) (by simp)
    (fun j A v e1 e2 _ => by
      simp only [List.getElem?_map, Option.map_eq_some_iff] at e1 e2
      obtain ⟨n, hn1, rfl⟩ := e1
      obtain ⟨m, hm1, rfl⟩ := e2
      obtain rfl : n = m := by rw [hn1] at hm1; exact Option.some.inj hm1
      exact ⟨ev_rel s n, ev_under s.fnx n⟩) (fun t => ⟨trivial, trivial⟩) (fun _ _ => rfl)
  have key : Calls J.P f (xs.toList.map a.eval).toArray w C.R := by
    refine calls_of_wpM hf hb ?_
    have h4 := H { tmps := (xs.toList.map a.eval).toArray ++ Array.replicate (fni.ntmps - (xs.toList.map a.eval).toArray.size) undef, defers := [] } w ⟨ρ, SimR.job s.toSimH (by subst hC; exact ⟨rfl, rfl, rfl, rfl, rfl⟩) (by subst hC; exact Nat.le_refl _) (by
      have e : (C.job fni).nt = fni.ntmps := by subst hC; rfl
      rw [e]; simp; omega) (by subst hC; rfl) (fun t => by
        rw [args_tmps]
        have h1 := (hfr t).1
        rw [if_neg (Nat.not_lt_zero t), Nat.sub_zero] at h1
        exact h1) (fun t => (hfr t).2) (fun p hp t => by
        have hp : p ∈ (fr, a) :: J.bg := by subst hC; exact hp
        rcases List.mem_cons.1 hp with e | hp
        · rw [e]; exact s.frel t
        · exact s.brel p hp t)⟩
    subst hC
    exact h4
  have e : (xs.toList.map a.eval).toArray = xs.map a.eval := by apply Array.ext'; simp
  rw [e] at key
  refine Calls.mono key fun en w' he => ?_
  cases en with
  | returned v =>
    rw [hd]
    subst hC
    exact hK _ _ he
  | panicked c => exact he.elim
  | outgrown => exact he.elim

theorem sim_caller {C : CallC} {fni : Func} (s : SimR (C.job fni) nx ρ fr hp a w) : SimR C.J nx ρ C.fr hp C.a w :=
  SimR.job s.toSimH ⟨rfl, rfl, rfl, rfl, rfl⟩ (Nat.le_trans C.ok.hbn s.ble) C.ok.hsz C.ok.had (s.brel (C.fr, C.a) (List.mem_cons_self ..)) (fun t => AV.under_mono s.ble (C.ok.hfr t)) fun p hp t => s.brel p (List.mem_cons_of_mem _ hp) t
/-- The end of a call that is walked in place. -/
theorem aw_back1 {C : CallC} {fni : Func} {t : Tmp} (hres : fni.results = #[.tmp t]) (H : AW C.J nx (C.fr.set C.d (fr t)) hp C.k) : AW (C.job fni) nx fr hp (.code .ret :: k) :=
  aw_of_ar fun _ _ ⟨ρ, s⟩ => bodyM_fin s.defers (results_tmp hres _ _ _) (H _ _ ⟨ρ, (sim_caller s).put C.ok.hlt (s.frel t) (s.fnx t)⟩)
theorem aw_back2 {C : CallC} {fni : Func} {t u : Tmp} (hres : fni.results = #[.tmp t, .tmp u]) (H : AW C.J nx (C.fr.set C.d (.tup2 (fr t) (fr u))) hp C.k) : AW (C.job fni) nx fr hp (.code .ret :: k) :=
  aw_of_ar fun _ _ ⟨ρ, s⟩ => bodyM_fin s.defers (results_tmp2 hres _ _ _) (H _ _ ⟨ρ, (sim_caller s).put C.ok.hlt ⟨_, _, rfl, s.frel t, s.frel u⟩ ⟨s.fnx t, s.fnx u⟩⟩)
theorem aw_back0 {C : CallC} {fni : Func} (hres : fni.results = #[]) (H : AW C.J nx (C.fr.set C.d (.lit (.tuple #[]))) hp C.k) : AW (C.job fni) nx fr hp (.code .ret :: k) :=
  aw_of_ar fun _ _ ⟨ρ, s⟩ => bodyM_fin s.defers (results_none hres _ _ _) (H _ _ ⟨ρ, (sim_caller s).put C.ok.hlt rfl trivial⟩)
end
end Go.Ab
