/- Parts of the proof: the layer that reads Go values as data, and what the functions of the program tell. -/
import Derived.Test.YtjldddonpfopaaaGreatK5
set_option maxRecDepth 20000
namespace Go.Proofs.YtjldddonpfopaaaGreat
set_option linter.unusedVariables false
set_option linter.unusedSimpArgs false
open Go.Ab Go.RowKit
def easyP : Proof := ⟨1, 1, [⟨easyH, []⟩, ⟨easyB.h, [id0]⟩]⟩
theorem climb_easy (y : Int) : ∀ i : Nat, i ≤ 32 → climbS [31, y] 1 1 i = (0, if i = 0 then [] else [0])
  | 0, _ => rfl
  | i + 1, h => by
    have ih := climb_easy y i (by omega)
    have hu : upOf [31, y] 0 ((([31, y] : List Int).length : Int) - 1) (31 - (i : Int)) = [0] := by
      show upR [31, y] (31 - (i : Int)) 0 (0 + 1) = [0]
      rw [upR_yes (v := [31, y]) (n := 31 - (i : Int)) (x := 31) (a := 0) (i := 0) rfl (Nat.le_refl _) (by omega), upR_same]; rfl
    have e1 : (climbS [31, y] 1 1 i).1 = 0 := by rw [ih]
    have e2 : (climbS [31, y] 1 1 i).2 = if i = 0 then [] else [0] := by rw [ih]
    show (if _ then _ else _, _) = _
    have h0 : (if i + 1 = 0 then ([] : List Int) else [0]) = [0] := if_neg (by omega)
    rw [e1, e2, hu, h0, if_neg (by decide)]
    by_cases c : i = 0 <;> simp [c, setAdd]
theorem easy_lvs : levelsOf [easyB0, easyB] = [31, headLevel easyB.h] := by
  show [headLevel easyH, headLevel easyB.h] = _
  rw [easy_level]
theorem easy_le1 : decide (headLevel easyB.h ≤ 31) = true := by kernel_rfl
theorem easy_mayP : mayP [31, headLevel easyB.h] 1 1 = true := by
  have h1 := of_decide_eq_true easy_level1
  have h2 := of_decide_eq_true easy_le1
  unfold mayP mayV
  generalize headLevel easyB.h = y at h1 h2
  simp
  omega
theorem easy_prefix : prefixOf (levelsOf [easyB0, easyB]) 1 1 = ([0], true) := by
  unfold prefixOf
  rw [easy_lvs, if_pos easy_mayP, climb_easy _ 32 (Nat.le_refl _), if_neg (by decide)]
  simp [sortInts]
theorem easy_prE : prE [easyB0, easyB] 1 1 = 0 := by
  unfold prE
  rw [easy_chain1, if_neg (by decide), if_neg (by decide)]
theorem easy_pr : prOf [easyB0, easyB] 1 1 = easyP := by
  unfold prOf
  rw [if_pos easy_prE]
  unfold placesOf
  rw [easy_prefix]
  rfl
theorem easy_lkroot : linkRoot [id0] = easyB.h.links := (root_one _).trans easy_lk
theorem easy_check : checkP easyP = 0 := by
  have ei : idsP easyP = [id0, headId easyB.h] := by show [headId easyH, headId easyB.h] = _; rw [easy_id]
  unfold checkP
  rw [if_neg (by decide), if_neg (by decide), if_neg (by
    rintro (h | h | h)
    · exact absurd (show tgtOk 545259519 = true from easy_ok) (by rw [show tgtOk 545259519 = false from h]; decide)
    · exact absurd h (by decide)
    · exact h (show easyH = (firstTip 545259519).b.h by rw [easy_tip]; rfl)), ei]
  show (if _ then _ else _) = _
  have hf : firstC three ⟨easyP, [id0, headId easyB.h], ((1 : Nat) : Int)⟩ = 0 := by
    rw [firstC_three]
    have e1 : prevC ⟨easyP, [id0, headId easyB.h], ((1 : Nat) : Int)⟩ = 0 := prevC_no (y := ⟨easyB.h, [id0]⟩) (z := ⟨easyH, []⟩) (d := id0) rfl rfl rfl (by
      rintro (h | h | ⟨_, h | h⟩)
      · exact absurd h (by decide)
      · exact h rfl
      · exact h rfl
      · exact h rfl)
    have e2 : linkC ⟨easyP, [id0, headId easyB.h], ((1 : Nat) : Int)⟩ = 0 := linkC_no (y := ⟨easyB.h, [id0]⟩) (c := id0) (d := id0) rfl rfl rfl (by
      rintro (h | h | h | h | h)
      · exact absurd h (by decide)
      · exact absurd h (by decide)
      · exact h rfl
      · rw [show leadsB [id0] easyB.h.prev id0 = true by unfold leadsB; rw [decide_eq_true (show easyB.h.prev = id0 from rfl)]; rfl] at h; cases h
      · exact h easy_lkroot)
    have e3 : workC ⟨easyP, [id0, headId easyB.h], ((1 : Nat) : Int)⟩ = 0 := by
      unfold workC workF
      rw [yOf_at (y := ⟨easyB.h, [id0]⟩) rfl, if_neg (fun h => h easy_may1)]
    rw [if_neg (fun h => h e1), if_neg (fun h => h e2), e3]
  rw [if_pos hf]; rfl
theorem zero_check : checkP zProof = 1 := by unfold checkP; rw [if_pos (.inl (by decide))]
def yAt (p : Proof) (i : Nat) : Part := p.p.getD i zPartD
def stepOk (p : Proof) (i : Nat) : Prop :=
  prevF (yAt p i) (yAt p (i - 1)) ((p.p.length : Int) - p.k ≤ (i : Int)) (headId (yAt p (i - 1)).h) = 0 ∧ linkF (yAt p i) (headId (yAt p 0).h) (headId (yAt p (i - 1)).h) = 0 ∧ workF (yAt p i) = 0
def beginOk (a : Part) : Prop := tgtOk a.h.bits = true ∧ a.l.length = 0 ∧ a.h = (firstTip a.h.bits).b.h
structure HoldsP (p : Proof) : Prop where
  m1 : 1 ≤ p.m
  m2 : p.m ≤ 20
  k1 : 1 ≤ p.k
  k2 : p.k ≤ 20
  l1 : p.k < p.p.length
  l2 : p.p.length ≤ 100
  fst : beginOk (yAt p 0)
  steps : ∀ i, 1 ≤ i → i < p.p.length → stepOk p i
theorem prevF_zero {y z : Part} {last : Prop} [Decidable last] {d : Ab.Id} : prevF y z last d = 0 ↔ z.h.height < y.h.height ∧ y.h.bits = z.h.bits ∧ (last → y.h.height = IntKind.i64.wrap (z.h.height + 1) ∧ y.h.prev = d) := by
  unfold prevF
  constructor
  · intro h
    have hn : ¬ (y.h.height ≤ z.h.height ∨ ¬ y.h.bits = z.h.bits ∨ last ∧ (¬ y.h.height = IntKind.i64.wrap (z.h.height + 1) ∨ ¬ y.h.prev = d)) := fun c => by rw [if_pos c] at h; cases h
    refine ⟨Int.not_le.1 fun c => hn (.inl c), Classical.not_not.1 fun c => hn (.inr (.inl c)), fun hl => ⟨Classical.not_not.1 fun c => hn (.inr (.inr ⟨hl, .inl c⟩)), Classical.not_not.1 fun c => hn (.inr (.inr ⟨hl, .inr c⟩))⟩⟩
  · rintro ⟨h1, h2, h3⟩
    rw [if_neg]
    rintro (c | c | ⟨hl, c | c⟩)
    · omega
    · exact c h2
    · exact c (h3 hl).1
    · exact c (h3 hl).2
theorem linkF_zero {y : Part} {c d : Ab.Id} : linkF y c d = 0 ↔ 1 ≤ y.l.length ∧ y.l.length ≤ 32 ∧ y.l.getD 0 zId = c ∧ leadsB y.l y.h.prev d = true ∧ linkRoot y.l = y.h.links := by
  unfold linkF
  constructor
  · intro h
    have hn : ¬ (y.l.length = 0 ∨ 32 < y.l.length ∨ ¬ y.l.getD 0 zId = c ∨ leadsB y.l y.h.prev d = false ∨ ¬ linkRoot y.l = y.h.links) := fun c => by rw [if_pos c] at h; cases h
    refine ⟨Nat.one_le_iff_ne_zero.2 fun e => hn (.inl e), Nat.not_lt.1 fun e => hn (.inr (.inl e)), Classical.not_not.1 fun e => hn (.inr (.inr (.inl e))), ?_, Classical.not_not.1 fun e => hn (.inr (.inr (.inr (.inr e))))⟩
    cases e : leadsB y.l y.h.prev d
    · exact absurd (.inr (.inr (.inr (.inl e)))) hn
    · rfl
  · rintro ⟨h1, h2, h3, h4, h5⟩
    rw [if_neg]
    rintro (e | e | e | e | e)
    · omega
    · omega
    · exact e h3
    · rw [h4] at e; cases e
    · exact e h5
theorem workF_zero {y : Part} : workF y = 0 ↔ headMay y.h = true := by
  unfold workF
  by_cases h : headMay y.h = true
  · rw [if_neg (show ¬ ¬ headMay y.h = true from fun c => c h)]; simp [h]
  · rw [if_pos (show ¬ headMay y.h = true from h)]; simp [h]
theorem trials_zero {p : Proof} {ids : List Ab.Id} : ∀ (n i : Nat), trialsE p ids n i = 0 ↔ ∀ j, i ≤ j → j < i + n → firstC three ⟨p, ids, j⟩ = 0
  | 0, i => by simp [trialsE]; intro j h1 h2; omega
  | n + 1, i => by
    show (if firstC three ⟨p, ids, i⟩ = 0 then trialsE p ids n (i + 1) else firstC three ⟨p, ids, i⟩) = 0 ↔ _
    by_cases c : firstC three ⟨p, ids, i⟩ = 0
    · rw [if_pos c, trials_zero n (i + 1)]
      constructor
      · intro h j h1 h2
        by_cases e : j = i
        · rw [e]; exact c
        · exact h j (by omega) (by omega)
      · intro h j h1 h2; exact h j (by omega) (by omega)
    · rw [if_neg c]
      exact ⟨fun h => absurd h c, fun h => h i (Nat.le_refl _) (by omega)⟩
theorem ids_at (p : Proof) {i : Nat} (h : i < p.p.length) : (idsP p)[i]? = some (headId (yAt p i).h) := by
  unfold idsP yAt
  rw [List.getElem?_map, List.getElem?_eq_getElem h]
  simp [h]
theorem at_ (p : Proof) {i : Nat} (h : i < p.p.length) : p.p[i]? = some (yAt p i) := by unfold yAt; rw [List.getElem?_eq_getElem h]; simp [h]
theorem first_zero (p : Proof) {i : Nat} (h1 : 1 ≤ i) (h : i < p.p.length) : firstC three ⟨p, idsP p, (i : Int)⟩ = 0 ↔ stepOk p i := by
  rw [firstC_three]
  have e1 : prevC ⟨p, idsP p, (i : Int)⟩ = prevF (yAt p i) (yAt p (i - 1)) ((p.p.length : Int) - p.k ≤ (i : Int)) (headId (yAt p (i - 1)).h) := by
    unfold prevC
    rw [yOf_at (y := yAt p i) (at_ p h), zOf_at (y := yAt p (i - 1)) (at_ p (i := i - 1) (by omega)), dOf_at (ids_at p (i := i - 1) (by omega))]
  have e2 : linkC ⟨p, idsP p, (i : Int)⟩ = linkF (yAt p i) (headId (yAt p 0).h) (headId (yAt p (i - 1)).h) := by
    unfold linkC
    rw [yOf_at (y := yAt p i) (at_ p h), cOf_at (ids_at p (i := 0) (by omega)), dOf_at (ids_at p (i := i - 1) (by omega))]
  have e3 : workC ⟨p, idsP p, (i : Int)⟩ = workF (yAt p i) := by
    unfold workC
    rw [yOf_at (y := yAt p i) (at_ p h)]
  rw [e1, e2, e3]
  unfold stepOk
  generalize prevF (yAt p i) (yAt p (i - 1)) ((p.p.length : Int) - p.k ≤ (i : Int)) (headId (yAt p (i - 1)).h) = a
  generalize linkF (yAt p i) (headId (yAt p 0).h) (headId (yAt p (i - 1)).h) = b
  by_cases ha : a = 0
  · by_cases hb : b = 0
    · simp [ha, hb]
    · simp [ha, hb]
  · simp [ha]
theorem checkP_holds {p : Proof} : checkP p = 0 ↔ HoldsP p := by
  have ey : p.p.getD 0 zPartD = yAt p 0 := rfl
  unfold checkP
  rw [ey]
  constructor
  · intro h
    by_cases c1 : p.m < 1 ∨ 20 < p.m ∨ p.k < 1 ∨ 20 < p.k
    · rw [if_pos c1] at h; cases h
    rw [if_neg c1] at h
    by_cases c2 : 100 < p.p.length ∨ (p.p.length : Int) ≤ p.k
    · rw [if_pos c2] at h; cases h
    rw [if_neg c2] at h
    by_cases c3 : tgtOk (yAt p 0).h.bits = false ∨ 0 < (yAt p 0).l.length ∨ ¬ (yAt p 0).h = (firstTip (yAt p 0).h.bits).b.h
    · rw [if_pos c3] at h; cases h
    rw [if_neg c3, trials_zero] at h
    refine ⟨by omega, by omega, by omega, by omega, by omega, by omega, ⟨?_, by omega, Classical.not_not.1 fun e => c3 (.inr (.inr e))⟩, fun i h1 h2 => (first_zero p h1 h2).1 (h i h1 (by omega))⟩
    cases e : tgtOk (yAt p 0).h.bits
    · exact absurd (.inl e) c3
    · rfl
  · intro h
    have := h.m1; have := h.m2; have := h.k1; have := h.k2; have := h.l1; have := h.l2
    rw [if_neg (by omega), if_neg (by omega), if_neg (by
      rintro (e | e | e)
      · rw [h.fst.1] at e; cases e
      · have := h.fst.2.1; omega
      · exact e h.fst.2.2), trials_zero]
    exact fun i h1 h2 => (first_zero p h1 (by omega)).2 (h.steps i h1 (by omega))
theorem HoldsP.step {p : Proof} (h : HoldsP p) {i : Nat} (h1 : 1 ≤ i) (h2 : i < p.p.length) :
    (yAt p (i - 1)).h.height < (yAt p i).h.height ∧ (yAt p i).h.bits = (yAt p (i - 1)).h.bits ∧ ((p.p.length : Int) - p.k ≤ (i : Int) → (yAt p i).h.height = IntKind.i64.wrap ((yAt p (i - 1)).h.height + 1) ∧ (yAt p i).h.prev = headId (yAt p (i - 1)).h) := prevF_zero.1 (h.steps i h1 h2).1
theorem HoldsP.link {p : Proof} (h : HoldsP p) {i : Nat} (h1 : 1 ≤ i) (h2 : i < p.p.length) :
    1 ≤ (yAt p i).l.length ∧ (yAt p i).l.length ≤ 32 ∧ (yAt p i).l.getD 0 zId = headId (yAt p 0).h ∧ leadsB (yAt p i).l (yAt p i).h.prev (headId (yAt p (i - 1)).h) = true ∧ linkRoot (yAt p i).l = (yAt p i).h.links := linkF_zero.1 (h.steps i h1 h2).2.1
theorem HoldsP.may {p : Proof} (h : HoldsP p) {i : Nat} (h1 : 1 ≤ i) (h2 : i < p.p.length) : headMay (yAt p i).h = true := workF_zero.1 (h.steps i h1 h2).2.2
theorem first_height (bits : UInt32) : (firstTip bits).b.h.height = 0 := by
  unfold firstTip
  split <;> rfl
theorem HoldsP.zero {p : Proof} (h : HoldsP p) : (yAt p 0).h.height = 0 := by rw [h.fst.2.2]; exact first_height _
theorem HoldsP.rise {p : Proof} (h : HoldsP p) : ∀ i, i < p.p.length → 0 ≤ (yAt p i).h.height
  | 0, _ => by rw [h.zero]; exact Int.le_refl _
  | i + 1, hi => by
    have := h.rise i (by omega)
    have := (h.step (i := i + 1) (by omega) hi).1
    rw [Nat.add_sub_cancel] at this
    omega
theorem HoldsP.bits {p : Proof} (h : HoldsP p) : ∀ i, i < p.p.length → (yAt p i).h.bits = (yAt p 0).h.bits
  | 0, _ => rfl
  | i + 1, hi => by
    have := (h.step (i := i + 1) (by omega) hi).2.1
    rw [Nat.add_sub_cancel] at this
    rw [this]; exact h.bits i (by omega)
theorem fact_proof {p : Proof} {ρ : Nat → Value} {B : Nat → Prop} {U N : Nat → Prop} {w : World} {v : Value} (h : (AV.val proofT p).rel ρ B U N w v) : ∀ x ∈ p.p, -9223372036854775808 ≤ x.h.height ∧ x.h.height ≤ 9223372036854775807 := by
  obtain ⟨cs, ⟨c1, c2, _, _, c3, c4, _, _, a, cap, _, _, _, h3⟩, _⟩ := h
  intro x hx
  obtain ⟨i, hi⟩ := List.getElem?_of_mem hx
  obtain ⟨ad, ds, _, _, hr, _⟩ := h3 (List.ne_nil_of_mem hx)
  obtain ⟨d1, d2, _, ⟨e1, e2, _, hh, _⟩, _⟩ := hr.get hi
  exact i64_in.1 hh.2
theorem fewPr_len {p : Proof} (h : fewPr p = true) : p.p.length ≤ 110 := by
  unfold fewPr at h
  rw [Bool.and_eq_true, decide_eq_true_eq] at h
  exact h.2
def cutP (p : Proof) (i : Nat) : Proof := ⟨p.m, p.k, p.p.take i ++ p.p.drop (i + 1)⟩
theorem cut_lo {p : Proof} {i j : Nat} (hj : j < i) (hi : i < p.p.length) : yAt (cutP p i) j = yAt p j := by
  unfold yAt cutP
  simp only [List.getD_eq_getElem?_getD]
  rw [List.getElem?_append_left (by simp; omega), List.getElem?_take, if_pos hj]
theorem cut_hi {p : Proof} {i j : Nat} (hj : i ≤ j) (hi : i < p.p.length) : yAt (cutP p i) j = yAt p (j + 1) := by
  unfold yAt cutP
  simp only [List.getD_eq_getElem?_getD]
  rw [List.getElem?_append_right (by simp; omega), List.getElem?_drop]
  congr 2
  simp; omega
theorem cut_len {p : Proof} {i : Nat} (hi : i < p.p.length) : (cutP p i).p.length = p.p.length - 1 := by unfold cutP; simp; omega
theorem check_less {p : Proof} {i : Nat} (h : HoldsP p) (h1 : 1 ≤ i) (h2 : (i : Int) < (p.p.length : Int) - p.k - 1) :
    HoldsP (cutP p i) ↔ leadsB (yAt p (i + 1)).l (yAt p (i + 1)).h.prev (headId (yAt p (i - 1)).h) = true := by
  have hk1 := h.k1
  have hk2 := h.k2
  have hl1 := h.l1
  have hl2 := h.l2
  have hlen := cut_len (p := p) (i := i) (by omega)
  have e0 : yAt (cutP p i) 0 = yAt p 0 := cut_lo (by omega) (by omega)
  have ei : yAt (cutP p i) i = yAt p (i + 1) := cut_hi (Nat.le_refl _) (by omega)
  have ei1 : yAt (cutP p i) (i - 1) = yAt p (i - 1) := cut_lo (by omega) (by omega)
  have ek : (cutP p i).k = p.k := rfl
  constructor
  · intro hc
    have := (hc.link (i := i) h1 (by omega)).2.2.2.1
    rwa [ei, ei1] at this
  · intro hleads
    refine ⟨h.m1, h.m2, h.k1, h.k2, by rw [ek, hlen]; omega, by rw [hlen]; omega, by rw [e0]; exact h.fst, fun j j1 j2 => ?_⟩
    rw [hlen] at j2
    unfold stepOk
    rw [e0, hlen, ek]
    rcases Nat.lt_trichotomy j i with c | c | c
    · rw [cut_lo (p := p) (i := i) (j := j) c (by omega), cut_lo (p := p) (i := i) (j := j - 1) (by omega) (by omega)]
      have hs := h.step (i := j) j1 (by omega)
      exact ⟨prevF_zero.2 ⟨hs.1, hs.2.1, fun hl => by omega⟩, (h.steps j j1 (by omega)).2.1, (h.steps j j1 (by omega)).2.2⟩
    · subst c
      rw [ei, ei1]
      have hs := h.step (i := j) j1 (by omega)
      have hs' := h.step (i := j + 1) (by omega) (by omega)
      rw [Nat.add_sub_cancel] at hs'
      have hk := h.link (i := j + 1) (by omega) (by omega)
      exact ⟨prevF_zero.2 ⟨by omega, hs'.2.1.trans hs.2.1, fun hl => by omega⟩, linkF_zero.2 ⟨hk.1, hk.2.1, hk.2.2.1, hleads, hk.2.2.2.2⟩, (h.steps (j + 1) (by omega) (by omega)).2.2⟩
    · rw [cut_hi (p := p) (i := i) (j := j) (by omega) (by omega), cut_hi (p := p) (i := i) (j := j - 1) (by omega) (by omega), show j - 1 + 1 = j by omega]
      have hs := h.steps (j + 1) (by omega) (by omega)
      unfold stepOk at hs
      rw [Nat.add_sub_cancel] at hs
      refine ⟨?_, hs.2.1, hs.2.2⟩
      have h4 := prevF_zero.1 hs.1
      exact prevF_zero.2 ⟨h4.1, h4.2.1, fun hl => h4.2.2 (by omega)⟩
def otherP (p : Proof) (i : Nat) (g : Head) : Proof := ⟨p.m, p.k, p.p.set i ⟨g, (yAt p i).l⟩⟩
theorem other_at {p : Proof} {i : Nat} {g : Head} (hi : i < p.p.length) : yAt (otherP p i g) i = ⟨g, (yAt p i).l⟩ := by
  show (p.p.set i ⟨g, (yAt p i).l⟩).getD i zPartD = _
  generalize (yAt p i).l = l
  simp [hi]
theorem other_ne {p : Proof} {i j : Nat} {g : Head} (hj : j ≠ i) : yAt (otherP p i g) j = yAt p j := by
  unfold yAt otherP
  simp only [List.getD_eq_getElem?_getD]
  rw [List.getElem?_set_ne (fun e => hj e.symm)]
theorem other_len {p : Proof} {i : Nat} {g : Head} : (otherP p i g).p.length = p.p.length := by unfold otherP; simp
theorem check_other {p : Proof} {i : Nat} {g : Head} (h : HoldsP p) (h1 : 1 ≤ i) (h2 : i < p.p.length)
    (hg : (∃ b, g = { (yAt p i).h with bits := b }) ∨ (p.p.length : Int) - p.k ≤ (i : Int) ∧ ((∃ b, g = { (yAt p i).h with prev := b }) ∨ ∃ b, g = { (yAt p i).h with height := b }) ∨ g = (yAt p i).h) :
    g = (yAt p i).h ∨ ¬ checkP (otherP p i g) = 0 := by
  by_cases hc : checkP (otherP p i g) = 0
  · left
    have hq := checkP_holds.1 hc
    have hs := h.step h1 h2
    have hs' := hq.step h1 (by rw [other_len]; exact h2)
    rw [other_at h2, other_ne (show i - 1 ≠ i by omega), other_len] at hs'
    have ek : (otherP p i g).k = p.k := rfl
    rw [ek] at hs'
    rcases hg with ⟨b, rfl⟩ | ⟨hl, ⟨b, rfl⟩ | ⟨b, rfl⟩⟩ | rfl
    · have e : b = (yAt p i).h.bits := hs'.2.1.trans hs.2.1.symm
      rw [e]
    · have e : b = (yAt p i).h.prev := (hs'.2.2 hl).2.trans (hs.2.2 hl).2.symm
      rw [e]
    · have e : b = (yAt p i).h.height := (hs'.2.2 hl).1.trans (hs.2.2 hl).1.symm
      rw [e]
    · rfl
  · exact .inr hc
theorem split_proofV (p : Proof) : SplitOk proofT p [.val i64T p.m, .val i64T p.k, .val (sl partT) p.p] := split_via (split_pair split_one (split_pair split_one split_one))
theorem less_ret {a : Int} {b : Bool} (h : a = 0 ↔ b = true) : (decide (IntL.toI i64T a = IntL.toI i64T 0) == b) = true := by
  by_cases c : a = 0
  · rw [h.1 c, c]; rfl
  · have : b = false := by
      cases b
      · rfl
      · exact absurd (h.2 rfl) c
    rw [this]
    simp [IntL.toI, c]
theorem two_ok : Tells P 29 [] (.val (sl blockT) [easyB0, easyB]) := by
 refine fn_of_aw Tryz.func29 rfl rfl rfl (fun ext w hext => ?_)
 refine CQR ?_; refine A0 aL ?_; refine CNQR ?_; refine A0 (oCl (newC_ok 545259519) rfl fn_67 ⟨(arg_v rfl), trivial⟩) ?_; refine A0 mX ?_; refine A0 (by first | exact g_x20 rfl rfl | exact g_x30 rfl rfl) ?_
 refine aw_reval (d := 7) (y := [easyB0]) rfl easy_newOf ?_; refine A0 (by first | exact g_x21 rfl rfl | exact g_x31 rfl rfl) ?_; refine A0 aV ?_; refine A0 aV ?_; refine CNQR ?_; refine A0 mV ?_
 refine A0 (oCl (tells_pub2 (growC_ok [easyB0] [] 0 small_easyC0 ⟨by decide, fun t ht => by cases ht⟩)) rfl fn_68 ⟨(arg_v rfl), (by first | exact arg_same rfl | exact arg_bsl rfl | exact arg_own rfl rfl | exact arg_nil rfl | exact arg_rptr rfl | exact arg_fn rfl rfl | exact arg_lit rfl), (arg_v rfl), trivial⟩) ?_
 refine A0 mX ?_; refine A0 (by first | exact g_x20 rfl rfl | exact g_x30 rfl rfl) ?_; refine aw_reval (d := 12) (y := [easyB0, easyB]) rfl easy_grown ?_; refine A0 (by first | exact g_x21 rfl rfl | exact g_x31 rfl rfl) ?_; refine A0 aV ?_
 refine A0 aV ?_; refine CNQR ?_; refine A0 mV ?_; refine A0 aV ?_; refine CN ?_
 exact aw_ret1 rfl rfl (ret_eq rfl (rfl))
end Go.Proofs.YtjldddonpfopaaaGreat
set_option maxRecDepth 20000
namespace Go.Proofs.YtjldddonpfopaaaGreat
set_option linter.unusedVariables false
set_option linter.unusedSimpArgs false
open Go.Ab Go.RowKit
theorem awake18_ok : Tells P 9 [] (.val boolT true) := by
 refine fn_of_aw Tryz.func9 rfl rfl rfl (fun ext w hext => ?_)
 have hw0 : (levelsP easyP)[0]? = some 31 := by show some (headLevel easyH) = _; rw [easy_level]
 have hw1 : (idsP easyP)[1]? = some (headId easyB.h) := rfl
 have hw2 : ([easyB0, easyB] : List Block)[1]? = some easyB := rfl
 refine CQR ?_; refine A0 aV ?_; refine CNQR ?_; refine A0 (oCl (two_ok) rfl fn_29 trivial) ?_; refine A0 aV ?_; refine CNQR ?_; refine A0 mV ?_
 refine A0 (oCl (prBuild_ok [easyB0, easyB] 1 1 small_easyC) rfl fn_30 ⟨(arg_v rfl), (arg_v rfl), (arg_v rfl), trivial⟩) ?_; refine A0 mX ?_; refine A0 (by first | exact g_x20 rfl rfl | exact g_x30 rfl rfl) ?_
 refine aw_reval (d := 10) (y := easyP) rfl easy_pr ?_; refine A0 (by first | exact g_x21 rfl rfl | exact g_x31 rfl rfl) ?_; refine aw_reval (d := 11) (y := (0 : Int)) rfl easy_prE ?_; refine aw_alloc ze_24 rfl rfl rfl rfl ?_
 refine aw_store_b rfl rfl rfl rfl rfl (Lens.self _) ty_24 rfl ?_; refine A0 aV ?_; refine CNQQR ?_; refine A0 mV ?_; refine A0 o_neq ?_; refine A0 mV ?_; refine aw_isf (d := 14) rfl (rfl) ?_; refine A1 (oFp fd_24_2) ?_
 refine A1 (oLb L_Proof_p ty_22) ?_; refine A1 (g_len rfl rfl isl_22) ?_; refine A1 o_neq ?_; refine A0 oK ?_; refine A0 mV ?_; refine aw_isf (d := 20) rfl (rfl) ?_; refine A1 (oLs rfl rfl rfl ty_24) ?_
 refine A1 (oCl (checkP_ok easyP) rfl fn_11 ⟨(arg_v rfl), trivial⟩) ?_; refine A1 o_neq ?_; refine A0 oK ?_; refine A0 mV ?_; refine aw_isf (d := 25) rfl (by rw [easy_check]; rfl) ?_; refine A1 (g_build rfl ze_24 bd_24 .nil rfl) ?_
 refine A1 (oCl (checkP_ok zProof) rfl fn_11 ⟨(arg_v rfl), trivial⟩) ?_; refine A1 o_neq ?_; refine A0 oK ?_; refine CN ?_; refine aw_if_f rfl (by rw [zero_check]; rfl) ?_; refine CSQR ?_; refine A0 (oLs rfl rfl rfl ty_24) ?_
 refine A0 (oCl (tells_pub (levelsP_ok easyP (by decide))) rfl fn_12 ⟨(arg_v rfl), trivial⟩) ?_; refine A0 aV ?_; refine CNQR ?_; refine A0 (oLs rfl rfl rfl ty_24) ?_
 refine A0 (oCl (tells_pub (ids_ok easyP (by decide))) rfl fn_20 ⟨(arg_v rfl), trivial⟩) ?_; refine A0 aV ?_; refine CNQ ?_; refine CD mixed ?_; refine G0 mV ?_; refine G0 (g_len rfl rfl isl_29) ?_; refine G0 o_eql ?_; refine G0 mV ?_
 refine GK_ist (d := 37) rfl (rfl) ?_; refine G1 mV ?_; refine G1 (g_ia_i (i := 0) rfl rfl rfl (by omega) sl_29 (by assumption)) ?_; refine G1 (g_load_r rfl rfl ty_3) ?_; refine G1 o_eql ?_; refine G0 oK ?_; refine G0 mV ?_
 refine GK_ist (d := 43) rfl (rfl) ?_; refine G1 mV ?_; refine G1 (g_len rfl rfl isl_39) ?_; refine G1 o_eql ?_; refine G0 oK ?_; refine G0 mV ?_; refine GK_ist (d := 48) rfl (rfl) ?_; refine G1 mV ?_
 refine G1 (g_ia_i (i := 1) rfl rfl rfl (by omega) sl_39 (by assumption)) ?_; refine G1 (g_load_r rfl rfl ty_32) ?_; refine G1 mV ?_; refine G1 (g_ia_i (i := 1) rfl rfl rfl (by omega) sl_52 (by assumption)) ?_
 refine G1 (oFr fd_60_0 L_Block_h) ?_; refine G1 (g_load_r rfl rfl ty_38) ?_
 refine G1 (oCl (headId_ok easyB.h) rfl fn_14 ⟨(by first | exact arg_same rfl | exact arg_bsl rfl | exact arg_own rfl rfl | exact arg_nil rfl | exact arg_rptr rfl | exact arg_fn rfl rfl | exact arg_lit rfl), trivial⟩) ?_
 refine G1 (g_eqlS rfl rfl rfl (eqt_32)) ?_; refine G0 oK ?_; refine G0 mV ?_; refine GK_ist (d := 59) rfl (by simp) ?_; refine G1 mV ?_; refine G1 (g_ia_i (i := 1) rfl rfl rfl (by omega) sl_39 (by assumption)) ?_
 refine G1 (g_load_r rfl rfl ty_32) ?_; refine G1 (g_buildZ rfl ar_32 ze_32 rfl) ?_; refine G1 (g_neqS rfl rfl rfl (eqt_32)) ?_; refine G0 oK ?_; refine G0 aV ?_; refine GK.nil ?_
 exact aw_ret1 rfl rfl (ret_eq rfl (by rw [easy_nz]; rfl))
theorem CheckParts_ok (p : Proof) (i : Int) : Tells P 3 [.val proofT p, .val i64T i] (.val boolT true) := by
 refine fn_of_aw Tryz.func3 rfl rfl rfl (fun ext w hext => ?_)
 refine aw_fact (d := 1) rfl fact_int (fun hin1 => ?_)
 refine aw_fact (d := 0) rfl fact_proof (fun hpr => ?_)
 refine CQR ?_; refine aw_box rfl rfl rfl rfl rfl ?_; refine A0 aV ?_; refine CNQR ?_; refine A0 (oCl (awake18_ok) rfl fn_9 trivial) ?_; refine A0 aV ?_; refine CNQR ?_; refine A0 (oLs rfl rfl rfl ty_24) ?_
 refine A0 (oCl (fewPr_ok p) rfl fn_10 ⟨(arg_v rfl), trivial⟩) ?_; refine A0 aV ?_; refine CNQQR ?_; refine A0 mV ?_; refine A0 oN ?_; refine A0 mV ?_; refine aw_isf (d := 14) rfl (rfl) ?_; refine A1 mV ?_; refine A1 oN ?_; refine A0 oK ?_
 refine A0 mV ?_
 refine aw_splitp (d := 18) (p := fewPr p = false) rfl (by cases fewPr p <;> rfl) (fun g18 => ?_) (fun g18 => ?_)
 ·
  refine A2 ?_; refine A2 ?_; refine A2 ?_; refine A0 oK ?_; refine CN ?_; refine Ct ?_; refine CQR ?_; refine A0 mV ?_; refine A0 aV ?_; refine CN ?_
  exact aw_ret1 rfl rfl (ret_eq rfl (rfl))
 ·
  have hfl := fewPr_len (by simpa using g18)
  refine A1 (oLs rfl rfl rfl ty_24) ?_; refine A1 (oCl (checkP_ok p) rfl fn_11 ⟨(arg_v rfl), trivial⟩) ?_; refine A1 o_neq ?_; refine A0 oK ?_; refine CN ?_
  refine aw_ifc (p := ¬ checkP p = 0) rfl (by simp [IntL.toI]) (fun ht22 => ?_) (fun ht22 => ?_)
  ·
   refine CQR ?_; refine A0 mV ?_; refine A0 aV ?_; refine CN ?_
   exact aw_ret1 rfl rfl (ret_eq rfl (rfl))
  ·
   have hh := checkP_holds.1 (Classical.not_not.1 ht22)
   have hx0 := at_ p (i := 0) (by have := hh.l1; have := hh.k1; omega)
   refine CSQR ?_; refine A0 (oLs rfl rfl rfl ty_24) ?_; refine A0 (oCl (tells_pub (levelsP_ok p (by omega))) rfl fn_12 ⟨(arg_v rfl), trivial⟩) ?_; refine A0 aV ?_; refine CNQQR ?_; refine A0 (oFp fd_24_2) ?_; refine A0 (oLb L_Proof_p ty_22) ?_
   refine A0 (g_len rfl rfl isl_22) ?_; refine A0 (oFp fd_24_1) ?_; refine A0 (oLb L_Proof_k ty_3) ?_; refine A0 o_leq ?_; refine A0 mV ?_
   refine aw_isf (d := 32) rfl (decide_eq_false (by have := hh.l1; show ¬ ((p.p.length : Int) ≤ p.k); omega)) ?_; refine A1 mV ?_; refine A1 (g_len rfl rfl isl_29) ?_; refine A1 (oFp fd_24_2) ?_; refine A1 (oLb L_Proof_p ty_22) ?_
   refine A1 (g_len rfl rfl isl_22) ?_; refine A1 o_neq ?_; refine A0 oK ?_; refine A0 mV ?_; refine aw_isf (d := 40) rfl (by unfold levelsP; simp [IntL.toI]) ?_; refine A1 (oFp fd_24_2) ?_; refine A1 (oLb L_Proof_p ty_22) ?_
   refine A1 (g_ia_i (i := 0) rfl rfl rfl (by omega) sl_22 (by assumption)) ?_; refine A1 (oFr fd_41_0 L_Part_h) ?_; refine A1 (oFr fd_38_0 L_Head_height) ?_; refine A1 (g_load_r rfl rfl ty_3) ?_; refine A1 o_neq ?_; refine A0 oK ?_
   refine CN ?_; refine aw_if_f rfl (by simp [IntL.toI, hh.zero]) ?_; refine CSQQR ?_; refine A0 mV ?_; refine A0 o_lss ?_; refine A0 mV ?_
   refine Sp (d := 51) (p := i < 1) (fun g51 => ?_) (fun g51 => ?_)
   ·
    refine A2 ?_; refine A2 ?_; refine A2 ?_; refine A2 ?_; refine A2 ?_; refine A0 oK ?_; refine CN ?_; refine Ct ?_; refine CQR ?_; refine A0 aV ?_; refine CN ?_
    exact aw_ret1 rfl rfl (ret_eq rfl (rfl))
   ·
    refine A1 mV ?_; refine A1 (oFp fd_24_2) ?_; refine A1 (oLb L_Proof_p ty_22) ?_; refine A1 (g_len rfl rfl isl_22) ?_; refine A1 o_geq ?_; refine A0 oK ?_; refine CN ?_
    refine Cf (p := (p.p.length : Int) ≤ i) (fun ht57 => ?_) (fun ht57 => ?_)
    ·
     refine CQR ?_; refine A0 aV ?_; refine CN ?_
     exact aw_ret1 rfl rfl (ret_eq rfl (rfl))
    ·
     have hl1 := hh.l1; have hk1 := hh.k1; have hk2 := hh.k2
     have hxi := at_ p (i := i.toNat) (by omega)
     have hxz := at_ p (i := i.toNat - 1) (by omega)
     have hst := hh.step (i := i.toNat) (by omega) (by omega)
     have hri := hh.rise (i.toNat - 1) (by omega)
     have hrg := hpr _ (List.mem_of_getElem? hxi)
     have hv : (levelsP p)[i.toNat]? = some (headLevel (yAt p i.toNat).h) := by unfold levelsP; rw [List.getElem?_map, hxi]; rfl
     refine CS ?_; refine CQ ?_; refine CD mixed ?_; refine G0 (oFp fd_24_2) ?_; refine G0 (oLb L_Proof_p ty_22) ?_; refine G0 mV ?_; refine G0 (g_ia_i (i := i.toNat) rfl rfl rfl (by omega) sl_22 (by assumption)) ?_
     refine G0 (oFr fd_41_0 L_Part_h) ?_; refine G0 (oFr fd_38_0 L_Head_height) ?_; refine G0 (g_load_r rfl rfl ty_3) ?_; refine G0 (oFp fd_24_2) ?_; refine G0 (oLb L_Proof_p ty_22) ?_; refine G0 mV ?_; refine G0 o_sub ?_
     refine G0 (g_ia_i (i := i.toNat - 1) rfl rfl rfl (by omega) sl_22 (by assumption)) ?_; refine G0 (oFr fd_41_0 L_Part_h) ?_; refine G0 (oFr fd_38_0 L_Head_height) ?_; refine G0 (g_load_r rfl rfl ty_3) ?_; refine G0 o_sub ?_; refine G0 aV ?_
     refine GK.nil ?_; refine CQ ?_; refine CD mixed ?_; refine G0 mV ?_; refine G0 o_geq ?_; refine G0 mV ?_; refine GK_ist (d := 76) rfl (decide_eq_true (by simp only [IntL.toI, id_eq]; omega)) ?_; refine G1 mV ?_; refine G1 (oFp fd_24_2) ?_
     refine G1 (oLb L_Proof_p ty_22) ?_; refine G1 (g_len rfl rfl isl_22) ?_; refine G1 (oFp fd_24_1) ?_; refine G1 (oLb L_Proof_k ty_3) ?_; refine G1 o_sub ?_; refine G1 o_lss ?_; refine G1 mV ?_
     refine GK_splitp (d := 85) (p := i < (p.p.length : Int) - p.k) rfl (by first | rfl | (rw [decide_eq_decide]; simp only [IntL.toI, id_eq]; omega) | (simp [IntL.toI]; done) | (simp [IntL.toI]; omega)) (fun g85 => ?_) (fun g85 => ?_)
     ·
      refine G2 ?_; refine G2 ?_; refine G1 oK ?_; refine G0 oK ?_; refine G0 mV ?_; refine G1 (oFp fd_24_2) ?_; refine G1 (oLb L_Proof_p ty_22) ?_; refine G1 mV ?_; refine G1 (g_ia_i (i := i.toNat) rfl rfl rfl (by omega) sl_22 (by assumption)) ?_
      refine G1 (oFr fd_41_0 L_Part_h) ?_; refine G1 (oFr fd_38_6 L_Head_bits) ?_; refine G1 (g_load_r rfl rfl ty_36) ?_; refine G1 (oFp fd_24_2) ?_; refine G1 (oLb L_Proof_p ty_22) ?_
      refine G1 (g_ia_i (i := 0) rfl rfl rfl (by omega) sl_22 (by assumption)) ?_; refine G1 (oFr fd_41_0 L_Part_h) ?_; refine G1 (oFr fd_38_6 L_Head_bits) ?_; refine G1 (g_load_r rfl rfl ty_36) ?_; refine G1 o_eql ?_; refine G0 oK ?_
      refine G0 mV ?_; refine GK_ist (d := 106) rfl (by simp [toI_u32, hh.bits i.toNat (by omega)]) ?_; refine G1 mV ?_; refine G1 mV ?_; refine G1 (g_ia_i (i := i.toNat) rfl rfl rfl (by omega) sl_29 (by assumption)) ?_
      refine G1 (g_load_r rfl rfl ty_3) ?_; refine G1 o_geq ?_; refine G0 oK ?_; refine G0 mV ?_; refine GK_ist (d := 113) rfl (decide_eq_true (by simp only [IntL.toI, id_eq]; exact may_level (hh.may (i := i.toNat) (by omega) (by omega)))) ?_
      refine G1 (oFp fd_24_2) ?_; refine G1 (oLb L_Proof_p ty_22) ?_; refine G1 mV ?_; refine G1 (g_ia_i (i := i.toNat) rfl rfl rfl (by omega) sl_22 (by assumption)) ?_; refine G1 (oFr fd_41_1 L_Part_l) ?_; refine G1 (g_load_r rfl rfl ty_39) ?_
      refine G1 (by first | exact g_len rfl rfl isl_39 | exact g_len_o rfl rfl rfl isl_39 | exact g_len_nil rfl rfl isl_39) ?_; refine G1 o_geq ?_; refine G0 oK ?_; refine G0 aV ?_; refine GK.nil ?_
      exact aw_ret1 rfl rfl (ret_eq rfl (decide_eq_true (by have := (hh.link (i := i.toNat) (by omega) (by omega)).1; simp only [IntL.toI, id_eq]; omega)))
     ·
      have hw := (hst.2.2 (by omega)).1
      rw [wrap_eq (by omega)] at hw
      refine G1 mV ?_; refine G1 o_eql ?_; refine G1 oK ?_; refine G0 oK ?_; refine G0 mV ?_; refine GK_ist (d := 90) rfl (decide_eq_true (by simp only [IntL.toI, id_eq]; omega)) ?_; refine G1 (oFp fd_24_2) ?_; refine G1 (oLb L_Proof_p ty_22) ?_
      refine G1 mV ?_; refine G1 (g_ia_i (i := i.toNat) rfl rfl rfl (by omega) sl_22 (by assumption)) ?_; refine G1 (oFr fd_41_0 L_Part_h) ?_; refine G1 (oFr fd_38_6 L_Head_bits) ?_; refine G1 (g_load_r rfl rfl ty_36) ?_; refine G1 (oFp fd_24_2) ?_
      refine G1 (oLb L_Proof_p ty_22) ?_; refine G1 (g_ia_i (i := 0) rfl rfl rfl (by omega) sl_22 (by assumption)) ?_; refine G1 (oFr fd_41_0 L_Part_h) ?_; refine G1 (oFr fd_38_6 L_Head_bits) ?_; refine G1 (g_load_r rfl rfl ty_36) ?_
      refine G1 o_eql ?_; refine G0 oK ?_; refine G0 mV ?_; refine GK_ist (d := 106) rfl (by simp [toI_u32, hh.bits i.toNat (by omega)]) ?_; refine G1 mV ?_; refine G1 mV ?_
      refine G1 (g_ia_i (i := i.toNat) rfl rfl rfl (by omega) sl_29 (by assumption)) ?_; refine G1 (g_load_r rfl rfl ty_3) ?_; refine G1 o_geq ?_; refine G0 oK ?_; refine G0 mV ?_
      refine GK_ist (d := 113) rfl (decide_eq_true (by simp only [IntL.toI, id_eq]; exact may_level (hh.may (i := i.toNat) (by omega) (by omega)))) ?_; refine G1 (oFp fd_24_2) ?_; refine G1 (oLb L_Proof_p ty_22) ?_; refine G1 mV ?_
      refine G1 (g_ia_i (i := i.toNat) rfl rfl rfl (by omega) sl_22 (by assumption)) ?_; refine G1 (oFr fd_41_1 L_Part_l) ?_; refine G1 (g_load_r rfl rfl ty_39) ?_
      refine G1 (by first | exact g_len rfl rfl isl_39 | exact g_len_o rfl rfl rfl isl_39 | exact g_len_nil rfl rfl isl_39) ?_; refine G1 o_geq ?_; refine G0 oK ?_; refine G0 aV ?_; refine GK.nil ?_
      exact aw_ret1 rfl rfl (ret_eq rfl (decide_eq_true (by have := (hh.link (i := i.toNat) (by omega) (by omega)).1; simp only [IntL.toI, id_eq]; omega)))
theorem CheckLess_ok (p : Proof) (i : Int) : Tells P 4 [.val proofT p, .val i64T i] (.val boolT true) := by
 refine fn_of_aw Tryz.func4 rfl rfl rfl (fun ext w hext => ?_)
 refine aw_fact (d := 1) rfl fact_int (fun hin1 => ?_)
 refine CQR ?_; refine aw_box rfl rfl rfl rfl rfl ?_; refine A0 aV ?_; refine CNQR ?_; refine A0 (oCl (awake18_ok) rfl fn_9 trivial) ?_; refine A0 aV ?_; refine CNQR ?_; refine A0 (oLs rfl rfl rfl ty_24) ?_
 refine A0 (oCl (fewPr_ok p) rfl fn_10 ⟨(arg_v rfl), trivial⟩) ?_; refine A0 aV ?_; refine CNQQR ?_; refine A0 mV ?_; refine A0 oN ?_; refine A0 mV ?_; refine aw_isf (d := 14) rfl (rfl) ?_; refine A1 mV ?_; refine A1 oN ?_; refine A0 oK ?_
 refine A0 mV ?_
 refine aw_splitp (d := 18) (p := fewPr p = false) rfl (by cases fewPr p <;> rfl) (fun g18 => ?_) (fun g18 => ?_)
 ·
  refine A2 ?_; refine A2 ?_; refine A2 ?_; refine A0 oK ?_; refine A0 mV ?_; refine A2 ?_; refine A2 ?_; refine A0 oK ?_; refine A0 mV ?_; refine A2 ?_; refine A2 ?_; refine A2 ?_; refine A2 ?_; refine A2 ?_; refine A2 ?_; refine A2 ?_
  refine A2 ?_; refine A2 ?_; refine A0 oK ?_; refine CN ?_; refine Ct ?_; refine CQR ?_; refine A0 mV ?_; refine A0 aV ?_; refine CN ?_
  exact aw_ret1 rfl rfl (ret_eq rfl (rfl))
 ·
  have hfl := fewPr_len (by simpa using g18)
  refine A1 (oLs rfl rfl rfl ty_24) ?_; refine A1 (oCl (checkP_ok p) rfl fn_11 ⟨(arg_v rfl), trivial⟩) ?_; refine A1 o_neq ?_; refine A0 oK ?_; refine A0 mV ?_
  refine aw_splitp (d := 23) (p := ¬ checkP p = 0) rfl (by simp [IntL.toI]) (fun g23 => ?_) (fun g23 => ?_)
  ·
   refine A2 ?_; refine A2 ?_; refine A0 oK ?_; refine A0 mV ?_; refine A2 ?_; refine A2 ?_; refine A2 ?_; refine A2 ?_; refine A2 ?_; refine A2 ?_; refine A2 ?_; refine A2 ?_; refine A2 ?_; refine A0 oK ?_; refine CN ?_; refine Ct ?_
   refine CQR ?_; refine A0 mV ?_; refine A0 aV ?_; refine CN ?_
   exact aw_ret1 rfl rfl (ret_eq rfl (rfl))
  ·
   have hh := checkP_holds.1 (Classical.not_not.1 g23)
   have hl1 := hh.l1
   have hk1 := hh.k1
   have hk2 := hh.k2
   have hl2 := hh.l2
   refine A1 mV ?_; refine A1 o_lss ?_; refine A0 oK ?_; refine A0 mV ?_
   refine Sp (d := 27) (p := i < 1) (fun g27 => ?_) (fun g27 => ?_)
   ·
    refine A2 ?_; refine A2 ?_; refine A2 ?_; refine A2 ?_; refine A2 ?_; refine A2 ?_; refine A2 ?_; refine A2 ?_; refine A2 ?_; refine A0 oK ?_; refine CN ?_; refine Ct ?_; refine CQR ?_; refine A0 mV ?_; refine A0 aV ?_; refine CN ?_
    exact aw_ret1 rfl rfl (ret_eq rfl (rfl))
   ·
    refine A1 mV ?_; refine A1 (oFp fd_24_2) ?_; refine A1 (oLb L_Proof_p ty_22) ?_; refine A1 (g_len rfl rfl isl_22) ?_; refine A1 (oFp fd_24_1) ?_; refine A1 (oLb L_Proof_k ty_3) ?_; refine A1 o_sub ?_; refine A1 o_sub ?_; refine A1 o_geq ?_
    refine A0 oK ?_; refine CN ?_
    refine Cf (p := (p.p.length : Int) - p.k - 1 ≤ i) (fun ht37 => ?_) (fun ht37 => ?_)
    ·
     refine CQR ?_; refine A0 mV ?_; refine A0 aV ?_; refine CN ?_
     exact aw_ret1 rfl rfl (ret_eq rfl (rfl))
    ·
     have hxa := at_ p (i := i.toNat + 1) (by omega)
     have hxz := at_ p (i := i.toNat - 1) (by omega)
     have hless := check_less hh (i := i.toNat) (by omega) (by omega)
     refine CS ?_; refine CQ ?_; refine CD mixed ?_; refine G0 (oFp fd_24_2) ?_; refine G0 (oLb L_Proof_p ty_22) ?_; refine G0 mV ?_; refine G0 o_add ?_; refine G0 (g_ia_i (i := i.toNat + 1) rfl rfl rfl (by omega) sl_22 (by assumption)) ?_
     refine G0 (oFr fd_41_1 L_Part_l) ?_; refine G0 (g_load_r rfl rfl ty_39) ?_; refine G0 (oFp fd_24_2) ?_; refine G0 (oLb L_Proof_p ty_22) ?_; refine G0 mV ?_; refine G0 o_add ?_
     refine G0 (g_ia_i (i := i.toNat + 1) rfl rfl rfl (by omega) sl_22 (by assumption)) ?_; refine G0 (oFr fd_41_0 L_Part_h) ?_; refine G0 (oFr fd_38_1 L_Head_prev) ?_; refine G0 (g_load_r rfl rfl ty_32) ?_; refine G0 (oFp fd_24_2) ?_
     refine G0 (oLb L_Proof_p ty_22) ?_; refine G0 mV ?_; refine G0 o_sub ?_; refine G0 (g_ia_i (i := i.toNat - 1) rfl rfl rfl (by omega) sl_22 (by assumption)) ?_; refine G0 (oFr fd_41_0 L_Part_h) ?_; refine G0 (g_load_r rfl rfl ty_38) ?_
     refine G0 (oCl (headId_ok (yAt p (i.toNat - 1)).h) rfl fn_14 ⟨(by first | exact arg_same rfl | exact arg_bsl rfl | exact arg_own rfl rfl | exact arg_nil rfl | exact arg_rptr rfl | exact arg_fn rfl rfl | exact arg_lit rfl), trivial⟩) ?_
     refine G0 (oCl (leads_ok (yAt p (i.toNat + 1)).l (yAt p (i.toNat + 1)).h.prev (headId (yAt p (i.toNat - 1)).h)) rfl fn_13 ⟨(by first | exact arg_same rfl | exact arg_bsl rfl | exact arg_own rfl rfl | exact arg_nil rfl | exact arg_rptr rfl | exact arg_fn rfl rfl | exact arg_lit rfl), (by first | exact arg_same rfl | exact arg_bsl rfl | exact arg_own rfl rfl | exact arg_nil rfl | exact arg_rptr rfl | exact arg_fn rfl rfl | exact arg_lit rfl), (arg_v rfl), trivial⟩) ?_
     refine G0 aV ?_; refine GK.nil ?_; refine CQR ?_; refine A0 (oLs rfl rfl rfl ty_24) ?_; refine aw_alloc ze_24 rfl rfl rfl rfl ?_; refine aw_store_b rfl rfl rfl rfl rfl (Lens.self _) ty_24 rfl ?_; refine CN ?_
     refine aw_splitb 1 (x := p) (split_proofV p) rfl ?_; refine CQ ?_; refine aw_drawx [some 1, some 1, some 1, some 1, none, some 2, some 2, some 2, some 2, some 2, none, some 1, none] mixed (by decide +kernel) ?_; refine X0 (oFp fd_24_2) ?_
     refine X0 (oLb L_Proof_p ty_22) ?_; refine X0 mV ?_; refine X0 (by first | exact g_sl_nil rfl rfl rfl (by first | rfl | omega) sl_22 | exact g_sl_h rfl rfl rfl sl_22 (by first | assumption | omega | (simp; omega))) ?_
     refine XK.e (fun fr' hfr kk H => by exact aw_append0 rfl rfl rfl rfl rfl ((hfr 67 (by decide +kernel)).trans rfl) row_22 (by simp; omega) (aw_nil H)) ?_; refine XK.g2 (g_fa_p rfl rfl fd_24_2 rfl) (g_fa_p rfl rfl fd_24_2 rfl) rfl rfl rfl ?_
     refine XK.gb (t := 69) rfl rfl (fun _ he => g_load_b rfl rfl he L_Proof_p ty_22) rfl ⟨hpB rfl rfl, hpB rfl rfl, trivial⟩ rfl rfl rfl ?_; refine XK.g2 (g_mv (.inl rfl) rfl) (g_mv (.inl rfl) rfl) rfl rfl rfl ?_
     refine XK.g2 (by first | exact g_add rfl rfl rfl (wrap_eq (by first | omega | (simp; omega))) | exact g_add rfl rfl rfl rfl) (by first | exact g_add rfl rfl rfl (wrap_eq (by first | omega | (simp; omega))) | exact g_add rfl rfl rfl rfl) rfl rfl rfl ?_
     refine XK.g2 (g_sl_l rfl rfl rfl sl_22 (by first | assumption | omega | (simp; omega))) (g_sl_l rfl rfl rfl sl_22 (by first | assumption | omega | (simp; omega))) rfl rfl rfl ?_
     refine XK.e (fun fr' hfr kk H => by exact aw_append rfl rfl rfl rfl ((hfr 68 (by decide +kernel)).trans rfl) rfl ((hfr 73 (by decide +kernel)).trans rfl) row_22 (by simp; omega) (aw_nil H)) ?_; refine X0 (oFp fd_24_2) ?_
     refine XK.e (x := .idk) (fun fr' hfr kk H => by exact aw_store_p rfl rfl rfl ((hfr 75 (by decide +kernel)).trans rfl) rfl rfl ((hfr 74 (by decide +kernel)).trans rfl) rfl rfl rfl ty_22 (aw_nil H)) ?_; refine XK.nil' ?_; refine CQ ?_
     refine aw_rerow (n := 3) (y := p.p.take i.toNat ++ p.p.drop (i.toNat + 1)) rfl (by first | rfl | (congr 2; omega)) ?_; refine aw_joinb 1 3 [.val i64T p.m, .val i64T p.k] (z := cutP p i.toNat) (R := proofT) rfl rfl rfl join_proof ?_
     refine CR ?_; refine A0 (oLs rfl rfl rfl ty_24) ?_; refine A0 (oCl (checkP_ok (cutP p i.toNat)) rfl fn_11 ⟨(arg_v rfl), trivial⟩) ?_; refine A0 o_eql ?_; refine A0 mV ?_; refine A0 (g_eqlB rfl rfl rfl ub_4) ?_; refine A0 aV ?_; refine CN ?_
     exact aw_ret1 rfl rfl (ret_eq rfl (less_ret (checkP_holds.trans hless)))
theorem CheckOther_ok (p : Proof) (i : Int) (h : Head) (what : Int) : Tells P 5 [.val proofT p, .val i64T i, .val headT h, .val i64T what] (.val boolT true) := by
 refine fn_of_aw Tryz.func5 rfl rfl rfl (fun ext w hext => ?_)
 refine aw_fact (d := 1) rfl fact_int (fun hin1 => ?_)
 refine aw_fact (d := 3) rfl fact_int (fun hin3 => ?_)
 refine CQR ?_; refine aw_box rfl rfl rfl rfl rfl ?_; refine aw_box rfl rfl rfl rfl rfl ?_; refine A0 aV ?_; refine CNQR ?_; refine A0 (oCl (awake18_ok) rfl fn_9 trivial) ?_; refine A0 aV ?_; refine CNQR ?_
 refine A0 (oLs rfl rfl rfl ty_24) ?_; refine A0 (oCl (fewPr_ok p) rfl fn_10 ⟨(arg_v rfl), trivial⟩) ?_; refine A0 aV ?_; refine CNQQR ?_; refine A0 mV ?_; refine A0 oN ?_; refine A0 mV ?_; refine aw_isf (d := 18) rfl (rfl) ?_; refine A1 mV ?_
 refine A1 oN ?_; refine A0 oK ?_; refine A0 mV ?_
 refine aw_splitp (d := 22) (p := fewPr p = false) rfl (by cases fewPr p <;> rfl) (fun g22 => ?_) (fun g22 => ?_)
 ·
  refine A2 ?_; refine A2 ?_; refine A2 ?_; refine A0 oK ?_; refine A0 mV ?_; refine A2 ?_; refine A2 ?_; refine A0 oK ?_; refine A0 mV ?_; refine A2 ?_; refine A2 ?_; refine A2 ?_; refine A2 ?_; refine A2 ?_; refine A0 oK ?_; refine CN ?_
  refine Ct ?_; refine CQR ?_; refine A0 mV ?_; refine A0 aV ?_; refine CN ?_
  exact aw_ret1 rfl rfl (ret_eq rfl ((by first | rfl | (rcases check_other hh (i := i.toNat) (g := g) (by omega) (by omega) hgo with hq | hq; exact absurd hq g94; simp [hq, IntL.toI]))))
 ·
  have hfl := fewPr_len (by simpa using g22)
  refine A1 (oLs rfl rfl rfl ty_24) ?_; refine A1 (oCl (checkP_ok p) rfl fn_11 ⟨(arg_v rfl), trivial⟩) ?_; refine A1 o_neq ?_; refine A0 oK ?_; refine A0 mV ?_
  refine aw_splitp (d := 27) (p := ¬ checkP p = 0) rfl (by simp [IntL.toI]) (fun g27 => ?_) (fun g27 => ?_)
  ·
   refine A2 ?_; refine A2 ?_; refine A0 oK ?_; refine A0 mV ?_; refine A2 ?_; refine A2 ?_; refine A2 ?_; refine A2 ?_; refine A2 ?_; refine A0 oK ?_; refine CN ?_; refine Ct ?_; refine CQR ?_; refine A0 mV ?_; refine A0 aV ?_; refine CN ?_
   exact aw_ret1 rfl rfl (ret_eq rfl ((by first | rfl | (rcases check_other hh (i := i.toNat) (g := g) (by omega) (by omega) hgo with hq | hq; exact absurd hq g94; simp [hq, IntL.toI]))))
  ·
   have hh := checkP_holds.1 (Classical.not_not.1 g27)
   have hl1 := hh.l1
   have hk1 := hh.k1
   have hk2 := hh.k2
   have hl2 := hh.l2
   refine A1 mV ?_; refine A1 o_lss ?_; refine A0 oK ?_; refine A0 mV ?_
   refine Sp (d := 31) (p := i < 1) (fun g31 => ?_) (fun g31 => ?_)
   ·
    refine A2 ?_; refine A2 ?_; refine A2 ?_; refine A2 ?_; refine A2 ?_; refine A0 oK ?_; refine CN ?_; refine Ct ?_; refine CQR ?_; refine A0 mV ?_; refine A0 aV ?_; refine CN ?_
    exact aw_ret1 rfl rfl (ret_eq rfl ((by first | rfl | (rcases check_other hh (i := i.toNat) (g := g) (by omega) (by omega) hgo with hq | hq; exact absurd hq g94; simp [hq, IntL.toI]))))
   ·
    refine A1 mV ?_; refine A1 (oFp fd_24_2) ?_; refine A1 (oLb L_Proof_p ty_22) ?_; refine A1 (g_len rfl rfl isl_22) ?_; refine A1 o_geq ?_; refine A0 oK ?_; refine CN ?_
    refine Cf (p := (p.p.length : Int) ≤ i) (fun ht37 => ?_) (fun ht37 => ?_)
    ·
     refine CQR ?_; refine A0 mV ?_; refine A0 aV ?_; refine CN ?_
     exact aw_ret1 rfl rfl (ret_eq rfl ((by first | rfl | (rcases check_other hh (i := i.toNat) (g := g) (by omega) (by omega) hgo with hq | hq; exact absurd hq g94; simp [hq, IntL.toI]))))
    ·
     have hxi := at_ p (i := i.toNat) (by omega)
     refine CSQR ?_; refine A0 (oLs rfl rfl rfl ty_24) ?_; refine aw_alloc ze_24 rfl rfl rfl rfl ?_; refine aw_store_b rfl rfl rfl rfl rfl (Lens.self _) ty_24 rfl ?_; refine CN ?_; refine aw_splitb 2 (x := p) (split_proofV p) rfl ?_; refine CQR ?_
     refine A0 (oFp fd_24_2) ?_; refine A0 (oLb L_Proof_p ty_22) ?_; refine aw_append0 rfl rfl rfl rfl rfl rfl row_22 (by first | omega | (simp; omega)) ?_; refine A0 (oFp fd_24_2) ?_
     refine aw_store_p rfl rfl rfl rfl rfl rfl rfl rfl rfl rfl ty_22 ?_; refine CN ?_; refine aw_rerow (n := 3) (y := p.p) rfl (by simp) ?_; refine CQR ?_; refine A0 (oFp fd_24_2) ?_; refine A0 (g_load_p rfl rfl rfl rfl rfl ty_22) ?_
     refine A0 mV ?_; refine A0 (g_ia_o (i := i.toNat) rfl rfl rfl rfl (by first | omega | rfl) sl_22 (by first | assumption | omega | (simp; omega))) ?_; refine A0 (g_fa_e rfl rfl fd_41_0 rfl) ?_
     refine A0 (g_load_e rfl rfl rfl rfl (by assumption) L_Part_h ty_38) ?_; refine aw_alloc ze_38 rfl rfl rfl rfl ?_; refine aw_store_b rfl rfl rfl rfl rfl (Lens.self _) ty_38 rfl ?_; refine CNQQR ?_; refine A0 mV ?_; refine CNB ?_; refine CQR ?_
     refine A0 o_eql ?_; refine A0 aV ?_; refine CN ?_
     refine aw_ifc (p := what = 0) rfl (by simp [IntL.toI]) (fun ht62 => ?_) (fun ht62 => ?_)
     ·
      obtain ⟨g, hg, hgo⟩ : ∃ g, g = { (yAt p i.toNat).h with bits := h.bits } ∧ ((∃ b, g = { (yAt p i.toNat).h with bits := b }) ∨ (p.p.length : Int) - p.k ≤ (i.toNat : Int) ∧ ((∃ b, g = { (yAt p i.toNat).h with prev := b }) ∨ ∃ b, g = { (yAt p i.toNat).h with height := b }) ∨ g = (yAt p i.toNat).h) := ⟨_, rfl, .inl ⟨_, rfl⟩⟩
      refine CR ?_; refine A0 (oFp fd_38_6) ?_; refine A0 (oLb L_Head_bits ty_36) ?_; refine A0 (oFp fd_38_6) ?_; refine aw_store_b rfl rfl rfl rfl rfl L_Head_bits ty_36 rfl ?_; refine CN ?_; refine CI ?_; refine CQ ?_
      refine aw_reheap (n := 4) (y := g) rfl hg.symm ?_; refine CR ?_; refine A0 (oFp fd_24_2) ?_; refine A0 (g_load_p rfl rfl rfl rfl rfl ty_22) ?_; refine A0 mV ?_; refine A0 (oLs rfl rfl rfl ty_38) ?_
      refine A0 (g_ia_o (i := i.toNat) rfl rfl rfl rfl (by first | omega | rfl) sl_22 (by first | assumption | omega | (simp; omega))) ?_; refine A0 (g_fa_e rfl rfl fd_41_0 rfl) ?_
      refine aw_store_e rfl rfl rfl rfl rfl rfl (by assumption) L_Part_h ty_38 rfl ?_; refine CNQ ?_; refine aw_joinb 2 3 [.val i64T p.m, .val i64T p.k] (z := otherP p i.toNat g) (R := proofT) rfl rfl rfl join_proof ?_; refine CD mixed ?_
      refine G0 (oLs rfl rfl rfl ty_38) ?_; refine G0 (oFp fd_24_2) ?_; refine G0 (oLb L_Proof_p ty_22) ?_; refine G0 mV ?_; refine G0 (g_ia_i (i := i.toNat) rfl rfl rfl (by omega) sl_22 (by assumption)) ?_; refine G0 (oFr fd_41_0 L_Part_h) ?_
      refine G0 (g_load_r rfl rfl ty_38) ?_; refine G0 (g_eqlS rfl rfl rfl (eqt_38)) ?_; refine G0 mV ?_
      refine GK_splitp (d := 94) (p := g = (yAt p i.toNat).h) rfl (by first | rfl | (rw [decide_eq_decide]; simp only [IntL.toI, id_eq]; omega) | (simp [IntL.toI]; done) | (simp [IntL.toI]; omega)) (fun g94 => ?_) (fun g94 => ?_)
      ·
       refine G2 ?_; refine G2 ?_; refine G2 ?_; refine G0 oK ?_; refine G0 aV ?_; refine GK.nil ?_
       exact aw_ret1 rfl rfl (ret_eq rfl ((by first | rfl | (rcases check_other hh (i := i.toNat) (g := g) (by omega) (by omega) hgo with hq | hq; exact absurd hq g94; simp [hq, IntL.toI]))))
      ·
       refine G1 (oLs rfl rfl rfl ty_24) ?_; refine G1 (oCl (checkP_ok (otherP p i.toNat g)) rfl fn_11 ⟨(arg_v rfl), trivial⟩) ?_; refine G1 o_neq ?_; refine G0 oK ?_; refine G0 aV ?_; refine GK.nil ?_
       exact aw_ret1 rfl rfl (ret_eq rfl ((by first | rfl | (rcases check_other hh (i := i.toNat) (g := g) (by omega) (by omega) hgo with hq | hq; exact absurd hq g94; simp [hq, IntL.toI]))))
     ·
      refine CQR ?_; refine A0 o_eql ?_; refine A0 aV ?_; refine CN ?_
      refine aw_ifc (p := what = 1) rfl (by simp [IntL.toI]) (fun ht67 => ?_) (fun ht67 => ?_)
      ·
       refine CQR ?_; refine A0 mV ?_; refine A0 (oFp fd_24_2) ?_; refine A0 (oLb L_Proof_p ty_22) ?_; refine A0 (g_len rfl rfl isl_22) ?_; refine A0 (oFp fd_24_1) ?_; refine A0 (oLb L_Proof_k ty_3) ?_; refine A0 o_sub ?_; refine A0 o_geq ?_
       refine CN ?_
       refine Cf (p := (p.p.length : Int) - p.k ≤ i) (fun ht76 => ?_) (fun ht76 => ?_)
       ·
        obtain ⟨g, hg, hgo⟩ : ∃ g, g = { (yAt p i.toNat).h with prev := h.prev } ∧ ((∃ b, g = { (yAt p i.toNat).h with bits := b }) ∨ (p.p.length : Int) - p.k ≤ (i.toNat : Int) ∧ ((∃ b, g = { (yAt p i.toNat).h with prev := b }) ∨ ∃ b, g = { (yAt p i.toNat).h with height := b }) ∨ g = (yAt p i.toNat).h) := ⟨_, rfl, .inr (.inl ⟨by omega, .inl ⟨_, rfl⟩⟩)⟩
        refine CR ?_; refine A0 (oFp fd_38_1) ?_; refine A0 (oLb L_Head_prev ty_32) ?_; refine A0 (oFp fd_38_1) ?_; refine aw_store_b rfl rfl rfl rfl rfl L_Head_prev ty_32 rfl ?_; refine CN ?_; refine CI ?_; refine CQ ?_
        refine aw_reheap (n := 4) (y := g) rfl hg.symm ?_; refine CR ?_; refine A0 (oFp fd_24_2) ?_; refine A0 (g_load_p rfl rfl rfl rfl rfl ty_22) ?_; refine A0 mV ?_; refine A0 (oLs rfl rfl rfl ty_38) ?_
        refine A0 (g_ia_o (i := i.toNat) rfl rfl rfl rfl (by first | omega | rfl) sl_22 (by first | assumption | omega | (simp; omega))) ?_; refine A0 (g_fa_e rfl rfl fd_41_0 rfl) ?_
        refine aw_store_e rfl rfl rfl rfl rfl rfl (by assumption) L_Part_h ty_38 rfl ?_; refine CNQ ?_; refine aw_joinb 2 3 [.val i64T p.m, .val i64T p.k] (z := otherP p i.toNat g) (R := proofT) rfl rfl rfl join_proof ?_; refine CD mixed ?_
        refine G0 (oLs rfl rfl rfl ty_38) ?_; refine G0 (oFp fd_24_2) ?_; refine G0 (oLb L_Proof_p ty_22) ?_; refine G0 mV ?_; refine G0 (g_ia_i (i := i.toNat) rfl rfl rfl (by omega) sl_22 (by assumption)) ?_; refine G0 (oFr fd_41_0 L_Part_h) ?_
        refine G0 (g_load_r rfl rfl ty_38) ?_; refine G0 (g_eqlS rfl rfl rfl (eqt_38)) ?_; refine G0 mV ?_
        refine GK_splitp (d := 94) (p := g = (yAt p i.toNat).h) rfl (by first | rfl | (rw [decide_eq_decide]; simp only [IntL.toI, id_eq]; omega) | (simp [IntL.toI]; done) | (simp [IntL.toI]; omega)) (fun g94 => ?_) (fun g94 => ?_)
        ·
         refine G2 ?_; refine G2 ?_; refine G2 ?_; refine G0 oK ?_; refine G0 aV ?_; refine GK.nil ?_
         exact aw_ret1 rfl rfl (ret_eq rfl ((by first | rfl | (rcases check_other hh (i := i.toNat) (g := g) (by omega) (by omega) hgo with hq | hq; exact absurd hq g94; simp [hq, IntL.toI]))))
        ·
         refine G1 (oLs rfl rfl rfl ty_24) ?_; refine G1 (oCl (checkP_ok (otherP p i.toNat g)) rfl fn_11 ⟨(arg_v rfl), trivial⟩) ?_; refine G1 o_neq ?_; refine G0 oK ?_; refine G0 aV ?_; refine GK.nil ?_
         exact aw_ret1 rfl rfl (ret_eq rfl ((by first | rfl | (rcases check_other hh (i := i.toNat) (g := g) (by omega) (by omega) hgo with hq | hq; exact absurd hq g94; simp [hq, IntL.toI]))))
       ·
        obtain ⟨g, hg, hgo⟩ : ∃ g, g = (yAt p i.toNat).h ∧ ((∃ b, g = { (yAt p i.toNat).h with bits := b }) ∨ (p.p.length : Int) - p.k ≤ (i.toNat : Int) ∧ ((∃ b, g = { (yAt p i.toNat).h with prev := b }) ∨ ∃ b, g = { (yAt p i.toNat).h with height := b }) ∨ g = (yAt p i.toNat).h) := ⟨_, rfl, .inr (.inr rfl)⟩
        refine CS ?_; refine CI ?_; refine CQ ?_; refine aw_reheap (n := 4) (y := g) rfl hg.symm ?_; refine CR ?_; refine A0 (oFp fd_24_2) ?_; refine A0 (g_load_p rfl rfl rfl rfl rfl ty_22) ?_; refine A0 mV ?_; refine A0 (oLs rfl rfl rfl ty_38) ?_
        refine A0 (g_ia_o (i := i.toNat) rfl rfl rfl rfl (by first | omega | rfl) sl_22 (by first | assumption | omega | (simp; omega))) ?_; refine A0 (g_fa_e rfl rfl fd_41_0 rfl) ?_
        refine aw_store_e rfl rfl rfl rfl rfl rfl (by assumption) L_Part_h ty_38 rfl ?_; refine CNQ ?_; refine aw_joinb 2 3 [.val i64T p.m, .val i64T p.k] (z := otherP p i.toNat g) (R := proofT) rfl rfl rfl join_proof ?_; refine CD mixed ?_
        refine G0 (oLs rfl rfl rfl ty_38) ?_; refine G0 (oFp fd_24_2) ?_; refine G0 (oLb L_Proof_p ty_22) ?_; refine G0 mV ?_; refine G0 (g_ia_i (i := i.toNat) rfl rfl rfl (by omega) sl_22 (by assumption)) ?_; refine G0 (oFr fd_41_0 L_Part_h) ?_
        refine G0 (g_load_r rfl rfl ty_38) ?_; refine G0 (g_eqlS rfl rfl rfl (eqt_38)) ?_; refine G0 mV ?_
        refine GK_splitp (d := 94) (p := g = (yAt p i.toNat).h) rfl (by first | rfl | (rw [decide_eq_decide]; simp only [IntL.toI, id_eq]; omega) | (simp [IntL.toI]; done) | (simp [IntL.toI]; omega)) (fun g94 => ?_) (fun g94 => ?_)
        ·
         refine G2 ?_; refine G2 ?_; refine G2 ?_; refine G0 oK ?_; refine G0 aV ?_; refine GK.nil ?_
         exact aw_ret1 rfl rfl (ret_eq rfl ((by first | rfl | (rcases check_other hh (i := i.toNat) (g := g) (by omega) (by omega) hgo with hq | hq; exact absurd hq g94; simp [hq, IntL.toI]))))
        ·
         refine G1 (oLs rfl rfl rfl ty_24) ?_; refine G1 (oCl (checkP_ok (otherP p i.toNat g)) rfl fn_11 ⟨(arg_v rfl), trivial⟩) ?_; refine G1 o_neq ?_; refine G0 oK ?_; refine G0 aV ?_; refine GK.nil ?_
         exact aw_ret1 rfl rfl (ret_eq rfl ((by first | rfl | (rcases check_other hh (i := i.toNat) (g := g) (by omega) (by omega) hgo with hq | hq; exact absurd hq g94; simp [hq, IntL.toI]))))
      ·
       refine CQR ?_; refine A0 mV ?_; refine A0 (oFp fd_24_2) ?_; refine A0 (oLb L_Proof_p ty_22) ?_; refine A0 (g_len rfl rfl isl_22) ?_; refine A0 (oFp fd_24_1) ?_; refine A0 (oLb L_Proof_k ty_3) ?_; refine A0 o_sub ?_; refine A0 o_geq ?_
       refine CN ?_
       refine Cf (p := (p.p.length : Int) - p.k ≤ i) (fun ht58 => ?_) (fun ht58 => ?_)
       ·
        obtain ⟨g, hg, hgo⟩ : ∃ g, g = { (yAt p i.toNat).h with height := h.height } ∧ ((∃ b, g = { (yAt p i.toNat).h with bits := b }) ∨ (p.p.length : Int) - p.k ≤ (i.toNat : Int) ∧ ((∃ b, g = { (yAt p i.toNat).h with prev := b }) ∨ ∃ b, g = { (yAt p i.toNat).h with height := b }) ∨ g = (yAt p i.toNat).h) := ⟨_, rfl, .inr (.inl ⟨by omega, .inr ⟨_, rfl⟩⟩)⟩
        refine CR ?_; refine A0 (oFp fd_38_0) ?_; refine A0 (oLb L_Head_height ty_3) ?_; refine A0 (oFp fd_38_0) ?_; refine aw_store_b rfl rfl rfl rfl rfl L_Head_height ty_3 rfl ?_; refine CN ?_; refine CI ?_; refine CQ ?_
        refine aw_reheap (n := 4) (y := g) rfl hg.symm ?_; refine CR ?_; refine A0 (oFp fd_24_2) ?_; refine A0 (g_load_p rfl rfl rfl rfl rfl ty_22) ?_; refine A0 mV ?_; refine A0 (oLs rfl rfl rfl ty_38) ?_
        refine A0 (g_ia_o (i := i.toNat) rfl rfl rfl rfl (by first | omega | rfl) sl_22 (by first | assumption | omega | (simp; omega))) ?_; refine A0 (g_fa_e rfl rfl fd_41_0 rfl) ?_
        refine aw_store_e rfl rfl rfl rfl rfl rfl (by assumption) L_Part_h ty_38 rfl ?_; refine CNQ ?_; refine aw_joinb 2 3 [.val i64T p.m, .val i64T p.k] (z := otherP p i.toNat g) (R := proofT) rfl rfl rfl join_proof ?_; refine CD mixed ?_
        refine G0 (oLs rfl rfl rfl ty_38) ?_; refine G0 (oFp fd_24_2) ?_; refine G0 (oLb L_Proof_p ty_22) ?_; refine G0 mV ?_; refine G0 (g_ia_i (i := i.toNat) rfl rfl rfl (by omega) sl_22 (by assumption)) ?_; refine G0 (oFr fd_41_0 L_Part_h) ?_
        refine G0 (g_load_r rfl rfl ty_38) ?_; refine G0 (g_eqlS rfl rfl rfl (eqt_38)) ?_; refine G0 mV ?_
        refine GK_splitp (d := 94) (p := g = (yAt p i.toNat).h) rfl (by first | rfl | (rw [decide_eq_decide]; simp only [IntL.toI, id_eq]; omega) | (simp [IntL.toI]; done) | (simp [IntL.toI]; omega)) (fun g94 => ?_) (fun g94 => ?_)
        ·
         refine G2 ?_; refine G2 ?_; refine G2 ?_; refine G0 oK ?_; refine G0 aV ?_; refine GK.nil ?_
         exact aw_ret1 rfl rfl (ret_eq rfl ((by first | rfl | (rcases check_other hh (i := i.toNat) (g := g) (by omega) (by omega) hgo with hq | hq; exact absurd hq g94; simp [hq, IntL.toI]))))
        ·
         refine G1 (oLs rfl rfl rfl ty_24) ?_; refine G1 (oCl (checkP_ok (otherP p i.toNat g)) rfl fn_11 ⟨(arg_v rfl), trivial⟩) ?_; refine G1 o_neq ?_; refine G0 oK ?_; refine G0 aV ?_; refine GK.nil ?_
         exact aw_ret1 rfl rfl (ret_eq rfl ((by first | rfl | (rcases check_other hh (i := i.toNat) (g := g) (by omega) (by omega) hgo with hq | hq; exact absurd hq g94; simp [hq, IntL.toI]))))
       ·
        obtain ⟨g, hg, hgo⟩ : ∃ g, g = (yAt p i.toNat).h ∧ ((∃ b, g = { (yAt p i.toNat).h with bits := b }) ∨ (p.p.length : Int) - p.k ≤ (i.toNat : Int) ∧ ((∃ b, g = { (yAt p i.toNat).h with prev := b }) ∨ ∃ b, g = { (yAt p i.toNat).h with height := b }) ∨ g = (yAt p i.toNat).h) := ⟨_, rfl, .inr (.inr rfl)⟩
        refine CS ?_; refine CI ?_; refine CQ ?_; refine aw_reheap (n := 4) (y := g) rfl hg.symm ?_; refine CR ?_; refine A0 (oFp fd_24_2) ?_; refine A0 (g_load_p rfl rfl rfl rfl rfl ty_22) ?_; refine A0 mV ?_; refine A0 (oLs rfl rfl rfl ty_38) ?_
        refine A0 (g_ia_o (i := i.toNat) rfl rfl rfl rfl (by first | omega | rfl) sl_22 (by first | assumption | omega | (simp; omega))) ?_; refine A0 (g_fa_e rfl rfl fd_41_0 rfl) ?_
        refine aw_store_e rfl rfl rfl rfl rfl rfl (by assumption) L_Part_h ty_38 rfl ?_; refine CNQ ?_; refine aw_joinb 2 3 [.val i64T p.m, .val i64T p.k] (z := otherP p i.toNat g) (R := proofT) rfl rfl rfl join_proof ?_; refine CD mixed ?_
        refine G0 (oLs rfl rfl rfl ty_38) ?_; refine G0 (oFp fd_24_2) ?_; refine G0 (oLb L_Proof_p ty_22) ?_; refine G0 mV ?_; refine G0 (g_ia_i (i := i.toNat) rfl rfl rfl (by omega) sl_22 (by assumption)) ?_; refine G0 (oFr fd_41_0 L_Part_h) ?_
        refine G0 (g_load_r rfl rfl ty_38) ?_; refine G0 (g_eqlS rfl rfl rfl (eqt_38)) ?_; refine G0 mV ?_
        refine GK_splitp (d := 94) (p := g = (yAt p i.toNat).h) rfl (by first | rfl | (rw [decide_eq_decide]; simp only [IntL.toI, id_eq]; omega) | (simp [IntL.toI]; done) | (simp [IntL.toI]; omega)) (fun g94 => ?_) (fun g94 => ?_)
        ·
         refine G2 ?_; refine G2 ?_; refine G2 ?_; refine G0 oK ?_; refine G0 aV ?_; refine GK.nil ?_
         exact aw_ret1 rfl rfl (ret_eq rfl ((by first | rfl | (rcases check_other hh (i := i.toNat) (g := g) (by omega) (by omega) hgo with hq | hq; exact absurd hq g94; simp [hq, IntL.toI]))))
        ·
         refine G1 (oLs rfl rfl rfl ty_24) ?_; refine G1 (oCl (checkP_ok (otherP p i.toNat g)) rfl fn_11 ⟨(arg_v rfl), trivial⟩) ?_; refine G1 o_neq ?_; refine G0 oK ?_; refine G0 aV ?_; refine GK.nil ?_
         exact aw_ret1 rfl rfl (ret_eq rfl ((by first | rfl | (rcases check_other hh (i := i.toNat) (g := g) (by omega) (by omega) hgo with hq | hq; exact absurd hq g94; simp [hq, IntL.toI]))))
end Go.Proofs.YtjldddonpfopaaaGreat
