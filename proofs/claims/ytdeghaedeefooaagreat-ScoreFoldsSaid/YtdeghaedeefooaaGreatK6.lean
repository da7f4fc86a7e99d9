/- Parts of the proof: the layer that reads Go values as data, and what the functions of the program tell. -/
import Derived.Test.YtdeghaedeefooaaGreatK5
set_option maxRecDepth 20000
namespace Go.Proofs.YtdeghaedeefooaaGreat
set_option linter.unusedVariables false
set_option linter.unusedSimpArgs false
open Go.Ab Go.RowKit
def easyP : Proof := ⟨1, 1, [⟨easyH, []⟩, ⟨easyB.h, [id0]⟩]⟩
theorem climb_easy (y : Int) : ∀ i : Nat, i ≤ 32 → climbS [31, y] 1 1 i = (0, if i = 0 then [] else [0])
  | 0, _ => rfl
  | i + 1, h => by
    have ih := climb_easy y i (by omega)
    have hu : upOf [31, y] 0 ((([31, y] : List Int).length : Int) - 1) (31 - (i : Int)) = [0] := by
      show upR [31, y] (31 - (i : Int)) 0 (0 + 1) = [0]
      rw [upR_yes (v := [31, y]) (n := 31 - (i : Int)) (x := 31) (a := 0) (i := 0) rfl (Nat.le_refl _) (by omega), upR_same]; rfl
    have e1 : (climbS [31, y] 1 1 i).1 = 0 := by rw [ih]
    have e2 : (climbS [31, y] 1 1 i).2 = if i = 0 then [] else [0] := by rw [ih]
    show (if _ then _ else _, _) = _
    have h0 : (if i + 1 = 0 then ([] : List Int) else [0]) = [0] := if_neg (by omega)
    rw [e1, e2, hu, h0, if_neg (by decide)]
    by_cases c : i = 0 <;> simp [c, setAdd]
theorem easy_lvs : levelsOf [easyB0, easyB] = [31, headLevel easyB.h] := by
  show [headLevel easyH, headLevel easyB.h] = _
  rw [easy_level]
theorem easy_le1 : decide (headLevel easyB.h ≤ 31) = true := by kernel_rfl
theorem easy_mayP : mayP [31, headLevel easyB.h] 1 1 = true := by
  have h1 := of_decide_eq_true easy_level1
  have h2 := of_decide_eq_true easy_le1
  unfold mayP mayV
  generalize headLevel easyB.h = y at h1 h2
  simp
  omega
theorem easy_prefix : prefixOf (levelsOf [easyB0, easyB]) 1 1 = ([0], true) := by
  unfold prefixOf
  rw [easy_lvs, if_pos easy_mayP, climb_easy _ 32 (Nat.le_refl _), if_neg (by decide)]
  simp [sortInts]
theorem easy_prE : prE [easyB0, easyB] 1 1 = 0 := by
  unfold prE
  rw [easy_chain1, if_neg (by decide), if_neg (by decide)]
theorem easy_pr : prOf [easyB0, easyB] 1 1 = easyP := by
  unfold prOf
  rw [if_pos easy_prE]
  unfold placesOf
  rw [easy_prefix]
  rfl
theorem easy_lkroot : linkRoot [id0] = easyB.h.links := (root_one _).trans easy_lk
theorem easy_check : checkP easyP = 0 := by
  have ei : idsP easyP = [id0, headId easyB.h] := by show [headId easyH, headId easyB.h] = _; rw [easy_id]
  unfold checkP
  rw [if_neg (by decide), if_neg (by decide), if_neg (by
    rintro (h | h | h)
    · exact absurd (show tgtOk 545259519 = true from easy_ok) (by rw [show tgtOk 545259519 = false from h]; decide)
    · exact absurd h (by decide)
    · exact h (show easyH = (firstTip 545259519).b.h by rw [easy_tip]; rfl)), ei]
  show (if _ then _ else _) = _
  have hf : firstC three ⟨easyP, [id0, headId easyB.h], ((1 : Nat) : Int)⟩ = 0 := by
    rw [firstC_three]
    have e1 : prevC ⟨easyP, [id0, headId easyB.h], ((1 : Nat) : Int)⟩ = 0 := prevC_no (y := ⟨easyB.h, [id0]⟩) (z := ⟨easyH, []⟩) (d := id0) rfl rfl rfl (by
      rintro (h | h | ⟨_, h | h⟩)
      · exact absurd h (by decide)
      · exact h rfl
      · exact h rfl
      · exact h rfl)
    have e2 : linkC ⟨easyP, [id0, headId easyB.h], ((1 : Nat) : Int)⟩ = 0 := linkC_no (y := ⟨easyB.h, [id0]⟩) (c := id0) (d := id0) rfl rfl rfl (by
      rintro (h | h | h | h | h)
      · exact absurd h (by decide)
      · exact absurd h (by decide)
      · exact h rfl
      · rw [show leadsB [id0] easyB.h.prev id0 = true by unfold leadsB; rw [decide_eq_true (show easyB.h.prev = id0 from rfl)]; rfl] at h; cases h
      · exact h easy_lkroot)
    have e3 : workC ⟨easyP, [id0, headId easyB.h], ((1 : Nat) : Int)⟩ = 0 := by
      unfold workC workF
      rw [yOf_at (y := ⟨easyB.h, [id0]⟩) rfl, if_neg (fun h => h easy_may1)]
    rw [if_neg (fun h => h e1), if_neg (fun h => h e2), e3]
  rw [if_pos hf]; rfl
theorem zero_check : checkP zProof = 1 := by unfold checkP; rw [if_pos (.inl (by decide))]
def yAt (p : Proof) (i : Nat) : Part := p.p.getD i zPartD
def stepOk (p : Proof) (i : Nat) : Prop :=
  prevF (yAt p i) (yAt p (i - 1)) ((p.p.length : Int) - p.k ≤ (i : Int)) (headId (yAt p (i - 1)).h) = 0 ∧ linkF (yAt p i) (headId (yAt p 0).h) (headId (yAt p (i - 1)).h) = 0 ∧ workF (yAt p i) = 0
def beginOk (a : Part) : Prop := tgtOk a.h.bits = true ∧ a.l.length = 0 ∧ a.h = (firstTip a.h.bits).b.h
structure HoldsP (p : Proof) : Prop where
  m1 : 1 ≤ p.m
  m2 : p.m ≤ 20
  k1 : 1 ≤ p.k
  k2 : p.k ≤ 20
  l1 : p.k < p.p.length
  l2 : p.p.length ≤ 100
  fst : beginOk (yAt p 0)
  steps : ∀ i, 1 ≤ i → i < p.p.length → stepOk p i
theorem prevF_zero {y z : Part} {last : Prop} [Decidable last] {d : Ab.Id} : prevF y z last d = 0 ↔ z.h.height < y.h.height ∧ y.h.bits = z.h.bits ∧ (last → y.h.height = IntKind.i64.wrap (z.h.height + 1) ∧ y.h.prev = d) := by
  unfold prevF
  constructor
  · intro h
    have hn : ¬ (y.h.height ≤ z.h.height ∨ ¬ y.h.bits = z.h.bits ∨ last ∧ (¬ y.h.height = IntKind.i64.wrap (z.h.height + 1) ∨ ¬ y.h.prev = d)) := fun c => by rw [if_pos c] at h; cases h
    refine ⟨Int.not_le.1 fun c => hn (.inl c), Classical.not_not.1 fun c => hn (.inr (.inl c)), fun hl => ⟨Classical.not_not.1 fun c => hn (.inr (.inr ⟨hl, .inl c⟩)), Classical.not_not.1 fun c => hn (.inr (.inr ⟨hl, .inr c⟩))⟩⟩
  · rintro ⟨h1, h2, h3⟩
    rw [if_neg]
    rintro (c | c | ⟨hl, c | c⟩)
    · omega
    · exact c h2
    · exact c (h3 hl).1
    · exact c (h3 hl).2
theorem trials_zero {p : Proof} {ids : List Ab.Id} : ∀ (n i : Nat), trialsE p ids n i = 0 ↔ ∀ j, i ≤ j → j < i + n → firstC three ⟨p, ids, j⟩ = 0
  | 0, i => by simp [trialsE]; intro j h1 h2; omega
  | n + 1, i => by
    show (if firstC three ⟨p, ids, i⟩ = 0 then trialsE p ids n (i + 1) else firstC three ⟨p, ids, i⟩) = 0 ↔ _
    by_cases c : firstC three ⟨p, ids, i⟩ = 0
    · rw [if_pos c, trials_zero n (i + 1)]
      constructor
      · intro h j h1 h2
        by_cases e : j = i
        · rw [e]; exact c
        · exact h j (by omega) (by omega)
      · intro h j h1 h2; exact h j (by omega) (by omega)
    · rw [if_neg c]
      exact ⟨fun h => absurd h c, fun h => h i (Nat.le_refl _) (by omega)⟩
theorem ids_at (p : Proof) {i : Nat} (h : i < p.p.length) : (idsP p)[i]? = some (headId (yAt p i).h) := by
  unfold idsP yAt
  rw [List.getElem?_map, List.getElem?_eq_getElem h]
  simp [h]
theorem at_ (p : Proof) {i : Nat} (h : i < p.p.length) : p.p[i]? = some (yAt p i) := by unfold yAt; rw [List.getElem?_eq_getElem h]; simp [h]
theorem first_zero (p : Proof) {i : Nat} (h1 : 1 ≤ i) (h : i < p.p.length) : firstC three ⟨p, idsP p, (i : Int)⟩ = 0 ↔ stepOk p i := by
  rw [firstC_three]
  have e1 : prevC ⟨p, idsP p, (i : Int)⟩ = prevF (yAt p i) (yAt p (i - 1)) ((p.p.length : Int) - p.k ≤ (i : Int)) (headId (yAt p (i - 1)).h) := by
    unfold prevC
    rw [yOf_at (y := yAt p i) (at_ p h), zOf_at (y := yAt p (i - 1)) (at_ p (i := i - 1) (by omega)), dOf_at (ids_at p (i := i - 1) (by omega))]
  have e2 : linkC ⟨p, idsP p, (i : Int)⟩ = linkF (yAt p i) (headId (yAt p 0).h) (headId (yAt p (i - 1)).h) := by
    unfold linkC
    rw [yOf_at (y := yAt p i) (at_ p h), cOf_at (ids_at p (i := 0) (by omega)), dOf_at (ids_at p (i := i - 1) (by omega))]
  have e3 : workC ⟨p, idsP p, (i : Int)⟩ = workF (yAt p i) := by
    unfold workC
    rw [yOf_at (y := yAt p i) (at_ p h)]
  rw [e1, e2, e3]
  unfold stepOk
  generalize prevF (yAt p i) (yAt p (i - 1)) ((p.p.length : Int) - p.k ≤ (i : Int)) (headId (yAt p (i - 1)).h) = a
  generalize linkF (yAt p i) (headId (yAt p 0).h) (headId (yAt p (i - 1)).h) = b
  by_cases ha : a = 0
  · by_cases hb : b = 0
    · simp [ha, hb]
    · simp [ha, hb]
  · simp [ha]
theorem checkP_holds {p : Proof} : checkP p = 0 ↔ HoldsP p := by
  have ey : p.p.getD 0 zPartD = yAt p 0 := rfl
  unfold checkP
  rw [ey]
  constructor
  · intro h
    by_cases c1 : p.m < 1 ∨ 20 < p.m ∨ p.k < 1 ∨ 20 < p.k
    · rw [if_pos c1] at h; cases h
    rw [if_neg c1] at h
    by_cases c2 : 100 < p.p.length ∨ (p.p.length : Int) ≤ p.k
    · rw [if_pos c2] at h; cases h
    rw [if_neg c2] at h
    by_cases c3 : tgtOk (yAt p 0).h.bits = false ∨ 0 < (yAt p 0).l.length ∨ ¬ (yAt p 0).h = (firstTip (yAt p 0).h.bits).b.h
    · rw [if_pos c3] at h; cases h
    rw [if_neg c3, trials_zero] at h
    refine ⟨by omega, by omega, by omega, by omega, by omega, by omega, ⟨?_, by omega, Classical.not_not.1 fun e => c3 (.inr (.inr e))⟩, fun i h1 h2 => (first_zero p h1 h2).1 (h i h1 (by omega))⟩
    cases e : tgtOk (yAt p 0).h.bits
    · exact absurd (.inl e) c3
    · rfl
  · intro h
    have := h.m1; have := h.m2; have := h.k1; have := h.k2; have := h.l1; have := h.l2
    rw [if_neg (by omega), if_neg (by omega), if_neg (by
      rintro (e | e | e)
      · rw [h.fst.1] at e; cases e
      · have := h.fst.2.1; omega
      · exact e h.fst.2.2), trials_zero]
    exact fun i h1 h2 => (first_zero p h1 (by omega)).2 (h.steps i h1 (by omega))
theorem HoldsP.step {p : Proof} (h : HoldsP p) {i : Nat} (h1 : 1 ≤ i) (h2 : i < p.p.length) :
    (yAt p (i - 1)).h.height < (yAt p i).h.height ∧ (yAt p i).h.bits = (yAt p (i - 1)).h.bits ∧ ((p.p.length : Int) - p.k ≤ (i : Int) → (yAt p i).h.height = IntKind.i64.wrap ((yAt p (i - 1)).h.height + 1) ∧ (yAt p i).h.prev = headId (yAt p (i - 1)).h) := prevF_zero.1 (h.steps i h1 h2).1
theorem first_height (bits : UInt32) : (firstTip bits).b.h.height = 0 := by
  unfold firstTip
  split <;> rfl
theorem HoldsP.zero {p : Proof} (h : HoldsP p) : (yAt p 0).h.height = 0 := by rw [h.fst.2.2]; exact first_height _
theorem HoldsP.bits {p : Proof} (h : HoldsP p) : ∀ i, i < p.p.length → (yAt p i).h.bits = (yAt p 0).h.bits
  | 0, _ => rfl
  | i + 1, hi => by
    have := (h.step (i := i + 1) (by omega) hi).2.1
    rw [Nat.add_sub_cancel] at this
    rw [this]; exact h.bits i (by omega)
theorem fewPr_len {p : Proof} (h : fewPr p = true) : p.p.length ≤ 110 := by
  unfold fewPr at h
  rw [Bool.and_eq_true, decide_eq_true_eq] at h
  exact h.2
theorem fewPr_links {p : Proof} (h : fewPr p = true) {x : Part} (hx : x ∈ p.p) : x.l.length ≤ 40 := by
  unfold fewPr at h
  rw [Bool.and_eq_true] at h
  exact of_decide_eq_true (List.all_eq_true.1 h.1 x hx)
theorem split_proofV (p : Proof) : SplitOk proofT p [.val i64T p.m, .val i64T p.k, .val (sl partT) p.p] := split_via (split_pair split_one (split_pair split_one split_one))
theorem two_ok : Tells P 27 [] (.val (sl blockT) [easyB0, easyB]) := by
 refine fn_of_aw Tryz.func27 rfl rfl rfl (fun ext w hext => ?_)
 refine CQR ?_; refine A0 aL ?_; refine CNQR ?_; refine A0 (oCl (newC_ok 545259519) rfl fn_51 ⟨(arg_v rfl), trivial⟩) ?_; refine A0 mX ?_; refine A0 (by first | exact g_x20 rfl rfl | exact g_x30 rfl rfl) ?_
 refine aw_reval (d := 7) (y := [easyB0]) rfl easy_newOf ?_; refine A0 (by first | exact g_x21 rfl rfl | exact g_x31 rfl rfl) ?_; refine A0 aV ?_; refine A0 aV ?_; refine CNQR ?_; refine A0 mV ?_
 refine A0 (oCl (tells_pub2 (growC_ok [easyB0] [] 0 small_easyC0 ⟨by decide, fun t ht => by cases ht⟩)) rfl fn_52 ⟨(arg_v rfl), (by first | exact arg_same rfl | exact arg_bsl rfl | exact arg_own rfl rfl | exact arg_nil rfl | exact arg_rptr rfl | exact arg_fn rfl rfl | exact arg_lit rfl), (arg_v rfl), trivial⟩) ?_
 refine A0 mX ?_; refine A0 (by first | exact g_x20 rfl rfl | exact g_x30 rfl rfl) ?_; refine aw_reval (d := 12) (y := [easyB0, easyB]) rfl easy_grown ?_; refine A0 (by first | exact g_x21 rfl rfl | exact g_x31 rfl rfl) ?_; refine A0 aV ?_
 refine A0 aV ?_; refine CNQR ?_; refine A0 mV ?_; refine A0 aV ?_; refine CN ?_
 exact aw_ret1 rfl rfl (ret_eq rfl (rfl))
end Go.Proofs.YtdeghaedeefooaaGreat
set_option maxRecDepth 20000
namespace Go.Proofs.YtdeghaedeefooaaGreat
set_option linter.unusedVariables false
set_option linter.unusedSimpArgs false
open Go.Ab Go.RowKit
def many (v : List Int) (n : Nat) : Nat := (v.filter fun x => decide ((n : Int) ≤ x)).length
def scoreF (v : List Int) (m : Int) : Nat → Int
  | 0 => (many v 0 : Int)
  | n + 1 => if m ≤ (many v n : Int) then max (scoreF v m n) ((many v n : Int) * 2 ^ n) else scoreF v m n
def scoreOf (v : List Int) (m : Int) : Int := if 100 < v.length then 0 else scoreF v m 32
def cntK (v : List Int) (k : Int) : List Int := (List.range 32).map fun j => (many v j : Int) + if (j : Int) < k then 1 else 0
def cntOf (v : List Int) : List Int := (List.range 32).map fun j => (many v j : Int)
theorem many_le (v : List Int) (n : Nat) : many v n ≤ v.length := List.length_filter_le _ _
theorem many_snoc {v : List Int} {i : Nat} {x : Int} (h : v[i]? = some x) (n : Nat) : (many (v.take (i + 1)) n : Int) = (many (v.take i) n : Int) + if (n : Int) ≤ x then 1 else 0 := by
  unfold many
  rw [List.take_add_one, h]
  simp only [Option.toList_some, List.filter_append, List.length_append]
  by_cases c : (n : Int) ≤ x <;> simp [c]
theorem cnt_nil : cntOf [] = List.replicate 32 0 := by decide
theorem cnt_at (v : List Int) {n : Nat} (h : n < 32) : (cntOf v)[n]? = some (many v n : Int) := by
  unfold cntOf
  rw [List.getElem?_map, List.getElem?_range h]; rfl
theorem cntK_at (v : List Int) (k : Int) {n : Nat} (h : n < 32) : (cntK v k)[n]? = some ((many v n : Int) + if (n : Int) < k then 1 else 0) := by
  unfold cntK
  rw [List.getElem?_map, List.getElem?_range h]; rfl
theorem cntK_zero (v : List Int) {k : Int} (h : k ≤ 0) : cntK v k = cntOf v := by
  unfold cntK cntOf
  apply List.map_congr_left
  intro j hj
  rw [if_neg (by omega)]; simp
theorem cntK_length (v : List Int) (k : Int) : (cntK v k).length = 32 := by unfold cntK; simp
theorem cntK_step (v : List Int) {k : Nat} (h : k < 32) : (cntK v k).set k ((many v k : Int) + 1) = cntK v ((k + 1 : Nat) : Int) := by
  apply List.ext_getElem?
  intro j
  by_cases hj : j < 32
  · by_cases e : k = j
    · subst e
      rw [List.getElem?_set_self (by rw [cntK_length]; exact h), cntK_at _ _ h, if_pos (by omega)]
    · rw [List.getElem?_set_ne e, cntK_at _ _ hj, cntK_at _ _ hj]
      congr 2
      by_cases c : (j : Int) < k
      · rw [if_pos c, if_pos (by omega)]
      · rw [if_neg c, if_neg (by omega)]
  · rw [List.getElem?_eq_none (by simp [cntK_length]; omega), List.getElem?_eq_none (by simp [cntK_length]; omega)]
theorem cntK_end {v : List Int} {i k : Nat} {x : Int} (hx : v[i]? = some x) (h1 : (k : Int) ≤ max (min x 31 + 1) 0) (h2 : ¬ (k : Int) < min x 31 + 1) : cntK (v.take i) k = cntOf (v.take (i + 1)) := by
  unfold cntK cntOf
  apply List.map_congr_left
  intro j hj
  rw [List.mem_range] at hj
  rw [many_snoc hx]
  congr 1
  by_cases c : (j : Int) < k
  · rw [if_pos c, if_pos (by omega)]
  · rw [if_neg c, if_neg (by omega)]
theorem two_pow_le {n : Nat} (h : n < 32) : (2 : Int) ^ n ≤ 2147483648 ∧ 1 ≤ (2 : Int) ^ n := by
  have h1 : (2 : Nat) ^ n ≤ 2 ^ 31 := Nat.pow_le_pow_right (by decide) (by omega)
  have h2 : 1 ≤ (2 : Nat) ^ n := Nat.one_le_two_pow
  have e : ((2 ^ n : Nat) : Int) = (2 : Int) ^ n := by simp
  rw [← e]
  have h3 : (2 : Nat) ^ 31 = 2147483648 := by decide
  omega
theorem shl_many {a n : Nat} (h : n < 32) (ha : a ≤ 100) : IntKind.i64.wrap ((a : Int) * 2 ^ (min (IntL.toI i64T (n : Int)).toNat 64)) = (a : Int) * 2 ^ n := by
  have e : min (IntL.toI i64T (n : Int)).toNat 64 = n := by show min ((n : Int)).toNat 64 = n; omega
  rw [e]
  have ⟨h1, h2⟩ := two_pow_le h
  have h3 : (a : Int) * 2 ^ n ≤ 100 * 2147483648 := by
    have ha' : (a : Int) ≤ 100 := by omega
    exact Int.mul_le_mul ha' h1 (by omega) (by decide)
  have h4 : 0 ≤ (a : Int) * 2 ^ n := Int.mul_nonneg (by omega) (by omega)
  exact wrap_eq (by omega)
def commonF (a b : List Ab.Id) : Nat → Int × Int
  | 0 => (-1, -1)
  | i + 1 => if idx (fun x => decide (a.getD i zId = x)) b = -1 then commonF a b i else ((i : Int), idx (fun x => decide (a.getD i zId = x)) b)
def commonOf (p q : Proof) : Int × Int := commonF (idsP p) (idsP q) (idsP p).length
theorem common_go {a b : List Ab.Id} {k : Nat} {x : Ab.Id} (h0 : 0 < k) (hx : a[k - 1]? = some x) (h : idx (fun y => decide (x = y)) b = -1) : commonF a b k = commonF a b (k - 1) := by
  obtain ⟨j, rfl⟩ : ∃ j, k = j + 1 := ⟨k - 1, by omega⟩
  have e : a.getD j zId = x := by simp at hx; simp [hx]
  show (if _ then _ else _) = _
  rw [e, if_pos h]; rfl
theorem common_stop {a b : List Ab.Id} {k : Nat} {x : Ab.Id} (h0 : 0 < k) (hx : a[k - 1]? = some x) (h : ¬ idx (fun y => decide (x = y)) b = -1) : commonF a b k = ((k : Int) - 1, idx (fun y => decide (x = y)) b) := by
  obtain ⟨j, rfl⟩ : ∃ j, k = j + 1 := ⟨k - 1, by omega⟩
  have e : a.getD j zId = x := by simp at hx; simp [hx]
  show (if _ then _ else _) = _
  rw [e, if_neg h]
  congr 1
  simp
theorem idx_ltL {α : Type} (p : α → Bool) : ∀ l : List α, idx p l < l.length
  | [] => by simp [idx]
  | x :: l => by
    have := idx_ltL p l
    unfold idx
    rw [List.length_cons]
    split
    · omega
    · split <;> omega
theorem commonF_bound (a b : List Ab.Id) : ∀ i, -1 ≤ (commonF a b i).1 ∧ (commonF a b i).1 < i ∧ -1 ≤ (commonF a b i).2 ∧ (commonF a b i).2 < b.length ∨ commonF a b i = (-1, -1)
  | 0 => .inr rfl
  | i + 1 => by
    unfold commonF
    split
    · rcases commonF_bound a b i with h | h
      · exact .inl ⟨h.1, by omega, h.2.2.1, h.2.2.2⟩
      · exact .inr h
    · have h1 := idx_ge (fun x => decide (a.getD i zId = x)) b
      have h2 := idx_ltL (fun x => decide (a.getD i zId = x)) b
      exact .inl ⟨by show (-1 : Int) ≤ i; omega, by show (i : Int) < ((i + 1 : Nat) : Int); omega, h1, h2⟩
theorem common_bound (p q : Proof) : (-1 ≤ (commonOf p q).1 ∧ (commonOf p q).1 < p.p.length) ∧ -1 ≤ (commonOf p q).2 ∧ (commonOf p q).2 < q.p.length := by
  have e1 : (idsP p).length = p.p.length := by unfold idsP; simp
  have e2 : (idsP q).length = q.p.length := by unfold idsP; simp
  rcases commonF_bound (idsP p) (idsP q) (idsP p).length with h | h
  · rw [e1, e2] at h
    unfold commonOf
    rw [e1]
    exact ⟨⟨h.1, h.2.1⟩, h.2.2.1, h.2.2.2⟩
  · unfold commonOf
    rw [h]
    exact ⟨⟨by decide, by show (-1 : Int) < _; omega⟩, by decide, by show (-1 : Int) < _; omega⟩
def smallP (p : Proof) : Prop := p.p.length ≤ 110 ∧ ∀ x ∈ p.p, x.l.length ≤ 40
def holdsE (x : PPair) : Int := if ¬ checkP x.p = 0 then checkP x.p else checkP x.q
def alikeE (x : PPair) : Int :=
  if ¬ x.p.m = x.q.m ∨ ¬ x.p.k = x.q.k then 1 else if ¬ (yAt x.p 0).h = (yAt x.q 0).h ∧ ¬ headId (yAt x.p 0).h = headId (yAt x.q 0).h then 12 else 0
def betterE (p q : Proof) : Int := if ¬ holdsE ⟨p, q⟩ = 0 then holdsE ⟨p, q⟩ else alikeE ⟨p, q⟩
def worthOf (p : Proof) (i : Int) : Int := scoreOf ((levelsP p).drop (i + 1).toNat) p.m
def betterB (p q : Proof) : Bool := decide (betterE p q = 0) && decide (worthOf p (commonOf p q).1 < worthOf q (commonOf p q).2)
def pickOf (p q : Proof) : Proof × Int :=
  if ¬ checkP p = 0 ∧ checkP q = 0 then (q, 0) else if ¬ checkP p = 0 ∨ ¬ checkP q = 0 then (p, checkP p) else if betterB p q = true then (q, 0) else (p, betterE p q)
def foldOf (l : List Proof) : Proof × Int :=
  match l with
  | [] => (zProof, 9)
  | p :: l => (l.foldl (fun o q => (pickOf o q).1) p, checkP (l.foldl (fun o q => (pickOf o q).1) p))
theorem holds_len {p : Proof} (h : checkP p = 0) : 0 < p.p.length := by
  have h := checkP_holds.1 h
  have := h.k1
  have := h.l1
  omega
theorem holds_both {x : PPair} (h : holdsE x = 0) : checkP x.p = 0 ∧ checkP x.q = 0 := by
  unfold holdsE at h
  split at h
  · rename_i c; exact absurd h c
  · rename_i c; exact ⟨Classical.not_not.1 c, h⟩
theorem pick_small {p q : Proof} (hp : smallP p) (hq : smallP q) : smallP (pickOf p q).1 := by
  unfold pickOf
  split
  · exact hq
  · split
    · exact hp
    · split
      · exact hq
      · exact hp
theorem fold_small {l : List Proof} (hl : ∀ p ∈ l, smallP p) : ∀ {o : Proof}, smallP o → smallP (l.foldl (fun o q => (pickOf o q).1) o) := by
  induction l with
  | nil => exact fun h => h
  | cons q l ih => exact fun h => ih (fun p hp => hl p (List.mem_cons_of_mem _ hp)) (pick_small h (hl q (List.mem_cons_self ..)))
theorem set_self {α : Type} {l : List α} {i : Nat} {x : α} (h : l[i]? = some x) : l.set i x = l := by
  apply List.ext_getElem?
  intro j
  by_cases e : i = j
  · subst e
    rw [List.getElem?_set_self (List.getElem?_eq_some_iff.1 h).1, h]
  · rw [List.getElem?_set_ne e]
theorem ze_101 : ZeroAt P 101 (arrT 2 (by decide) proofT) (List.replicate 2 zProof) := zeroAt_agg (zero_arr (by decide) zero_Proof) (by kernel_rfl)
def fewL (l : List Proof) : Bool := l.all fewPr && decide (l.length ≤ 6)
theorem fewPr_small {p : Proof} (h : fewPr p = true) : smallP p := ⟨fewPr_len h, fun _ hx => fewPr_links h hx⟩
theorem fewL_small {l : List Proof} (h : fewL l = true) : (∀ p ∈ l, smallP p) ∧ l.length ≤ 6 := by
  unfold fewL at h
  rw [Bool.and_eq_true, decide_eq_true_eq] at h
  exact ⟨fun p hp => fewPr_small (List.all_eq_true.1 h.1 p hp), h.2⟩
theorem clonePart (l : List Part) (hl : l.length * 208 ≤ 140737488355328 ∧ l.length ≤ 9223372036854775807) : Tells P 62 [.val (bsl partT) l] (.fresh 58 partT l) := by
 refine fn_of_aw Tryz.func62 rfl rfl rfl (fun ext w hext => ?_)
 refine aw_fact (d := 0) rfl fact_sl (fun hsl0 => ?_)
 refine CQR ?_; refine A0 aL ?_; refine CNQQR ?_; refine A0 mV ?_
 refine aw_eqnil rfl rfl rfl rfl rfl isl_23 (fun c4 hc4 => ?_)
 refine CN ?_
 refine aw_ifc (p := c4 = true) rfl (by simp) (fun ht4 => ?_) (fun ht4 => ?_)
 ·
  obtain rfl := hc4 ht4
  refine CQR ?_; refine A0 aL ?_; refine CN ?_
  exact aw_ret1 rfl rfl (ret_fresh_nil rfl)
 ·
  refine CSQR ?_; refine aw_bslice (T := partT) (xs := []) rfl rfl rfl rfl sl_23 row_23 trivial rfl rfl ?_; refine A0 mV ?_; refine aw_append rfl rfl rfl rfl rfl rfl rfl row_23 (by simpa using hl) ?_; refine A0 aO ?_; refine CN ?_
  exact aw_ret1 rfl rfl (ret_fresh_eq rfl rfl (by simp))
theorem equalFPart (l m : List Part) : Tells P 48 [.val (bsl partT) l, .val (bsl partT) m, .fn2 P partT partT boolT (fun x y => decide (x = y))] (.val boolT (decide (l = m))) := by
 refine fn_of_aw Tryz.func48 rfl rfl rfl (fun ext w hext => ?_)
 refine aw_fact (d := 0) rfl fact_sl (fun hsl0 => ?_)
 refine aw_fact (d := 1) rfl fact_sl (fun hsl1 => ?_)
 refine CQR ?_; refine A0 aV ?_; refine CNQQR ?_; refine A0 mV ?_; refine A0 (g_len rfl rfl isl_23) ?_; refine A0 mV ?_; refine A0 (g_len rfl rfl isl_23) ?_; refine A0 o_neq ?_; refine CN ?_
 refine Cf (p := ¬ l.length = m.length) (fun ht14 => ?_) (fun ht14 => ?_)
 ·
  refine CQR ?_; refine A0 aV ?_; refine CN ?_
  exact aw_ret1 rfl rfl (ret_eq rfl (decide_eq_false (fun e => ht14 (by rw [e]))).symm)
 ·
  refine CSQQR ?_; refine A0 mV ?_; refine A0 (g_len rfl rfl isl_23) ?_; refine A0 mV ?_; refine CNB ?_
  refine Lp (ι := Nat) 0 (fun (k : Nat) => ((((((Fr.none).set 0 (.val (bsl partT) l)).set 1 (.val (bsl partT) m)).set 2 (.fn2 P partT partT boolT (fun x y => decide (x = y)))).set 15 (.val (bsl partT) l)).set 16 (.val i64T (l.length : Int))).set 17 (.val i64T (k : Int))) (fun (k : Nat) => Hp.none) (fun (k : Nat) => k ≤ l.length ∧ l.take k = m.take k) (fun (k : Nat) => l.length - k) (0) (⟨Nat.zero_le _, by simp⟩) ?_
  intro k hinv
  refine CQR ?_; refine A0 o_lss ?_; refine CNQ ?_
  refine Cf (p := k < l.length) (fun ht18 => ?_) (fun ht18 => ?_)
  ·
   obtain ⟨x, hx⟩ : ∃ x, l[k]? = some x := ⟨_, List.getElem?_eq_getElem ht18⟩
   obtain ⟨y, hy⟩ : ∃ y, m[k]? = some y := ⟨_, List.getElem?_eq_getElem (by omega)⟩
   refine CSQBQR ?_; refine A0 mV ?_; refine A0 (g_ia_n rfl rfl rfl sl_23 (by assumption)) ?_; refine A0 (g_load_r rfl rfl ty_58) ?_; refine aw_alloc ze_58 rfl rfl rfl rfl ?_; refine A0 aV ?_
   refine aw_store_b rfl rfl rfl rfl rfl (Lens.self _) ty_58 rfl ?_; refine CNQR ?_; refine A0 mV ?_; refine A0 mV ?_; refine A0 (g_ia_n rfl rfl rfl sl_23 (by assumption)) ?_; refine A0 (g_load_r rfl rfl ty_58) ?_
   refine aw_alloc ze_58 rfl rfl rfl rfl ?_; refine aw_store_b rfl rfl rfl rfl rfl (Lens.self _) ty_58 rfl ?_; refine CNQR ?_; refine A0 mH ?_; refine A0 (oLs rfl rfl rfl ty_58) ?_; refine A0 (oLs rfl rfl rfl ty_58) ?_
   refine A0 (g_callf2 rfl rfl (arg_v rfl) (arg_v rfl)) ?_; refine A0 oN ?_; refine CN ?_
   refine aw_ifc (p := ¬ x = y) rfl (by simp) (fun ht30 => ?_) (fun ht30 => ?_)
   ·
    refine CQR ?_; refine A0 aV ?_; refine CN ?_
    exact aw_ret1 rfl rfl (ret_eq rfl (decide_eq_false (ne_of_at hx hy ht30)).symm)
   ·
    refine CSIR ?_; refine A0 o_add ?_; refine A0 mV ?_; refine CN ?_
    exact Nx (k + 1) (⟨by omega, beq_all_succ hx hy hinv.2 (by simpa using ht30)⟩) (by omega)
  ·
   refine CE ?_; refine CQR ?_; refine A0 aV ?_; refine CN ?_
   exact aw_ret1 rfl rfl (ret_eq rfl (decide_eq_true (by have h := hinv.2; rw [List.take_of_length_le (by omega), List.take_of_length_le (by omega)] at h; exact h)).symm)
theorem sameParts_ok (x y : Part) : Tells P 46 [.val partT x, .val partT y] (.val boolT (decide (x = y))) := by
 refine fn_of_aw Tryz.func46 rfl rfl rfl (fun ext w hext => ?_)
 refine CQR ?_; refine aw_box rfl rfl rfl rfl rfl ?_; refine aw_box rfl rfl rfl rfl rfl ?_; refine A0 aV ?_; refine CNQR ?_; refine A0 (oFp fd_58_0) ?_; refine A0 (oLb L_Part_h ty_55) ?_; refine A0 (oFp fd_58_0) ?_
 refine A0 (oLb L_Part_h ty_55) ?_; refine A0 (g_eqlS rfl rfl rfl (eqt_55)) ?_; refine A0 mV ?_
 refine aw_splitp (d := 10) (p := x.h = y.h) rfl (by simp) (fun g10 => ?_) (fun g10 => ?_)
 ·
  refine A1 (oFp fd_58_1) ?_; refine A1 (oLb L_Part_l ty_56) ?_; refine A1 (oFp fd_58_1) ?_; refine A1 (oLb L_Part_l ty_56) ?_; refine A1 (oCl (equalId x.l y.l) rfl fn_47 ⟨(arg_v rfl), (arg_v rfl), trivial⟩) ?_; refine A0 oK ?_; refine A0 aV ?_
  refine CN ?_
  exact aw_ret1 rfl rfl (ret_eq rfl ((by rw [decide_eq_decide]; exact ⟨fun h => by cases x; cases y; simp_all, fun h => by rw [h]⟩)))
 ·
  refine A2 ?_; refine A2 ?_; refine A2 ?_; refine A2 ?_; refine A2 ?_; refine A0 oK ?_; refine A0 aV ?_; refine CN ?_
  exact aw_ret1 rfl rfl (ret_eq rfl ((by symm; apply decide_eq_false; intro h; exact g10 (by rw [h]))))
theorem sameP_ok (a b : Proof) : Tells P 25 [.val proofT a, .val proofT b] (.val boolT (decide (a = b))) := by
 refine fn_of_aw Tryz.func25 rfl rfl rfl (fun ext w hext => ?_)
 refine CQR ?_; refine aw_box rfl rfl rfl rfl rfl ?_; refine aw_box rfl rfl rfl rfl rfl ?_; refine A0 aV ?_; refine CNQR ?_; refine A0 aC ?_; refine CNQR ?_; refine A0 (oFp fd_25_0) ?_; refine A0 (oLb L_Proof_m ty_3) ?_
 refine A0 (oFp fd_25_0) ?_; refine A0 (oLb L_Proof_m ty_3) ?_; refine A0 o_eql ?_; refine A0 mV ?_
 refine aw_splitp (d := 11) (p := a.m = b.m) rfl (by simp [IntL.toI]) (fun g11 => ?_) (fun g11 => ?_)
 ·
  refine A1 (oFp fd_25_1) ?_; refine A1 (oLb L_Proof_k ty_3) ?_; refine A1 (oFp fd_25_1) ?_; refine A1 (oLb L_Proof_k ty_3) ?_; refine A1 o_eql ?_; refine A0 oK ?_; refine A0 mV ?_
  refine aw_splitp (d := 18) (p := a.k = b.k) rfl (by simp [IntL.toI]) (fun g18 => ?_) (fun g18 => ?_)
  ·
   refine A1 (oFp fd_25_2) ?_; refine A1 (oLb L_Proof_p ty_23) ?_; refine A1 (oFp fd_25_2) ?_; refine A1 (oLb L_Proof_p ty_23) ?_; refine A1 mC ?_
   refine A1 (oCl (equalFPart a.p b.p) rfl fn_48 ⟨(arg_v rfl), (arg_v rfl), (by first | exact arg_fn1 (Cs := []) rfl fn_46 (by intro n hn; cases hn) trivial rfl (fun x => sameParts_ok x y) | exact arg_fn2 (Cs := []) rfl fn_46 (by intro n hn; cases hn) trivial rfl (fun x y => sameParts_ok x y) | exact arg_clo rfl), trivial⟩) ?_
   refine A0 oK ?_; refine A0 aV ?_; refine CN ?_
   exact aw_ret1 rfl rfl (ret_eq rfl ((by rw [decide_eq_decide]; exact ⟨fun h => by cases a; cases b; simp_all, fun h => by rw [h]⟩)))
  ·
   refine A2 ?_; refine A2 ?_; refine A2 ?_; refine A2 ?_; refine A2 ?_; refine A2 ?_; refine A0 oK ?_; refine A0 aV ?_; refine CN ?_
   exact aw_ret1 rfl rfl (ret_eq rfl ((by symm; apply decide_eq_false; intro h; exact g18 (by rw [h]))))
 ·
  refine A2 ?_; refine A2 ?_; refine A2 ?_; refine A2 ?_; refine A2 ?_; refine A0 oK ?_; refine A0 mV ?_; refine A2 ?_; refine A2 ?_; refine A2 ?_; refine A2 ?_; refine A2 ?_; refine A2 ?_; refine A0 oK ?_; refine A0 aV ?_; refine CN ?_
  exact aw_ret1 rfl rfl (ret_eq rfl ((by symm; apply decide_eq_false; intro h; exact g11 (by rw [h]))))
theorem score_ok (v : List Int) (m : Int) : Tells P 22 [.val (bsl i64T) v, .val i64T m] (.val i64T (scoreOf v m)) := by
 refine fn_of_aw Tryz.func22 rfl rfl rfl (fun ext w hext => ?_)
 refine aw_fact (d := 0) rfl fact_sl (fun hsl0 => ?_)
 refine aw_fact (d := 1) rfl fact_int (fun hin1 => ?_)
 refine CQR ?_; refine A0 aV ?_; refine CNQQR ?_; refine A0 mV ?_; refine A0 (g_len rfl rfl isl_22) ?_; refine A0 o_gtr ?_; refine CN ?_
 refine Cf (p := 100 < v.length) (fun ht14 => ?_) (fun ht14 => ?_)
 ·
  refine CQR ?_; refine A0 aV ?_; refine CN ?_
  exact aw_ret1 rfl rfl (ret_eq rfl (by unfold scoreOf; rw [if_pos ht14]))
 ·
  refine CSQR ?_; refine aw_alloc ze_72 rfl rfl rfl rfl ?_; refine CNQQR ?_; refine A0 mV ?_; refine A0 (g_len rfl rfl isl_22) ?_; refine A0 mV ?_; refine CNB ?_
  refine aw_reheap (n := 0) (y := cntOf (v.take 0)) rfl (by rw [List.take_zero, cnt_nil]) ?_
  refine Lp (ι := Nat) 1 (fun (i : Nat) => (((((Fr.none).set 1 (.val i64T m)).set 5 (.ptr 0 0)).set 15 (.val (bsl i64T) v)).set 16 (.val i64T (v.length : Int))).set 17 (.val i64T (i : Int))) (fun (i : Nat) => (Hp.none).set 0 (.box 72 (arrT 32 (by decide) i64T) (cntOf (v.take i)))) (fun (i : Nat) => i ≤ v.length) (fun (i : Nat) => v.length - i) (0) (Nat.zero_le _) ?_
  intro i hinv
  refine CQR ?_; refine A0 o_lss ?_; refine CNQ ?_
  refine Cf (p := i < v.length) (fun ht18 => ?_) (fun ht18 => ?_)
  ·
   obtain ⟨x, hx⟩ : ∃ x, v[i]? = some x := ⟨_, List.getElem?_eq_getElem ht18⟩
   refine CSQBQR ?_; refine A0 (g_ia_n rfl rfl rfl sl_22 (by assumption)) ?_; refine A0 (g_load_r rfl rfl ty_3) ?_
   refine aw_fact (d := 20) rfl fact_int (fun hxr => ?_)
   refine A0 aX ?_; refine CNQR ?_; refine A0 mX ?_; refine A0 (g_min rfl rfl rfl) ?_; refine A0 o_add ?_; refine A0 mV ?_; refine CNB ?_; refine aw_reheap (n := 0) (y := cntK (v.take i) ((0 : Nat) : Int)) rfl (cntK_zero _ (by simp)).symm ?_
   refine Lp (ι := Nat) 1 (fun (k : Nat) => (((((((Fr.none).set 1 (.val i64T m)).set 5 (.ptr 0 0)).set 15 (.val (bsl i64T) v)).set 16 (.val i64T (v.length : Int))).set 17 (.val i64T (i : Int))).set 23 (.val i64T (min x 31 + 1))).set 24 (.val i64T (k : Int))) (fun (k : Nat) => (Hp.none).set 0 (.box 72 (arrT 32 (by decide) i64T) (cntK (v.take i) k))) (fun (k : Nat) => (k : Int) ≤ max (min x 31 + 1) 0) (fun (k : Nat) => 33 - k) (0) (by simp; omega) ?_
   intro k hk
   refine CQR ?_; refine A0 o_lss ?_; refine CNQ ?_
   refine Cf (p := (k : Int) < min x 31 + 1) (fun ht25 => ?_) (fun ht25 => ?_)
   ·
    have hg : (cntK (v.take i) k).getD k default = (many (v.take i) k : Int) := by rw [List.getD_eq_getElem?_getD, cntK_at _ _ (by omega), if_neg (by omega)]; simp
    have hml := many_le (v.take i) k
    have hml2 : (v.take i).length ≤ 100 := by rw [List.length_take]; omega
    refine CSQBQR ?_; refine A0 mV ?_; refine A0 aV ?_; refine CNR ?_; refine A0 mV ?_; refine A0 (g_ia_b0 (i := k) rfl rfl rfl (by first | omega | rfl) ar_72 (by omega)) ?_
    refine A0 (g_load_b rfl rfl rfl (Lens.elem (i := k) (by omega) i64T) ty_3) ?_; refine A0 (g_add rfl rfl rfl (show _ = ((many (v.take i) k : Int) + 1 : Int) from by rw [hg]; exact wrap_eq (by omega))) ?_
    refine A0 (g_ia_b0 (i := k) rfl rfl rfl (by first | omega | rfl) ar_72 (by omega)) ?_; refine aw_store_b rfl rfl rfl rfl rfl (Lens.elem (i := k) (by omega) i64T) ty_3 rfl ?_; refine CNIR ?_; refine A0 o_add ?_; refine A0 mV ?_; refine CN ?_
    refine aw_reheap (n := 0) (y := cntK (v.take i) ((k + 1 : Nat) : Int)) rfl (cntK_step _ (by omega)) ?_
    exact Nx (k + 1) (by omega) (by omega)
   ·
    refine CE ?_; refine CI ?_; refine CR ?_; refine A0 o_add ?_; refine A0 mV ?_; refine CN ?_; refine aw_reheap (n := 0) (y := cntOf (v.take (i + 1))) rfl (cntK_end hx hk ht25) ?_
    exact Nx (i + 1) (by omega) (by omega)
  ·
   refine aw_reheap (n := 0) (y := cntOf v) rfl (by rw [List.take_of_length_le (by omega)]) ?_; refine CE ?_; refine CQR ?_; refine A0 (g_ia_b0 (i := 0) rfl rfl rfl (by first | omega | rfl) ar_72 (by omega)) ?_
   refine A0 (g_load_b rfl rfl rfl (Lens.elem (i := 0) (by omega) i64T) ty_3) ?_; refine aw_reval (d := 35) (y := scoreF v m 0) rfl (by rw [List.getD_eq_getElem?_getD, cnt_at v (by decide)]; rfl) ?_; refine A0 aV ?_; refine CNQQR ?_
   refine A0 (oLs rfl rfl rfl ty_72) ?_; refine A0 mV ?_; refine CNB ?_
   refine Lp (ι := Nat) 1 (fun (n : Nat) => ((((Fr.none).set 1 (.val i64T m)).set 9 (.val i64T (scoreF v m n))).set 36 (.val (arrT 32 (by decide) i64T) (cntOf v))).set 37 (.val i64T (n : Int))) (fun (n : Nat) => Hp.none) (fun (n : Nat) => n ≤ 32) (fun (n : Nat) => 32 - n) (0) (Nat.zero_le _) ?_
   intro n hn
   refine CQR ?_; refine A0 o_lss ?_; refine CNQ ?_
   refine Cf (p := n < 32) (fun ht38 => ?_) (fun ht38 => ?_)
   ·
    have hc := cnt_at v ht38
    have hml := many_le v n
    refine CSQBQR ?_; refine A0 mV ?_; refine A0 (g_index rfl rfl rfl rfl ar_72 ty_3 (by assumption)) ?_; refine A0 aV ?_; refine A0 aV ?_; refine CNQR ?_; refine A0 mV ?_; refine A0 mV ?_; refine A0 o_geq ?_; refine CN ?_
    refine Cf (p := m ≤ (many v n : Int)) (fun ht43 => ?_) (fun ht43 => ?_)
    ·
     refine CR ?_; refine A0 mV ?_; refine A0 mV ?_; refine A0 mV ?_
     refine A0 (g_shlI rfl rfl rfl (by first | decide | omega | (show (0 : Int) ≤ ((_ : Nat) : Int) - 1; omega) | (simp [IntL.toI]; done) | (simp [IntL.toI]; omega)) (shl_many (a := many v n) ht38 (by omega))) ?_; refine A0 (g_max rfl rfl rfl) ?_
     refine A0 aV ?_; refine CNIR ?_; refine A0 o_add ?_; refine A0 mV ?_; refine CN ?_; refine aw_reval (d := 9) (y := scoreF v m (n + 1)) rfl (if_pos ht43).symm ?_
     exact Nx (n + 1) (by omega) (by omega)
    ·
     refine CSIR ?_; refine A0 o_add ?_; refine A0 mV ?_; refine CN ?_; refine aw_reval (d := 9) (y := scoreF v m (n + 1)) rfl (if_neg ht43).symm ?_
     exact Nx (n + 1) (by omega) (by omega)
   ·
    refine CE ?_; refine CQR ?_; refine A0 mV ?_; refine A0 aV ?_; refine CN ?_
    exact aw_ret1 rfl rfl (ret_eq rfl (by unfold scoreOf; rw [if_neg ht14, show n = 32 by omega]))
theorem common_ok (p q : Proof) (hp : p.p.length ≤ 110) (hq : q.p.length ≤ 110) : Tells P 13 [.val proofT p, .val proofT q] (.tup2 (.val i64T (commonOf p q).1) (.val i64T (commonOf p q).2)) := by
 have hia := tells_pub (ids_ok p (by omega))
 have hib := tells_pub (ids_ok q (by omega))
 obtain ⟨A, hA⟩ : ∃ A, A = idsP p := ⟨_, rfl⟩
 obtain ⟨B, hB⟩ : ∃ B, B = idsP q := ⟨_, rfl⟩
 have hcm : commonOf p q = commonF A B A.length := by rw [hA, hB]; rfl
 have hal : A.length ≤ 110 := by rw [hA]; unfold idsP; simpa using hp
 rw [← hA] at hia
 rw [← hB] at hib
 refine fn_of_aw Tryz.func13 rfl rfl rfl (fun ext w hext => ?_)
 refine CQR ?_; refine aw_box rfl rfl rfl rfl rfl ?_; refine aw_box rfl rfl rfl rfl rfl ?_; refine aw_alloc ze_3 rfl rfl rfl rfl ?_; refine aw_alloc ze_3 rfl rfl rfl rfl ?_; refine CNQR ?_; refine A0 (oLs rfl rfl rfl ty_25) ?_
 refine A0 (oCl (hib) rfl fn_28 ⟨(arg_v rfl), trivial⟩) ?_; refine aw_alloc ze_56 rfl rfl rfl rfl ?_; refine aw_store_b rfl rfl rfl rfl rfl (Lens.self _) ty_56 rfl ?_; refine CNQQR ?_; refine A0 (oLs rfl rfl rfl ty_25) ?_
 refine A0 (oCl (hia) rfl fn_28 ⟨(arg_v rfl), trivial⟩) ?_
 refine aw_inline rfl rfl rfl rfl Tryz.func29 fn_29 rfl rfl (fun ia1 iok1 => ?_)
 refine CQR ?_; refine aw_box rfl rfl rfl rfl rfl ?_; refine A0 aL ?_; refine CNQR ?_; refine A0 (g_mkf (caps := [_]) rfl rfl) ?_; refine A0 aC ?_; refine CN ?_; refine aw_back1 rfl ?_; refine CNB ?_
 refine aw_range rfl rfl rfl Tryz.func54 fn_54 rfl rfl (by intro n hn; simp only [List.mem_cons, List.not_mem_nil, or_false] at hn; rcases hn with rfl <;> rfl) (fun fid2 ca2 lN2 DN2 cok2 rc2 hrc2 => ?_)
 refine CQR ?_; refine A0 (oLs rfl rfl rfl ty_56) ?_; refine A0 (g_len rfl rfl isl_56) ?_; refine A0 o_sub ?_; refine A0 aV ?_; refine CNB ?_
 refine Lp (ι := Nat) 8 (fun (k : Nat) => (((Fr.none).set 0 (.lit (.func (.yield lN2) #[] #[]))).set 1 (.ptr 5 0)).set 3 (.val i64T ((k : Int) - 1))) (fun (k : Nat) => ((((((Hp.none).set 2 (.box 3 i64T 0)).set 3 (.box 3 i64T 0)).set 4 (.box 56 (sl idT) B)).set 5 (.box 56 (sl idT) A)).set 6 (.objAt DN2 (.deferred (some [])))).set 7 (.objAt lN2 (rc2 .ready none))) (fun (k : Nat) => k ≤ A.length ∧ commonOf p q = commonF A B k) (fun (k : Nat) => k) (A.length) (⟨Nat.le_refl _, hcm⟩) ?_
 intro k hinv
 refine CQQR ?_; refine A0 mV ?_; refine A0 o_geq ?_; refine CN ?_
 refine Cf (p := 0 < k) (fun ht8 => ?_) (fun ht8 => ?_)
 ·
  obtain ⟨a, ha⟩ : ∃ a, A[k - 1]? = some a := ⟨_, List.getElem?_eq_getElem (by omega)⟩
  refine CSQBQR ?_; refine A0 mL ?_; refine A0 mV ?_; refine A0 (oLs rfl rfl rfl ty_56) ?_; refine A0 mV ?_; refine A0 (g_ia_i (i := k - 1) rfl rfl rfl (by omega) sl_56 (by assumption)) ?_; refine A0 (g_load_r rfl rfl ty_49) ?_
  refine aw_yield (nL := 7) rfl rfl rfl rfl rfl hrc2 rfl rfl rfl (fun ya3 yok3 => ?_)
  refine CQR ?_; refine A0 aV ?_; refine CNR ?_; refine aw_alloc ze_49 rfl rfl rfl rfl ?_; refine aw_store_b rfl rfl rfl rfl rfl (Lens.self _) ty_49 rfl ?_; refine CN ?_; refine aw_begin (nL := 7) hrc2 rfl ?_; refine CB ?_; refine CQR ?_
  refine A0 (oLs rfl rfl rfl ty_56) ?_; refine A0 (oLs rfl rfl rfl ty_49) ?_; refine A0 (oCl (indexId B a) rfl fn_30 ⟨(arg_v rfl), (arg_v rfl), trivial⟩) ?_; refine A0 aV ?_; refine CNQR ?_; refine A0 mV ?_; refine A0 o_neq ?_; refine CN ?_
  refine aw_ifc (p := ¬ idx (fun y => decide (a = y)) B = -1) rfl (by simp [IntL.toI]) (fun ht21 => ?_) (fun ht21 => ?_)
  ·
   refine CQR ?_; refine A0 mV ?_; refine A0 mV ?_; refine aw_store_b rfl rfl rfl rfl rfl (Lens.self _) ty_3 rfl ?_; refine aw_store_b rfl rfl rfl rfl rfl (Lens.self _) ty_3 rfl ?_; refine CN ?_; refine aw_round_ret (nL := 7) hrc2 rfl ?_
   refine A0 oN ?_; refine CN ?_; refine Ct ?_; refine aw_iter_ret (nL := 7) rfl hrc2 rfl (by decide) ?_
   refine aw_of_ar (ar_unmark (nD := 6) rfl rfl rfl ?_)
   exact ar_retr2 rfl rfl (rv_cell rfl rfl ty_3 (by rw [hinv.2, common_stop ht8 ha ht21])) (rv_cell rfl rfl ty_3 (by rw [hinv.2, common_stop ht8 ha ht21]))
  ·
   refine CS ?_; refine CI ?_; refine aw_round_end (nL := 7) hrc2 rfl ?_; refine A0 oN ?_; refine CN ?_; refine Cg ?_; refine CSIR ?_; refine A0 mV ?_; refine A0 o_sub ?_; refine A0 aV ?_; refine CN ?_
   refine aw_reval (d := 3) (y := ((k - 1 : Nat) : Int) - 1) rfl (by omega) ?_
   exact Nx (k - 1) (⟨by omega, by rw [hinv.2]; exact common_go ht8 ha (Classical.not_not.1 ht21)⟩) (by omega)
 ·
  refine CE ?_; refine aw_iter_fall (nL := 7) rfl hrc2 rfl (by decide) ?_; refine CI ?_; refine CQR ?_; refine aw_store_b rfl rfl rfl rfl rfl (Lens.self _) ty_3 rfl ?_; refine aw_store_b rfl rfl rfl rfl rfl (Lens.self _) ty_3 rfl ?_
  refine CN ?_
  refine aw_of_ar (ar_unmark (nD := 6) rfl rfl rfl ?_)
  exact ar_retr2 rfl rfl (rv_cell rfl rfl ty_3 (by rw [hinv.2, show k = 0 by omega]; rfl)) (rv_cell rfl rfl ty_3 (by rw [hinv.2, show k = 0 by omega]; rfl))
theorem ownP_ok (p : Proof) (hp : smallP p) : Tells P 40 [.val proofT p] (.val proofT p) := by
 have hpl := hp.1
 refine fn_of_aw Tryz.func40 rfl rfl rfl (fun ext w hext => ?_)
 refine CQR ?_; refine aw_box rfl rfl rfl rfl rfl ?_; refine aw_alloc ze_25 rfl rfl rfl rfl ?_; refine CN ?_; refine aw_splitb 0 (x := p) (split_proofV p) rfl ?_; refine CQR ?_; refine A0 (oFp fd_25_2) ?_
 refine A0 (g_load_p rfl rfl rfl rfl rfl ty_23) ?_; refine aw_callf (clonePart p.p (by constructor <;> omega)) rfl fn_62 ⟨(arg_v rfl), trivial⟩ rfl rfl rfl ?_; refine A0 (oFp fd_25_2) ?_
 refine aw_store_p rfl rfl rfl rfl rfl rfl rfl rfl rfl rfl ty_23 ?_; refine CNQQR ?_; refine A0 (oFp fd_25_2) ?_; refine A0 (g_load_p rfl rfl rfl rfl rfl ty_23) ?_; refine A0 (g_len_o rfl rfl rfl isl_23) ?_; refine A0 mV ?_; refine CNB ?_
 refine Lp (ι := Nat) 3 (fun (i : Nat) => (((((Fr.none).set 1 (.ptr 0 0)).set 2 (.ptr 1 0)).set 10 (.own 2)).set 11 (.val i64T (p.p.length : Int))).set 12 (.val i64T (i : Int))) (fun (i : Nat) => (((Hp.none).set 0 (.parts 25 [.val i64T p.m, .val i64T p.k, .own 2])).set 1 (.box 25 proofT zProof)).set 2 (.row 58 partT p.p)) (fun (i : Nat) => i ≤ p.p.length) (fun (i : Nat) => p.p.length - i) (0) (Nat.zero_le _) ?_
 intro i hinv
 refine CQR ?_; refine A0 o_lss ?_; refine CNQ ?_
 refine Cf (p := i < p.p.length) (fun ht13 => ?_) (fun ht13 => ?_)
 ·
  obtain ⟨x, hx⟩ : ∃ x, p.p[i]? = some x := ⟨_, List.getElem?_eq_getElem ht13⟩
  refine CSQBQR ?_; refine A0 mV ?_; refine A0 (g_ia_o (i := i) rfl rfl rfl rfl (by first | omega | rfl) sl_23 (by first | assumption | omega | (simp; omega))) ?_; refine A0 (g_load_e rfl rfl rfl rfl (by assumption) (Lens.self _) ty_58) ?_
  refine aw_alloc ze_58 rfl rfl rfl rfl ?_; refine A0 aV ?_; refine aw_store_b rfl rfl rfl rfl rfl (Lens.self _) ty_58 rfl ?_; refine CN ?_
  refine aw_drawx [some 1, some 1, some 1, some 1, some 1, some 1, some 1, some 1, none] mixed (by decide +kernel) ?_; refine X0 (oFp fd_25_2) ?_; refine X0 (g_load_p rfl rfl rfl rfl rfl ty_23) ?_; refine X0 mV ?_; refine X0 (oFp fd_58_1) ?_
  refine X0 (oLb L_Part_l ty_56) ?_; refine X0 (oCl (tells_pub (cloneId x.l (by have := hp.2 x (List.mem_of_getElem? hx); constructor <;> omega))) rfl fn_63 ⟨(arg_v rfl), trivial⟩) ?_
  refine X0 (g_ia_o (i := i) rfl rfl rfl rfl (by first | omega | rfl) sl_23 (by first | assumption | omega | (simp; omega))) ?_; refine X0 (g_fa_e rfl rfl fd_58_1 rfl) ?_
  refine XK.e (x := .idk) (fun fr' hfr kk H => by exact aw_store_e rfl rfl rfl ((hfr 24 (by decide +kernel)).trans rfl) rfl rfl (by assumption) L_Part_l ty_56 ((hfr 22 (by decide +kernel)).trans rfl) (aw_nil H)) ?_; refine XK.nil' ?_
  refine CI ?_; refine CR ?_; refine A0 o_add ?_; refine A0 mV ?_; refine CN ?_; refine aw_rerow (n := 2) (y := p.p) rfl (set_self hx) ?_
  exact Nx (i + 1) (by omega) (by omega)
 ·
  refine CE ?_; refine CQ ?_; refine aw_joinb 0 2 [.val i64T p.m, .val i64T p.k] (z := p) (R := proofT) rfl rfl rfl join_proof ?_; refine CR ?_; refine A0 (oLs rfl rfl rfl ty_25) ?_
  refine aw_store_b rfl rfl rfl rfl rfl (Lens.self _) ty_25 rfl ?_; refine CN ?_
  exact aw_retc1 rfl rfl rfl rfl ty_25 (rfl)
theorem holdsE_ok (x : PPair) : Tells P 34 [.val pPairT x] (.val i64T (holdsE x)) := by
 refine fn_of_aw Tryz.func34 rfl rfl rfl (fun ext w hext => ?_)
 refine CQR ?_; refine aw_box rfl rfl rfl rfl rfl ?_; refine A0 aV ?_; refine CNQQR ?_; refine A0 (oFp fd_65_0) ?_; refine A0 (oLb L_PPair_p ty_25) ?_; refine A0 (oFp fd_65_1) ?_; refine A0 (oLb L_PPair_q ty_25) ?_
 refine A0 (g_buildA (T := proofT) (xs := [_, _]) rfl ar_101 ze_101 ⟨rfl, rfl, rfl, rfl, trivial⟩ rfl) ?_; refine A0 mV ?_; refine CNB ?_
 refine Lp (ι := Nat) 1 (fun (k : Nat) => ((Fr.none).set 10 (.val (arrT 2 (by decide) proofT) [x.p, x.q])).set 11 (.val i64T (k : Int))) (fun (k : Nat) => Hp.none) (fun (k : Nat) => k ≤ 2 ∧ (0 < k → checkP x.p = 0) ∧ (1 < k → checkP x.q = 0)) (fun (k : Nat) => 2 - k) (0) (⟨by omega, fun h => absurd h (by decide), fun h => absurd h (by decide)⟩) ?_
 intro k hinv
 refine CQR ?_; refine A0 o_lss ?_; refine CNQ ?_
 refine Cf (p := k < 2) (fun ht12 => ?_) (fun ht12 => ?_)
 ·
  obtain ⟨e, he⟩ : ∃ e, [x.p, x.q][k]? = some e := ⟨_, List.getElem?_eq_getElem (show k < [x.p, x.q].length from ht12)⟩
  have hek : (k = 0 ∧ e = x.p) ∨ (k = 1 ∧ e = x.q) := by rcases (show k = 0 ∨ k = 1 by omega) with rfl | rfl; exact .inl ⟨rfl, (Option.some.inj he).symm⟩; exact .inr ⟨rfl, (Option.some.inj he).symm⟩
  rcases hek with ⟨hk, rfl⟩ | ⟨hk, rfl⟩
  ·
   refine CSQBQR ?_; refine A0 (g_index rfl rfl rfl rfl ar_101 ty_25 (by assumption)) ?_; refine aw_alloc ze_25 rfl rfl rfl rfl ?_; refine aw_store_b rfl rfl rfl rfl rfl (Lens.self _) ty_25 rfl ?_; refine CNQR ?_
   refine A0 (oLs rfl rfl rfl ty_25) ?_; refine A0 (oCl (checkP_ok x.p) rfl fn_24 ⟨(arg_v rfl), trivial⟩) ?_; refine A0 aV ?_; refine CNQR ?_; refine A0 mV ?_; refine A0 o_neq ?_; refine CN ?_
   refine aw_ifc (p := ¬ checkP x.p = 0) rfl (by simp [IntL.toI]) (fun ht17 => ?_) (fun ht17 => ?_)
   ·
    refine CQR ?_; refine A0 mV ?_; refine A0 aV ?_; refine CN ?_
    exact aw_ret1 rfl rfl (ret_eq rfl (by unfold holdsE; rw [if_pos ht17]))
   ·
    refine CSIR ?_; refine A0 o_add ?_; refine A0 mV ?_; refine CN ?_
    exact Nx (k + 1) (by first | exact ⟨by omega, fun _ => Classical.not_not.1 ht17, fun h => by omega⟩ | exact ⟨by omega, fun _ => hinv.2.1 (by omega), fun _ => Classical.not_not.1 ht17⟩) (by omega)
  ·
   refine CSQBQR ?_; refine A0 (g_index rfl rfl rfl rfl ar_101 ty_25 (by assumption)) ?_; refine aw_alloc ze_25 rfl rfl rfl rfl ?_; refine aw_store_b rfl rfl rfl rfl rfl (Lens.self _) ty_25 rfl ?_; refine CNQR ?_
   refine A0 (oLs rfl rfl rfl ty_25) ?_; refine A0 (oCl (checkP_ok x.q) rfl fn_24 ⟨(arg_v rfl), trivial⟩) ?_; refine A0 aV ?_; refine CNQR ?_; refine A0 mV ?_; refine A0 o_neq ?_; refine CN ?_
   refine aw_ifc (p := ¬ checkP x.q = 0) rfl (by simp [IntL.toI]) (fun ht17 => ?_) (fun ht17 => ?_)
   ·
    refine CQR ?_; refine A0 mV ?_; refine A0 aV ?_; refine CN ?_
    exact aw_ret1 rfl rfl (ret_eq rfl (by unfold holdsE; rw [if_neg (fun h => h (hinv.2.1 (by omega)))]))
   ·
    refine CSIR ?_; refine A0 o_add ?_; refine A0 mV ?_; refine CN ?_
    exact Nx (k + 1) (by first | exact ⟨by omega, fun _ => Classical.not_not.1 ht17, fun h => by omega⟩ | exact ⟨by omega, fun _ => hinv.2.1 (by omega), fun _ => Classical.not_not.1 ht17⟩) (by omega)
 ·
  refine CE ?_; refine CQR ?_; refine A0 aV ?_; refine CN ?_
  exact aw_ret1 rfl rfl (ret_eq rfl (by unfold holdsE; rw [if_neg (fun h => h (hinv.2.1 (by omega))), hinv.2.2 (by omega)]))
theorem alikeE_ok (x : PPair) (h1 : 0 < x.p.p.length) (h2 : 0 < x.q.p.length) (h3 : x.p.p.length ≤ 110) (h4 : x.q.p.length ≤ 110) : Tells P 35 [.val pPairT x] (.val i64T (alikeE x)) := by
 have hy := at_ x.p h1
 have hz := at_ x.q h2
 have hiy := ids_at x.p h1
 have hiz := ids_at x.q h2
 refine fn_of_aw Tryz.func35 rfl rfl rfl (fun ext w hext => ?_)
 refine CQR ?_; refine aw_box rfl rfl rfl rfl rfl ?_; refine A0 aV ?_; refine CNQ ?_; refine CB ?_; refine CQQR ?_; refine A0 (oFp fd_65_0) ?_; refine A0 (oFp fd_25_0) ?_; refine A0 (oLb (L_PPair_p.comp L_Proof_m) ty_3) ?_
 refine A0 (oFp fd_65_1) ?_; refine A0 (oFp fd_25_0) ?_; refine A0 (oLb (L_PPair_q.comp L_Proof_m) ty_3) ?_; refine A0 o_neq ?_; refine A0 aV ?_; refine CN ?_
 refine aw_ifc (p := ¬ x.p.m = x.q.m) rfl (by simp [IntL.toI]) (fun ht3 => ?_) (fun ht3 => ?_)
 ·
  refine CS ?_; refine aw_if_t rfl (by simpa [IntL.toI] using ht3) ?_; refine CQR ?_; refine A0 aV ?_; refine CN ?_
  exact aw_ret1 rfl rfl (ret_eq rfl (by unfold alikeE; rw [if_pos (.inl (by assumption))]))
 ·
  refine CR ?_; refine A0 (oFp fd_65_0) ?_; refine A0 (oFp fd_25_1) ?_; refine A0 (oLb (L_PPair_p.comp L_Proof_k) ty_3) ?_; refine A0 (oFp fd_65_1) ?_; refine A0 (oFp fd_25_1) ?_; refine A0 (oLb (L_PPair_q.comp L_Proof_k) ty_3) ?_
  refine A0 o_neq ?_; refine A0 aV ?_; refine CN ?_
  refine aw_ifc (p := ¬ x.p.k = x.q.k) rfl (by simp [IntL.toI]) (fun ht3 => ?_) (fun ht3 => ?_)
  ·
   refine CQR ?_; refine A0 aV ?_; refine CN ?_
   exact aw_ret1 rfl rfl (ret_eq rfl (by unfold alikeE; rw [if_pos (.inr (by assumption))]))
  ·
   refine CQ ?_; refine CD mixed ?_; refine G0 (oFp fd_65_0) ?_; refine G0 (oFp fd_25_2) ?_; refine G0 (oLb (L_PPair_p.comp L_Proof_p) ty_23) ?_; refine G0 (g_ia_i (i := 0) rfl rfl rfl (by omega) sl_23 (by assumption)) ?_
   refine G0 (oFr fd_58_0 L_Part_h) ?_; refine G0 (g_load_r rfl rfl ty_55) ?_; refine G0 (oFp fd_65_1) ?_; refine G0 (oFp fd_25_2) ?_; refine G0 (oLb (L_PPair_q.comp L_Proof_p) ty_23) ?_
   refine G0 (g_ia_i (i := 0) rfl rfl rfl (by omega) sl_23 (by assumption)) ?_; refine G0 (oFr fd_58_0 L_Part_h) ?_; refine G0 (g_load_r rfl rfl ty_55) ?_; refine G0 (g_neqS rfl rfl rfl (eqt_55)) ?_; refine G0 mV ?_
   refine GK_splitp (d := 32) (p := ¬ (yAt x.p 0).h = (yAt x.q 0).h) rfl (by simp) (fun g32 => ?_) (fun g32 => ?_)
   ·
    refine G1 (oFp fd_65_0) ?_; refine G1 (oLb L_PPair_p ty_25) ?_; refine G1 (oCl (tells_pub (ids_ok x.p (by omega))) rfl fn_28 ⟨(arg_v rfl), trivial⟩) ?_; refine G1 (g_ia_i (i := 0) rfl rfl rfl (by omega) sl_56 (by assumption)) ?_
    refine G1 (g_load_r rfl rfl ty_49) ?_; refine G1 (oFp fd_65_1) ?_; refine G1 (oLb L_PPair_q ty_25) ?_; refine G1 (oCl (tells_pub (ids_ok x.q (by omega))) rfl fn_28 ⟨(arg_v rfl), trivial⟩) ?_
    refine G1 (g_ia_i (i := 0) rfl rfl rfl (by omega) sl_56 (by assumption)) ?_; refine G1 (g_load_r rfl rfl ty_49) ?_; refine G1 (g_neqS rfl rfl rfl (eqt_49)) ?_; refine G0 oK ?_; refine G0 aV ?_; refine GK.nil ?_
    refine aw_ifc (p := ¬ headId (yAt x.p 0).h = headId (yAt x.q 0).h) rfl (by simp) (fun ht18 => ?_) (fun ht18 => ?_)
    ·
     refine CQR ?_; refine A0 aV ?_; refine CN ?_
     exact aw_ret1 rfl rfl (ret_eq rfl (by unfold alikeE; rw [if_neg (fun h => by omega), if_pos ⟨g32, ht18⟩]))
    ·
     refine CS ?_; refine CI ?_; refine CQR ?_; refine A0 aV ?_; refine CN ?_
     exact aw_ret1 rfl rfl (ret_eq rfl (by unfold alikeE; rw [if_neg (fun h => by omega), if_neg (fun h => ht18 h.2)]))
   ·
    refine G2 ?_; refine G2 ?_; refine G2 ?_; refine G2 ?_; refine G2 ?_; refine G2 ?_; refine G2 ?_; refine G2 ?_; refine G2 ?_; refine G2 ?_; refine G2 ?_; refine G0 oK ?_; refine G0 aV ?_; refine GK.nil ?_; refine Cg ?_; refine CS ?_
    refine CI ?_; refine CQR ?_; refine A0 aV ?_; refine CN ?_
    exact aw_ret1 rfl rfl (ret_eq rfl (by unfold alikeE; rw [if_neg (fun h => by omega), if_neg (fun h => g32 h.1)]))
theorem worth_ok (p : Proof) (i : Int) (hp : p.p.length ≤ 110) (h1 : -1 ≤ i) (h2 : i < p.p.length) : Tells P 36 [.val proofT p, .val i64T i] (.val i64T (worthOf p i)) := by
 have hll : (levelsP p).length = p.p.length := by unfold levelsP; simp
 refine fn_of_aw Tryz.func36 rfl rfl rfl (fun ext w hext => ?_)
 refine aw_fact (d := 1) rfl fact_int (fun hin1 => ?_)
 refine CQR ?_; refine aw_box rfl rfl rfl rfl rfl ?_; refine A0 aV ?_; refine CNQ ?_; refine CD mixed ?_; refine G0 (oLs rfl rfl rfl ty_25) ?_; refine G0 (oCl (tells_pub (levelsP_ok p (by omega))) rfl fn_37 ⟨(arg_v rfl), trivial⟩) ?_
 refine G0 mV ?_; refine G0 o_add ?_; refine G0 (g_sl_l rfl rfl rfl sl_22 (by first | assumption | omega | (simp; omega))) ?_; refine G0 (oFp fd_25_0) ?_; refine G0 (oLb L_Proof_m ty_3) ?_
 refine G0 (oCl (score_ok ((levelsP p).drop (i + 1).toNat) p.m) rfl fn_22 ⟨(arg_v rfl), (arg_v rfl), trivial⟩) ?_; refine G0 aV ?_; refine GK.nil ?_
 exact aw_ret1 rfl rfl (ret_eq rfl (rfl))
theorem better_ok (p q : Proof) (hp : p.p.length ≤ 110) (hq : q.p.length ≤ 110) : Tells P 15 [.val proofT p, .val proofT q] (.tup2 (.val boolT (betterB p q)) (.val i64T (betterE p q))) := by
 obtain ⟨x, hx⟩ : ∃ x : PPair, x = ⟨p, q⟩ := ⟨_, rfl⟩
 have hbd := common_bound p q
 refine fn_of_aw Tryz.func15 rfl rfl rfl (fun ext w hext => ?_)
 refine CQR ?_; refine aw_box rfl rfl rfl rfl rfl ?_; refine aw_box rfl rfl rfl rfl rfl ?_; refine A0 aV ?_; refine A0 aV ?_; refine CNQR ?_; refine A0 (oLs rfl rfl rfl ty_25) ?_; refine A0 (oLs rfl rfl rfl ty_25) ?_
 refine A0 (g_build rfl ze_65 bd_65 (.cons fd_65_0 L_PPair_p ty_25 rfl (.cons fd_65_1 L_PPair_q ty_25 rfl .nil)) rfl) ?_; refine aw_alloc ze_65 rfl rfl rfl rfl ?_; refine aw_store_b rfl rfl rfl rfl rfl (Lens.self _) ty_65 rfl ?_; refine CNQ ?_
 refine CQ ?_; refine aw_reheap (n := 2) (y := x) rfl hx.symm ?_; refine CR ?_; refine A0 (oLs rfl rfl rfl ty_65) ?_; refine A0 (g_mkbv rfl rfl) ?_; refine A0 (oLs rfl rfl rfl ty_65) ?_; refine A0 (g_mkbv rfl rfl) ?_
 refine A0 (g_bslice (T := (bndvT pPairT)) (xs := [_, _]) rfl sl_100 row_100 ⟨rfl, rfl, rfl, rfl, trivial⟩ rfl rfl) ?_
 refine aw_inline rfl rfl rfl rfl Tryz.func33 fn_33 rfl rfl (fun ia1 iok1 => ?_)
 refine CQR ?_; refine A0 aV ?_; refine CNQQR ?_; refine A0 mV ?_; refine A0 (g_len rfl rfl isl_100) ?_; refine A0 mV ?_; refine CNB ?_
 refine Lp (ι := Nat) 3 (fun (k : Nat) => (((Fr.none).set 6 (.val (sl (bndvT pPairT)) [(34, x), (35, x)])).set 7 (.val i64T 2)).set 8 (.val i64T (k : Int))) (fun (k : Nat) => ((Hp.none).set 0 (.box 25 proofT p)).set 1 (.box 25 proofT q)) (fun (k : Nat) => k ≤ 2 ∧ (0 < k → holdsE x = 0) ∧ (1 < k → alikeE x = 0)) (fun (k : Nat) => 2 - k) (0) (⟨by omega, fun h => absurd h (by decide), fun h => absurd h (by decide)⟩) ?_
 intro k hinv
 refine CQR ?_; refine A0 o_lss ?_; refine CNQ ?_
 refine Cf (p := k < 2) (fun ht9 => ?_) (fun ht9 => ?_)
 ·
  obtain ⟨e, he⟩ : ∃ e, [((34 : Nat), x), (35, x)][k]? = some e := ⟨_, List.getElem?_eq_getElem (show k < 2 from ht9)⟩
  have hek : (k = 0 ∧ e = (34, x)) ∨ (k = 1 ∧ e = (35, x)) := by rcases (show k = 0 ∨ k = 1 by omega) with rfl | rfl; exact .inl ⟨rfl, (Option.some.inj he).symm⟩; exact .inr ⟨rfl, (Option.some.inj he).symm⟩
  rcases hek with ⟨hk, rfl⟩ | ⟨hk, rfl⟩
  ·
   refine CSQBQR ?_; refine A0 (g_ia_n rfl rfl rfl sl_100 (by assumption)) ?_; refine A0 (g_load_r rfl rfl ty_67) ?_; refine A0 aX ?_; refine CNQR ?_; refine A0 mX ?_; refine A0 (g_callbv (holdsE_ok x) rfl rfl fn_34 rfl) ?_; refine A0 aX ?_
   refine CNQR ?_; refine A0 mX ?_; refine A0 o_neq ?_; refine CN ?_
   refine aw_ifc (p := ¬ holdsE x = 0) rfl (by simp [IntL.toI]) (fun ht15 => ?_) (fun ht15 => ?_)
   ·
    refine CQR ?_; refine A0 mX ?_; refine A0 aX ?_; refine CN ?_; refine aw_back1 rfl ?_; refine A0 aX ?_; refine CNQR ?_; refine A0 mX ?_; refine A0 o_neq ?_; refine CN ?_; refine aw_if_t rfl (by simpa [IntL.toI] using ht15) ?_; refine CQR ?_
    refine A0 mX ?_; refine A0 aV ?_; refine A0 aX ?_; refine CN ?_
    exact aw_ret2 rfl rfl (ret_eq rfl (by unfold betterB betterE; rw [← hx, if_pos ht15, decide_eq_false ht15]; rfl)) (ret_eq rfl (by unfold betterE; rw [← hx, if_pos ht15]))
   ·
    refine CSIR ?_; refine A0 o_add ?_; refine A0 mV ?_; refine CN ?_
    exact Nx (k + 1) (by first | exact ⟨by omega, fun _ => Classical.not_not.1 ht15, fun h => by omega⟩ | exact ⟨by omega, fun _ => hinv.2.1 (by omega), fun _ => Classical.not_not.1 ht15⟩) (by omega)
  ·
   refine CSQBQR ?_; refine A0 (g_ia_n rfl rfl rfl sl_100 (by assumption)) ?_; refine A0 (g_load_r rfl rfl ty_67) ?_; refine A0 aX ?_; refine CNQR ?_; refine A0 mX ?_
   refine A0 (g_callbv (alikeE_ok x (by have := holds_both (hinv.2.1 (by omega)); exact holds_len this.1) (by have := holds_both (hinv.2.1 (by omega)); exact holds_len this.2) (by rw [hx]; exact hp) (by rw [hx]; exact hq)) rfl rfl fn_35 rfl) ?_
   refine A0 aX ?_; refine CNQR ?_; refine A0 mX ?_; refine A0 o_neq ?_; refine CN ?_
   refine aw_ifc (p := ¬ alikeE x = 0) rfl (by simp [IntL.toI]) (fun ht15 => ?_) (fun ht15 => ?_)
   ·
    refine CQR ?_; refine A0 mX ?_; refine A0 aX ?_; refine CN ?_; refine aw_back1 rfl ?_; refine A0 aX ?_; refine CNQR ?_; refine A0 mX ?_; refine A0 o_neq ?_; refine CN ?_; refine aw_if_t rfl (by simpa [IntL.toI] using ht15) ?_; refine CQR ?_
    refine A0 mX ?_; refine A0 aV ?_; refine A0 aX ?_; refine CN ?_
    exact aw_ret2 rfl rfl (ret_eq rfl (by unfold betterB betterE; rw [← hx, if_neg (fun h => h (hinv.2.1 (by omega))), decide_eq_false ht15]; rfl)) (ret_eq rfl (by unfold betterE; rw [← hx, if_neg (fun h => h (hinv.2.1 (by omega)))]))
   ·
    refine CSIR ?_; refine A0 o_add ?_; refine A0 mV ?_; refine CN ?_
    exact Nx (k + 1) (by first | exact ⟨by omega, fun _ => Classical.not_not.1 ht15, fun h => by omega⟩ | exact ⟨by omega, fun _ => hinv.2.1 (by omega), fun _ => Classical.not_not.1 ht15⟩) (by omega)
 ·
  refine CE ?_; refine CQR ?_; refine A0 aV ?_; refine CN ?_; refine aw_back1 rfl ?_; refine A0 aX ?_; refine CNQR ?_; refine A0 mX ?_; refine A0 o_neq ?_; refine CN ?_; refine Cg ?_; refine CSQR ?_; refine A0 (oLs rfl rfl rfl ty_25) ?_
  refine A0 (oLs rfl rfl rfl ty_25) ?_; refine A0 (oCl (common_ok p q hp hq) rfl fn_13 ⟨(arg_v rfl), (arg_v rfl), trivial⟩) ?_; refine A0 mX ?_; refine A0 (by first | exact g_x20 rfl rfl | exact g_x30 rfl rfl) ?_
  refine A0 (by first | exact g_x21 rfl rfl | exact g_x31 rfl rfl) ?_; refine A0 aV ?_; refine A0 aV ?_; refine CNQR ?_; refine A0 aC ?_; refine CNQ ?_; refine CD mixed ?_; refine G0 mC ?_; refine G0 (oLs rfl rfl rfl ty_25) ?_; refine G0 mV ?_
  refine G0 (g_callc (As := [_, _]) (Cs := []) (worth_ok q (commonOf p q).2 hq hbd.2.1 hbd.2.2) rfl rfl fn_36 ⟨(arg_v rfl), (arg_v rfl), trivial⟩ (by intro n hn; cases hn) trivial rfl) ?_; refine G0 mC ?_; refine G0 (oLs rfl rfl rfl ty_25) ?_
  refine G0 mV ?_; refine G0 (g_callc (As := [_, _]) (Cs := []) (worth_ok p (commonOf p q).1 hp hbd.1.1 hbd.1.2) rfl rfl fn_36 ⟨(arg_v rfl), (arg_v rfl), trivial⟩ (by intro n hn; cases hn) trivial rfl) ?_; refine G0 o_gtr ?_; refine G0 aV ?_
  refine G0 aV ?_; refine GK.nil ?_
  exact aw_ret2 rfl rfl (ret_eq rfl (by unfold betterB betterE; rw [← hx, if_neg (fun h => h (hinv.2.1 (by omega))), hinv.2.2 (by omega)]; simp [IntL.toI])) (ret_eq rfl (by unfold betterE; rw [← hx, if_neg (fun h => h (hinv.2.1 (by omega))), hinv.2.2 (by omega)]))
theorem pick_ok (p q : Proof) (hp : smallP p) (hq : smallP q) : Tells P 17 [.val proofT p, .val proofT q] (.tup2 (.val proofT (pickOf p q).1) (.val i64T (pickOf p q).2)) := by
 refine fn_of_aw Tryz.func17 rfl rfl rfl (fun ext w hext => ?_)
 refine CQR ?_; refine aw_box rfl rfl rfl rfl rfl ?_; refine aw_box rfl rfl rfl rfl rfl ?_; refine aw_alloc ze_25 rfl rfl rfl rfl ?_; refine A0 aV ?_; refine CNQ ?_; refine CD mixed ?_; refine G0 (oLs rfl rfl rfl ty_25) ?_
 refine G0 (oCl (checkP_ok p) rfl fn_24 ⟨(arg_v rfl), trivial⟩) ?_; refine G0 (oLs rfl rfl rfl ty_25) ?_; refine G0 (oCl (checkP_ok q) rfl fn_24 ⟨(arg_v rfl), trivial⟩) ?_; refine G0 aV ?_; refine G0 aV ?_; refine GK.nil ?_; refine CQ ?_
 refine CB ?_; refine CQR ?_; refine A0 mV ?_; refine A0 o_neq ?_; refine A0 mV ?_
 refine aw_splitp (d := 16) (p := ¬ checkP p = 0) rfl (by simp [IntL.toI]) (fun g16 => ?_) (fun g16 => ?_)
 ·
  refine A1 mV ?_; refine A1 o_eql ?_; refine A0 oK ?_; refine A0 aV ?_; refine CN ?_
  refine aw_ifc (p := checkP q = 0) rfl (by simp [IntL.toI]) (fun ht13 => ?_) (fun ht13 => ?_)
  ·
   refine CQR ?_; refine A0 (oLs rfl rfl rfl ty_25) ?_; refine A0 (oCl (ownP_ok q hq) rfl fn_40 ⟨(arg_v rfl), trivial⟩) ?_; refine aw_store_b rfl rfl rfl rfl rfl (Lens.self _) ty_25 rfl ?_; refine A0 aV ?_; refine CN ?_
   exact aw_retr2 rfl rfl (rv_cell rfl rfl ty_25 (by unfold pickOf; rw [if_pos ⟨g16, ht13⟩])) (rv_tmp (ret_eq rfl (by unfold pickOf; rw [if_pos ⟨g16, ht13⟩])))
  ·
   refine CQR ?_; refine A0 mV ?_; refine A0 o_neq ?_; refine A0 mV ?_; refine aw_ist (d := 25) rfl (by simpa [IntL.toI] using g16) ?_; refine A2 ?_; refine A2 ?_; refine A0 oK ?_; refine A0 aV ?_; refine CN ?_; refine Ct ?_; refine CQR ?_
   refine A0 (oLs rfl rfl rfl ty_25) ?_; refine A0 (oCl (ownP_ok p hp) rfl fn_40 ⟨(arg_v rfl), trivial⟩) ?_; refine A0 mV ?_; refine aw_store_b rfl rfl rfl rfl rfl (Lens.self _) ty_25 rfl ?_; refine A0 aV ?_; refine CN ?_
   exact aw_retr2 rfl rfl (rv_cell rfl rfl ty_25 (by unfold pickOf; rw [if_neg (fun h => ht13 h.2), if_pos (.inl g16)])) (rv_tmp (ret_eq rfl (by unfold pickOf; rw [if_neg (fun h => ht13 h.2), if_pos (.inl g16)])))
 ·
  refine A2 ?_; refine A2 ?_; refine A0 oK ?_; refine A0 aV ?_; refine CN ?_; refine Cg ?_; refine CQR ?_; refine A0 mV ?_; refine A0 o_neq ?_; refine A0 mV ?_; refine aw_isf (d := 25) rfl (by simpa [IntL.toI] using g16) ?_; refine A1 mV ?_
  refine A1 o_neq ?_; refine A0 oK ?_; refine A0 aV ?_; refine CN ?_
  refine aw_ifc (p := ¬ checkP q = 0) rfl (by simp [IntL.toI]) (fun ht22 => ?_) (fun ht22 => ?_)
  ·
   refine CQR ?_; refine A0 (oLs rfl rfl rfl ty_25) ?_; refine A0 (oCl (ownP_ok p hp) rfl fn_40 ⟨(arg_v rfl), trivial⟩) ?_; refine A0 mV ?_; refine aw_store_b rfl rfl rfl rfl rfl (Lens.self _) ty_25 rfl ?_; refine A0 aV ?_; refine CN ?_
   exact aw_retr2 rfl rfl (rv_cell rfl rfl ty_25 (by unfold pickOf; rw [if_neg (fun h => g16 h.1), if_pos (.inr ht22)])) (rv_tmp (ret_eq rfl (by unfold pickOf; rw [if_neg (fun h => g16 h.1), if_pos (.inr ht22)])))
  ·
   refine CS ?_; refine CI ?_; refine CQR ?_; refine A0 (oLs rfl rfl rfl ty_25) ?_; refine A0 (oLs rfl rfl rfl ty_25) ?_; refine A0 (oCl (better_ok p q hp.1 hq.1) rfl fn_15 ⟨(arg_v rfl), (arg_v rfl), trivial⟩) ?_; refine A0 mX ?_
   refine A0 (by first | exact g_x20 rfl rfl | exact g_x30 rfl rfl) ?_; refine A0 (by first | exact g_x21 rfl rfl | exact g_x31 rfl rfl) ?_; refine A0 aV ?_; refine A0 aV ?_; refine CNQQR ?_; refine A0 mV ?_; refine CN ?_
   refine aw_ifc (p := betterB p q = true) rfl (by simp) (fun ht38 => ?_) (fun ht38 => ?_)
   ·
    refine CQR ?_; refine A0 (oLs rfl rfl rfl ty_25) ?_; refine A0 (oCl (ownP_ok q hq) rfl fn_40 ⟨(arg_v rfl), trivial⟩) ?_; refine aw_store_b rfl rfl rfl rfl rfl (Lens.self _) ty_25 rfl ?_; refine A0 aV ?_; refine CN ?_
    exact aw_retr2 rfl rfl (rv_cell rfl rfl ty_25 (by unfold pickOf; rw [if_neg (fun h => g16 h.1), if_neg (fun h => h.elim g16 ht22), if_pos ht38])) (rv_tmp (ret_eq rfl (by unfold pickOf; rw [if_neg (fun h => g16 h.1), if_neg (fun h => h.elim g16 ht22), if_pos ht38])))
   ·
    refine CSQR ?_; refine A0 (oLs rfl rfl rfl ty_25) ?_; refine A0 (oCl (ownP_ok p hp) rfl fn_40 ⟨(arg_v rfl), trivial⟩) ?_; refine A0 mV ?_; refine aw_store_b rfl rfl rfl rfl rfl (Lens.self _) ty_25 rfl ?_; refine A0 aV ?_; refine CN ?_
    exact aw_retr2 rfl rfl (rv_cell rfl rfl ty_25 (by unfold pickOf; rw [if_neg (fun h => g16 h.1), if_neg (fun h => h.elim g16 ht22), if_neg ht38])) (rv_tmp (ret_eq rfl (by unfold pickOf; rw [if_neg (fun h => g16 h.1), if_neg (fun h => h.elim g16 ht22), if_neg ht38])))
theorem fold_ok (l : List Proof) (hl : ∀ p ∈ l, smallP p) (hn : l.length ≤ 1000000) : Tells P 19 [.val (bsl proofT) l] (.tup2 (.val proofT (foldOf l).1) (.val i64T (foldOf l).2)) := by
 refine fn_of_aw Tryz.func19 rfl rfl rfl (fun ext w hext => ?_)
 refine aw_fact (d := 0) rfl fact_sl (fun hsl0 => ?_)
 refine CQR ?_; refine aw_alloc ze_25 rfl rfl rfl rfl ?_; refine A0 aV ?_; refine CNQQR ?_; refine A0 mV ?_; refine A0 (g_len rfl rfl isl_26) ?_; refine A0 o_eql ?_; refine CN ?_
 refine aw_ifc (p := l.length = 0) rfl (by simp [IntL.toI]) (fun ht9 => ?_) (fun ht9 => ?_)
 ·
  obtain rfl : l = [] := List.length_eq_zero_iff.1 ht9
  refine CQR ?_; refine A0 (g_build rfl ze_25 bd_25 .nil rfl) ?_; refine aw_store_b rfl rfl rfl rfl rfl (Lens.self _) ty_25 rfl ?_; refine A0 aV ?_; refine CN ?_
  exact aw_retr2 rfl rfl (rv_cell rfl rfl ty_25 (rfl)) (rv_tmp (ret_eq rfl (rfl)))
 ·
  obtain ⟨p, r, rfl⟩ : ∃ p r, l = p :: r := by cases l with | nil => exact absurd rfl ht9 | cons p r => exact ⟨p, r, rfl⟩
  have hp0 := hl p (List.mem_cons_self ..)
  have hn2 : r.length ≤ 1000000 := by simp at hn; omega
  have hz : (p :: r)[0]? = some p := rfl
  refine CSQR ?_; refine A0 mV ?_; refine A0 (g_ia_i (i := 0) rfl rfl rfl (by omega) sl_26 (by assumption)) ?_; refine A0 (g_load_r rfl rfl ty_25) ?_
  refine A0 (oCl (ownP_ok p hp0) rfl fn_40 ⟨(by first | exact arg_same rfl | exact arg_bsl rfl | exact arg_own rfl rfl | exact arg_nil rfl | exact arg_rptr rfl | exact arg_fn rfl rfl | exact arg_lit rfl), trivial⟩) ?_
  refine aw_alloc ze_25 rfl rfl rfl rfl ?_; refine aw_store_b rfl rfl rfl rfl rfl (Lens.self _) ty_25 rfl ?_; refine CNQQR ?_; refine A0 mV ?_; refine A0 (g_sl_l rfl rfl rfl sl_26 (by first | assumption | omega | (simp; omega))) ?_
  refine aw_reval (d := 16) (y := r) rfl rfl ?_; refine A0 (g_len rfl rfl isl_26) ?_; refine A0 mV ?_; refine CNB ?_
  refine Lp (ι := Nat × Proof) 2 (fun (i : Nat × Proof) => match i with | (i, o) => (((((Fr.none).set 2 (.ptr 0 0)).set 4 (.ptr 1 0)).set 16 (.val (bsl proofT) r)).set 17 (.val i64T (r.length : Int))).set 18 (.val i64T (i : Int))) (fun (i : Nat × Proof) => match i with | (i, o) => ((Hp.none).set 0 (.box 25 proofT zProof)).set 1 (.box 25 proofT o)) (fun (i : Nat × Proof) => match i with | (i, o) => i ≤ r.length ∧ o = (r.take i).foldl (fun o q => (pickOf o q).1) p) (fun (i : Nat × Proof) => match i with | (i, o) => r.length - i) ((0, p)) (⟨Nat.zero_le _, rfl⟩) ?_
  intro ⟨i, o⟩ hinv
  dsimp only at hinv
  refine CQR ?_; refine A0 o_lss ?_; refine CNQ ?_
  refine Cf (p := i < r.length) (fun ht19 => ?_) (fun ht19 => ?_)
  ·
   obtain ⟨q, hq⟩ : ∃ q, r[i]? = some q := ⟨_, List.getElem?_eq_getElem ht19⟩
   have hqs := hl q (List.mem_cons_of_mem _ (List.mem_of_getElem? hq))
   have hos : smallP o := by rw [hinv.2]; exact fold_small (fun p hp => hl p (List.mem_cons_of_mem _ (List.mem_of_mem_take hp))) hp0
   refine CSQBQR ?_; refine A0 (g_ia_n rfl rfl rfl sl_26 (by assumption)) ?_; refine A0 (g_load_r rfl rfl ty_25) ?_; refine aw_alloc ze_25 rfl rfl rfl rfl ?_; refine aw_store_b rfl rfl rfl rfl rfl (Lens.self _) ty_25 rfl ?_; refine CNR ?_
   refine A0 (oLs rfl rfl rfl ty_25) ?_; refine A0 (oLs rfl rfl rfl ty_25) ?_; refine A0 (oCl (pick_ok o q hos hqs) rfl fn_17 ⟨(arg_v rfl), (arg_v rfl), trivial⟩) ?_; refine A0 mX ?_
   refine A0 (by first | exact g_x20 rfl rfl | exact g_x30 rfl rfl) ?_; refine A0 (by first | exact g_x21 rfl rfl | exact g_x31 rfl rfl) ?_; refine aw_store_b rfl rfl rfl rfl rfl (Lens.self _) ty_25 rfl ?_; refine CNIR ?_; refine A0 o_add ?_
   refine A0 mV ?_; refine CN ?_
   exact Nx ((i + 1, (pickOf o q).1)) (⟨by omega, by rw [List.take_add_one, hq, List.foldl_append, ← hinv.2]; rfl⟩) (by show r.length - (i + 1) < r.length - i; omega)
  ·
   refine CE ?_; refine CQ ?_; refine aw_drawx [some 1, some 1, some 1, none, some 1] mixed (by decide +kernel) ?_; refine X0 (oLs rfl rfl rfl ty_25) ?_; refine X0 (oLs rfl rfl rfl ty_25) ?_
   refine X0 (oCl (checkP_ok o) rfl fn_24 ⟨(arg_v rfl), trivial⟩) ?_
   refine XK.e (x := .idk) (fun fr' hfr kk H => by exact aw_store_b rfl rfl rfl ((hfr 2 (by decide +kernel)).trans rfl) rfl (Lens.self _) ty_25 ((hfr 29 (by decide +kernel)).trans rfl) (aw_nil H)) ?_; refine X0 aV ?_; refine XK.nil' ?_
   exact aw_retr2 rfl rfl (rv_cell rfl rfl ty_25 (by rw [hinv.2, List.take_of_length_le (by omega)]; rfl)) (rv_tmp (ret_eq rfl (by rw [hinv.2, List.take_of_length_le (by omega)]; rfl)))
theorem fewL_ok (l : List Proof) : Tells P 12 [.val (bsl proofT) l] (.val boolT (fewL l)) := by
 refine fn_of_aw Tryz.func12 rfl rfl rfl (fun ext w hext => ?_)
 refine aw_fact (d := 0) rfl fact_sl (fun hsl0 => ?_)
 refine CQR ?_; refine A0 aV ?_; refine CNQQR ?_; refine A0 aV ?_; refine CNB ?_
 refine Lp (ι := Nat) 0 (fun (k : Nat) => ((Fr.none).set 0 (.val (bsl proofT) l)).set 3 (.val i64T (k : Int))) (fun (k : Nat) => Hp.none) (fun (k : Nat) => k ≤ l.length ∧ (l.take k).all fewPr = true) (fun (k : Nat) => l.length - k) (0) (⟨Nat.zero_le _, rfl⟩) ?_
 intro k hinv
 refine CQQR ?_; refine A0 mV ?_; refine A0 mV ?_; refine A0 (g_len rfl rfl isl_26) ?_; refine A0 o_lss ?_; refine CN ?_
 refine Cf (p := k < l.length) (fun ht8 => ?_) (fun ht8 => ?_)
 ·
  obtain ⟨x, hx⟩ : ∃ x, l[k]? = some x := ⟨_, List.getElem?_eq_getElem ht8⟩
  refine CSQBQR ?_; refine A0 mV ?_; refine A0 mV ?_; refine A0 (g_ia_i (i := k) rfl rfl rfl (by omega) sl_26 (by assumption)) ?_; refine A0 (g_load_r rfl rfl ty_25) ?_
  refine A0 (oCl (fewPr_ok x) rfl fn_11 ⟨(by first | exact arg_same rfl | exact arg_bsl rfl | exact arg_own rfl rfl | exact arg_nil rfl | exact arg_rptr rfl | exact arg_fn rfl rfl | exact arg_lit rfl), trivial⟩) ?_; refine A0 aV ?_
  refine CNQR ?_; refine A0 mV ?_; refine A0 oN ?_; refine CN ?_
  refine aw_ifc (p := fewPr x = false) rfl (by cases fewPr x <;> rfl) (fun ht17 => ?_) (fun ht17 => ?_)
  ·
   refine CQR ?_; refine A0 aV ?_; refine CN ?_
   exact aw_ret1 rfl rfl (ret_eq rfl ((by symm; unfold fewL; rw [Bool.and_eq_false_iff]; left; rw [List.all_eq_false]; exact ⟨x, List.mem_of_getElem? hx, by simp [ht17]⟩)))
  ·
   refine CSIR ?_; refine A0 mV ?_; refine A0 o_add ?_; refine A0 aV ?_; refine CN ?_
   exact Nx (k + 1) (⟨by omega, by rw [List.take_add_one, hx, List.all_append, hinv.2]; simpa using ht17⟩) (by omega)
 ·
  refine CE ?_; refine CQR ?_; refine A0 mV ?_; refine A0 (g_len rfl rfl isl_26) ?_; refine A0 o_leq ?_; refine A0 aV ?_; refine CN ?_
  exact aw_ret1 rfl rfl (ret_eq rfl ((by have h := hinv.2; rw [List.take_of_length_le (by omega)] at h; unfold fewL; rw [h, Bool.true_and, decide_eq_decide]; simp only [IntL.toI, id_eq]; omega)))
end Go.Proofs.YtdeghaedeefooaaGreat
set_option maxRecDepth 20000
namespace Go.Proofs.YtdeghaedeefooaaGreat
set_option linter.unusedVariables false
set_option linter.unusedSimpArgs false
open Go.Ab Go.RowKit
theorem pick_1 {p q : Proof} (hp : ¬ checkP p = 0) (hq : checkP q = 0) : pickOf p q = (q, 0) := by unfold pickOf; rw [if_pos ⟨hp, hq⟩]
theorem pick_2 {p q : Proof} (hp : ¬ checkP p = 0) (hq : ¬ checkP q = 0) : pickOf p q = (p, checkP p) := by unfold pickOf; rw [if_neg (fun h => hq h.2), if_pos (.inl hp)]
theorem pick_3 {p q : Proof} (hp : checkP p = 0) (hq : ¬ checkP q = 0) : pickOf p q = (p, 0) := by unfold pickOf; rw [if_neg (fun h => hq h.2), if_pos (.inr hq), hp]
abbrev foldP (l : List Proof) (p : Proof) : Proof := l.foldl (fun o q => (pickOf o q).1) p
theorem pick_mem (p q : Proof) : (pickOf p q).1 = p ∨ (pickOf p q).1 = q := by
  unfold pickOf
  split
  · exact .inr rfl
  · split
    · exact .inl rfl
    · split
      · exact .inr rfl
      · exact .inl rfl
theorem pick_holds (p q : Proof) : checkP (pickOf p q).1 = 0 ↔ checkP p = 0 ∨ checkP q = 0 := by
  by_cases hp : checkP p = 0
  · by_cases hq : checkP q = 0
    · rcases pick_mem p q with e | e <;> rw [e] <;> simp [hp, hq]
    · rw [pick_3 hp hq]; simp [hp]
  · by_cases hq : checkP q = 0
    · rw [pick_1 hp hq]; simp [hq]
    · rw [pick_2 hp hq]; simp [hp, hq]
theorem fold_mem : ∀ (l : List Proof) (p : Proof), foldP l p = p ∨ foldP l p ∈ l
  | [], p => .inl rfl
  | q :: l, p => by
    show foldP l (pickOf p q).1 = p ∨ foldP l (pickOf p q).1 ∈ q :: l
    rcases fold_mem l (pickOf p q).1 with e | e
    · rcases pick_mem p q with e2 | e2
      · exact .inl (e.trans e2)
      · right; rw [e, e2]; exact List.mem_cons_self ..
    · exact .inr (List.mem_cons_of_mem _ e)
theorem fold_holds : ∀ (l : List Proof) (p : Proof), checkP (foldP l p) = 0 ↔ ∃ q ∈ p :: l, checkP q = 0
  | [], p => by simp [foldP]
  | q :: l, p => by
    show checkP (foldP l (pickOf p q).1) = 0 ↔ _
    rw [fold_holds l]
    simp only [List.mem_cons, exists_eq_or_imp, pick_holds]
    constructor
    · rintro ((h | h) | h)
      · exact .inl h
      · exact .inr (.inl h)
      · exact .inr (.inr h)
    · rintro (h | h | h)
      · exact .inl (.inl h)
      · exact .inl (.inr h)
      · exact .inr h
theorem fold_bad {l : List Proof} {p bad : Proof} (h : ¬ checkP bad = 0) : foldP (l ++ [bad]) p = foldP l p := by
  show (l ++ [bad]).foldl _ p = _
  rw [List.foldl_append]
  show (pickOf (foldP l p) bad).1 = _
  by_cases hp : checkP (foldP l p) = 0
  · rw [pick_3 hp h]
  · rw [pick_2 hp h]
theorem foldOf_eq {l : List Proof} (h : ¬ l.length = 0) : ∃ p r, l = p :: r ∧ foldOf l = (foldP r p, checkP (foldP r p)) := by
  cases l with
  | nil => exact absurd rfl h
  | cons p r => exact ⟨p, r, rfl, rfl⟩
theorem easy_pick : pickOf zProof easyP = (easyP, 0) := pick_1 (by rw [zero_check]; decide) easy_check
theorem easy_fold : foldOf [zProof, easyP] = (easyP, 0) := by
  show (foldP [easyP] zProof, checkP (foldP [easyP] zProof)) = _
  have e : foldP [easyP] zProof = easyP := by show (pickOf zProof easyP).1 = _; rw [easy_pick]
  rw [e, easy_check]
theorem easy_common : commonOf easyP easyP = (1, 1) := by
  have ei : idsP easyP = [headId easyH, headId easyB.h] := rfl
  unfold commonOf
  rw [ei]
  have h1 : idx (fun x => decide (headId easyB.h = x)) [headId easyH, headId easyB.h] = 1 := by
    have e2 : decide (headId easyB.h = headId easyH) = false := by
      have := of_decide_eq_false easy_two
      exact decide_eq_false (fun c => this c.symm)
    rw [idx, idx, e2]
    simp [idx]
  show commonF [headId easyH, headId easyB.h] [headId easyH, headId easyB.h] (1 + 1) = _
  have e0 : ([headId easyH, headId easyB.h] : List Ab.Id).getD 1 zId = headId easyB.h := rfl
  show (if _ then _ else _) = _
  rw [e0, h1, if_neg (by decide)]; rfl
theorem easy_s1 : decide (scoreOf [0, 0, 1, 2] 1 = 4) = true := by kernel_rfl
theorem easy_s2 : decide (scoreOf [0, 0, 1, 2] 2 = 4) = true := by kernel_rfl
theorem easy_s3 : decide (scoreOf [0, 0, 1, 2] 3 = 4) = true := by kernel_rfl
theorem any_stepL {α : Type} {l : List α} {i : Nat} {x : α} (f : α → Bool) (h : l[i]? = some x) : (l.take (i + 1)).any f = ((l.take i).any f || f x) := by
  rw [List.take_add_one, h, List.any_append]; simp
theorem fold_any {p : Proof} {r : List Proof} : ((p :: r).any fun x => decide (checkP x = 0)) = decide (checkP (foldP r p) = 0) := by
  by_cases h : checkP (foldP r p) = 0
  · rw [decide_eq_true h, List.any_eq_true]
    obtain ⟨q, hq, e⟩ := (fold_holds r p).1 h
    exact ⟨q, hq, decide_eq_true e⟩
  · rw [decide_eq_false h, List.any_eq_false]
    intro q hq e
    exact h ((fold_holds r p).2 ⟨q, hq, of_decide_eq_true e⟩)
theorem foldP_mem (r : List Proof) (p : Proof) : foldP r p ∈ p :: r := by
  rcases fold_mem r p with e | e
  · rw [e]; exact List.mem_cons_self ..
  · exact List.mem_cons_of_mem _ e
theorem awake19_ok : Tells P 10 [] (.val boolT true) := by
 have hes : ∀ p ∈ [zProof, easyP], smallP p := by intro p hp; simp only [List.mem_cons, List.not_mem_nil, or_false] at hp; rcases hp with rfl | rfl <;> exact ⟨by decide, by decide⟩
 refine fn_of_aw Tryz.func10 rfl rfl rfl (fun ext w hext => ?_)
 refine CQR ?_; refine A0 aV ?_; refine CNQR ?_; refine A0 (oCl (two_ok) rfl fn_27 trivial) ?_; refine A0 (oCl (prBuild_ok [easyB0, easyB] 1 1 small_easyC) rfl fn_26 ⟨(arg_v rfl), (arg_v rfl), (arg_v rfl), trivial⟩) ?_; refine A0 mX ?_
 refine A0 (by first | exact g_x20 rfl rfl | exact g_x30 rfl rfl) ?_; refine aw_reval (d := 10) (y := easyP) rfl easy_pr ?_; refine A0 (by first | exact g_x21 rfl rfl | exact g_x31 rfl rfl) ?_
 refine aw_reval (d := 11) (y := (0 : Int)) rfl easy_prE ?_; refine aw_alloc ze_25 rfl rfl rfl rfl ?_; refine aw_store_b rfl rfl rfl rfl rfl (Lens.self _) ty_25 rfl ?_; refine A0 aV ?_; refine CNQR ?_
 refine A0 (g_build rfl ze_25 bd_25 .nil rfl) ?_; refine A0 (oLs rfl rfl rfl ty_25) ?_; refine A0 (g_bslice (T := proofT) (xs := [_, _]) rfl sl_26 row_26 ⟨rfl, rfl, rfl, rfl, trivial⟩ rfl rfl) ?_
 refine A0 (oCl (fold_ok [zProof, easyP] hes (by decide)) rfl fn_19 ⟨(arg_v rfl), trivial⟩) ?_; refine A0 mX ?_; refine A0 (by first | exact g_x20 rfl rfl | exact g_x30 rfl rfl) ?_
 refine aw_reval (d := 17) (y := easyP) rfl (congrArg (·.1) easy_fold) ?_; refine A0 (by first | exact g_x21 rfl rfl | exact g_x31 rfl rfl) ?_; refine aw_reval (d := 18) (y := (0 : Int)) rfl (congrArg (·.2) easy_fold) ?_
 refine aw_alloc ze_25 rfl rfl rfl rfl ?_; refine aw_store_b rfl rfl rfl rfl rfl (Lens.self _) ty_25 rfl ?_; refine A0 aV ?_; refine CNQR ?_; refine A0 (oLs rfl rfl rfl ty_25) ?_; refine A0 (oLs rfl rfl rfl ty_25) ?_
 refine A0 (oCl (common_ok easyP easyP (by decide) (by decide)) rfl fn_13 ⟨(arg_v rfl), (arg_v rfl), trivial⟩) ?_; refine A0 mX ?_; refine A0 (by first | exact g_x20 rfl rfl | exact g_x30 rfl rfl) ?_
 refine aw_reval (d := 23) (y := (1 : Int)) rfl (congrArg (·.1) easy_common) ?_; refine A0 (by first | exact g_x21 rfl rfl | exact g_x31 rfl rfl) ?_; refine aw_reval (d := 24) (y := (1 : Int)) rfl (congrArg (·.2) easy_common) ?_
 refine A0 aV ?_; refine A0 aV ?_; refine CNQR ?_; refine A0 mV ?_; refine A0 o_eql ?_; refine A0 mV ?_; refine aw_ist (d := 27) rfl (rfl) ?_; refine A1 mV ?_; refine A1 o_eql ?_; refine A0 oK ?_; refine A0 mV ?_
 refine aw_ist (d := 31) rfl (rfl) ?_; refine A1 (oLs rfl rfl rfl ty_25) ?_; refine A1 (oLs rfl rfl rfl ty_25) ?_; refine A1 (oCl (sameP_ok easyP easyP) rfl fn_25 ⟨(arg_v rfl), (arg_v rfl), trivial⟩) ?_; refine A0 oK ?_; refine A0 mV ?_
 refine aw_ist (d := 36) rfl (by simp) ?_; refine A1 (oFp fd_25_2) ?_; refine A1 (oLb L_Proof_p ty_23) ?_; refine A1 (g_len rfl rfl isl_23) ?_; refine A1 o_eql ?_; refine A0 oK ?_; refine A0 mV ?_; refine aw_ist (d := 42) rfl (rfl) ?_
 refine A1 mV ?_; refine A1 o_eql ?_; refine A0 oK ?_; refine A0 mV ?_; refine aw_ist (d := 46) rfl (rfl) ?_; refine A1 mV ?_; refine A1 o_eql ?_; refine A0 oK ?_; refine A0 mV ?_; refine aw_ist (d := 50) rfl (rfl) ?_
 refine A1 (g_bslice (T := i64T) (xs := [_, _, _, _]) rfl sl_22 row_22 ⟨rfl, rfl, rfl, rfl, rfl, rfl, rfl, rfl, trivial⟩ rfl rfl) ?_; refine A1 (oCl (score_ok [0, 0, 1, 2] 1) rfl fn_22 ⟨(arg_v rfl), (arg_v rfl), trivial⟩) ?_
 refine A1 o_eql ?_; refine A0 oK ?_; refine A0 mV ?_; refine aw_ist (d := 55) rfl (easy_s1) ?_; refine A1 (g_bslice (T := i64T) (xs := [_, _, _, _]) rfl sl_22 row_22 ⟨rfl, rfl, rfl, rfl, rfl, rfl, rfl, rfl, trivial⟩ rfl rfl) ?_
 refine A1 (oCl (score_ok [0, 0, 1, 2] 2) rfl fn_22 ⟨(arg_v rfl), (arg_v rfl), trivial⟩) ?_; refine A1 o_eql ?_; refine A0 oK ?_; refine A0 mV ?_; refine aw_ist (d := 60) rfl (easy_s2) ?_
 refine A1 (g_bslice (T := i64T) (xs := [_, _, _, _]) rfl sl_22 row_22 ⟨rfl, rfl, rfl, rfl, rfl, rfl, rfl, rfl, trivial⟩ rfl rfl) ?_; refine A1 (oCl (score_ok [0, 0, 1, 2] 3) rfl fn_22 ⟨(arg_v rfl), (arg_v rfl), trivial⟩) ?_
 refine A1 o_eql ?_; refine A0 oK ?_; refine A0 aV ?_; refine CN ?_
 exact aw_ret1 rfl rfl (ret_eq rfl (easy_s3.symm))
theorem ScoreFolds_ok (l : List Proof) (bad : Proof) : Tells P 7 [.val (sl proofT) l, .val proofT bad] (.val boolT true) := by
 refine fn_of_aw Tryz.func7 rfl rfl rfl (fun ext w hext => ?_)
 refine aw_fact (d := 0) rfl fact_sl (fun hsl0 => ?_)
 refine CQR ?_; refine aw_box rfl rfl rfl rfl rfl ?_; refine A0 aV ?_; refine CNQR ?_; refine A0 (oCl (awake19_ok) rfl fn_10 trivial) ?_; refine A0 aV ?_; refine CNQR ?_; refine A0 mV ?_
 refine A0 (oCl (fewL_ok l) rfl fn_12 ⟨(arg_v rfl), trivial⟩) ?_; refine A0 aV ?_; refine CNQR ?_; refine A0 (oLs rfl rfl rfl ty_25) ?_; refine A0 (oCl (fewPr_ok bad) rfl fn_11 ⟨(arg_v rfl), trivial⟩) ?_; refine A0 aV ?_; refine CNQQR ?_
 refine A0 mV ?_; refine A0 oN ?_; refine A0 mV ?_; refine aw_isf (d := 24) rfl (rfl) ?_; refine A1 mV ?_; refine A1 oN ?_; refine A0 oK ?_; refine A0 mV ?_
 refine aw_splitp (d := 28) (p := fewL l = false) rfl (by cases fewL l <;> rfl) (fun g28 => ?_) (fun g28 => ?_)
 ·
  refine A2 ?_; refine A2 ?_; refine A0 oK ?_; refine A0 mV ?_; refine A2 ?_; refine A2 ?_; refine A2 ?_; refine A0 oK ?_; refine CN ?_; refine Ct ?_; refine CQR ?_; refine A0 mV ?_; refine A0 aV ?_; refine CN ?_
  exact aw_ret1 rfl rfl (ret_eq rfl (rfl))
 ·
  have hl := fewL_small (by simpa using g28 : fewL l = true)
  have hll := hl.2
  refine A1 mV ?_; refine A1 oN ?_; refine A0 oK ?_; refine A0 mV ?_
  refine aw_splitp (d := 32) (p := fewPr bad = false) rfl (by cases fewPr bad <;> rfl) (fun g32 => ?_) (fun g32 => ?_)
  ·
   refine A2 ?_; refine A2 ?_; refine A2 ?_; refine A0 oK ?_; refine CN ?_; refine Ct ?_; refine CQR ?_; refine A0 mV ?_; refine A0 aV ?_; refine CN ?_
   exact aw_ret1 rfl rfl (ret_eq rfl (rfl))
  ·
   have hbs : smallP bad := fewPr_small (by simpa using g32)
   have hlb : ∀ q ∈ l ++ [bad], smallP q := by intro q hq; rcases List.mem_append.1 hq with h | h; exact hl.1 q h; rw [List.mem_singleton.1 h]; exact hbs
   refine A1 mV ?_; refine A1 (g_len rfl rfl isl_26) ?_; refine A1 o_eql ?_; refine A0 oK ?_; refine CN ?_
   refine aw_ifc (p := l.length = 0) rfl (by simp [IntL.toI]) (fun ht36 => ?_) (fun ht36 => ?_)
   ·
    refine CQR ?_; refine A0 mV ?_; refine A0 aV ?_; refine CN ?_
    exact aw_ret1 rfl rfl (ret_eq rfl (rfl))
   ·
    obtain ⟨p, r, hlr, hfo⟩ := foldOf_eq ht36
    obtain ⟨F, hF⟩ : ∃ F, F = foldP r p := ⟨_, rfl⟩
    rw [← hF] at hfo
    have hl0 : l[0]? = some p := by rw [hlr]; rfl
    have hf1 : foldOf (l.take 1) = (p, checkP p) := by rw [hlr]; rfl
    refine CSQR ?_; refine A0 mV ?_; refine A0 (oCl (fold_ok l hl.1 (by omega)) rfl fn_19 ⟨(arg_v rfl), trivial⟩) ?_; refine A0 mX ?_; refine A0 (by first | exact g_x20 rfl rfl | exact g_x30 rfl rfl) ?_
    refine aw_reval (d := 41) (y := F) rfl (congrArg (·.1) hfo) ?_; refine A0 (by first | exact g_x21 rfl rfl | exact g_x31 rfl rfl) ?_; refine aw_reval (d := 42) (y := checkP F) rfl (congrArg (·.2) hfo) ?_
    refine aw_alloc ze_25 rfl rfl rfl rfl ?_; refine aw_store_b rfl rfl rfl rfl rfl (Lens.self _) ty_25 rfl ?_; refine A0 aV ?_; refine CNQR ?_; refine A0 mV ?_
    refine A0 (by first | exact g_sl_nil rfl rfl rfl (by first | rfl | omega) sl_26 | exact g_sl_h rfl rfl rfl sl_26 (by first | assumption | omega | (simp; omega))) ?_
    refine A0 (oCl (fold_ok (l.take 1) (fun p hp => hl.1 p (List.mem_of_mem_take hp)) (by rw [List.length_take]; omega)) rfl fn_19 ⟨(arg_v rfl), trivial⟩) ?_; refine A0 mX ?_; refine A0 (by first | exact g_x20 rfl rfl | exact g_x30 rfl rfl) ?_
    refine aw_reval (d := 47) (y := p) rfl (congrArg (·.1) hf1) ?_; refine A0 (by first | exact g_x21 rfl rfl | exact g_x31 rfl rfl) ?_; refine aw_reval (d := 48) (y := checkP p) rfl (congrArg (·.2) hf1) ?_
    refine aw_alloc ze_25 rfl rfl rfl rfl ?_; refine aw_store_b rfl rfl rfl rfl rfl (Lens.self _) ty_25 rfl ?_; refine A0 aV ?_; refine CNQR ?_; refine A0 aV ?_; refine CNQR ?_; refine A0 aV ?_; refine CNQQR ?_; refine A0 aV ?_; refine CNB ?_
    refine Lp (ι := Nat) 3 (fun (i : Nat) => (((((((((Fr.none).set 0 (.val (sl proofT) l)).set 3 (.ptr 0 0)).set 8 (.ptr 1 0)).set 9 (.val i64T (checkP F))).set 10 (.ptr 2 0)).set 11 (.val i64T (checkP p))).set 12 (.val boolT ((l.take i).any fun x => decide (checkP x = 0)))).set 13 (.val boolT ((l.take i).any fun x => decide (x = F)))).set 14 (.val i64T (i : Int))) (fun (i : Nat) => (((Hp.none).set 0 (.box 25 proofT bad)).set 1 (.box 25 proofT F)).set 2 (.box 25 proofT p)) (fun (i : Nat) => i ≤ l.length) (fun (i : Nat) => l.length - i) (0) (Nat.zero_le _) ?_
    intro i hinv
    refine CQQR ?_; refine A0 mV ?_; refine A0 mV ?_; refine A0 (g_len rfl rfl isl_26) ?_; refine A0 o_lss ?_; refine CN ?_
    refine Cf (p := i < l.length) (fun ht52 => ?_) (fun ht52 => ?_)
    ·
     obtain ⟨x, hx⟩ : ∃ x, l[i]? = some x := ⟨_, List.getElem?_eq_getElem ht52⟩
     refine CSQBQR ?_; refine A0 mV ?_; refine A0 mV ?_
     refine aw_splitp (d := 56) (p := ((l.take i).any fun x => decide (checkP x = 0)) = true) rfl (by rw [Bool.decide_eq_true]) (fun g56 => ?_) (fun g56 => ?_)
     ·
      refine A2 ?_; refine A2 ?_; refine A2 ?_; refine A2 ?_; refine A2 ?_; refine A2 ?_; refine A0 oK ?_; refine A0 aV ?_; refine CN ?_; refine CD mixed ?_; refine G0 mV ?_; refine G0 mV ?_
      refine GK_splitp (d := 65) (p := ((l.take i).any fun x => decide (x = F)) = true) rfl (by rw [Bool.decide_eq_true]) (fun g65 => ?_) (fun g65 => ?_)
      ·
       refine G2 ?_; refine G2 ?_; refine G2 ?_; refine G2 ?_; refine G2 ?_; refine G2 ?_; refine G0 oK ?_; refine G0 aV ?_; refine GK.nil ?_; refine CI ?_; refine CR ?_; refine A0 mV ?_; refine A0 o_add ?_; refine A0 aV ?_; refine CN ?_
       refine aw_reval (d := 12) (y := (l.take (i + 1)).any fun x => decide (checkP x = 0)) rfl (by rw [any_stepL _ hx, g56]; rfl) ?_
       refine aw_reval (d := 13) (y := (l.take (i + 1)).any fun x => decide (x = F)) rfl (by rw [any_stepL _ hx, g65]; rfl) ?_
       exact Nx (i + 1) (by omega) (by omega)
      ·
       refine G1 mV ?_; refine G1 mV ?_; refine G1 (g_ia_i (i := i) rfl rfl rfl (by omega) sl_26 (by assumption)) ?_; refine G1 (g_load_r rfl rfl ty_25) ?_; refine G1 (oLs rfl rfl rfl ty_25) ?_
       refine G1 (oCl (sameP_ok x F) rfl fn_25 ⟨(by first | exact arg_same rfl | exact arg_bsl rfl | exact arg_own rfl rfl | exact arg_nil rfl | exact arg_rptr rfl | exact arg_fn rfl rfl | exact arg_lit rfl), (arg_v rfl), trivial⟩) ?_
       refine G0 oK ?_; refine G0 aV ?_; refine GK.nil ?_; refine CI ?_; refine CR ?_; refine A0 mV ?_; refine A0 o_add ?_; refine A0 aV ?_; refine CN ?_
       refine aw_reval (d := 12) (y := (l.take (i + 1)).any fun x => decide (checkP x = 0)) rfl (by rw [any_stepL _ hx, g56]; rfl) ?_
       refine aw_reval (d := 13) (y := (l.take (i + 1)).any fun x => decide (x = F)) rfl (by rw [any_stepL _ hx, Bool.eq_false_iff.2 g65]; rfl) ?_
       exact Nx (i + 1) (by omega) (by omega)
     ·
      refine A1 mV ?_; refine A1 mV ?_; refine A1 (g_ia_i (i := i) rfl rfl rfl (by omega) sl_26 (by assumption)) ?_; refine A1 (g_load_r rfl rfl ty_25) ?_
      refine A1 (oCl (checkP_ok x) rfl fn_24 ⟨(by first | exact arg_same rfl | exact arg_bsl rfl | exact arg_own rfl rfl | exact arg_nil rfl | exact arg_rptr rfl | exact arg_fn rfl rfl | exact arg_lit rfl), trivial⟩) ?_; refine A1 o_eql ?_
      refine A0 oK ?_; refine A0 aV ?_; refine CN ?_; refine CD mixed ?_; refine G0 mV ?_; refine G0 mV ?_
      refine GK_splitp (d := 65) (p := ((l.take i).any fun x => decide (x = F)) = true) rfl (by rw [Bool.decide_eq_true]) (fun g65 => ?_) (fun g65 => ?_)
      ·
       refine G2 ?_; refine G2 ?_; refine G2 ?_; refine G2 ?_; refine G2 ?_; refine G2 ?_; refine G0 oK ?_; refine G0 aV ?_; refine GK.nil ?_; refine CI ?_; refine CR ?_; refine A0 mV ?_; refine A0 o_add ?_; refine A0 aV ?_; refine CN ?_
       refine aw_reval (d := 12) (y := (l.take (i + 1)).any fun x => decide (checkP x = 0)) rfl (by rw [any_stepL _ hx, Bool.eq_false_iff.2 g56]; rfl) ?_
       refine aw_reval (d := 13) (y := (l.take (i + 1)).any fun x => decide (x = F)) rfl (by rw [any_stepL _ hx, g65]; rfl) ?_
       exact Nx (i + 1) (by omega) (by omega)
      ·
       refine G1 mV ?_; refine G1 mV ?_; refine G1 (g_ia_i (i := i) rfl rfl rfl (by omega) sl_26 (by assumption)) ?_; refine G1 (g_load_r rfl rfl ty_25) ?_; refine G1 (oLs rfl rfl rfl ty_25) ?_
       refine G1 (oCl (sameP_ok x F) rfl fn_25 ⟨(by first | exact arg_same rfl | exact arg_bsl rfl | exact arg_own rfl rfl | exact arg_nil rfl | exact arg_rptr rfl | exact arg_fn rfl rfl | exact arg_lit rfl), (arg_v rfl), trivial⟩) ?_
       refine G0 oK ?_; refine G0 aV ?_; refine GK.nil ?_; refine CI ?_; refine CR ?_; refine A0 mV ?_; refine A0 o_add ?_; refine A0 aV ?_; refine CN ?_
       refine aw_reval (d := 12) (y := (l.take (i + 1)).any fun x => decide (checkP x = 0)) rfl (by rw [any_stepL _ hx, Bool.eq_false_iff.2 g56]; rfl) ?_
       refine aw_reval (d := 13) (y := (l.take (i + 1)).any fun x => decide (x = F)) rfl (by rw [any_stepL _ hx, Bool.eq_false_iff.2 g65]; rfl) ?_
       exact Nx (i + 1) (by omega) (by omega)
    ·
     have htk : l.take i = l := List.take_of_length_le (by omega)
     have hth : ((l.take i).any fun x => decide (x = F)) = true := by rw [htk, List.any_eq_true]; exact ⟨F, by rw [hlr, hF]; exact foldP_mem r p, by simp⟩
     have hho : ((l.take i).any fun x => decide (checkP x = 0)) = decide (checkP F = 0) := by rw [htk, hlr, hF]; exact fold_any
     refine CE ?_; refine CQ ?_; refine CQ ?_; refine CD mixed ?_; refine G0 mV ?_; refine G0 oN ?_; refine G0 mV ?_; refine GK_isf (d := 75) rfl (by rw [hth]; rfl) ?_; refine G1 mV ?_; refine G1 o_eql ?_; refine G1 mV ?_
     refine G1 (g_neqB rfl rfl rfl ub_4) ?_; refine G0 oK ?_; refine G0 mV ?_; refine GK_isf (d := 81) rfl (by rw [hho]; simp [IntL.toI]) ?_; refine G1 (oLs rfl rfl rfl ty_25) ?_; refine G1 mV ?_
     refine G1 (g_ia_i (i := 0) rfl rfl rfl (by omega) sl_26 (by assumption)) ?_; refine G1 (g_load_r rfl rfl ty_25) ?_
     refine G1 (oCl (sameP_ok p p) rfl fn_25 ⟨(arg_v rfl), (by first | exact arg_same rfl | exact arg_bsl rfl | exact arg_own rfl rfl | exact arg_nil rfl | exact arg_rptr rfl | exact arg_fn rfl rfl | exact arg_lit rfl), trivial⟩) ?_
     refine G1 oN ?_; refine G0 oK ?_; refine G0 mV ?_; refine GK_isf (d := 89) rfl (by simp) ?_; refine G1 mV ?_; refine G1 mV ?_; refine G1 (g_ia_i (i := 0) rfl rfl rfl (by omega) sl_26 (by assumption)) ?_; refine G1 (g_load_r rfl rfl ty_25) ?_
     refine G1 (oCl (checkP_ok p) rfl fn_24 ⟨(by first | exact arg_same rfl | exact arg_bsl rfl | exact arg_own rfl rfl | exact arg_nil rfl | exact arg_rptr rfl | exact arg_fn rfl rfl | exact arg_lit rfl), trivial⟩) ?_; refine G1 o_neq ?_
     refine G0 oK ?_; refine GK.nil ?_; refine aw_if_f rfl (by simp) ?_; refine CS ?_; refine CQ ?_
     refine aw_drawf 9 (.box 25 proofT zProof) [some 1, none, some 2, some 2, none, some 1, some 1, some 1, some 1000001, some 1000003, none, some 1] mixed (by decide +kernel) rfl ?_
     refine XKF.g rfl (g_mv (.inl rfl) rfl) (g_mv (.inl rfl) rfl) rfl rfl rfl rfl ?_
     refine XKF.e rfl (fun fr' hfr kk H => by exact aw_append0 rfl rfl rfl rfl rfl ((hfr 98 (by decide +kernel)).trans rfl) row_26 (by first | omega | (simp; omega)) (aw_nil H)) (EffA.conv (fun fr' hfr kk H => by exact aw_append0 rfl rfl rfl rfl rfl ((hfr 98 (by decide +kernel)).trans rfl) row_26 (by first | omega | (simp; omega)) (aw_nil H)) (by first | exact hp_out rfl | exact hp_out2 rfl rfl | exact hp_out3 rfl rfl rfl | rfl)) (by exact rfl) (by exact rfl) (by exact rfl) (by (repeat refine av_set ?_ rfl); exact fun _ _ => rfl) ?_
     refine XKF.gb (t := 3) rfl rfl rfl (fun _ he => g_load_b rfl rfl he (Lens.self _) ty_25) rfl rfl rfl ⟨hpB rfl rfl, hpB rfl rfl, trivial⟩ rfl rfl rfl ?_
     refine XKF.ga rfl (fun _ => g_bslice (T := proofT) (xs := [_]) rfl sl_26 row_26 ⟨rfl, rfl, trivial⟩ rfl rfl) rfl rfl rfl rfl ?_
     refine XKF.e rfl (fun fr' hfr kk H => by exact aw_append rfl rfl rfl rfl ((hfr 99 (by decide +kernel)).trans rfl) rfl ((hfr 101 (by decide +kernel)).trans rfl) row_26 (by first | omega | (simp; omega)) (aw_nil H)) (EffA.conv (fun fr' hfr kk H => by exact aw_append rfl rfl rfl rfl ((hfr 99 (by decide +kernel)).trans rfl) rfl ((hfr 101 (by decide +kernel)).trans rfl) row_26 (by first | omega | (simp; omega)) (aw_nil H)) (by first | exact hp_out rfl | exact hp_out2 rfl rfl | exact hp_out3 rfl rfl rfl | rfl)) (by exact rfl) (by exact rfl) (by exact rfl) (by (repeat refine av_set ?_ rfl); exact fun _ _ => rfl) ?_
     refine XKF.g rfl (g_call (fold_ok (l ++ [bad]) hlb (by simp; omega)) rfl fn_19 ⟨(arg_own rfl rfl), trivial⟩ rfl) (g_call (fold_ok (l ++ [bad]) hlb (by simp; omega)) rfl fn_19 ⟨(arg_own rfl rfl), trivial⟩ rfl) rfl rfl rfl rfl ?_
     refine XKF.g rfl (by first | exact g_mv (.inl rfl) rfl | exact g_mp (.inl rfl) rfl | exact g_mo (.inl rfl) rfl | exact g_ml (.inl rfl) rfl | exact g_mc (.inl rfl) rfl | exact g_mr (.inl rfl) rfl | exact g_mf1 (.inl rfl) rfl | exact g_mf2 (.inl rfl) rfl | exact g_mw (.inl rfl) rfl | exact g_me (.inl rfl) rfl | exact g_ms (.inl rfl) rfl | exact g_mt2 (.inl rfl) rfl | exact g_mt3 (.inl rfl) rfl | exact g_mi (.inl rfl) rfl) (by first | exact g_mv (.inl rfl) rfl | exact g_mp (.inl rfl) rfl | exact g_mo (.inl rfl) rfl | exact g_ml (.inl rfl) rfl | exact g_mc (.inl rfl) rfl | exact g_mr (.inl rfl) rfl | exact g_mf1 (.inl rfl) rfl | exact g_mf2 (.inl rfl) rfl | exact g_mw (.inl rfl) rfl | exact g_me (.inl rfl) rfl | exact g_ms (.inl rfl) rfl | exact g_mt2 (.inl rfl) rfl | exact g_mt3 (.inl rfl) rfl | exact g_mi (.inl rfl) rfl) rfl rfl rfl rfl ?_
     refine XKF.g rfl (by first | exact g_x20 rfl rfl | exact g_x30 rfl rfl) (by first | exact g_x20 rfl rfl | exact g_x30 rfl rfl) rfl rfl rfl rfl ?_
     refine XKF.ga rfl (fun _ => by first | exact g_x21 rfl rfl | exact g_x31 rfl rfl) rfl rfl rfl rfl ?_; refine XKF.f rfl ze_25 rfl rfl rfl rfl rfl rfl ?_
     refine XKF.ew (x := .idk) rfl (by decide +kernel) (fun fr' hfr kk H => by exact aw_store_b rfl rfl rfl ((hfr 15 (by decide +kernel)).trans rfl) rfl (Lens.self _) ty_25 ((hfr 104 (by decide +kernel)).trans rfl) (aw_nil H)) (by exact rfl) (by (repeat refine av_set ?_ rfl); exact fun _ _ => rfl) ?_
     refine XKF.gw rfl (by decide +kernel) (g_mv (.inr rfl) rfl) rfl rfl rfl ?_; refine XKF.nilp trivial ?_; refine CQR ?_; refine A0 (oLs rfl rfl rfl ty_25) ?_; refine A0 (oCl (checkP_ok bad) rfl fn_24 ⟨(arg_v rfl), trivial⟩) ?_
     refine A0 o_eql ?_; refine A0 mV ?_
     refine aw_splitp (d := 109) (p := checkP bad = 0) rfl (by simp [IntL.toI]) (fun g109 => ?_) (fun g109 => ?_)
     ·
      refine A2 ?_; refine A2 ?_; refine A2 ?_; refine A2 ?_; refine A3 ?_; refine A3 ?_; refine A3 ?_; refine A2 ?_; refine A0 oK ?_; refine A0 aV ?_; refine CN ?_
      exact aw_ret1 rfl rfl (ret_eq rfl (rfl))
     ·
      have hfb : foldOf (l ++ [bad]) = (F, checkP F) := by rw [hlr, hF]; show (foldP (r ++ [bad]) p, checkP (foldP (r ++ [bad]) p)) = _; rw [fold_bad g109]
      refine aw_reheap (n := 3) (y := F) rfl (congrArg (·.1) hfb) ?_; refine A1 (oLs rfl rfl rfl ty_25) ?_; refine A1 (oLs rfl rfl rfl ty_25) ?_; refine A1 (oCl (sameP_ok F F) rfl fn_25 ⟨(arg_v rfl), (arg_v rfl), trivial⟩) ?_; refine A1 mV ?_
      refine aw_ist (d := 113) rfl (by simp) ?_; refine A1 mV ?_; refine A1 mV ?_; refine A1 o_eql ?_; refine A1 oK ?_; refine A0 oK ?_; refine A0 aV ?_; refine CN ?_
      exact aw_ret1 rfl rfl (ret_eq rfl (by rw [hfb]; simp))
end Go.Proofs.YtdeghaedeefooaaGreat
