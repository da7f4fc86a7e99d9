/- Parts of the proof: the layer that reads Go values as data, and what the functions of the program tell. -/
import Derived.Test.YtjldddonpfopaaaGreatK5
set_option maxRecDepth 20000
namespace Go.Proofs.YtjldddonpfopaaaGreat
set_option linter.unusedVariables false
set_option linter.unusedSimpArgs false
open Go.Ab Go.RowKit
theorem toI_u32 {a b : UInt32} : IntL.toI u32T a = IntL.toI u32T b ↔ a = b := ⟨fun h => UInt32.toNat_inj.1 (Int.ofNat.inj h), fun h => by rw [h]⟩
def idsP (p : Proof) : List Ab.Id := p.p.map fun x => headId x.h
def levelsP (p : Proof) : List Int := p.p.map fun x => headLevel x.h
def leadsB (l : List Ab.Id) (prev id : Ab.Id) : Bool := decide (prev = id) || l.any fun x => decide (id = x)
def prevF (y z : Part) (last : Prop) [Decidable last] (d : Ab.Id) : Int :=
  if y.h.height ≤ z.h.height ∨ ¬ y.h.bits = z.h.bits ∨ last ∧ (¬ y.h.height = IntKind.i64.wrap (z.h.height + 1) ∨ ¬ y.h.prev = d) then 5 else 0
def linkF (y : Part) (c d : Ab.Id) : Int :=
  if y.l.length = 0 ∨ 32 < y.l.length ∨ ¬ y.l.getD 0 zId = c ∨ leadsB y.l y.h.prev d = false ∨ ¬ linkRoot y.l = y.h.links then 6 else 0
def workF (y : Part) : Int := if ¬ headMay y.h = true then 4 else 0
def zPartD : Part := ⟨zHead, []⟩
def yOf (x : CTrial) : Part := x.p.p.getD x.at_.toNat zPartD
def zOf (x : CTrial) : Part := x.p.p.getD (x.at_.toNat - 1) zPartD
def dOf (x : CTrial) : Ab.Id := x.ids.getD (x.at_.toNat - 1) zId
def cOf (x : CTrial) : Ab.Id := x.ids.getD 0 zId
def prevC (x : CTrial) : Int := prevF (yOf x) (zOf x) ((x.p.p.length : Int) - x.p.k ≤ x.at_) (dOf x)
def linkC (x : CTrial) : Int := linkF (yOf x) (cOf x) (dOf x)
def workC (x : CTrial) : Int := workF (yOf x)
def TrOk (x : CTrial) : Prop := 1 ≤ x.at_ ∧ x.at_ < x.p.p.length ∧ x.ids.length = x.p.p.length ∧ x.p.p.length ≤ 100 ∧ 1 ≤ x.p.k ∧ x.p.k ≤ 20
theorem yOf_at {x : CTrial} {y : Part} (h : x.p.p[x.at_.toNat]? = some y) : yOf x = y := by unfold yOf; simp [h]
theorem zOf_at {x : CTrial} {y : Part} (h : x.p.p[x.at_.toNat - 1]? = some y) : zOf x = y := by unfold zOf; simp [h]
theorem dOf_at {x : CTrial} {y : Ab.Id} (h : x.ids[x.at_.toNat - 1]? = some y) : dOf x = y := by unfold dOf; simp [h]
theorem cOf_at {x : CTrial} {y : Ab.Id} (h : x.ids[0]? = some y) : cOf x = y := by unfold cOf; simp [h]
theorem prevC_yes {x : CTrial} {y z : Part} {d : Ab.Id} (hy : x.p.p[x.at_.toNat]? = some y) (hz : x.p.p[x.at_.toNat - 1]? = some z) (hd : x.ids[x.at_.toNat - 1]? = some d)
    (h : y.h.height ≤ z.h.height ∨ ¬ y.h.bits = z.h.bits ∨ ((x.p.p.length : Int) - x.p.k ≤ x.at_) ∧ (¬ y.h.height = IntKind.i64.wrap (z.h.height + 1) ∨ ¬ y.h.prev = d)) : prevC x = 5 := by
  unfold prevC prevF; rw [yOf_at hy, zOf_at hz, dOf_at hd, if_pos h]
theorem prevC_no {x : CTrial} {y z : Part} {d : Ab.Id} (hy : x.p.p[x.at_.toNat]? = some y) (hz : x.p.p[x.at_.toNat - 1]? = some z) (hd : x.ids[x.at_.toNat - 1]? = some d)
    (h : ¬ (y.h.height ≤ z.h.height ∨ ¬ y.h.bits = z.h.bits ∨ ((x.p.p.length : Int) - x.p.k ≤ x.at_) ∧ (¬ y.h.height = IntKind.i64.wrap (z.h.height + 1) ∨ ¬ y.h.prev = d))) : prevC x = 0 := by
  unfold prevC prevF; rw [yOf_at hy, zOf_at hz, dOf_at hd, if_neg h]
theorem linkC_yes {x : CTrial} {y : Part} {c d : Ab.Id} (hy : x.p.p[x.at_.toNat]? = some y) (hc : x.ids[0]? = some c) (hd : x.ids[x.at_.toNat - 1]? = some d)
    (h : y.l.length = 0 ∨ 32 < y.l.length ∨ ¬ y.l.getD 0 zId = c ∨ leadsB y.l y.h.prev d = false ∨ ¬ linkRoot y.l = y.h.links) : linkC x = 6 := by
  unfold linkC linkF; rw [yOf_at hy, cOf_at hc, dOf_at hd, if_pos h]
theorem linkC_no {x : CTrial} {y : Part} {c d : Ab.Id} (hy : x.p.p[x.at_.toNat]? = some y) (hc : x.ids[0]? = some c) (hd : x.ids[x.at_.toNat - 1]? = some d)
    (h : ¬ (y.l.length = 0 ∨ 32 < y.l.length ∨ ¬ y.l.getD 0 zId = c ∨ leadsB y.l y.h.prev d = false ∨ ¬ linkRoot y.l = y.h.links)) : linkC x = 0 := by
  unfold linkC linkF; rw [yOf_at hy, cOf_at hc, dOf_at hd, if_neg h]
def three : List (Option Nat) := [some 32, some 33, some 34]
def askC (f : Option Nat) (x : CTrial) : Int := if f = some 32 then prevC x else if f = some 33 then linkC x else workC x
def firstC : List (Option Nat) → CTrial → Int
  | [], _ => 0
  | f :: l, x => if askC f x = 0 then firstC l x else askC f x
theorem firstC_three (x : CTrial) : firstC three x = if ¬ prevC x = 0 then prevC x else if ¬ linkC x = 0 then linkC x else workC x := by
  have e1 : askC (some 32) x = prevC x := by unfold askC; rw [if_pos rfl]
  have e2 : askC (some 33) x = linkC x := by unfold askC; rw [if_neg (by decide), if_pos rfl]
  have e3 : askC (some 34) x = workC x := by unfold askC; rw [if_neg (by decide), if_neg (by decide)]
  unfold three
  simp only [firstC, e1, e2, e3]
  by_cases h1 : prevC x = 0
  · by_cases h2 : linkC x = 0
    · by_cases h3 : workC x = 0 <;> simp [h1, h2, h3]
    · simp [h1, h2]
  · simp [h1]
theorem firstC_step {l : List (Option Nat)} {j : Nat} {f : Option Nat} {x : CTrial} (h : l[j]? = some f) (h0 : askC f x = 0) : firstC (l.drop j) x = firstC (l.drop (j + 1)) x := by
  obtain ⟨hj, rfl⟩ := List.getElem?_eq_some_iff.1 h
  rw [List.drop_eq_getElem_cons hj]
  show (if _ then _ else _) = _
  rw [if_pos h0]
theorem firstC_stop {l : List (Option Nat)} {j : Nat} {f : Option Nat} {x : CTrial} (h : l[j]? = some f) (h0 : ¬ askC f x = 0) : firstC (l.drop j) x = askC f x := by
  obtain ⟨hj, rfl⟩ := List.getElem?_eq_some_iff.1 h
  rw [List.drop_eq_getElem_cons hj]
  show (if _ then _ else _) = _
  rw [if_neg h0]
def trialsE (p : Proof) (ids : List Ab.Id) : Nat → Nat → Int
  | 0, _ => 0
  | n + 1, i => if firstC three ⟨p, ids, i⟩ = 0 then trialsE p ids n (i + 1) else firstC three ⟨p, ids, i⟩
theorem trials_go {p : Proof} {ids : List Ab.Id} {i : Nat} (hi : i < p.p.length) (h : firstC three ⟨p, ids, i⟩ = 0) : trialsE p ids (p.p.length - i) i = trialsE p ids (p.p.length - (i + 1)) (i + 1) := by
  rw [show p.p.length - i = (p.p.length - (i + 1)) + 1 by omega]
  show (if _ then _ else _) = _
  rw [if_pos h]
theorem trials_stop {p : Proof} {ids : List Ab.Id} {i : Nat} (hi : i < p.p.length) (h : ¬ firstC three ⟨p, ids, i⟩ = 0) : trialsE p ids (p.p.length - i) i = firstC three ⟨p, ids, i⟩ := by
  rw [show p.p.length - i = (p.p.length - (i + 1)) + 1 by omega]
  show (if _ then _ else _) = _
  rw [if_neg h]
def checkP (p : Proof) : Int :=
  if p.m < 1 ∨ 20 < p.m ∨ p.k < 1 ∨ 20 < p.k then 1
  else if 100 < p.p.length ∨ (p.p.length : Int) ≤ p.k then 3
  else if tgtOk (p.p.getD 0 zPartD).h.bits = false ∨ 0 < (p.p.getD 0 zPartD).l.length ∨ ¬ (p.p.getD 0 zPartD).h = (firstTip (p.p.getD 0 zPartD).h.bits).b.h then 12
  else trialsE p (idsP p) (p.p.length - 1) 1
def fewPr (p : Proof) : Bool := p.p.all (fun x => decide (x.l.length ≤ 40)) && decide (p.p.length ≤ 110)
theorem ids_ok (p : Proof) (hl : p.p.length ≤ 1000000000000) : Tells P 20 [.val proofT p] (.fresh 32 idT (idsP p)) := by
 refine fn_of_aw Tryz.func20 rfl rfl rfl (fun ext w hext => ?_)
 refine CQR ?_; refine aw_box rfl rfl rfl rfl rfl ?_; refine A0 aL ?_; refine CNQR ?_; refine A0 aL ?_; refine CNQQR ?_; refine A0 (oFp fd_24_2) ?_; refine A0 (oLb L_Proof_p ty_22) ?_; refine A0 (g_len rfl rfl isl_22) ?_; refine A0 mV ?_
 refine CNB ?_; refine aw_nilrow (T := idT) (d := 3) 32 rfl ?_
 refine Lp (ι := Nat) 2 (fun (k : Nat) => ((((Fr.none).set 3 (.own 1)).set 7 (.val (sl partT) p.p)).set 8 (.val i64T (p.p.length : Int))).set 9 (.val i64T (k : Int))) (fun (k : Nat) => (Hp.none).set 1 (.row 32 idT ((p.p.take k).map fun x => headId x.h))) (fun (k : Nat) => k ≤ p.p.length) (fun (k : Nat) => p.p.length - k) (0) (Nat.zero_le _) ?_
 intro k hinv
 refine CQR ?_; refine A0 o_lss ?_; refine CNQ ?_
 refine Cf (p := k < p.p.length) (fun ht10 => ?_) (fun ht10 => ?_)
 ·
  obtain ⟨x, hx⟩ : ∃ x, p.p[k]? = some x := ⟨_, List.getElem?_eq_getElem ht10⟩
  refine CSQBQR ?_; refine A0 (g_ia_n rfl rfl rfl sl_22 (by assumption)) ?_; refine A0 (g_load_r rfl rfl ty_41) ?_; refine aw_alloc ze_41 rfl rfl rfl rfl ?_; refine aw_store_b rfl rfl rfl rfl rfl (Lens.self _) ty_41 rfl ?_; refine CNR ?_
  refine A0 mO ?_; refine A0 (oFp fd_41_0) ?_; refine A0 (oLb L_Part_h ty_38) ?_; refine A0 (oCl (headId_ok x.h) rfl fn_14 ⟨(arg_v rfl), trivial⟩) ?_; refine A0 (g_bslice (T := idT) (xs := [_]) rfl sl_39 row_39 ⟨rfl, rfl, trivial⟩ rfl rfl) ?_
  refine aw_append rfl rfl rfl rfl rfl rfl rfl row_39 (by simp; omega) ?_; refine A0 aO ?_; refine CNIR ?_; refine A0 o_add ?_; refine A0 mV ?_; refine CN ?_; refine aw_ren 3 1 4 rfl rfl rfl rfl rfl rfl ?_
  refine aw_rerow (n := 1) (y := (p.p.take (k + 1)).map fun x => headId x.h) rfl (by rw [List.take_add_one, hx, List.map_append]; simp) ?_
  exact Nx (k + 1) (by omega) (by omega)
 ·
  refine CE ?_; refine CQR ?_; refine A0 mO ?_; refine A0 aO ?_; refine CN ?_
  exact aw_ret1 rfl rfl (ret_fresh_eq rfl rfl (by rw [List.take_of_length_le (by omega)]; rfl))
theorem levelsP_ok (p : Proof) (hl : p.p.length ≤ 1000000000000) : Tells P 12 [.val proofT p] (.fresh 3 i64T (levelsP p)) := by
 refine fn_of_aw Tryz.func12 rfl rfl rfl (fun ext w hext => ?_)
 refine CQR ?_; refine aw_box rfl rfl rfl rfl rfl ?_; refine A0 aL ?_; refine CNQR ?_; refine A0 aL ?_; refine CNQQR ?_; refine A0 (oFp fd_24_2) ?_; refine A0 (oLb L_Proof_p ty_22) ?_; refine A0 (g_len rfl rfl isl_22) ?_; refine A0 mV ?_
 refine CNB ?_; refine aw_nilrow (T := i64T) (d := 3) 3 rfl ?_
 refine Lp (ι := Nat) 2 (fun (k : Nat) => ((((Fr.none).set 3 (.own 1)).set 7 (.val (sl partT) p.p)).set 8 (.val i64T (p.p.length : Int))).set 9 (.val i64T (k : Int))) (fun (k : Nat) => (Hp.none).set 1 (.row 3 i64T ((p.p.take k).map fun x => headLevel x.h))) (fun (k : Nat) => k ≤ p.p.length) (fun (k : Nat) => p.p.length - k) (0) (Nat.zero_le _) ?_
 intro k hinv
 refine CQR ?_; refine A0 o_lss ?_; refine CNQ ?_
 refine Cf (p := k < p.p.length) (fun ht10 => ?_) (fun ht10 => ?_)
 ·
  obtain ⟨x, hx⟩ : ∃ x, p.p[k]? = some x := ⟨_, List.getElem?_eq_getElem ht10⟩
  refine CSQBQR ?_; refine A0 (g_ia_n rfl rfl rfl sl_22 (by assumption)) ?_; refine A0 (g_load_r rfl rfl ty_41) ?_; refine aw_alloc ze_41 rfl rfl rfl rfl ?_; refine aw_store_b rfl rfl rfl rfl rfl (Lens.self _) ty_41 rfl ?_; refine CNR ?_
  refine A0 mO ?_; refine A0 (oFp fd_41_0) ?_; refine A0 (oLb L_Part_h ty_38) ?_; refine A0 (oCl (headLevel_ok x.h) rfl fn_35 ⟨(arg_v rfl), trivial⟩) ?_
  refine A0 (g_bslice (T := i64T) (xs := [_]) rfl sl_29 row_29 ⟨rfl, rfl, trivial⟩ rfl rfl) ?_; refine aw_append rfl rfl rfl rfl rfl rfl rfl row_29 (by simp; omega) ?_; refine A0 aO ?_; refine CNIR ?_; refine A0 o_add ?_; refine A0 mV ?_
  refine CN ?_; refine aw_ren 3 1 4 rfl rfl rfl rfl rfl rfl ?_; refine aw_rerow (n := 1) (y := (p.p.take (k + 1)).map fun x => headLevel x.h) rfl (by rw [List.take_add_one, hx, List.map_append]; simp) ?_
  exact Nx (k + 1) (by omega) (by omega)
 ·
  refine CE ?_; refine CQR ?_; refine A0 mO ?_; refine A0 aO ?_; refine CN ?_
  exact aw_ret1 rfl rfl (ret_fresh_eq rfl rfl (by rw [List.take_of_length_le (by omega)]; rfl))
theorem cprev_ok (x : CTrial) (h : TrOk x) : Tells P 32 [.rptr cTrialT x] (.val i64T (prevC x)) := by
 obtain ⟨h1, h2, h3, h4, h5, h6⟩ := h
 obtain ⟨y, hy⟩ : ∃ y, x.p.p[x.at_.toNat]? = some y := ⟨_, List.getElem?_eq_getElem (by omega)⟩
 obtain ⟨z, hz⟩ : ∃ z, x.p.p[x.at_.toNat - 1]? = some z := ⟨_, List.getElem?_eq_getElem (by omega)⟩
 obtain ⟨d, hd⟩ : ∃ d, x.ids[x.at_.toNat - 1]? = some d := ⟨_, List.getElem?_eq_getElem (by omega)⟩
 refine fn_of_aw Tryz.func32 rfl rfl rfl (fun ext w hext => ?_)
 refine CQR ?_; refine A0 aV ?_; refine CNQ ?_
 refine aw_drawf 25 (.box 38 headT zHead) [some 1000001, some 1000001, some 1000001, some 1000001, some 1000001, some 1000001, some 1000001, some 1000001, some 1000001, some 1000001, some 1000001, some 1000001, some 1000001, some 1000001, some 1000001, some 1000001, some 1000001, some 1000001, some 1000001, some 1000001, some 1000001, some 1000001, some 1000001, some 1000001, some 1000001, some 1000001, none, none, none] mixed (by decide +kernel) rfl ?_
 refine XKF.ga rfl (fun _ => g_mr (.inl rfl) rfl) rfl rfl rfl rfl ?_; refine XKF.ga rfl (fun _ => g_nc_r rfl rfl) rfl rfl rfl rfl ?_; refine XKF.ga rfl (fun _ => g_fa_r rfl rfl fd_75_0 L_CTrial_p) rfl rfl rfl rfl ?_
 refine XKF.ga rfl (fun _ => g_fa_r rfl rfl fd_24_2 L_Proof_p) rfl rfl rfl rfl ?_; refine XKF.ga rfl (fun _ => g_load_r rfl rfl ty_22) rfl rfl rfl rfl ?_; refine XKF.ga rfl (fun _ => g_mr (.inl rfl) rfl) rfl rfl rfl rfl ?_
 refine XKF.ga rfl (fun _ => g_nc_r rfl rfl) rfl rfl rfl rfl ?_; refine XKF.ga rfl (fun _ => g_fa_r rfl rfl fd_75_2 L_CTrial_at_) rfl rfl rfl rfl ?_; refine XKF.ga rfl (fun _ => g_load_r rfl rfl ty_3) rfl rfl rfl rfl ?_
 refine XKF.ga rfl (fun _ => g_ia_i (i := x.at_.toNat) rfl rfl rfl (by omega) sl_22 (by assumption)) rfl rfl rfl rfl ?_; refine XKF.ga rfl (fun _ => g_fa_r rfl rfl fd_41_0 L_Part_h) rfl rfl rfl rfl ?_
 refine XKF.ga rfl (fun _ => g_load_r rfl rfl ty_38) rfl rfl rfl rfl ?_; refine XKF.ga rfl (fun _ => g_mr (.inl rfl) rfl) rfl rfl rfl rfl ?_; refine XKF.ga rfl (fun _ => g_nc_r rfl rfl) rfl rfl rfl rfl ?_
 refine XKF.ga rfl (fun _ => g_fa_r rfl rfl fd_75_0 L_CTrial_p) rfl rfl rfl rfl ?_; refine XKF.ga rfl (fun _ => g_fa_r rfl rfl fd_24_2 L_Proof_p) rfl rfl rfl rfl ?_; refine XKF.ga rfl (fun _ => g_load_r rfl rfl ty_22) rfl rfl rfl rfl ?_
 refine XKF.ga rfl (fun _ => g_mr (.inl rfl) rfl) rfl rfl rfl rfl ?_; refine XKF.ga rfl (fun _ => g_nc_r rfl rfl) rfl rfl rfl rfl ?_; refine XKF.ga rfl (fun _ => g_fa_r rfl rfl fd_75_2 L_CTrial_at_) rfl rfl rfl rfl ?_
 refine XKF.ga rfl (fun _ => g_load_r rfl rfl ty_3) rfl rfl rfl rfl ?_; refine XKF.ga rfl (fun _ => by first | exact g_sub rfl rfl rfl (wrap_eq (by first | omega | (simp; omega))) | exact g_sub rfl rfl rfl rfl) rfl rfl rfl rfl ?_
 refine XKF.ga rfl (fun _ => g_ia_i (i := x.at_.toNat - 1) rfl rfl rfl (by omega) sl_22 (by assumption)) rfl rfl rfl rfl ?_; refine XKF.ga rfl (fun _ => g_fa_r rfl rfl fd_41_0 L_Part_h) rfl rfl rfl rfl ?_
 refine XKF.ga rfl (fun _ => g_load_r rfl rfl ty_38) rfl rfl rfl rfl ?_; refine XKF.f rfl ze_38 rfl rfl rfl rfl rfl rfl ?_
 refine XKF.e rfl (fun fr' hfr kk H => by exact aw_alloc ze_38 rfl rfl rfl rfl (aw_nil H)) (EffA.conv (fun fr' hfr kk H => by exact aw_alloc ze_38 rfl rfl rfl rfl (aw_nil H)) (by first | exact hp_out rfl | exact hp_out2 rfl rfl | exact hp_out3 rfl rfl rfl | rfl)) (by exact rfl) (by exact rfl) (by exact rfl) (by (repeat refine av_set ?_ rfl); exact fun _ _ => rfl) ?_
 refine XKF.ew (x := .idk) rfl (by decide +kernel) (fun fr' hfr kk H => by exact aw_store_b rfl rfl rfl ((hfr 3 (by decide +kernel)).trans rfl) rfl (Lens.self _) ty_38 ((hfr 17 (by decide +kernel)).trans rfl) (aw_nil H)) (by exact rfl) (by (repeat refine av_set ?_ rfl); exact fun _ _ => rfl) ?_
 refine XKF.ew (x := .idk) rfl (by decide +kernel) (fun fr' hfr kk H => by exact aw_store_b rfl rfl rfl ((hfr 4 (by decide +kernel)).trans rfl) rfl (Lens.self _) ty_38 ((hfr 30 (by decide +kernel)).trans rfl) (aw_nil H)) (by exact rfl) (by (repeat refine av_set ?_ rfl); exact fun _ _ => rfl) ?_
 refine XKF.nilp trivial ?_; refine CQ ?_; refine CD mixed ?_; refine G0 mR ?_; refine G0 (g_nc_r rfl rfl) ?_; refine G0 (oFr fd_75_2 L_CTrial_at_) ?_; refine G0 (g_load_r rfl rfl ty_3) ?_; refine G0 mR ?_; refine G0 (g_nc_r rfl rfl) ?_
 refine G0 (oFr fd_75_0 L_CTrial_p) ?_; refine G0 (oFr fd_24_2 L_Proof_p) ?_; refine G0 (g_load_r rfl rfl ty_22) ?_; refine G0 (by first | exact g_len rfl rfl isl_22 | exact g_len_o rfl rfl rfl isl_22 | exact g_len_nil rfl rfl isl_22) ?_
 refine G0 mR ?_; refine G0 (g_nc_r rfl rfl) ?_; refine G0 (oFr fd_75_0 L_CTrial_p) ?_; refine G0 (oFr fd_24_1 L_Proof_k) ?_; refine G0 (g_load_r rfl rfl ty_3) ?_; refine G0 o_sub ?_; refine G0 o_geq ?_; refine G0 aV ?_; refine GK.nil ?_
 refine CQ ?_; refine CQ ?_; refine CD mixed ?_; refine G0 (oFp fd_38_0) ?_; refine G0 (oLb L_Head_height ty_3) ?_; refine G0 (oFp fd_38_0) ?_; refine G0 (oLb L_Head_height ty_3) ?_; refine G0 o_leq ?_; refine G0 mV ?_
 refine GK_splitp (d := 53) (p := y.h.height ≤ z.h.height) rfl (by first | rfl | (rw [decide_eq_decide]; simp only [IntL.toI, id_eq]; omega) | (simp [IntL.toI]; done) | (simp [IntL.toI]; omega)) (fun g53 => ?_) (fun g53 => ?_)
 ·
  refine G2 ?_; refine G2 ?_; refine G2 ?_; refine G2 ?_; refine G2 ?_; refine G0 oK ?_; refine G0 mV ?_; refine G2 ?_; refine G2 ?_; refine G3 ?_; refine G3 ?_; refine G3 ?_; refine G3 ?_; refine G3 ?_; refine G3 ?_; refine G3 ?_; refine G3 ?_
  refine G3 ?_; refine G3 ?_; refine G3 ?_; refine G3 ?_; refine G3 ?_; refine G3 ?_; refine G3 ?_; refine G3 ?_; refine G3 ?_; refine G3 ?_; refine G3 ?_; refine G3 ?_; refine G3 ?_; refine G3 ?_; refine G2 ?_; refine G0 oK ?_
  refine GK.nil ?_; refine Ct ?_; refine CQR ?_; refine A0 aV ?_; refine CN ?_
  exact aw_ret1 rfl rfl (ret_eq rfl ((prevC_yes hy hz hd (.inl g53)).symm))
 ·
  refine G1 (oFp fd_38_6) ?_; refine G1 (oLb L_Head_bits ty_36) ?_; refine G1 (oFp fd_38_6) ?_; refine G1 (oLb L_Head_bits ty_36) ?_; refine G1 o_neq ?_; refine G0 oK ?_; refine G0 mV ?_
  refine GK_splitp (d := 60) (p := ¬ y.h.bits = z.h.bits) rfl (by simp [toI_u32]) (fun g60 => ?_) (fun g60 => ?_)
  ·
   refine G2 ?_; refine G2 ?_; refine G3 ?_; refine G3 ?_; refine G3 ?_; refine G3 ?_; refine G3 ?_; refine G3 ?_; refine G3 ?_; refine G3 ?_; refine G3 ?_; refine G3 ?_; refine G3 ?_; refine G3 ?_; refine G3 ?_; refine G3 ?_; refine G3 ?_
   refine G3 ?_; refine G3 ?_; refine G3 ?_; refine G3 ?_; refine G3 ?_; refine G3 ?_; refine G3 ?_; refine G2 ?_; refine G0 oK ?_; refine GK.nil ?_; refine Ct ?_; refine CQR ?_; refine A0 aV ?_; refine CN ?_
   exact aw_ret1 rfl rfl (ret_eq rfl ((prevC_yes hy hz hd (.inr (.inl g60))).symm))
  ·
   refine G1 mV ?_; refine G1 mV ?_
   refine GK_splitp (d := 62) (p := (x.p.p.length : Int) - x.p.k ≤ x.at_) rfl (by first | rfl | (rw [decide_eq_decide]; simp only [IntL.toI, id_eq]; omega) | (simp [IntL.toI]; done) | (simp [IntL.toI]; omega)) (fun g62 => ?_) (fun g62 => ?_)
   ·
    refine G1 (oFp fd_38_0) ?_; refine G1 (oLb L_Head_height ty_3) ?_; refine G1 (oFp fd_38_0) ?_; refine G1 (oLb L_Head_height ty_3) ?_; refine G1 o_add ?_; refine G1 o_neq ?_; refine G1 mV ?_
    refine GK_splitp (d := 69) (p := ¬ y.h.height = IntKind.i64.wrap (z.h.height + 1)) rfl (by simp [IntL.toI]) (fun g69 => ?_) (fun g69 => ?_)
    ·
     refine G2 ?_; refine G2 ?_; refine G2 ?_; refine G2 ?_; refine G2 ?_; refine G2 ?_; refine G2 ?_; refine G2 ?_; refine G2 ?_; refine G2 ?_; refine G2 ?_; refine G2 ?_; refine G2 ?_; refine G2 ?_; refine G1 oK ?_; refine G1 oK ?_
     refine G0 oK ?_; refine GK.nil ?_; refine Ct ?_; refine CQR ?_; refine A0 aV ?_; refine CN ?_
     exact aw_ret1 rfl rfl (ret_eq rfl ((prevC_yes hy hz hd (.inr (.inr ⟨g62, .inl g69⟩))).symm))
    ·
     refine G1 (oFp fd_38_1) ?_; refine G1 (oLb L_Head_prev ty_32) ?_; refine G1 mR ?_; refine G1 (g_nc_r rfl rfl) ?_; refine G1 (oFr fd_75_1 L_CTrial_ids) ?_; refine G1 (g_load_r rfl rfl ty_39) ?_; refine G1 mR ?_; refine G1 (g_nc_r rfl rfl) ?_
     refine G1 (oFr fd_75_2 L_CTrial_at_) ?_; refine G1 (g_load_r rfl rfl ty_3) ?_; refine G1 o_sub ?_; refine G1 (g_ia_i (i := x.at_.toNat - 1) rfl rfl rfl (by omega) sl_39 (by assumption)) ?_; refine G1 (g_load_r rfl rfl ty_32) ?_
     refine G1 (g_neqS rfl rfl rfl (eqt_32)) ?_; refine G1 oK ?_; refine G1 oK ?_; refine G0 oK ?_; refine GK.nil ?_
     refine aw_ifc (p := ¬ y.h.prev = d) rfl (by simp) (fun ht86 => ?_) (fun ht86 => ?_)
     ·
      refine CQR ?_; refine A0 aV ?_; refine CN ?_
      exact aw_ret1 rfl rfl (ret_eq rfl ((prevC_yes hy hz hd (.inr (.inr ⟨g62, .inr ht86⟩))).symm))
     ·
      refine CSQR ?_; refine A0 aV ?_; refine CN ?_
      exact aw_ret1 rfl rfl (ret_eq rfl ((prevC_no hy hz hd (fun h => h.elim g53 (fun h => h.elim g60 (fun h => h.2.elim g69 ht86)))).symm))
   ·
    refine G2 ?_; refine G2 ?_; refine G2 ?_; refine G2 ?_; refine G2 ?_; refine G2 ?_; refine G2 ?_; refine G3 ?_; refine G3 ?_; refine G3 ?_; refine G3 ?_; refine G3 ?_; refine G3 ?_; refine G3 ?_; refine G3 ?_; refine G3 ?_; refine G3 ?_
    refine G3 ?_; refine G3 ?_; refine G3 ?_; refine G3 ?_; refine G2 ?_; refine G1 oK ?_; refine G0 oK ?_; refine GK.nil ?_; refine Cg ?_; refine CSQR ?_; refine A0 aV ?_; refine CN ?_
    exact aw_ret1 rfl rfl (ret_eq rfl ((prevC_no hy hz hd (fun h => h.elim g53 (fun h => h.elim g60 (fun h => g62 h.1)))).symm))
theorem clink_ok (x : CTrial) (h : TrOk x) : Tells P 33 [.rptr cTrialT x] (.val i64T (linkC x)) := by
 obtain ⟨h1, h2, h3, h4, h5, h6⟩ := h
 obtain ⟨y, hy⟩ : ∃ y, x.p.p[x.at_.toNat]? = some y := ⟨_, List.getElem?_eq_getElem (by omega)⟩
 obtain ⟨d, hd⟩ : ∃ d, x.ids[x.at_.toNat - 1]? = some d := ⟨_, List.getElem?_eq_getElem (by omega)⟩
 obtain ⟨c, hc⟩ : ∃ c, x.ids[0]? = some c := ⟨_, List.getElem?_eq_getElem (by omega)⟩
 refine fn_of_aw Tryz.func33 rfl rfl rfl (fun ext w hext => ?_)
 refine CQR ?_; refine A0 aV ?_; refine CNQ ?_
 refine aw_drawx [some 1000001, some 1000001, some 1000001, some 1000001, some 1000001, some 1000001, some 1000001, some 1000001, some 1000001, some 1000001, some 1000001, none, none] mixed (by decide +kernel) ?_
 refine XK.ga (fun _ => g_mr (.inl rfl) rfl) rfl rfl rfl ?_; refine XK.ga (fun _ => g_nc_r rfl rfl) rfl rfl rfl ?_; refine XK.ga (fun _ => g_fa_r rfl rfl fd_75_0 L_CTrial_p) rfl rfl rfl ?_
 refine XK.ga (fun _ => g_fa_r rfl rfl fd_24_2 L_Proof_p) rfl rfl rfl ?_; refine XK.ga (fun _ => g_load_r rfl rfl ty_22) rfl rfl rfl ?_; refine XK.ga (fun _ => g_mr (.inl rfl) rfl) rfl rfl rfl ?_
 refine XK.ga (fun _ => g_nc_r rfl rfl) rfl rfl rfl ?_; refine XK.ga (fun _ => g_fa_r rfl rfl fd_75_2 L_CTrial_at_) rfl rfl rfl ?_; refine XK.ga (fun _ => g_load_r rfl rfl ty_3) rfl rfl rfl ?_
 refine XK.ga (fun _ => g_ia_i (i := x.at_.toNat) rfl rfl rfl (by omega) sl_22 (by assumption)) rfl rfl rfl ?_; refine XK.ga (fun _ => g_load_r rfl rfl ty_41) rfl rfl rfl ?_
 refine XK.e (fun fr' hfr kk H => by exact aw_alloc ze_41 rfl rfl rfl rfl (aw_nil H)) ?_
 refine XK.e (x := .idk) (fun fr' hfr kk H => by exact aw_store_b rfl rfl rfl ((hfr 3 (by decide +kernel)).trans rfl) rfl (Lens.self _) ty_41 ((hfr 14 (by decide +kernel)).trans rfl) (aw_nil H)) ?_; refine XK.nil' ?_; refine CQ ?_
 refine CQ ?_; refine CD mixed ?_; refine G0 (oFp fd_41_1) ?_; refine G0 (oLb L_Part_l ty_39) ?_; refine G0 (g_len rfl rfl isl_39) ?_; refine G0 o_eql ?_; refine G0 mV ?_
 refine GK_splitp (d := 19) (p := y.l.length = 0) rfl (by rw [decide_eq_decide]; simp [IntL.toI]) (fun g19 => ?_) (fun g19 => ?_)
 ·
  refine G2 ?_; refine G2 ?_; refine G2 ?_; refine G2 ?_; refine G0 oK ?_; refine G0 mV ?_; refine G2 ?_; refine G2 ?_; refine G2 ?_; refine G2 ?_; refine G2 ?_; refine G2 ?_; refine G2 ?_; refine G2 ?_; refine G2 ?_; refine G2 ?_; refine G2 ?_
  refine G0 oK ?_; refine G0 mV ?_; refine G2 ?_; refine G2 ?_; refine G2 ?_; refine G2 ?_; refine G2 ?_; refine G2 ?_; refine G2 ?_; refine G2 ?_; refine G2 ?_; refine G2 ?_; refine G2 ?_; refine G2 ?_; refine G2 ?_; refine G2 ?_; refine G2 ?_
  refine G2 ?_; refine G2 ?_; refine G2 ?_; refine G0 oK ?_; refine G0 mV ?_; refine G2 ?_; refine G2 ?_; refine G2 ?_; refine G2 ?_; refine G2 ?_; refine G2 ?_; refine G2 ?_; refine G0 oK ?_; refine GK.nil ?_; refine Ct ?_; refine CQR ?_
  refine A0 aV ?_; refine CN ?_
  exact aw_ret1 rfl rfl (ret_eq rfl ((linkC_yes hy hc hd (.inl g19)).symm))
 ·
  refine G1 (oFp fd_41_1) ?_; refine G1 (oLb L_Part_l ty_39) ?_; refine G1 (g_len rfl rfl isl_39) ?_; refine G1 o_gtr ?_; refine G0 oK ?_; refine G0 mV ?_
  refine GK_splitp (d := 25) (p := 32 < y.l.length) rfl (by first | rfl | (rw [decide_eq_decide]; simp only [IntL.toI, id_eq]; omega) | (simp [IntL.toI]; done) | (simp [IntL.toI]; omega)) (fun g25 => ?_) (fun g25 => ?_)
  ·
   refine G2 ?_; refine G2 ?_; refine G2 ?_; refine G2 ?_; refine G2 ?_; refine G2 ?_; refine G2 ?_; refine G2 ?_; refine G2 ?_; refine G2 ?_; refine G2 ?_; refine G0 oK ?_; refine G0 mV ?_; refine G2 ?_; refine G2 ?_; refine G2 ?_; refine G2 ?_
   refine G2 ?_; refine G2 ?_; refine G2 ?_; refine G2 ?_; refine G2 ?_; refine G2 ?_; refine G2 ?_; refine G2 ?_; refine G2 ?_; refine G2 ?_; refine G2 ?_; refine G2 ?_; refine G2 ?_; refine G2 ?_; refine G0 oK ?_; refine G0 mV ?_; refine G2 ?_
   refine G2 ?_; refine G2 ?_; refine G2 ?_; refine G2 ?_; refine G2 ?_; refine G2 ?_; refine G0 oK ?_; refine GK.nil ?_; refine Ct ?_; refine CQR ?_; refine A0 aV ?_; refine CN ?_
   exact aw_ret1 rfl rfl (ret_eq rfl ((linkC_yes hy hc hd (.inr (.inl g25))).symm))
  ·
   obtain ⟨e, he⟩ : ∃ e, y.l[0]? = some e := ⟨_, List.getElem?_eq_getElem (by omega)⟩
   have hel : y.l.getD 0 zId = e := by simp [he]
   refine G1 (oFp fd_41_1) ?_; refine G1 (oLb L_Part_l ty_39) ?_; refine G1 (g_ia_i (i := 0) rfl rfl rfl (by omega) sl_39 (by assumption)) ?_; refine G1 (g_load_r rfl rfl ty_32) ?_; refine G1 mR ?_; refine G1 (g_nc_r rfl rfl) ?_
   refine G1 (oFr fd_75_1 L_CTrial_ids) ?_; refine G1 (g_load_r rfl rfl ty_39) ?_; refine G1 (g_ia_i (i := 0) rfl rfl rfl (by omega) sl_39 (by assumption)) ?_; refine G1 (g_load_r rfl rfl ty_32) ?_; refine G1 (g_neqS rfl rfl rfl (eqt_32)) ?_
   refine G0 oK ?_; refine G0 mV ?_
   refine GK_splitp (d := 38) (p := ¬ e = c) rfl (by simp) (fun g38 => ?_) (fun g38 => ?_)
   ·
    refine G2 ?_; refine G2 ?_; refine G2 ?_; refine G2 ?_; refine G2 ?_; refine G2 ?_; refine G2 ?_; refine G2 ?_; refine G2 ?_; refine G2 ?_; refine G2 ?_; refine G2 ?_; refine G2 ?_; refine G2 ?_; refine G2 ?_; refine G2 ?_; refine G2 ?_
    refine G2 ?_; refine G0 oK ?_; refine G0 mV ?_; refine G2 ?_; refine G2 ?_; refine G2 ?_; refine G2 ?_; refine G2 ?_; refine G2 ?_; refine G2 ?_; refine G0 oK ?_; refine GK.nil ?_; refine Ct ?_; refine CQR ?_; refine A0 aV ?_; refine CN ?_
    exact aw_ret1 rfl rfl (ret_eq rfl ((linkC_yes hy hc hd (.inr (.inr (.inl (by rw [hel]; exact g38))))).symm))
   ·
    refine G1 (oFp fd_41_1) ?_; refine G1 (oLb L_Part_l ty_39) ?_; refine G1 (oFp fd_41_0) ?_; refine G1 (oFp fd_38_1) ?_; refine G1 (oLb (L_Part_h.comp L_Head_prev) ty_32) ?_; refine G1 mR ?_; refine G1 (g_nc_r rfl rfl) ?_
    refine G1 (oFr fd_75_1 L_CTrial_ids) ?_; refine G1 (g_load_r rfl rfl ty_39) ?_; refine G1 mR ?_; refine G1 (g_nc_r rfl rfl) ?_; refine G1 (oFr fd_75_2 L_CTrial_at_) ?_; refine G1 (g_load_r rfl rfl ty_3) ?_; refine G1 o_sub ?_
    refine G1 (g_ia_i (i := x.at_.toNat - 1) rfl rfl rfl (by omega) sl_39 (by assumption)) ?_; refine G1 (g_load_r rfl rfl ty_32) ?_
    refine G1 (oCl (leads_ok y.l y.h.prev d) rfl fn_13 ⟨(arg_v rfl), (arg_v rfl), (by first | exact arg_same rfl | exact arg_bsl rfl | exact arg_own rfl rfl | exact arg_nil rfl | exact arg_rptr rfl | exact arg_fn rfl rfl | exact arg_lit rfl), trivial⟩) ?_
    refine G1 oN ?_; refine G0 oK ?_; refine G0 mV ?_
    refine GK_splitp (d := 58) (p := leadsB y.l y.h.prev d = false) rfl (by show (!(leadsB y.l y.h.prev d)) = _; cases leadsB y.l y.h.prev d <;> rfl) (fun g58 => ?_) (fun g58 => ?_)
    ·
     refine G2 ?_; refine G2 ?_; refine G2 ?_; refine G2 ?_; refine G2 ?_; refine G2 ?_; refine G2 ?_; refine G0 oK ?_; refine GK.nil ?_; refine Ct ?_; refine CQR ?_; refine A0 aV ?_; refine CN ?_
     exact aw_ret1 rfl rfl (ret_eq rfl ((linkC_yes hy hc hd (.inr (.inr (.inr (.inl g58))))).symm))
    ·
     refine G1 (oFp fd_41_1) ?_; refine G1 (oLb L_Part_l ty_39) ?_; refine G1 (oCl (linkRoot_ok y.l (by omega)) rfl fn_17 ⟨(arg_v rfl), trivial⟩) ?_; refine G1 (oFp fd_41_0) ?_; refine G1 (oFp fd_38_2) ?_
     refine G1 (oLb (L_Part_h.comp L_Head_links) ty_32) ?_; refine G1 (g_neqS rfl rfl rfl (eqt_32)) ?_; refine G0 oK ?_; refine GK.nil ?_
     refine aw_ifc (p := ¬ linkRoot y.l = y.h.links) rfl (by simp) (fun ht66 => ?_) (fun ht66 => ?_)
     ·
      refine CQR ?_; refine A0 aV ?_; refine CN ?_
      exact aw_ret1 rfl rfl (ret_eq rfl ((linkC_yes hy hc hd (.inr (.inr (.inr (.inr ht66))))).symm))
     ·
      refine CSQR ?_; refine A0 aV ?_; refine CN ?_
      exact aw_ret1 rfl rfl (ret_eq rfl ((linkC_no hy hc hd (fun h => h.elim g19 (fun h => h.elim g25 (fun h => h.elim (by rw [hel]; exact g38) (fun h => h.elim g58 ht66))))).symm))
theorem cwork_ok (x : CTrial) (h : TrOk x) : Tells P 34 [.rptr cTrialT x] (.val i64T (workC x)) := by
 obtain ⟨h1, h2, h3, h4, h5, h6⟩ := h
 obtain ⟨y, hy⟩ : ∃ y, x.p.p[x.at_.toNat]? = some y := ⟨_, List.getElem?_eq_getElem (by omega)⟩
 refine fn_of_aw Tryz.func34 rfl rfl rfl (fun ext w hext => ?_)
 refine CQR ?_; refine A0 aV ?_; refine CNQ ?_; refine CQ ?_; refine CD mixed ?_; refine G0 mR ?_; refine G0 (g_nc_r rfl rfl) ?_; refine G0 (oFr fd_75_0 L_CTrial_p) ?_; refine G0 (oFr fd_24_2 L_Proof_p) ?_
 refine G0 (g_load_r rfl rfl ty_22) ?_; refine G0 mR ?_; refine G0 (g_nc_r rfl rfl) ?_; refine G0 (oFr fd_75_2 L_CTrial_at_) ?_; refine G0 (g_load_r rfl rfl ty_3) ?_
 refine G0 (g_ia_i (i := x.at_.toNat) rfl rfl rfl (by omega) sl_22 (by assumption)) ?_; refine G0 (oFr fd_41_0 L_Part_h) ?_; refine G0 (g_load_r rfl rfl ty_38) ?_
 refine G0 (oCl (headMay_ok y.h) rfl fn_76 ⟨(by first | exact arg_same rfl | exact arg_bsl rfl | exact arg_own rfl rfl | exact arg_nil rfl | exact arg_rptr rfl | exact arg_fn rfl rfl | exact arg_lit rfl), trivial⟩) ?_; refine G0 oN ?_
 refine GK.nil ?_
 refine aw_ifc (p := ¬ headMay y.h = true) rfl (by cases headMay y.h <;> rfl) (fun ht16 => ?_) (fun ht16 => ?_)
 ·
  refine CQR ?_; refine A0 aV ?_; refine CN ?_
  exact aw_ret1 rfl rfl (ret_eq rfl (by unfold workC workF; rw [yOf_at hy, if_pos ht16]))
 ·
  refine CSQR ?_; refine A0 aV ?_; refine CN ?_
  exact aw_ret1 rfl rfl (ret_eq rfl (by unfold workC workF; rw [yOf_at hy, if_neg ht16]))
theorem checkP_ok (p : Proof) : Tells P 11 [.val proofT p] (.val i64T (checkP p)) := by
 refine fn_of_aw Tryz.func11 rfl rfl rfl (fun ext w hext => ?_)
 refine CQR ?_; refine aw_box rfl rfl rfl rfl rfl ?_; refine A0 aV ?_; refine CNQQR ?_; refine A0 (oFp fd_24_0) ?_; refine A0 (oLb L_Proof_m ty_3) ?_; refine A0 o_lss ?_; refine A0 mV ?_
 refine Sp (d := 12) (p := p.m < 1) (fun g12 => ?_) (fun g12 => ?_)
 ·
  refine A2 ?_; refine A2 ?_; refine A2 ?_; refine A0 oK ?_; refine A0 mV ?_; refine A2 ?_; refine A2 ?_; refine A2 ?_; refine A0 oK ?_; refine A0 mV ?_; refine A2 ?_; refine A2 ?_; refine A2 ?_; refine A0 oK ?_; refine CN ?_; refine Ct ?_
  refine CQR ?_; refine A0 aV ?_; refine CN ?_
  exact aw_ret1 rfl rfl (ret_eq rfl ((by unfold checkP; rw [if_pos (by omega)])))
 ·
  refine A1 (oFp fd_24_0) ?_; refine A1 (oLb L_Proof_m ty_3) ?_; refine A1 o_gtr ?_; refine A0 oK ?_; refine A0 mV ?_
  refine Sp (d := 17) (p := 20 < p.m) (fun g17 => ?_) (fun g17 => ?_)
  ·
   refine A2 ?_; refine A2 ?_; refine A2 ?_; refine A0 oK ?_; refine A0 mV ?_; refine A2 ?_; refine A2 ?_; refine A2 ?_; refine A0 oK ?_; refine CN ?_; refine Ct ?_; refine CQR ?_; refine A0 aV ?_; refine CN ?_
   exact aw_ret1 rfl rfl (ret_eq rfl ((by unfold checkP; rw [if_pos (by omega)])))
  ·
   refine A1 (oFp fd_24_1) ?_; refine A1 (oLb L_Proof_k ty_3) ?_; refine A1 o_lss ?_; refine A0 oK ?_; refine A0 mV ?_
   refine Sp (d := 22) (p := p.k < 1) (fun g22 => ?_) (fun g22 => ?_)
   ·
    refine A2 ?_; refine A2 ?_; refine A2 ?_; refine A0 oK ?_; refine CN ?_; refine Ct ?_; refine CQR ?_; refine A0 aV ?_; refine CN ?_
    exact aw_ret1 rfl rfl (ret_eq rfl ((by unfold checkP; rw [if_pos (by omega)])))
   ·
    refine A1 (oFp fd_24_1) ?_; refine A1 (oLb L_Proof_k ty_3) ?_; refine A1 o_gtr ?_; refine A0 oK ?_; refine CN ?_
    refine Cf (p := 20 < p.k) (fun ht26 => ?_) (fun ht26 => ?_)
    ·
     refine CQR ?_; refine A0 aV ?_; refine CN ?_
     exact aw_ret1 rfl rfl (ret_eq rfl ((by unfold checkP; rw [if_pos (by omega)])))
    ·
     refine CSQQR ?_; refine A0 (oFp fd_24_2) ?_; refine A0 (oLb L_Proof_p ty_22) ?_; refine A0 (g_len rfl rfl isl_22) ?_; refine A0 o_gtr ?_; refine A0 mV ?_
     refine Sp (d := 31) (p := 100 < p.p.length) (fun g31 => ?_) (fun g31 => ?_)
     ·
      refine A2 ?_; refine A2 ?_; refine A2 ?_; refine A2 ?_; refine A2 ?_; refine A2 ?_; refine A0 oK ?_; refine CN ?_; refine Ct ?_; refine CQR ?_; refine A0 aV ?_; refine CN ?_
      exact aw_ret1 rfl rfl (ret_eq rfl ((by unfold checkP; rw [if_neg (by omega), if_pos (by omega)])))
     ·
      refine A1 (oFp fd_24_2) ?_; refine A1 (oLb L_Proof_p ty_22) ?_; refine A1 (g_len rfl rfl isl_22) ?_; refine A1 (oFp fd_24_1) ?_; refine A1 (oLb L_Proof_k ty_3) ?_; refine A1 o_leq ?_; refine A0 oK ?_; refine CN ?_
      refine Cf (p := (p.p.length : Int) ≤ p.k) (fun ht38 => ?_) (fun ht38 => ?_)
      ·
       refine CQR ?_; refine A0 aV ?_; refine CN ?_
       exact aw_ret1 rfl rfl (ret_eq rfl ((by unfold checkP; rw [if_neg (by omega), if_pos (by omega)])))
      ·
       obtain ⟨a, ha⟩ : ∃ a, p.p[0]? = some a := ⟨_, List.getElem?_eq_getElem (by omega)⟩
       have hag : p.p.getD 0 zPartD = a := by simp [ha]
       refine CSQR ?_; refine A0 (oFp fd_24_2) ?_; refine A0 (oLb L_Proof_p ty_22) ?_; refine A0 (g_ia_i (i := 0) rfl rfl rfl (by omega) sl_22 (by assumption)) ?_; refine A0 (oFr fd_41_0 L_Part_h) ?_; refine A0 (oFr fd_38_6 L_Head_bits) ?_
       refine A0 (g_load_r rfl rfl ty_36) ?_
       refine A0 (oCl (firstTip_ok a.h.bits) rfl fn_31 ⟨(by first | exact arg_same rfl | exact arg_bsl rfl | exact arg_own rfl rfl | exact arg_nil rfl | exact arg_rptr rfl | exact arg_fn rfl rfl | exact arg_lit rfl), trivial⟩) ?_; refine A0 mX ?_
       refine A0 (by first | exact g_x20 rfl rfl | exact g_x30 rfl rfl) ?_; refine A0 (by first | exact g_x21 rfl rfl | exact g_x31 rfl rfl) ?_; refine aw_alloc ze_64 rfl rfl rfl rfl ?_
       refine aw_store_b rfl rfl rfl rfl rfl (Lens.self _) ty_64 rfl ?_; refine A0 aV ?_; refine CNQ ?_; refine CQ ?_; refine CD mixed ?_; refine G0 mV ?_; refine G0 oN ?_; refine G0 mV ?_
       refine GK_splitp (d := 51) (p := tgtOk a.h.bits = false) rfl (by cases tgtOk a.h.bits <;> rfl) (fun g51 => ?_) (fun g51 => ?_)
       ·
        refine G2 ?_; refine G2 ?_; refine G2 ?_; refine G2 ?_; refine G2 ?_; refine G2 ?_; refine G2 ?_; refine G0 oK ?_; refine G0 mV ?_; refine G2 ?_; refine G2 ?_; refine G2 ?_; refine G2 ?_; refine G2 ?_; refine G2 ?_; refine G2 ?_; refine G2 ?_
        refine G2 ?_; refine G0 oK ?_; refine GK.nil ?_; refine Ct ?_; refine CQR ?_; refine A0 aV ?_; refine CN ?_
        exact aw_ret1 rfl rfl (ret_eq rfl ((by unfold checkP; rw [if_neg (by omega), if_neg (by omega), hag, if_pos (.inl g51)])))
       ·
        refine G1 (oFp fd_24_2) ?_; refine G1 (oLb L_Proof_p ty_22) ?_; refine G1 (g_ia_i (i := 0) rfl rfl rfl (by omega) sl_22 (by assumption)) ?_; refine G1 (oFr fd_41_1 L_Part_l) ?_; refine G1 (g_load_r rfl rfl ty_39) ?_
        refine G1 (by first | exact g_len rfl rfl isl_39 | exact g_len_o rfl rfl rfl isl_39 | exact g_len_nil rfl rfl isl_39) ?_; refine G1 o_gtr ?_; refine G0 oK ?_; refine G0 mV ?_
        refine GK_splitp (d := 60) (p := 0 < a.l.length) rfl (by first | rfl | (rw [decide_eq_decide]; simp only [IntL.toI, id_eq]; omega) | (simp [IntL.toI]; done) | (simp [IntL.toI]; omega)) (fun g60 => ?_) (fun g60 => ?_)
        ·
         refine G2 ?_; refine G2 ?_; refine G2 ?_; refine G2 ?_; refine G2 ?_; refine G2 ?_; refine G2 ?_; refine G2 ?_; refine G2 ?_; refine G0 oK ?_; refine GK.nil ?_; refine Ct ?_; refine CQR ?_; refine A0 aV ?_; refine CN ?_
         exact aw_ret1 rfl rfl (ret_eq rfl ((by unfold checkP; rw [if_neg (by omega), if_neg (by omega), hag, if_pos (.inr (.inl g60))])))
        ·
         refine G1 (oFp fd_24_2) ?_; refine G1 (oLb L_Proof_p ty_22) ?_; refine G1 (g_ia_i (i := 0) rfl rfl rfl (by omega) sl_22 (by assumption)) ?_; refine G1 (oFr fd_41_0 L_Part_h) ?_; refine G1 (g_load_r rfl rfl ty_38) ?_
         refine G1 (oFp fd_64_0) ?_; refine G1 (oFp fd_60_0) ?_; refine G1 (oLb (L_Tip_b.comp L_Block_h) ty_38) ?_; refine G1 (g_neqS rfl rfl rfl (eqt_38)) ?_; refine G0 oK ?_; refine GK.nil ?_
         refine aw_ifc (p := ¬ a.h = (firstTip a.h.bits).b.h) rfl (by simp) (fun ht70 => ?_) (fun ht70 => ?_)
         ·
          refine CQR ?_; refine A0 aV ?_; refine CN ?_
          exact aw_ret1 rfl rfl (ret_eq rfl ((by unfold checkP; rw [if_neg (by omega), if_neg (by omega), hag, if_pos (.inr (.inr ht70))])))
         ·
          have hcp : checkP p = trialsE p (idsP p) (p.p.length - 1) 1 := by unfold checkP; rw [if_neg (by omega), if_neg (by omega), hag, if_neg (fun h => h.elim g51 (fun h => h.elim g60 ht70))]
          have hids := tells_pub (ids_ok p (by omega))
          obtain ⟨ids, hid⟩ : ∃ ids, ids = idsP p := ⟨_, rfl⟩
          rw [← hid] at hids hcp
          have hidl : ids.length = p.p.length := by rw [hid]; unfold idsP; simp
          refine CS ?_; refine CQ ?_; refine aw_drawx [some 1, some 1, some 1, some 1, none, some 1] mixed (by decide +kernel) ?_; refine X0 (oLs rfl rfl rfl ty_24) ?_; refine X0 (oLs rfl rfl rfl ty_24) ?_
          refine X0 (oCl (hids) rfl fn_20 ⟨(arg_v rfl), trivial⟩) ?_; refine X0 (g_build rfl ze_75 bd_75 (.cons fd_75_0 L_CTrial_p ty_24 rfl (.cons fd_75_1 L_CTrial_ids ty_39 rfl .nil)) rfl) ?_
          refine XK.e (fun fr' hfr kk H => by exact aw_box rfl rfl rfl rfl ((hfr 74 (by decide +kernel)).trans rfl) (aw_nil H)) ?_; refine X0 aP ?_; refine XK.nil' ?_; refine CQQR ?_; refine A0 mP ?_; refine A0 (g_nc rfl rfl) ?_
          refine A0 (oFp fd_75_2) ?_; refine aw_store_b rfl rfl rfl rfl rfl L_CTrial_at_ ty_3 rfl ?_; refine CNB ?_; refine aw_reheap (n := 2) (y := (⟨p, ids, ((1 : Nat) : Int)⟩ : CTrial)) rfl rfl ?_
          refine Lp (ι := Nat) 3 (fun (i : Nat) => ((Fr.none).set 1 (.ptr 0 0)).set 5 (.ptr 2 0)) (fun (i : Nat) => ((Hp.none).set 0 (.box 24 proofT p)).set 2 (.box 75 cTrialT ⟨p, ids, (i : Int)⟩)) (fun (i : Nat) => 1 ≤ i ∧ i ≤ p.p.length ∧ checkP p = trialsE p ids (p.p.length - i) i) (fun (i : Nat) => p.p.length - i) (1) (⟨Nat.le_refl _, by omega, hcp⟩) ?_
          intro i hinv
          refine CQ ?_; refine CQ ?_; refine CD mixed ?_; refine G0 mP ?_; refine G0 (g_nc rfl rfl) ?_; refine G0 (oFp fd_75_2) ?_; refine G0 (oLb L_CTrial_at_ ty_3) ?_; refine G0 (oFp fd_24_2) ?_; refine G0 (oLb L_Proof_p ty_22) ?_
          refine G0 (g_len rfl rfl isl_22) ?_; refine G0 o_lss ?_; refine GK.nil ?_
          refine Cf (p := i < p.p.length) (fun ht86 => ?_) (fun ht86 => ?_)
          ·
           have htr : TrOk ⟨p, ids, (i : Int)⟩ := ⟨by show (1 : Int) ≤ i; omega, by show (i : Int) < p.p.length; omega, hidl, by show p.p.length ≤ 100; omega, by show 1 ≤ p.k; omega, by show p.k ≤ 20; omega⟩
           refine CSQBQR ?_; refine A0 (g_buildF (xs := [_, _, _]) rfl ar_78 ze_78 ⟨rfl, ⟨_, rfl, rfl⟩, rfl, ⟨_, rfl, rfl⟩, rfl, ⟨_, rfl, rfl⟩, trivial⟩ rfl) ?_; refine aw_reval (d := 94) (y := three) rfl rfl ?_; refine A0 mV ?_; refine CNB ?_
           refine Lp (ι := Nat) 3 (fun (j : Nat) => ((((Fr.none).set 1 (.ptr 0 0)).set 5 (.ptr 2 0)).set 94 (.val (arrT 3 (by decide) fnoT) three)).set 95 (.val i64T (j : Int))) (fun (j : Nat) => ((Hp.none).set 0 (.box 24 proofT p)).set 2 (.box 75 cTrialT ⟨p, ids, (i : Int)⟩)) (fun (j : Nat) => j ≤ 3 ∧ firstC three ⟨p, ids, i⟩ = firstC (three.drop j) ⟨p, ids, i⟩) (fun (j : Nat) => 3 - j) (0) (⟨by omega, rfl⟩) ?_
           intro j hj
           refine CQR ?_; refine A0 o_lss ?_; refine CNQ ?_
           refine Cf (p := j < 3) (fun ht96 => ?_) (fun ht96 => ?_)
           ·
            obtain ⟨e, he⟩ : ∃ e, three[j]? = some e := ⟨_, List.getElem?_eq_getElem (show j < three.length from ht96)⟩
            have hask : e = some 32 ∨ e = some 33 ∨ e = some 34 := by have h := List.mem_of_getElem? he; unfold three at h; simpa using h
            rcases hask with hk | hk | hk
            ·
             refine CSQBQR ?_; refine A0 (g_index rfl rfl rfl rfl ar_78 ty_76 (by assumption)) ?_; refine aw_reval (d := 97) rfl hk ?_; refine aw_fnclo (d := 97) (f := 32) rfl ?_; refine A0 aC ?_; refine CNQR ?_; refine A0 mC ?_; refine A0 mP ?_
             refine A0 (g_callc (As := [_]) (Cs := []) (cprev_ok ⟨p, ids, i⟩ htr) rfl rfl fn_32 ⟨(by first | exact arg_ptr rfl rfl (Lens.self _) | exact arg_ptrw rfl rfl), trivial⟩ (by intro n hn; cases hn) trivial rfl) ?_; refine A0 aX ?_; refine CNQR ?_
             refine A0 mX ?_; refine A0 o_neq ?_; refine CN ?_
             refine aw_ifc (p := ¬ askC e ⟨p, ids, i⟩ = 0) rfl (by simp [askC, hk, IntL.toI]) (fun ht102 => ?_) (fun ht102 => ?_)
             ·
              refine CQR ?_; refine A0 mX ?_; refine A0 aX ?_; refine CN ?_
              exact aw_ret1 rfl rfl (ret_eq rfl (by rw [hinv.2.2, trials_stop ht86 (by rw [hj.2, firstC_stop he ht102]; exact ht102), hj.2, firstC_stop he ht102, hk]; rfl))
             ·
              refine CSIR ?_; refine A0 o_add ?_; refine A0 mV ?_; refine CN ?_
              exact Nx (j + 1) (⟨by omega, hj.2.trans (firstC_step he (Classical.not_not.1 ht102))⟩) (by omega)
            ·
             refine CSQBQR ?_; refine A0 (g_index rfl rfl rfl rfl ar_78 ty_76 (by assumption)) ?_; refine aw_reval (d := 97) rfl hk ?_; refine aw_fnclo (d := 97) (f := 33) rfl ?_; refine A0 aC ?_; refine CNQR ?_; refine A0 mC ?_; refine A0 mP ?_
             refine A0 (g_callc (As := [_]) (Cs := []) (clink_ok ⟨p, ids, i⟩ htr) rfl rfl fn_33 ⟨(by first | exact arg_ptr rfl rfl (Lens.self _) | exact arg_ptrw rfl rfl), trivial⟩ (by intro n hn; cases hn) trivial rfl) ?_; refine A0 aX ?_; refine CNQR ?_
             refine A0 mX ?_; refine A0 o_neq ?_; refine CN ?_
             refine aw_ifc (p := ¬ askC e ⟨p, ids, i⟩ = 0) rfl (by simp [askC, hk, IntL.toI]) (fun ht102 => ?_) (fun ht102 => ?_)
             ·
              refine CQR ?_; refine A0 mX ?_; refine A0 aX ?_; refine CN ?_
              exact aw_ret1 rfl rfl (ret_eq rfl (by rw [hinv.2.2, trials_stop ht86 (by rw [hj.2, firstC_stop he ht102]; exact ht102), hj.2, firstC_stop he ht102, hk]; rfl))
             ·
              refine CSIR ?_; refine A0 o_add ?_; refine A0 mV ?_; refine CN ?_
              exact Nx (j + 1) (⟨by omega, hj.2.trans (firstC_step he (Classical.not_not.1 ht102))⟩) (by omega)
            ·
             refine CSQBQR ?_; refine A0 (g_index rfl rfl rfl rfl ar_78 ty_76 (by assumption)) ?_; refine aw_reval (d := 97) rfl hk ?_; refine aw_fnclo (d := 97) (f := 34) rfl ?_; refine A0 aC ?_; refine CNQR ?_; refine A0 mC ?_; refine A0 mP ?_
             refine A0 (g_callc (As := [_]) (Cs := []) (cwork_ok ⟨p, ids, i⟩ htr) rfl rfl fn_34 ⟨(by first | exact arg_ptr rfl rfl (Lens.self _) | exact arg_ptrw rfl rfl), trivial⟩ (by intro n hn; cases hn) trivial rfl) ?_; refine A0 aX ?_; refine CNQR ?_
             refine A0 mX ?_; refine A0 o_neq ?_; refine CN ?_
             refine aw_ifc (p := ¬ askC e ⟨p, ids, i⟩ = 0) rfl (by simp [askC, hk, IntL.toI]) (fun ht102 => ?_) (fun ht102 => ?_)
             ·
              refine CQR ?_; refine A0 mX ?_; refine A0 aX ?_; refine CN ?_
              exact aw_ret1 rfl rfl (ret_eq rfl (by rw [hinv.2.2, trials_stop ht86 (by rw [hj.2, firstC_stop he ht102]; exact ht102), hj.2, firstC_stop he ht102, hk]; rfl))
             ·
              refine CSIR ?_; refine A0 o_add ?_; refine A0 mV ?_; refine CN ?_
              exact Nx (j + 1) (⟨by omega, hj.2.trans (firstC_step he (Classical.not_not.1 ht102))⟩) (by omega)
           ·
            refine CE ?_; refine CI ?_; refine CR ?_; refine A0 mP ?_; refine A0 (g_nc rfl rfl) ?_; refine A0 (oFp fd_75_2) ?_; refine A0 (oLb L_CTrial_at_ ty_3) ?_; refine A0 o_add ?_; refine A0 (g_nc rfl rfl) ?_; refine A0 (oFp fd_75_2) ?_
            refine aw_store_b rfl rfl rfl rfl rfl L_CTrial_at_ ty_3 rfl ?_; refine CN ?_; refine aw_reheap (n := 2) (y := (⟨p, ids, ((i + 1 : Nat) : Int)⟩ : CTrial)) rfl rfl ?_
            exact Nx (i + 1) (⟨by omega, by omega, by rw [hinv.2.2]; exact trials_go ht86 (hj.2.trans (by rw [List.drop_of_length_le (show three.length ≤ j by show 3 ≤ j; omega)]; rfl))⟩) (by omega)
          ·
           refine CE ?_; refine CQR ?_; refine A0 aV ?_; refine CN ?_
           exact aw_ret1 rfl rfl (ret_eq rfl (by rw [hinv.2.2, show p.p.length - i = 0 by omega]; rfl))
theorem fewPr_ok (p : Proof) : Tells P 10 [.val proofT p] (.val boolT (fewPr p)) := by
 refine fn_of_aw Tryz.func10 rfl rfl rfl (fun ext w hext => ?_)
 refine CQR ?_; refine aw_box rfl rfl rfl rfl rfl ?_; refine A0 aV ?_; refine CNQQR ?_; refine A0 aV ?_; refine CNB ?_
 refine Lp (ι := Nat) 1 (fun (k : Nat) => ((Fr.none).set 1 (.ptr 0 0)).set 3 (.val i64T (k : Int))) (fun (k : Nat) => (Hp.none).set 0 (.box 24 proofT p)) (fun (k : Nat) => k ≤ p.p.length ∧ (p.p.take k).all (fun x => decide (x.l.length ≤ 40)) = true) (fun (k : Nat) => p.p.length - k) (0) (⟨Nat.zero_le _, rfl⟩) ?_
 intro k hinv
 refine CQQR ?_; refine A0 mV ?_; refine A0 (oFp fd_24_2) ?_; refine A0 (oLb L_Proof_p ty_22) ?_
 refine aw_fact (d := 6) rfl fact_sl (fun hsl6 => ?_)
 refine A0 (g_len rfl rfl isl_22) ?_; refine A0 o_lss ?_; refine CN ?_
 refine Cf (p := k < p.p.length) (fun ht8 => ?_) (fun ht8 => ?_)
 ·
  obtain ⟨x, hx⟩ : ∃ x, p.p[k]? = some x := ⟨_, List.getElem?_eq_getElem ht8⟩
  refine CSQBQR ?_; refine A0 (oFp fd_24_2) ?_; refine A0 (oLb L_Proof_p ty_22) ?_; refine A0 mV ?_; refine A0 (g_ia_n rfl rfl rfl sl_22 (by assumption)) ?_; refine A0 (oFr fd_41_1 L_Part_l) ?_; refine A0 (g_load_r rfl rfl ty_39) ?_
  refine A0 (by first | exact g_len rfl rfl isl_39 | exact g_len_o rfl rfl rfl isl_39 | exact g_len_nil rfl rfl isl_39) ?_; refine A0 o_gtr ?_; refine CN ?_
  refine Cf (p := 40 < x.l.length) (fun ht18 => ?_) (fun ht18 => ?_)
  ·
   refine CQR ?_; refine A0 aV ?_; refine CN ?_
   exact aw_ret1 rfl rfl (ret_eq rfl ((by symm; unfold fewPr; rw [Bool.and_eq_false_iff]; left; rw [List.all_eq_false]; exact ⟨x, List.mem_of_getElem? hx, by simp; omega⟩)))
  ·
   refine CSIR ?_; refine A0 mV ?_; refine A0 o_add ?_; refine A0 aV ?_; refine CN ?_
   exact Nx (k + 1) (⟨by omega, by rw [List.take_add_one, hx, List.all_append, hinv.2]; simp; omega⟩) (by omega)
 ·
  refine CE ?_; refine CQR ?_; refine A0 (oFp fd_24_2) ?_; refine A0 (oLb L_Proof_p ty_22) ?_; refine A0 (g_len rfl rfl isl_22) ?_; refine A0 o_leq ?_; refine A0 aV ?_; refine CN ?_
  exact aw_ret1 rfl rfl (ret_eq rfl ((by have h := hinv.2; rw [List.take_of_length_le (by omega)] at h; unfold fewPr; rw [h, Bool.true_and, decide_eq_decide]; simp only [IntL.toI, id_eq]; omega)))
end Go.Proofs.YtjldddonpfopaaaGreat
set_option maxRecDepth 20000
namespace Go.Proofs.YtjldddonpfopaaaGreat
set_option linter.unusedVariables false
set_option linter.unusedSimpArgs false
open Go.Ab Go.RowKit
theorem fewC_no {l : List Block} {k : Nat} {x : Block} (hx : l[k]? = some x) (h : ¬ fewB x = true) : fewC l = false := by
  unfold fewC
  rw [Bool.and_eq_false_iff]
  left
  rw [List.all_eq_false]
  exact ⟨x, List.mem_of_getElem? hx, h⟩
theorem fewB_all {x : Block} (h : ¬ (x.t.all few && decide ((x.t.length : Int) ≤ 6)) = true) : ¬ fewB x = true := fun h2 => by unfold fewB at h2; rw [Bool.and_eq_true] at h2; exact h h2.1
theorem fewB_links {x : Block} (h : 40 < x.l.length) : ¬ fewB x = true := fun h2 => by unfold fewB at h2; rw [Bool.and_eq_true, decide_eq_true_eq] at h2; omega
theorem fewB_yes {x : Block} (h : (x.t.all few && decide ((x.t.length : Int) ≤ 6)) = true) (h2 : ¬ 40 < x.l.length) : fewB x = true := by unfold fewB; rw [h, Bool.true_and]; exact decide_eq_true (by omega)
theorem all_take_succ {α : Type} {p : α → Bool} {l : List α} {k : Nat} {x : α} (h : (l.take k).all p = true) (hx : l[k]? = some x) (hp : p x = true) : (l.take (k + 1)).all p = true := by
  rw [List.take_add_one, hx, List.all_append, h]; simp [hp]
theorem fewC_end {l : List Block} {k : Nat} (h : (l.take k).all fewB = true) (hk : l.length ≤ k) : fewC l = decide ((l.length : Int) ≤ 50) := by
  rw [List.take_of_length_le hk] at h
  unfold fewC; rw [h, Bool.true_and]
theorem easy_newOf : newOf 545259519 = [easyB0] := by unfold newOf; rw [if_pos easy_ok, easy_tip]; rfl
theorem fewC_ok (l : List Block) : Tells P 19 [.val (bsl blockT) l] (.val boolT (fewC l)) := by
 refine fn_of_aw Tryz.func19 rfl rfl rfl (fun ext w hext => ?_)
 refine aw_fact (d := 0) rfl fact_sl (fun hsl0 => ?_)
 refine CQR ?_; refine A0 aV ?_; refine CNQQR ?_; refine A0 aV ?_; refine CNB ?_
 refine Lp (ι := Nat) 0 (fun (k : Nat) => ((Fr.none).set 0 (.val (bsl blockT) l)).set 3 (.val i64T (k : Int))) (fun (k : Nat) => Hp.none) (fun (k : Nat) => k ≤ l.length ∧ (l.take k).all fewB = true) (fun (k : Nat) => l.length - k) (0) (⟨Nat.zero_le _, by simp⟩) ?_
 intro k hinv
 refine CQQR ?_; refine A0 mV ?_; refine A0 mV ?_; refine A0 (g_len rfl rfl isl_52) ?_; refine A0 o_lss ?_; refine CN ?_
 refine Cf (p := k < l.length) (fun ht8 => ?_) (fun ht8 => ?_)
 ·
  obtain ⟨x, hx⟩ : ∃ x, l[k]? = some x := ⟨_, List.getElem?_eq_getElem ht8⟩
  refine CSQBQR ?_; refine A0 mV ?_; refine A0 mV ?_; refine A0 (g_ia_i (i := k) rfl rfl rfl (by omega) sl_52 (by assumption)) ?_; refine A0 (oFr fd_60_2 L_Block_t) ?_; refine A0 (g_load_r rfl rfl ty_58) ?_
  refine A0 (oCl (fewAll_ok _ _) rfl fn_50 ⟨(by first | exact arg_same rfl | exact arg_bsl rfl | exact arg_own rfl rfl | exact arg_nil rfl | exact arg_rptr rfl | exact arg_fn rfl rfl | exact arg_lit rfl), (arg_v rfl), trivial⟩) ?_
  refine A0 aV ?_; refine CNQR ?_; refine A0 mV ?_; refine A0 oN ?_; refine A0 mV ?_
  refine aw_splitp (d := 19) (p := ¬ (x.t.all few && decide ((x.t.length : Int) ≤ 6)) = true) rfl (by cases (x.t.all few && decide ((x.t.length : Int) ≤ 6)) <;> rfl) (fun g19 => ?_) (fun g19 => ?_)
  ·
   refine A2 ?_; refine A2 ?_; refine A2 ?_; refine A2 ?_; refine A2 ?_; refine A2 ?_; refine A2 ?_; refine A0 oK ?_; refine CN ?_; refine Ct ?_; refine CQR ?_; refine A0 aV ?_; refine CN ?_
   exact aw_ret1 rfl rfl (ret_eq rfl (fewC_no hx (fewB_all g19)).symm)
  ·
   refine A1 mV ?_; refine A1 mV ?_; refine A1 (g_ia_i (i := k) rfl rfl rfl (by omega) sl_52 (by assumption)) ?_; refine A1 (oFr fd_60_1 L_Block_l) ?_; refine A1 (g_load_r rfl rfl ty_39) ?_
   refine A1 (by first | exact g_len rfl rfl isl_39 | exact g_len_o rfl rfl rfl isl_39 | exact g_len_nil rfl rfl isl_39) ?_; refine A1 o_gtr ?_; refine A0 oK ?_; refine CN ?_
   refine Cf (p := 40 < x.l.length) (fun ht27 => ?_) (fun ht27 => ?_)
   ·
    refine CQR ?_; refine A0 aV ?_; refine CN ?_
    exact aw_ret1 rfl rfl (ret_eq rfl (fewC_no hx (fewB_links ht27)).symm)
   ·
    refine CSIR ?_; refine A0 mV ?_; refine A0 o_add ?_; refine A0 aV ?_; refine CN ?_
    exact Nx (k + 1) (⟨by omega, all_take_succ hinv.2 hx (fewB_yes (Classical.not_not.1 g19) ht27)⟩) (by omega)
 ·
  refine CE ?_; refine CQR ?_; refine A0 mV ?_; refine A0 (g_len rfl rfl isl_52) ?_; refine A0 o_leq ?_; refine A0 aV ?_; refine CN ?_
  exact aw_ret1 rfl rfl (ret_eq rfl (by rw [fewC_end hinv.2 (by omega), decide_eq_decide]; rfl))
end Go.Proofs.YtjldddonpfopaaaGreat
set_option maxRecDepth 20000
namespace Go.Proofs.YtjldddonpfopaaaGreat
set_option linter.unusedVariables false
set_option linter.unusedSimpArgs false
open Go.Ab Go.RowKit
def easyP : Proof := ⟨1, 1, [⟨easyH, []⟩, ⟨easyB.h, [id0]⟩]⟩
theorem climb_easy (y : Int) : ∀ i : Nat, i ≤ 32 → climbS [31, y] 1 1 i = (0, if i = 0 then [] else [0])
  | 0, _ => rfl
  | i + 1, h => by
    have ih := climb_easy y i (by omega)
    have hu : upOf [31, y] 0 ((([31, y] : List Int).length : Int) - 1) (31 - (i : Int)) = [0] := by
      show upR [31, y] (31 - (i : Int)) 0 (0 + 1) = [0]
      rw [upR_yes (v := [31, y]) (n := 31 - (i : Int)) (x := 31) (a := 0) (i := 0) rfl (Nat.le_refl _) (by omega), upR_same]; rfl
    have e1 : (climbS [31, y] 1 1 i).1 = 0 := by rw [ih]
    have e2 : (climbS [31, y] 1 1 i).2 = if i = 0 then [] else [0] := by rw [ih]
    show (if _ then _ else _, _) = _
    have h0 : (if i + 1 = 0 then ([] : List Int) else [0]) = [0] := if_neg (by omega)
    rw [e1, e2, hu, h0, if_neg (by decide)]
    by_cases c : i = 0 <;> simp [c, setAdd]
theorem easy_lvs : levelsOf [easyB0, easyB] = [31, headLevel easyB.h] := by
  show [headLevel easyH, headLevel easyB.h] = _
  rw [easy_level]
theorem easy_le1 : decide (headLevel easyB.h ≤ 31) = true := by kernel_rfl
theorem easy_mayP : mayP [31, headLevel easyB.h] 1 1 = true := by
  have h1 := of_decide_eq_true easy_level1
  have h2 := of_decide_eq_true easy_le1
  unfold mayP mayV
  generalize headLevel easyB.h = y at h1 h2
  simp
  omega
theorem easy_prefix : prefixOf (levelsOf [easyB0, easyB]) 1 1 = ([0], true) := by
  unfold prefixOf
  rw [easy_lvs, if_pos easy_mayP, climb_easy _ 32 (Nat.le_refl _), if_neg (by decide)]
  simp [sortInts]
theorem easy_prE : prE [easyB0, easyB] 1 1 = 0 := by
  unfold prE
  rw [easy_chain1, if_neg (by decide), if_neg (by decide)]
theorem easy_pr : prOf [easyB0, easyB] 1 1 = easyP := by
  unfold prOf
  rw [if_pos easy_prE]
  unfold placesOf
  rw [easy_prefix]
  rfl
theorem easy_lkroot : linkRoot [id0] = easyB.h.links := (root_one _).trans easy_lk
theorem easy_check : checkP easyP = 0 := by
  have ei : idsP easyP = [id0, headId easyB.h] := by show [headId easyH, headId easyB.h] = _; rw [easy_id]
  unfold checkP
  rw [if_neg (by decide), if_neg (by decide), if_neg (by
    rintro (h | h | h)
    · exact absurd (show tgtOk 545259519 = true from easy_ok) (by rw [show tgtOk 545259519 = false from h]; decide)
    · exact absurd h (by decide)
    · exact h (show easyH = (firstTip 545259519).b.h by rw [easy_tip]; rfl)), ei]
  show (if _ then _ else _) = _
  have hf : firstC three ⟨easyP, [id0, headId easyB.h], ((1 : Nat) : Int)⟩ = 0 := by
    rw [firstC_three]
    have e1 : prevC ⟨easyP, [id0, headId easyB.h], ((1 : Nat) : Int)⟩ = 0 := prevC_no (y := ⟨easyB.h, [id0]⟩) (z := ⟨easyH, []⟩) (d := id0) rfl rfl rfl (by
      rintro (h | h | ⟨_, h | h⟩)
      · exact absurd h (by decide)
      · exact h rfl
      · exact h rfl
      · exact h rfl)
    have e2 : linkC ⟨easyP, [id0, headId easyB.h], ((1 : Nat) : Int)⟩ = 0 := linkC_no (y := ⟨easyB.h, [id0]⟩) (c := id0) (d := id0) rfl rfl rfl (by
      rintro (h | h | h | h | h)
      · exact absurd h (by decide)
      · exact absurd h (by decide)
      · exact h rfl
      · rw [show leadsB [id0] easyB.h.prev id0 = true by unfold leadsB; rw [decide_eq_true (show easyB.h.prev = id0 from rfl)]; rfl] at h; cases h
      · exact h easy_lkroot)
    have e3 : workC ⟨easyP, [id0, headId easyB.h], ((1 : Nat) : Int)⟩ = 0 := by
      unfold workC workF
      rw [yOf_at (y := ⟨easyB.h, [id0]⟩) rfl, if_neg (fun h => h easy_may1)]
    rw [if_neg (fun h => h e1), if_neg (fun h => h e2), e3]
  rw [if_pos hf]; rfl
theorem zero_check : checkP zProof = 1 := by unfold checkP; rw [if_pos (.inl (by decide))]
def yAt (p : Proof) (i : Nat) : Part := p.p.getD i zPartD
def stepOk (p : Proof) (i : Nat) : Prop :=
  prevF (yAt p i) (yAt p (i - 1)) ((p.p.length : Int) - p.k ≤ (i : Int)) (headId (yAt p (i - 1)).h) = 0 ∧ linkF (yAt p i) (headId (yAt p 0).h) (headId (yAt p (i - 1)).h) = 0 ∧ workF (yAt p i) = 0
def beginOk (a : Part) : Prop := tgtOk a.h.bits = true ∧ a.l.length = 0 ∧ a.h = (firstTip a.h.bits).b.h
structure HoldsP (p : Proof) : Prop where
  m1 : 1 ≤ p.m
  m2 : p.m ≤ 20
  k1 : 1 ≤ p.k
  k2 : p.k ≤ 20
  l1 : p.k < p.p.length
  l2 : p.p.length ≤ 100
  fst : beginOk (yAt p 0)
  steps : ∀ i, 1 ≤ i → i < p.p.length → stepOk p i
theorem prevF_zero {y z : Part} {last : Prop} [Decidable last] {d : Ab.Id} : prevF y z last d = 0 ↔ z.h.height < y.h.height ∧ y.h.bits = z.h.bits ∧ (last → y.h.height = IntKind.i64.wrap (z.h.height + 1) ∧ y.h.prev = d) := by
  unfold prevF
  constructor
  · intro h
    have hn : ¬ (y.h.height ≤ z.h.height ∨ ¬ y.h.bits = z.h.bits ∨ last ∧ (¬ y.h.height = IntKind.i64.wrap (z.h.height + 1) ∨ ¬ y.h.prev = d)) := fun c => by rw [if_pos c] at h; cases h
    refine ⟨Int.not_le.1 fun c => hn (.inl c), Classical.not_not.1 fun c => hn (.inr (.inl c)), fun hl => ⟨Classical.not_not.1 fun c => hn (.inr (.inr ⟨hl, .inl c⟩)), Classical.not_not.1 fun c => hn (.inr (.inr ⟨hl, .inr c⟩))⟩⟩
  · rintro ⟨h1, h2, h3⟩
    rw [if_neg]
    rintro (c | c | ⟨hl, c | c⟩)
    · omega
    · exact c h2
    · exact c (h3 hl).1
    · exact c (h3 hl).2
theorem linkF_zero {y : Part} {c d : Ab.Id} : linkF y c d = 0 ↔ 1 ≤ y.l.length ∧ y.l.length ≤ 32 ∧ y.l.getD 0 zId = c ∧ leadsB y.l y.h.prev d = true ∧ linkRoot y.l = y.h.links := by
  unfold linkF
  constructor
  · intro h
    have hn : ¬ (y.l.length = 0 ∨ 32 < y.l.length ∨ ¬ y.l.getD 0 zId = c ∨ leadsB y.l y.h.prev d = false ∨ ¬ linkRoot y.l = y.h.links) := fun c => by rw [if_pos c] at h; cases h
    refine ⟨Nat.one_le_iff_ne_zero.2 fun e => hn (.inl e), Nat.not_lt.1 fun e => hn (.inr (.inl e)), Classical.not_not.1 fun e => hn (.inr (.inr (.inl e))), ?_, Classical.not_not.1 fun e => hn (.inr (.inr (.inr (.inr e))))⟩
    cases e : leadsB y.l y.h.prev d
    · exact absurd (.inr (.inr (.inr (.inl e)))) hn
    · rfl
  · rintro ⟨h1, h2, h3, h4, h5⟩
    rw [if_neg]
    rintro (e | e | e | e | e)
    · omega
    · omega
    · exact e h3
    · rw [h4] at e; cases e
    · exact e h5
theorem workF_zero {y : Part} : workF y = 0 ↔ headMay y.h = true := by
  unfold workF
  by_cases h : headMay y.h = true
  · rw [if_neg (show ¬ ¬ headMay y.h = true from fun c => c h)]; simp [h]
  · rw [if_pos (show ¬ headMay y.h = true from h)]; simp [h]
theorem trials_zero {p : Proof} {ids : List Ab.Id} : ∀ (n i : Nat), trialsE p ids n i = 0 ↔ ∀ j, i ≤ j → j < i + n → firstC three ⟨p, ids, j⟩ = 0
  | 0, i => by simp [trialsE]; intro j h1 h2; omega
  | n + 1, i => by
    show (if firstC three ⟨p, ids, i⟩ = 0 then trialsE p ids n (i + 1) else firstC three ⟨p, ids, i⟩) = 0 ↔ _
    by_cases c : firstC three ⟨p, ids, i⟩ = 0
    · rw [if_pos c, trials_zero n (i + 1)]
      constructor
      · intro h j h1 h2
        by_cases e : j = i
        · rw [e]; exact c
        · exact h j (by omega) (by omega)
      · intro h j h1 h2; exact h j (by omega) (by omega)
    · rw [if_neg c]
      exact ⟨fun h => absurd h c, fun h => h i (Nat.le_refl _) (by omega)⟩
theorem ids_at (p : Proof) {i : Nat} (h : i < p.p.length) : (idsP p)[i]? = some (headId (yAt p i).h) := by
  unfold idsP yAt
  rw [List.getElem?_map, List.getElem?_eq_getElem h]
  simp [h]
theorem at_ (p : Proof) {i : Nat} (h : i < p.p.length) : p.p[i]? = some (yAt p i) := by unfold yAt; rw [List.getElem?_eq_getElem h]; simp [h]
theorem first_zero (p : Proof) {i : Nat} (h1 : 1 ≤ i) (h : i < p.p.length) : firstC three ⟨p, idsP p, (i : Int)⟩ = 0 ↔ stepOk p i := by
  rw [firstC_three]
  have e1 : prevC ⟨p, idsP p, (i : Int)⟩ = prevF (yAt p i) (yAt p (i - 1)) ((p.p.length : Int) - p.k ≤ (i : Int)) (headId (yAt p (i - 1)).h) := by
    unfold prevC
    rw [yOf_at (y := yAt p i) (at_ p h), zOf_at (y := yAt p (i - 1)) (at_ p (i := i - 1) (by omega)), dOf_at (ids_at p (i := i - 1) (by omega))]
  have e2 : linkC ⟨p, idsP p, (i : Int)⟩ = linkF (yAt p i) (headId (yAt p 0).h) (headId (yAt p (i - 1)).h) := by
    unfold linkC
    rw [yOf_at (y := yAt p i) (at_ p h), cOf_at (ids_at p (i := 0) (by omega)), dOf_at (ids_at p (i := i - 1) (by omega))]
  have e3 : workC ⟨p, idsP p, (i : Int)⟩ = workF (yAt p i) := by
    unfold workC
    rw [yOf_at (y := yAt p i) (at_ p h)]
  rw [e1, e2, e3]
  unfold stepOk
  generalize prevF (yAt p i) (yAt p (i - 1)) ((p.p.length : Int) - p.k ≤ (i : Int)) (headId (yAt p (i - 1)).h) = a
  generalize linkF (yAt p i) (headId (yAt p 0).h) (headId (yAt p (i - 1)).h) = b
  by_cases ha : a = 0
  · by_cases hb : b = 0
    · simp [ha, hb]
    · simp [ha, hb]
  · simp [ha]
theorem checkP_holds {p : Proof} : checkP p = 0 ↔ HoldsP p := by
  have ey : p.p.getD 0 zPartD = yAt p 0 := rfl
  unfold checkP
  rw [ey]
  constructor
  · intro h
    by_cases c1 : p.m < 1 ∨ 20 < p.m ∨ p.k < 1 ∨ 20 < p.k
    · rw [if_pos c1] at h; cases h
    rw [if_neg c1] at h
    by_cases c2 : 100 < p.p.length ∨ (p.p.length : Int) ≤ p.k
    · rw [if_pos c2] at h; cases h
    rw [if_neg c2] at h
    by_cases c3 : tgtOk (yAt p 0).h.bits = false ∨ 0 < (yAt p 0).l.length ∨ ¬ (yAt p 0).h = (firstTip (yAt p 0).h.bits).b.h
    · rw [if_pos c3] at h; cases h
    rw [if_neg c3, trials_zero] at h
    refine ⟨by omega, by omega, by omega, by omega, by omega, by omega, ⟨?_, by omega, Classical.not_not.1 fun e => c3 (.inr (.inr e))⟩, fun i h1 h2 => (first_zero p h1 h2).1 (h i h1 (by omega))⟩
    cases e : tgtOk (yAt p 0).h.bits
    · exact absurd (.inl e) c3
    · rfl
  · intro h
    have := h.m1; have := h.m2; have := h.k1; have := h.k2; have := h.l1; have := h.l2
    rw [if_neg (by omega), if_neg (by omega), if_neg (by
      rintro (e | e | e)
      · rw [h.fst.1] at e; cases e
      · have := h.fst.2.1; omega
      · exact e h.fst.2.2), trials_zero]
    exact fun i h1 h2 => (first_zero p h1 (by omega)).2 (h.steps i h1 (by omega))
theorem HoldsP.step {p : Proof} (h : HoldsP p) {i : Nat} (h1 : 1 ≤ i) (h2 : i < p.p.length) :
    (yAt p (i - 1)).h.height < (yAt p i).h.height ∧ (yAt p i).h.bits = (yAt p (i - 1)).h.bits ∧ ((p.p.length : Int) - p.k ≤ (i : Int) → (yAt p i).h.height = IntKind.i64.wrap ((yAt p (i - 1)).h.height + 1) ∧ (yAt p i).h.prev = headId (yAt p (i - 1)).h) := prevF_zero.1 (h.steps i h1 h2).1
theorem first_height (bits : UInt32) : (firstTip bits).b.h.height = 0 := by
  unfold firstTip
  split <;> rfl
theorem HoldsP.zero {p : Proof} (h : HoldsP p) : (yAt p 0).h.height = 0 := by rw [h.fst.2.2]; exact first_height _
theorem HoldsP.bits {p : Proof} (h : HoldsP p) : ∀ i, i < p.p.length → (yAt p i).h.bits = (yAt p 0).h.bits
  | 0, _ => rfl
  | i + 1, hi => by
    have := (h.step (i := i + 1) (by omega) hi).2.1
    rw [Nat.add_sub_cancel] at this
    rw [this]; exact h.bits i (by omega)
theorem fewPr_len {p : Proof} (h : fewPr p = true) : p.p.length ≤ 110 := by
  unfold fewPr at h
  rw [Bool.and_eq_true, decide_eq_true_eq] at h
  exact h.2
theorem two_ok : Tells P 29 [] (.val (sl blockT) [easyB0, easyB]) := by
 refine fn_of_aw Tryz.func29 rfl rfl rfl (fun ext w hext => ?_)
 refine CQR ?_; refine A0 aL ?_; refine CNQR ?_; refine A0 (oCl (newC_ok 545259519) rfl fn_67 ⟨(arg_v rfl), trivial⟩) ?_; refine A0 mX ?_; refine A0 (by first | exact g_x20 rfl rfl | exact g_x30 rfl rfl) ?_
 refine aw_reval (d := 7) (y := [easyB0]) rfl easy_newOf ?_; refine A0 (by first | exact g_x21 rfl rfl | exact g_x31 rfl rfl) ?_; refine A0 aV ?_; refine A0 aV ?_; refine CNQR ?_; refine A0 mV ?_
 refine A0 (oCl (tells_pub2 (growC_ok [easyB0] [] 0 small_easyC0 ⟨by decide, fun t ht => by cases ht⟩)) rfl fn_68 ⟨(arg_v rfl), (by first | exact arg_same rfl | exact arg_bsl rfl | exact arg_own rfl rfl | exact arg_nil rfl | exact arg_rptr rfl | exact arg_fn rfl rfl | exact arg_lit rfl), (arg_v rfl), trivial⟩) ?_
 refine A0 mX ?_; refine A0 (by first | exact g_x20 rfl rfl | exact g_x30 rfl rfl) ?_; refine aw_reval (d := 12) (y := [easyB0, easyB]) rfl easy_grown ?_; refine A0 (by first | exact g_x21 rfl rfl | exact g_x31 rfl rfl) ?_; refine A0 aV ?_
 refine A0 aV ?_; refine CNQR ?_; refine A0 mV ?_; refine A0 aV ?_; refine CN ?_
 exact aw_ret1 rfl rfl (ret_eq rfl (rfl))
end Go.Proofs.YtjldddonpfopaaaGreat
set_option maxRecDepth 20000
namespace Go.Proofs.YtjldddonpfopaaaGreat
set_option linter.unusedVariables false
set_option linter.unusedSimpArgs false
open Go.Ab Go.RowKit
theorem uu_46 : P.underlying 46 = some (.slice 5) := by kernel_rfl
theorem zp_49 : (P.info? 49).bind (·.zero) = some .nilFunc := by kernel_rfl
def textL (l : List Ab.Id) : List UInt8 := if l.length = 0 then [2] else if l.length ≤ 1 then [0] ++ l.headD zId else nodeText (linkRoot (l.take (halfN l.length))) (linkRoot (l.drop (halfN l.length)))
theorem shaSum_len (b : List UInt8) : (shaSum b).length = 32 := by unfold shaSum; simp
theorem root_text (l : List Ab.Id) : linkRoot l = shaSum (textL l) := by
  unfold textL linkRoot
  rw [rootOf]
  simp only [List.length_map]
  by_cases h0 : l.length = 0
  · rw [if_pos h0, if_pos h0]
  · rw [if_neg h0, if_neg h0]
    by_cases h1 : l.length ≤ 1
    · rw [dif_pos h1, if_pos h1]
      match l, h0, h1 with
      | [x], _, _ => rfl
      | [], h0, _ => exact absurd rfl h0
      | _ :: _ :: _, _, h1 => simp at h1
    · rw [dif_neg h1, if_neg h1, ← List.map_take, ← List.map_drop]; rfl
theorem linkRoot_len (l : List Ab.Id) : (linkRoot l).length = 32 := by rw [root_text]; exact shaSum_len _
def diffF : Nat → List Ab.Id → List Ab.Id → List UInt8 × List UInt8 × Bool
  | 0, a, b => (textL a, textL b, !decide (textL a = textL b))
  | n + 1, a, b =>
    if ¬ textL a = textL b then (textL a, textL b, true)
    else if a.length < 2 ∨ b.length < 2 then (textL a, textL b, false)
    else if (diffF n (a.take (halfN a.length)) (b.take (halfN b.length))).2.2 = true then diffF n (a.take (halfN a.length)) (b.take (halfN b.length))
    else diffF n (a.drop (halfN a.length)) (b.drop (halfN b.length))
theorem diff_ne {n : Nat} {a b : List Ab.Id} (h : ¬ textL a = textL b) : diffF n a b = (textL a, textL b, true) := by
  cases n with
  | zero => unfold diffF; rw [decide_eq_false h]; rfl
  | succ n => unfold diffF; rw [if_pos h]
theorem diff_few {n : Nat} {a b : List Ab.Id} (h : textL a = textL b) (h2 : a.length < 2 ∨ b.length < 2) : diffF n a b = (textL a, textL b, false) := by
  cases n with
  | zero => unfold diffF; rw [decide_eq_true h]; rfl
  | succ n => unfold diffF; rw [if_neg (fun c => c h), if_pos h2]
def differOf (a b : List Ab.Id) : List UInt8 × List UInt8 × Bool :=
  if a = b ∨ ¬ linkRoot a = linkRoot b then ([], [], false)
  else if (diffF a.length a b).2.2 = true then diffF a.length a b else ([], [], false)
def HD (X Y : List UInt8) : Hp := ((Hp.none.set 0 (.box 46 (sl u8T) X)).set 1 (.box 46 (sl u8T) Y)).set 2 (.parts 49 [.clo 40 [0, 1, 2]])
theorem hd_two (X Y X' Y' : List UInt8) : HD X' Y' = ((HD X Y).set 0 (.box 46 (sl u8T) X')).set 1 (.box 46 (sl u8T) Y') := by
  funext t
  match t with
  | 0 => rfl
  | 1 => rfl
  | 2 => rfl
  | t + 3 => rfl
theorem hd_init (X Y : List UInt8) (Z : HE) : HD X Y = (((Hp.none.set 0 (.box 46 (sl u8T) X)).set 1 (.box 46 (sl u8T) Y)).set 2 Z).set 2 (.parts 49 [.clo 40 [0, 1, 2]]) := by
  funext t
  match t with
  | 0 => rfl
  | 1 => rfl
  | 2 => rfl
  | t + 3 => rfl
def DownCall (a b : List Ab.Id) (A B : List UInt8) (r : Bool) : Prop := ∀ {J : Job} {nx : Nat} {fr : Fr} {k : List It} {ops : Array Oper} {rest : List Oper} {o : Oper} {d : Nat} {x ya yb : Operand} {ts : Array TypeId} {X Y : List UInt8}, J.P = P → o.op = .call { callee := .value x, args := #[ya, yb], argTypes := ts } → o.dst = some d → o.guard = none → Nat.blt d J.nt = true →
  fr.ev x = .clo 40 [0, 1, 2] → fr.ev ya = .val (bsl idT) a → fr.ev yb = .val (bsl idT) b → AW J nx (fr.set d (.val boolT r)) (HD A B) (.ops ops rest :: k) → AW J nx fr (HD X Y) (.ops ops (o :: rest) :: k)
theorem chalf_ok (n : Nat) (h : 2 ≤ n) (hn : n < 4398046511104) : Tells P 43 [.val i64T (n : Int)] (.val i64T (halfN n : Nat)) := by
 obtain ⟨hb1, hb2⟩ := bitLen_one h hn
 refine fn_of_aw Tryz.func43 rfl rfl rfl (fun ext w hext => ?_)
 refine aw_fact (d := 0) rfl fact_int (fun hin0 => ?_)
 refine CQR ?_; refine A0 aV ?_; refine CNQR ?_; refine A0 mV ?_; refine A0 o_sub ?_; refine A0 (g_cv64 rfl (ui_130) (us_3) rfl) ?_; refine A0 (oCl (lenU_ok _) rfl fn_82 ⟨(arg_v rfl), trivial⟩) ?_; refine A0 o_sub ?_
 refine A0 (g_shlI rfl rfl rfl (by first | decide | omega | (show (0 : Int) ≤ ((_ : Nat) : Int) - 1; omega) | (simp [IntL.toI]; done) | (simp [IntL.toI]; omega)) rfl) ?_; refine A0 aV ?_; refine CN ?_
 exact aw_ret1 rfl rfl (ret_eq rfl (half_eq h hn))
theorem bequal_ok (a b : List UInt8) : Tells P 42 [.val (bsl u8T) a, .val (bsl u8T) b] (.val boolT (decide (a = b))) := by
 refine fn_of_aw Tryz.func42 rfl rfl rfl (fun ext w hext => ?_)
 refine aw_fact (d := 0) rfl fact_sl (fun hsl0 => ?_)
 refine aw_fact (d := 1) rfl fact_sl (fun hsl1 => ?_)
 refine CQR ?_; refine A0 aV ?_; refine CNQR ?_; refine A0 mV ?_; refine A0 (g_cvs rfl rfl uu_46 ui_5 st_9) ?_; refine A0 mV ?_; refine A0 (g_cvs rfl rfl uu_46 ui_5 st_9) ?_; refine A0 (g_eqlstr rfl rfl rfl) ?_; refine A0 aV ?_; refine CN ?_
 exact aw_ret1 rfl rfl (ret_eq rfl (rfl))
theorem text_ok (l : List Ab.Id) (hl : l.length ≤ 1000000) : Tells P 41 [.val (bsl idT) l] (.fresh 5 u8T (textL l)) := by
 refine fn_of_aw Tryz.func41 rfl rfl rfl (fun ext w hext => ?_)
 refine aw_fact (d := 0) rfl fact_sl (fun hsl0 => ?_)
 refine aw_fact (d := 0) rfl fact_idsL (fun hids => ?_)
 refine CQR ?_; refine A0 aL ?_; refine CNQQR ?_; refine A0 mV ?_; refine A0 (g_len rfl rfl isl_39) ?_; refine CNB ?_; refine CQR ?_; refine A0 o_eql ?_; refine A0 aV ?_; refine CN ?_
 refine aw_ifc (p := l.length = 0) rfl (by simp [IntL.toI]) (fun ht8 => ?_) (fun ht8 => ?_)
 ·
  refine CQR ?_; refine aw_bslice (T := u8T) (xs := [_]) rfl rfl rfl rfl sl_46 row_46 ⟨rfl, rfl, trivial⟩ rfl rfl ?_; refine A0 aO ?_; refine CN ?_
  exact aw_ret1 rfl rfl (ret_fresh_eq rfl rfl (by unfold textL; rw [if_pos ht8]; rfl))
 ·
  refine CQR ?_; refine A0 o_eql ?_; refine A0 aV ?_; refine CN ?_
  refine aw_ifc (p := l.length = 1) rfl (by rw [decide_eq_decide]; simp only [IntL.toI, id_eq]; omega) (fun ht11 => ?_) (fun ht11 => ?_)
  ·
   obtain ⟨x, hx⟩ : ∃ x, l[0]? = some x := ⟨_, List.getElem?_eq_getElem (by omega)⟩
   have hxl := hids x (List.mem_of_getElem? hx)
   refine CQR ?_; refine aw_bslice (T := u8T) (xs := [_]) rfl rfl rfl rfl sl_46 row_46 ⟨rfl, rfl, trivial⟩ rfl rfl ?_; refine A0 mV ?_; refine A0 (g_ia_i (i := 0) rfl rfl rfl (by omega) sl_39 (by assumption)) ?_
   refine A0 (g_slice_r rfl rfl ar_32 rfl rfl) ?_; refine aw_append rfl rfl rfl rfl rfl rfl rfl row_46 (by simp; omega) ?_; refine A0 aO ?_; refine CN ?_
   exact aw_ret1 rfl rfl (ret_fresh_eq rfl rfl (by unfold textL; rw [if_neg ht8, if_pos (by omega)]; cases l with | nil => simp at hx | cons y m => simp at hx; simp [hx]))
  ·
   have hp := half_pos l.length
   have hh := half_lt (n := l.length) (by omega)
   have hra := linkRoot_len (l.take (halfN l.length))
   have hrb := linkRoot_len (l.drop (halfN l.length))
   refine CS ?_; refine CI ?_; refine CQR ?_; refine A0 mV ?_; refine A0 (g_len rfl rfl isl_39) ?_; refine A0 (oCl (chalf_ok l.length (by omega) (by omega)) rfl fn_43 ⟨(arg_v rfl), trivial⟩) ?_; refine A0 aV ?_; refine CNQ ?_
   refine aw_drawf 8 (.box 32 idT zId) [some 1000001, some 1000001, some 1000001, some 1000001, some 1000001, some 1000001, some 1000001, some 1000001, some 1000001, none, none, none] mixed (by decide +kernel) rfl ?_
   refine XKF.ga rfl (fun _ => g_mv (.inl rfl) rfl) rfl rfl rfl rfl ?_; refine XKF.ga rfl (fun _ => g_mv (.inl rfl) rfl) rfl rfl rfl rfl ?_
   refine XKF.ga rfl (fun _ => by first | exact g_sl_nil rfl rfl rfl (by first | rfl | omega) sl_39 | exact g_sl_h rfl rfl rfl sl_39 (by first | assumption | omega | (simp; omega))) rfl rfl rfl rfl ?_
   refine XKF.ga rfl (fun _ => g_call (linkRoot_ok (l.take (halfN l.length)) (by simp; omega)) rfl fn_17 ⟨(arg_v rfl), trivial⟩ rfl) rfl rfl rfl rfl ?_; refine XKF.ga rfl (fun _ => g_mv (.inl rfl) rfl) rfl rfl rfl rfl ?_
   refine XKF.ga rfl (fun _ => g_mv (.inl rfl) rfl) rfl rfl rfl rfl ?_; refine XKF.ga rfl (fun _ => g_sl_l rfl rfl rfl sl_39 (by first | assumption | omega | (simp; omega))) rfl rfl rfl rfl ?_
   refine XKF.ga rfl (fun _ => g_call (linkRoot_ok (l.drop (halfN l.length)) (by simp; omega)) rfl fn_17 ⟨(arg_v rfl), trivial⟩ rfl) rfl rfl rfl rfl ?_; refine XKF.f rfl ze_32 rfl rfl rfl rfl rfl rfl ?_
   refine XKF.e rfl (fun fr' hfr kk H => by exact aw_alloc ze_32 rfl rfl rfl rfl (aw_nil H)) (EffA.conv (fun fr' hfr kk H => by exact aw_alloc ze_32 rfl rfl rfl rfl (aw_nil H)) (by first | exact hp_out rfl | exact hp_out2 rfl rfl | exact hp_out3 rfl rfl rfl | rfl)) (by exact rfl) (by exact rfl) (by exact rfl) (by (repeat refine av_set ?_ rfl); exact fun _ _ => rfl) ?_
   refine XKF.ew (x := .idk) rfl (by decide +kernel) (fun fr' hfr kk H => by exact aw_store_b rfl rfl rfl ((hfr 4 (by decide +kernel)).trans rfl) rfl (Lens.self _) ty_32 ((hfr 24 (by decide +kernel)).trans rfl) (aw_nil H)) (by exact rfl) (by (repeat refine av_set ?_ rfl); exact fun _ _ => rfl) ?_
   refine XKF.ew (x := .idk) rfl (by decide +kernel) (fun fr' hfr kk H => by exact aw_store_b rfl rfl rfl ((hfr 5 (by decide +kernel)).trans rfl) rfl (Lens.self _) ty_32 ((hfr 28 (by decide +kernel)).trans rfl) (aw_nil H)) (by exact rfl) (by (repeat refine av_set ?_ rfl); exact fun _ _ => rfl) ?_
   refine XKF.nilp trivial ?_; refine CQ ?_; refine aw_freeze (d := 4) rfl rfl (Lens.self _) ?_; refine aw_freeze (d := 5) rfl rfl (Lens.self _) ?_; refine aw_drawx [some 1, some 1, some 1, some 1, none, some 1] mixed (by decide +kernel) ?_
   refine X0 (g_lend (T := sl u8T) (S := bsl u8T) (g_bslice (T := u8T) (xs := [_]) rfl sl_46 row_46 ⟨rfl, rfl, trivial⟩ rfl rfl)) ?_; refine X0 (g_slice_r rfl rfl ar_32 rfl rfl) ?_; refine X0 (g_slice_r rfl rfl ar_32 rfl rfl) ?_
   refine X0 (g_bslice (T := (bsl u8T)) (xs := [_, _, _]) rfl sl_128 row_128 ⟨rfl, rfl, rfl, rfl, rfl, rfl, trivial⟩ rfl rfl) ?_
   refine XK.e (fun fr' hfr kk H => by exact aw_callf (concat_ok [[1], linkRoot (l.take (halfN l.length)), linkRoot (l.drop (halfN l.length))] (by simp; omega)) rfl fn_80 ⟨(arg_v ((hfr 32 (by decide +kernel)).trans rfl)), trivial⟩ rfl rfl rfl (aw_nil H)) ?_
   refine X0 aO ?_; refine XK.nil' ?_
   exact aw_ret1 rfl rfl (ret_fresh_eq rfl rfl (by unfold textL; rw [if_neg ht8, if_neg (by omega)]; unfold nodeText; simp))
theorem down_ok (n : Nat) : ∀ (a b : List Ab.Id), a.length ≤ n → a.length ≤ 1000000 → b.length ≤ 1000000 → DownCall a b (diffF n a b).1 (diffF n a b).2.1 (diffF n a b).2.2 := by
 induction n using Nat.strongRecOn with
 | _ n ih =>
 intro a b hn hal hbl J nx fr k ops rest o d x ya yb ts X Y hP ho hd hg hlt hx hya hyb H
 cases J
 dsimp only at hP
 subst hP
 refine aw_inlinec ho hd hg hlt hx Tryz.func40 fn_40 rfl rfl (by intro n hn; simp only [List.mem_cons, List.not_mem_nil, or_false] at hn; rcases hn with rfl | rfl | rfl <;> rfl) (fun ia iok => ?_)
 have hargs : ((#[ya, yb] : Array Operand).toList.map fr.ev ++ ([0, 1, 2] : List Nat).map fun n => AV.ptr n 0) = [.val (bsl idT) a, .val (bsl idT) b, .ptr 0 0, .ptr 1 0, .ptr 2 0] := by simp [hya, hyb]
 rw [hargs]
 refine CQR ?_; refine A0 aV ?_; refine CNQR ?_; refine A0 mV ?_; refine A0 (oCl (tells_pub (text_ok a (by omega))) rfl fn_41 ⟨(arg_v rfl), trivial⟩) ?_; refine A0 mV ?_
 refine A0 (oCl (tells_pub (text_ok b (by omega))) rfl fn_41 ⟨(arg_v rfl), trivial⟩) ?_; refine aw_store_b rfl rfl rfl rfl rfl (Lens.self _) ty_46 rfl ?_; refine aw_store_b rfl rfl rfl rfl rfl (Lens.self _) ty_46 rfl ?_; refine CN ?_
 refine aw_heq (hp' := HD (textL a) (textL b)) (hd_two _ _ _ _) ?_; refine CQQR ?_; refine A0 (oLs rfl rfl rfl ty_46) ?_; refine A0 (oLs rfl rfl rfl ty_46) ?_
 refine A0 (oCl (bequal_ok (textL a) (textL b)) rfl fn_42 ⟨(arg_v rfl), (arg_v rfl), trivial⟩) ?_; refine A0 oN ?_; refine CN ?_
 refine aw_ifc (p := ¬ textL a = textL b) rfl (by simp) (fun ht17 => ?_) (fun ht17 => ?_)
 ·
  refine CQR ?_; refine A0 aV ?_; refine CN ?_; refine aw_back1 rfl ?_
  rw [diff_ne ht17] at H
  exact H
 ·
  have hte := Classical.not_not.1 ht17
  refine CSQQR ?_; refine A0 mV ?_; refine A0 (g_len rfl rfl isl_39) ?_; refine A0 mV ?_; refine A0 (g_len rfl rfl isl_39) ?_; refine A0 (g_min rfl rfl rfl) ?_; refine A0 o_lss ?_; refine CN ?_
  refine aw_ifc (p := a.length < 2 ∨ b.length < 2) rfl (by rw [decide_eq_decide]; simp only [IntL.toI, id_eq]; omega) (fun ht23 => ?_) (fun ht23 => ?_)
  ·
   refine CQR ?_; refine A0 aV ?_; refine CN ?_; refine aw_back1 rfl ?_
   rw [diff_few hte ht23] at H
   exact aw_heq rfl H
  ·
   obtain ⟨m, rfl⟩ : ∃ m, n = m + 1 := ⟨n - 1, by omega⟩
   have hpa := half_pos a.length
   have hha := half_lt (n := a.length) (by omega)
   have hpb := half_pos b.length
   have hhb := half_lt (n := b.length) (by omega)
   have ihl := @ih m (Nat.lt_succ_self m) (a.take (halfN a.length)) (b.take (halfN b.length)) (by simp; omega) (by simp; omega) (by simp; omega)
   have ihr := @ih m (Nat.lt_succ_self m) (a.drop (halfN a.length)) (b.drop (halfN b.length)) (by simp; omega) (by simp; omega) (by simp; omega)
   have hdn : diffF (m + 1) a b = if (diffF m (a.take (halfN a.length)) (b.take (halfN b.length))).2.2 = true then diffF m (a.take (halfN a.length)) (b.take (halfN b.length)) else diffF m (a.drop (halfN a.length)) (b.drop (halfN b.length)) := by rw [diffF, if_neg ht17, if_neg ht23]
   rw [hdn] at H
   obtain ⟨A2, B2, r, hr⟩ : ∃ A2 B2 r, diffF m (a.take (halfN a.length)) (b.take (halfN b.length)) = (A2, B2, r) := ⟨_, _, _, rfl⟩
   rw [hr] at ihl H
   cases r
   ·
    refine CSQR ?_; refine A0 mV ?_; refine A0 (g_len rfl rfl isl_39) ?_; refine A0 (oCl (chalf_ok a.length (by omega) (by omega)) rfl fn_43 ⟨(arg_v rfl), trivial⟩) ?_; refine A0 mV ?_; refine A0 (g_len rfl rfl isl_39) ?_
    refine A0 (oCl (chalf_ok b.length (by omega) (by omega)) rfl fn_43 ⟨(arg_v rfl), trivial⟩) ?_; refine A0 aV ?_; refine A0 aV ?_; refine CNQ ?_
    refine aw_drawx [some 1, some 1, some 1, some 1, some 1, some 1, some 1, none, some 1, some 1, some 1, some 1, some 1, some 1, some 1, some 1, none, some 1, some 1] mixed (by decide +kernel) ?_
    refine X0 (by first | exact g_load_p rfl rfl rfl rfl rfl ty_49 | exact g_load_pv rfl rfl rfl rfl ty_49) ?_; refine X0 mV ?_; refine X0 mV ?_
    refine X0 (by first | exact g_sl_nil rfl rfl rfl (by first | rfl | omega) sl_39 | exact g_sl_h rfl rfl rfl sl_39 (by first | assumption | omega | (simp; omega))) ?_; refine X0 mV ?_; refine X0 mV ?_
    refine X0 (by first | exact g_sl_nil rfl rfl rfl (by first | rfl | omega) sl_39 | exact g_sl_h rfl rfl rfl sl_39 (by first | assumption | omega | (simp; omega))) ?_
    refine XK.e (fun fr' hfr kk H => by exact ihl rfl rfl rfl rfl rfl ((hfr 30 (by decide +kernel)).trans rfl) ((hfr 33 (by decide +kernel)).trans rfl) ((hfr 36 (by decide +kernel)).trans rfl) (aw_nil H)) ?_; refine X0 mX ?_
    refine XK.gi (by first | exact g_load_p rfl rfl rfl rfl rfl ty_49 | exact g_load_pv rfl rfl rfl rfl ty_49) rfl rfl rfl rfl rfl rfl rfl rfl ?_; refine XK.gi (g_mv (.inl rfl) rfl) rfl rfl rfl rfl rfl rfl rfl rfl ?_
    refine XK.gi (g_mv (.inl rfl) rfl) rfl rfl rfl rfl rfl rfl rfl rfl ?_; refine XK.gi (g_sl_l rfl rfl rfl sl_39 (by first | assumption | omega | (simp; omega))) rfl rfl rfl rfl rfl rfl rfl rfl ?_
    refine XK.gi (g_mv (.inl rfl) rfl) rfl rfl rfl rfl rfl rfl rfl rfl ?_; refine XK.gi (g_mv (.inl rfl) rfl) rfl rfl rfl rfl rfl rfl rfl rfl ?_
    refine XK.gi (g_sl_l rfl rfl rfl sl_39 (by first | assumption | omega | (simp; omega))) rfl rfl rfl rfl rfl rfl rfl rfl ?_
    refine XK.e (fun fr' hfr kk H => by exact aw_unguard rfl rfl rfl ((hfr 38 (by decide +kernel)).trans rfl) rfl rfl (ihr rfl rfl rfl rfl rfl ((hfr 39 (by decide +kernel)).trans rfl) ((hfr 42 (by decide +kernel)).trans rfl) ((hfr 45 (by decide +kernel)).trans rfl) (aw_nil H))) ?_
    refine X0 oK ?_; refine X0 aX ?_; refine XK.nil' ?_; refine aw_back1 rfl ?_
    exact H
   ·
    refine CSQR ?_; refine A0 mV ?_; refine A0 (g_len rfl rfl isl_39) ?_; refine A0 (oCl (chalf_ok a.length (by omega) (by omega)) rfl fn_43 ⟨(arg_v rfl), trivial⟩) ?_; refine A0 mV ?_; refine A0 (g_len rfl rfl isl_39) ?_
    refine A0 (oCl (chalf_ok b.length (by omega) (by omega)) rfl fn_43 ⟨(arg_v rfl), trivial⟩) ?_; refine A0 aV ?_; refine A0 aV ?_; refine CNQ ?_
    refine aw_drawx [some 1, some 1, some 1, some 1, some 1, some 1, some 1, none, some 1, some 1, some 1, some 1, some 1, some 1, some 1, some 1, some 1, some 1, some 1] mixed (by decide +kernel) ?_
    refine X0 (by first | exact g_load_p rfl rfl rfl rfl rfl ty_49 | exact g_load_pv rfl rfl rfl rfl ty_49) ?_; refine X0 mV ?_; refine X0 mV ?_
    refine X0 (by first | exact g_sl_nil rfl rfl rfl (by first | rfl | omega) sl_39 | exact g_sl_h rfl rfl rfl sl_39 (by first | assumption | omega | (simp; omega))) ?_; refine X0 mV ?_; refine X0 mV ?_
    refine X0 (by first | exact g_sl_nil rfl rfl rfl (by first | rfl | omega) sl_39 | exact g_sl_h rfl rfl rfl sl_39 (by first | assumption | omega | (simp; omega))) ?_
    refine XK.e (fun fr' hfr kk H => by exact ihl rfl rfl rfl rfl rfl ((hfr 30 (by decide +kernel)).trans rfl) ((hfr 33 (by decide +kernel)).trans rfl) ((hfr 36 (by decide +kernel)).trans rfl) (aw_nil H)) ?_; refine X0 mX ?_
    refine XK.gn rfl rfl rfl rfl rfl rfl rfl rfl rfl ?_; refine XK.gn rfl rfl rfl rfl rfl rfl rfl rfl rfl ?_; refine XK.gn rfl rfl rfl rfl rfl rfl rfl rfl rfl ?_; refine XK.gn rfl rfl rfl rfl rfl rfl rfl rfl rfl ?_
    refine XK.gn rfl rfl rfl rfl rfl rfl rfl rfl rfl ?_; refine XK.gn rfl rfl rfl rfl rfl rfl rfl rfl rfl ?_; refine XK.gn rfl rfl rfl rfl rfl rfl rfl rfl rfl ?_; refine XK.gn rfl rfl rfl rfl rfl rfl rfl rfl rfl ?_; refine X0 oK ?_
    refine X0 aV ?_; refine XK.nil' ?_; refine aw_back1 rfl ?_
    exact H
theorem differ_ok (a b : List Ab.Id) (hal : a.length ≤ 1000000) (hbl : b.length ≤ 1000000) : Tells P 15 [.val (bsl idT) a, .val (bsl idT) b] (.tup3 (.val (sl u8T) (differOf a b).1) (.val (sl u8T) (differOf a b).2.1) (.val boolT (differOf a b).2.2)) := by
 refine fn_of_aw Tryz.func15 rfl rfl rfl (fun ext w hext => ?_)
 refine aw_fact (d := 0) rfl fact_sl (fun hsl0 => ?_)
 refine aw_fact (d := 1) rfl fact_sl (fun hsl1 => ?_)
 refine CQR ?_; refine A0 aL ?_; refine A0 aL ?_; refine A0 aV ?_; refine CNQQR ?_; refine A0 mV ?_; refine A0 mV ?_; refine A0 (oCl (equalId a b) rfl fn_39 ⟨(arg_v rfl), (arg_v rfl), trivial⟩) ?_; refine A0 mV ?_
 refine Sp (d := 13) (p := a = b) (fun g13 => ?_) (fun g13 => ?_)
 ·
  refine A2 ?_; refine A2 ?_; refine A2 ?_; refine A2 ?_; refine A2 ?_; refine A0 oK ?_; refine CN ?_; refine Ct ?_; refine CQR ?_; refine A0 aL ?_; refine A0 aL ?_; refine A0 aV ?_; refine CN ?_
  exact aw_ret3 rfl rfl (by unfold differOf; rw [if_pos (.inl g13)]; exact ret_nil rfl) (by unfold differOf; rw [if_pos (.inl g13)]; exact ret_nil rfl) (ret_eq rfl (by unfold differOf; rw [if_pos (.inl g13)]))
 ·
  refine A1 mV ?_; refine A1 (oCl (linkRoot_ok a (by omega)) rfl fn_17 ⟨(arg_v rfl), trivial⟩) ?_; refine A1 mV ?_; refine A1 (oCl (linkRoot_ok b (by omega)) rfl fn_17 ⟨(arg_v rfl), trivial⟩) ?_; refine A1 (g_neqS rfl rfl rfl (eqt_32)) ?_
  refine A0 oK ?_; refine CN ?_
  refine aw_ifc (p := ¬ linkRoot a = linkRoot b) rfl (by simp) (fun ht19 => ?_) (fun ht19 => ?_)
  ·
   refine CQR ?_; refine A0 aL ?_; refine A0 aL ?_; refine A0 aV ?_; refine CN ?_
   exact aw_ret3 rfl rfl (by unfold differOf; rw [if_pos (.inr ht19)]; exact ret_nil rfl) (by unfold differOf; rw [if_pos (.inr ht19)]; exact ret_nil rfl) (ret_eq rfl (by unfold differOf; rw [if_pos (.inr ht19)]))
  ·
   have hdf : differOf a b = if (diffF a.length a b).2.2 = true then diffF a.length a b else ([], [], false) := by unfold differOf; rw [if_neg (fun h => h.elim g13 ht19)]
   have hdn := @down_ok a.length a b (Nat.le_refl _) hal hbl
   obtain ⟨A, B, r, hr⟩ : ∃ A B r, diffF a.length a b = (A, B, r) := ⟨_, _, _, rfl⟩
   rw [hr] at hdn hdf
   refine CSQR ?_; refine aw_alloc ze_46 rfl rfl rfl rfl ?_; refine aw_alloc ze_46 rfl rfl rfl rfl ?_; refine CNQR ?_; refine aw_alloc_p zp_49 rfl rfl rfl rfl rfl rfl ?_; refine CNQR ?_; refine A0 (g_mkf (caps := [_, _, _]) rfl rfl) ?_
   refine aw_store_p rfl rfl rfl rfl rfl rfl rfl rfl rfl rfl ty_49 ?_; refine CN ?_; refine aw_heq (hp' := HD [] []) (hd_init _ _ _) ?_; refine CQQR ?_
   refine A0 (by first | exact g_load_p rfl rfl rfl rfl rfl ty_49 | exact g_load_pv rfl rfl rfl rfl ty_49) ?_; refine A0 mV ?_; refine A0 mV ?_; refine hdn rfl rfl rfl rfl rfl rfl rfl rfl ?_; refine A0 oN ?_; refine CN ?_
   refine aw_ifc (p := r = false) rfl (by cases r <;> rfl) (fun ht25 => ?_) (fun ht25 => ?_)
   ·
    refine CQR ?_; refine A0 aL ?_; refine A0 aL ?_; refine A0 aV ?_; refine CN ?_
    exact aw_ret3 rfl rfl (by rw [hdf, if_neg (by rw [ht25]; simp)]; exact ret_nil rfl) (by rw [hdf, if_neg (by rw [ht25]; simp)]; exact ret_nil rfl) (ret_eq rfl (by rw [hdf, if_neg (by rw [ht25]; simp)]))
   ·
    refine CS ?_; refine CQ ?_; refine CD mixed ?_; refine G0 (oLs rfl rfl rfl ty_46) ?_; refine G0 (oLs rfl rfl rfl ty_46) ?_; refine G0 aV ?_; refine G0 aV ?_; refine G0 aV ?_; refine GK.nil ?_
    exact aw_ret3 rfl rfl (ret_eq rfl (by rw [hdf, if_pos (by simpa using ht25)])) (ret_eq rfl (by rw [hdf, if_pos (by simpa using ht25)])) (ret_eq rfl (by rw [hdf, if_pos (by simpa using ht25)]; simpa using ht25))
end Go.Proofs.YtjldddonpfopaaaGreat
set_option maxRecDepth 20000
namespace Go.Proofs.YtjldddonpfopaaaGreat
set_option linter.unusedVariables false
set_option linter.unusedSimpArgs false
open Go.Ab Go.RowKit
theorem awake18_ok : Tells P 9 [] (.val boolT true) := by
 refine fn_of_aw Tryz.func9 rfl rfl rfl (fun ext w hext => ?_)
 have hw0 : (levelsP easyP)[0]? = some 31 := by show some (headLevel easyH) = _; rw [easy_level]
 have hw1 : (idsP easyP)[1]? = some (headId easyB.h) := rfl
 have hw2 : ([easyB0, easyB] : List Block)[1]? = some easyB := rfl
 refine CQR ?_; refine A0 aV ?_; refine CNQR ?_; refine A0 (oCl (two_ok) rfl fn_29 trivial) ?_; refine A0 aV ?_; refine CNQR ?_; refine A0 mV ?_
 refine A0 (oCl (prBuild_ok [easyB0, easyB] 1 1 small_easyC) rfl fn_30 ⟨(arg_v rfl), (arg_v rfl), (arg_v rfl), trivial⟩) ?_; refine A0 mX ?_; refine A0 (by first | exact g_x20 rfl rfl | exact g_x30 rfl rfl) ?_
 refine aw_reval (d := 10) (y := easyP) rfl easy_pr ?_; refine A0 (by first | exact g_x21 rfl rfl | exact g_x31 rfl rfl) ?_; refine aw_reval (d := 11) (y := (0 : Int)) rfl easy_prE ?_; refine aw_alloc ze_24 rfl rfl rfl rfl ?_
 refine aw_store_b rfl rfl rfl rfl rfl (Lens.self _) ty_24 rfl ?_; refine A0 aV ?_; refine CNQQR ?_; refine A0 mV ?_; refine A0 o_neq ?_; refine A0 mV ?_; refine aw_isf (d := 14) rfl (rfl) ?_; refine A1 (oFp fd_24_2) ?_
 refine A1 (oLb L_Proof_p ty_22) ?_; refine A1 (g_len rfl rfl isl_22) ?_; refine A1 o_neq ?_; refine A0 oK ?_; refine A0 mV ?_; refine aw_isf (d := 20) rfl (rfl) ?_; refine A1 (oLs rfl rfl rfl ty_24) ?_
 refine A1 (oCl (checkP_ok easyP) rfl fn_11 ⟨(arg_v rfl), trivial⟩) ?_; refine A1 o_neq ?_; refine A0 oK ?_; refine A0 mV ?_; refine aw_isf (d := 25) rfl (by rw [easy_check]; rfl) ?_; refine A1 (g_build rfl ze_24 bd_24 .nil rfl) ?_
 refine A1 (oCl (checkP_ok zProof) rfl fn_11 ⟨(arg_v rfl), trivial⟩) ?_; refine A1 o_neq ?_; refine A0 oK ?_; refine CN ?_; refine aw_if_f rfl (by rw [zero_check]; rfl) ?_; refine CSQR ?_; refine A0 (oLs rfl rfl rfl ty_24) ?_
 refine A0 (oCl (tells_pub (levelsP_ok easyP (by decide))) rfl fn_12 ⟨(arg_v rfl), trivial⟩) ?_; refine A0 aV ?_; refine CNQR ?_; refine A0 (oLs rfl rfl rfl ty_24) ?_
 refine A0 (oCl (tells_pub (ids_ok easyP (by decide))) rfl fn_20 ⟨(arg_v rfl), trivial⟩) ?_; refine A0 aV ?_; refine CNQ ?_; refine CD mixed ?_; refine G0 mV ?_; refine G0 (g_len rfl rfl isl_29) ?_; refine G0 o_eql ?_; refine G0 mV ?_
 refine GK_ist (d := 37) rfl (rfl) ?_; refine G1 mV ?_; refine G1 (g_ia_i (i := 0) rfl rfl rfl (by omega) sl_29 (by assumption)) ?_; refine G1 (g_load_r rfl rfl ty_3) ?_; refine G1 o_eql ?_; refine G0 oK ?_; refine G0 mV ?_
 refine GK_ist (d := 43) rfl (rfl) ?_; refine G1 mV ?_; refine G1 (g_len rfl rfl isl_39) ?_; refine G1 o_eql ?_; refine G0 oK ?_; refine G0 mV ?_; refine GK_ist (d := 48) rfl (rfl) ?_; refine G1 mV ?_
 refine G1 (g_ia_i (i := 1) rfl rfl rfl (by omega) sl_39 (by assumption)) ?_; refine G1 (g_load_r rfl rfl ty_32) ?_; refine G1 mV ?_; refine G1 (g_ia_i (i := 1) rfl rfl rfl (by omega) sl_52 (by assumption)) ?_
 refine G1 (oFr fd_60_0 L_Block_h) ?_; refine G1 (g_load_r rfl rfl ty_38) ?_
 refine G1 (oCl (headId_ok easyB.h) rfl fn_14 ⟨(by first | exact arg_same rfl | exact arg_bsl rfl | exact arg_own rfl rfl | exact arg_nil rfl | exact arg_rptr rfl | exact arg_fn rfl rfl | exact arg_lit rfl), trivial⟩) ?_
 refine G1 (g_eqlS rfl rfl rfl (eqt_32)) ?_; refine G0 oK ?_; refine G0 mV ?_; refine GK_ist (d := 59) rfl (by simp) ?_; refine G1 mV ?_; refine G1 (g_ia_i (i := 1) rfl rfl rfl (by omega) sl_39 (by assumption)) ?_
 refine G1 (g_load_r rfl rfl ty_32) ?_; refine G1 (g_buildZ rfl ar_32 ze_32 rfl) ?_; refine G1 (g_neqS rfl rfl rfl (eqt_32)) ?_; refine G0 oK ?_; refine G0 aV ?_; refine GK.nil ?_
 exact aw_ret1 rfl rfl (ret_eq rfl (by rw [easy_nz]; rfl))
end Go.Proofs.YtjldddonpfopaaaGreat
set_option maxRecDepth 20000
namespace Go.Proofs.YtjldddonpfopaaaGreat
set_option linter.unusedVariables false
set_option linter.unusedSimpArgs false
open Go.Ab Go.RowKit
def Ids32 (l : List Ab.Id) : Prop := ∀ x ∈ l, x.length = 32
theorem Ids32.take {l : List Ab.Id} (h : Ids32 l) (n : Nat) : Ids32 (l.take n) := fun x hx => h x (List.mem_of_mem_take hx)
theorem Ids32.drop {l : List Ab.Id} (h : Ids32 l) (n : Nat) : Ids32 (l.drop n) := fun x hx => h x (List.mem_of_mem_drop hx)
theorem textL_len {l : List Ab.Id} (h : Ids32 l) : (textL l).length ≤ 65 := by
  unfold textL
  split
  · simp
  · split
    · match l with
      | [] => simp [zId]
      | x :: _ => have := h x (List.mem_cons_self ..); simp [this]
    · unfold nodeText
      simp [linkRoot_len]
theorem node_inj {a b c d : Ab.Id} (ha : a.length = 32) (hc : c.length = 32) (h : nodeText a b = nodeText c d) : a = c ∧ b = d := by
  unfold nodeText at h
  have h : a ++ b = c ++ d := by simpa using h
  exact List.append_inj h (by rw [ha, hc])
theorem text_few {a b : List Ab.Id} (h : textL a = textL b) (hs : a.length < 2) : a = b := by
  unfold textL at h
  match a, hs with
  | [], _ =>
    by_cases h0 : b.length = 0
    · exact (List.length_eq_zero_iff.1 h0).symm
    · rw [if_pos (show ([] : List Ab.Id).length = 0 from rfl), if_neg h0] at h
      by_cases h1 : b.length ≤ 1
      · rw [if_pos h1] at h; simp at h
      · rw [if_neg h1] at h; unfold nodeText at h; simp at h
  | [x], _ =>
    rw [if_neg (show ¬ [x].length = 0 by simp), if_pos (show [x].length ≤ 1 by simp)] at h
    by_cases h0 : b.length = 0
    · rw [if_pos h0] at h; simp at h
    · rw [if_neg h0] at h
      by_cases h1 : b.length ≤ 1
      · rw [if_pos h1] at h
        match b, h0, h1 with
        | [y], _, _ => simp at h; rw [h]
        | [], h0, _ => exact absurd rfl h0
        | _ :: _ :: _, _, h1 => simp at h1
      · rw [if_neg h1] at h; unfold nodeText at h; simp at h
theorem diff_spec : ∀ (n : Nat) (a b : List Ab.Id), a.length ≤ n → linkRoot a = linkRoot b →
    ((diffF n a b).2.2 = true ↔ ¬ a = b) ∧ ((diffF n a b).2.2 = true → ¬ (diffF n a b).1 = (diffF n a b).2.1 ∧ shaSum (diffF n a b).1 = shaSum (diffF n a b).2.1) := by
  intro n
  induction n with
  | zero =>
    intro a b hn hr
    by_cases h : textL a = textL b
    · have e := text_few h (by omega)
      rw [diff_few h (.inl (by omega))]
      exact ⟨⟨fun c => (by cases c), fun c => absurd e c⟩, fun c => (by cases c)⟩
    · rw [diff_ne h]
      exact ⟨⟨fun _ c => h (by rw [c]), fun _ => rfl⟩, fun _ => ⟨h, by rw [← root_text, ← root_text]; exact hr⟩⟩
  | succ n ih =>
    intro a b hn hr
    by_cases h : textL a = textL b
    · by_cases h2 : a.length < 2 ∨ b.length < 2
      · have e : a = b := h2.elim (text_few h) (fun c => (text_few h.symm c).symm)
        rw [diff_few h h2]
        exact ⟨⟨fun c => (by cases c), fun c => absurd e c⟩, fun c => (by cases c)⟩
      · have hp := half_pos a.length
        have hh := half_lt (n := a.length) (by omega)
        have ht := h
        unfold textL at ht
        rw [if_neg (by omega), if_neg (by omega), if_neg (by omega), if_neg (by omega)] at ht
        obtain ⟨r1, r2⟩ := node_inj (linkRoot_len _) (linkRoot_len _) ht
        have hl := ih (a.take (halfN a.length)) (b.take (halfN b.length)) (by simp; omega) r1
        have hd := ih (a.drop (halfN a.length)) (b.drop (halfN b.length)) (by simp; omega) r2
        have hdn : diffF (n + 1) a b = if (diffF n (a.take (halfN a.length)) (b.take (halfN b.length))).2.2 = true then diffF n (a.take (halfN a.length)) (b.take (halfN b.length)) else diffF n (a.drop (halfN a.length)) (b.drop (halfN b.length)) := by rw [diffF, if_neg (fun c => c h), if_neg h2]
        rw [hdn]
        by_cases c : (diffF n (a.take (halfN a.length)) (b.take (halfN b.length))).2.2 = true
        · rw [if_pos c]
          exact ⟨⟨fun _ e => hl.1.1 c (by rw [e]), fun _ => c⟩, hl.2⟩
        · rw [if_neg c]
          have et : a.take (halfN a.length) = b.take (halfN b.length) := Classical.byContradiction fun e => c (hl.1.2 e)
          refine ⟨hd.1.trans ⟨fun e q => e (by rw [q]), fun e q => e ?_⟩, hd.2⟩
          rw [← List.take_append_drop (halfN a.length) a, et, q, List.take_append_drop]
    · rw [diff_ne h]
      exact ⟨⟨fun _ c => h (by rw [c]), fun _ => rfl⟩, fun _ => ⟨h, by rw [← root_text, ← root_text]; exact hr⟩⟩
theorem diff_mem : ∀ (n : Nat) (a b : List Ab.Id), Ids32 a → Ids32 b → (diffF n a b).1.length ≤ 65 ∧ (diffF n a b).2.1.length ≤ 65
  | 0, a, b, ha, hb => ⟨textL_len ha, textL_len hb⟩
  | n + 1, a, b, ha, hb => by
    unfold diffF
    split
    · exact ⟨textL_len ha, textL_len hb⟩
    · split
      · exact ⟨textL_len ha, textL_len hb⟩
      · split
        · exact diff_mem n _ _ (ha.take _) (hb.take _)
        · exact diff_mem n _ _ (ha.drop _) (hb.drop _)
theorem differ_len {a b : List Ab.Id} (ha : Ids32 a) (hb : Ids32 b) : (differOf a b).1.length ≤ 65 ∧ (differOf a b).2.1.length ≤ 65 := by
  unfold differOf
  split
  · simp
  · split
    · exact diff_mem _ _ _ ha hb
    · simp
theorem differ_is (a b : List Ab.Id) : (differOf a b).2.2 = true ↔ ¬ a = b ∧ linkRoot a = linkRoot b := by
  unfold differOf
  by_cases h : a = b ∨ ¬ linkRoot a = linkRoot b
  · rw [if_pos h]
    exact ⟨fun c => (by cases c), fun c => absurd h (fun q => q.elim c.1 (fun e => e c.2))⟩
  · rw [if_neg h]
    have hr : linkRoot a = linkRoot b := Classical.byContradiction fun c => h (.inr c)
    have hs := (diff_spec a.length a b (Nat.le_refl _) hr).1
    have hne : ¬ a = b := fun c => h (.inl c)
    rw [if_pos (hs.2 hne)]
    exact ⟨fun _ => ⟨hne, hr⟩, fun _ => hs.2 hne⟩
theorem differ_yes {a b : List Ab.Id} (h : (differOf a b).2.2 = true) : ¬ (differOf a b).1 = (differOf a b).2.1 ∧ shaSum (differOf a b).1 = shaSum (differOf a b).2.1 := by
  obtain ⟨h1, h2⟩ := (differ_is a b).1 h
  have hs := diff_spec a.length a b (Nat.le_refl _) h2
  have e : differOf a b = diffF a.length a b := by unfold differOf; rw [if_neg (fun q => q.elim h1 (fun c => c h2)), if_pos (hs.1.2 h1)]
  rw [e] at h ⊢
  exact hs.2 h
end Go.Proofs.YtjldddonpfopaaaGreat
set_option maxRecDepth 20000
namespace Go.Proofs.YtjldddonpfopaaaGreat
set_option linter.unusedVariables false
set_option linter.unusedSimpArgs false
open Go.Ab Go.RowKit
def sealedL (h : Head) : List UInt8 := 5 :: headBytes h
def zBlockD : Block := ⟨zHead, [], []⟩
def bAt (l : List Block) (id : Ab.Id) : Block := (l[(findOf l id).toNat]?).getD zBlockD
def extF (p : Proof) (l : List Block) : Nat → List UInt8 × List UInt8 × Bool
  | 0 => ([], [], false)
  | i + 1 =>
    if findOf l (headId (yAt p i).h) < 0 then ([], [], false)
    else if ¬ (bAt l (headId (yAt p i).h)).h = (yAt p i).h then (sealedL (yAt p i).h, sealedL (bAt l (headId (yAt p i).h)).h, true)
    else if ¬ (bAt l (headId (yAt p i).h)).l = (yAt p i).l then differOf (yAt p i).l (bAt l (headId (yAt p i).h)).l
    else extF p l i
def extOf (p : Proof) (l : List Block) : List UInt8 × List UInt8 × Bool :=
  if ¬ (checkOf l).2 = 0 ∨ ¬ checkP p = 0 then ([], [], false)
  else if ¬ headId (yAt p (p.p.length - 1)).h = headId (checkOf l).1.b.h then ([], [], false)
  else extF p l p.p.length
section
variable {p : Proof} {l : List Block} {i : Nat} {b : Block}
theorem bAt_of (h : l[(findOf l (headId (yAt p i).h)).toNat]? = some b) : bAt l (headId (yAt p i).h) = b := by unfold bAt; rw [h]; rfl
theorem ext_none (h : findOf l (headId (yAt p i).h) < 0) : extF p l (i + 1) = ([], [], false) := if_pos h
theorem ext_heads (h : ¬ findOf l (headId (yAt p i).h) < 0) (hb : l[(findOf l (headId (yAt p i).h)).toNat]? = some b) (hh : ¬ b.h = (yAt p i).h) : extF p l (i + 1) = (sealedL (yAt p i).h, sealedL b.h, true) := by
  show (if _ then _ else _) = _
  rw [if_neg h, bAt_of hb, if_pos hh]
theorem ext_links (h : ¬ findOf l (headId (yAt p i).h) < 0) (hb : l[(findOf l (headId (yAt p i).h)).toNat]? = some b) (hh : b.h = (yAt p i).h) (hl : ¬ b.l = (yAt p i).l) : extF p l (i + 1) = differOf (yAt p i).l b.l := by
  show (if _ then _ else _) = _
  rw [if_neg h, bAt_of hb, if_neg (fun c => c hh), if_pos hl]
theorem ext_go (h : ¬ findOf l (headId (yAt p i).h) < 0) (hb : l[(findOf l (headId (yAt p i).h)).toNat]? = some b) (hh : b.h = (yAt p i).h) (hl : b.l = (yAt p i).l) : extF p l (i + 1) = extF p l i := by
  show (if _ then _ else _) = _
  rw [if_neg h, bAt_of hb, if_neg (fun c => c hh), if_neg (fun c => c hl)]
end
section
variable {p : Proof} {l : List Block} {k : Nat} {x : Part} {b : Block}
theorem yat_of (h : p.p[k]? = some x) : yAt p k = x := by unfold yAt; simp [h]
theorem extk_none (h0 : 0 < k) (hx : p.p[k - 1]? = some x) (h : findOf l (headId x.h) < 0) : extF p l k = ([], [], false) := by
  obtain ⟨j, rfl⟩ : ∃ j, k = j + 1 := ⟨k - 1, by omega⟩
  have e : yAt p j = x := yat_of hx
  subst e
  exact ext_none h
theorem extk_heads (h0 : 0 < k) (hx : p.p[k - 1]? = some x) (h : ¬ findOf l (headId x.h) < 0) (hb : l[(findOf l (headId x.h)).toNat]? = some b) (hh : ¬ b.h = x.h) : extF p l k = (sealedL x.h, sealedL b.h, true) := by
  obtain ⟨j, rfl⟩ : ∃ j, k = j + 1 := ⟨k - 1, by omega⟩
  have e : yAt p j = x := yat_of hx
  subst e
  exact ext_heads h hb hh
theorem extk_links (h0 : 0 < k) (hx : p.p[k - 1]? = some x) (h : ¬ findOf l (headId x.h) < 0) (hb : l[(findOf l (headId x.h)).toNat]? = some b) (hh : ¬ ¬ b.h = x.h) (hl : ¬ b.l = x.l) : extF p l k = differOf x.l b.l := by
  obtain ⟨j, rfl⟩ : ∃ j, k = j + 1 := ⟨k - 1, by omega⟩
  have e : yAt p j = x := yat_of hx
  subst e
  exact ext_links h hb (Classical.not_not.1 hh) hl
theorem extk_go (h0 : 0 < k) (hx : p.p[k - 1]? = some x) (h : ¬ findOf l (headId x.h) < 0) (hb : l[(findOf l (headId x.h)).toNat]? = some b) (hh : ¬ ¬ b.h = x.h) (hl : ¬ ¬ b.l = x.l) : extF p l k = extF p l (k - 1) := by
  obtain ⟨j, rfl⟩ : ∃ j, k = j + 1 := ⟨k - 1, by omega⟩
  have e : yAt p j = x := yat_of hx
  subst e
  exact ext_go h hb (Classical.not_not.1 hh) (Classical.not_not.1 hl)
end
theorem find_block {l : List Block} {id : Ab.Id} (h : ¬ findOf l id < 0) : ∃ b, l[(findOf l id).toNat]? = some b := by
  obtain ⟨b, hb, _⟩ := (find_range (l := l) (id := id)).2.2 (by omega)
  exact ⟨b, hb⟩
theorem chain_short {l : List Block} {t : Tip} {k : Nat} {b : Block} (h : Chain l t) (hb : l[k]? = some b) : b.l.length ≤ 32 := by
  obtain ⟨hk, _⟩ := List.getElem?_eq_some_iff.1 hb
  by_cases k0 : k = 0
  · subst k0
    obtain ⟨t', h1, _⟩ := chain_take h (i := 1) (Nat.le_refl _) (by omega)
    have e : l.take 1 = [b] := by rw [show (1 : Nat) = 0 + 1 from rfl, List.take_add_one, hb]; rfl
    rw [e] at h1
    obtain ⟨_, hb, _⟩ := chain_one h1
    rw [hb]
    exact Nat.zero_le _
  · obtain ⟨t', h1, h2, _⟩ := chain_at h (by omega) hb
    have e : b.l = linksT t' := (push_iff.1 h2).2.2.1
    rw [e]; exact (chain_links h1).2.1
theorem holds_short {p : Proof} {k : Nat} {x : Part} (h : checkP p = 0) (hx : p.p[k]? = some x) : x.l.length ≤ 32 := by
  have hp := checkP_holds.1 h
  obtain ⟨hk, _⟩ := List.getElem?_eq_some_iff.1 hx
  rw [← yat_of hx]
  by_cases k0 : k = 0
  · subst k0
    rw [List.length_eq_zero_iff.1 hp.fst.2.1]; exact Nat.zero_le _
  · exact (linkF_zero.1 (hp.steps k (by omega) hk).2.1).2.1
theorem chain_end {l : List Block} (h : (checkOf l).2 = 0) : l[l.length - 1]? = some (checkOf l).1.b := by
  have := (chain_tip (chain_of h)).1
  rwa [List.getLast?_eq_getElem?] at this
theorem chain_pos {l : List Block} (h : (checkOf l).2 = 0) : 0 < l.length := List.length_pos_iff.2 (chain_ne h)
theorem ext_out {p : Proof} {l : List Block} (h : ¬ (checkOf l).2 = 0 ∨ ¬ checkP p = 0) : extOf p l = ([], [], false) := if_pos h
theorem ext_end {p : Proof} {l : List Block} (h1 : (checkOf l).2 = 0) (h2 : checkP p = 0) (h : ¬ headId (yAt p (p.p.length - 1)).h = headId (checkOf l).1.b.h) : extOf p l = ([], [], false) := by
  unfold extOf
  rw [if_neg (fun q => q.elim (fun c => c h1) (fun c => c h2)), if_pos h]
theorem ext_in {p : Proof} {l : List Block} (h1 : (checkOf l).2 = 0) (h2 : checkP p = 0) (h : ¬ ¬ headId (yAt p (p.p.length - 1)).h = headId (checkOf l).1.b.h) : extOf p l = extF p l p.p.length := by
  unfold extOf
  rw [if_neg (fun q => q.elim (fun c => c h1) (fun c => c h2)), if_neg h]
theorem holds_pos {p : Proof} (h : checkP p = 0) : 0 < p.p.length := by
  have h := checkP_holds.1 h
  have := h.k1
  have := h.l1
  omega
theorem sealedH_ok (h : Head) : Tells P 57 [.val headT h] (.fresh 5 u8T (sealedL h)) := by
 refine fn_of_aw Tryz.func57 rfl rfl rfl (fun ext w hext => ?_)
 refine aw_fact (d := 0) rfl fact_head (fun hh => ?_)
 obtain ⟨hh1, hh2, hh3, hh4, hh5⟩ := hh
 have hbl : (headBytes h).length ≤ 176 := by unfold headBytes; split <;> simp [putHead, hh1, hh2, hh3, hh4, bytesW_len, numBytes_len]
 refine CQR ?_; refine aw_box rfl rfl rfl rfl rfl ?_; refine A0 aL ?_; refine CNQR ?_; refine A0 (oLs rfl rfl rfl ty_38) ?_; refine A0 (oCl (tells_pub2 (hput_ok h)) rfl fn_37 ⟨(arg_v rfl), trivial⟩) ?_; refine A0 mX ?_
 refine A0 (by first | exact g_x20 rfl rfl | exact g_x30 rfl rfl) ?_; refine A0 (by first | exact g_x21 rfl rfl | exact g_x31 rfl rfl) ?_; refine A0 aV ?_; refine A0 aV ?_; refine CNQR ?_
 refine aw_bslice (T := u8T) (xs := [_]) rfl rfl rfl rfl sl_46 row_46 ⟨rfl, rfl, trivial⟩ rfl rfl ?_; refine A0 mV ?_; refine aw_append rfl rfl rfl rfl rfl rfl rfl row_46 (by simp; omega) ?_; refine A0 aO ?_; refine CN ?_
 exact aw_ret1 rfl rfl (ret_fresh_eq rfl rfl (rfl))
theorem extract_ok (p : Proof) (l : List Block) (hl : smallC l) : Tells P 25 [.val proofT p, .val (bsl blockT) l] (.tup3 (.val (sl u8T) (extOf p l).1) (.val (sl u8T) (extOf p l).2.1) (.val boolT (extOf p l).2.2)) := by
 obtain ⟨A, hA⟩ : ∃ A, A = idsP p := ⟨_, rfl⟩
 refine fn_of_aw Tryz.func25 rfl rfl rfl (fun ext w hext => ?_)
 refine aw_fact (d := 1) rfl fact_sl (fun hsl1 => ?_)
 refine CQR ?_; refine aw_box rfl rfl rfl rfl rfl ?_; refine aw_box rfl rfl rfl rfl rfl ?_; refine aw_alloc ze_46 rfl rfl rfl rfl ?_; refine aw_alloc ze_46 rfl rfl rfl rfl ?_; refine aw_alloc ze_4 rfl rfl rfl rfl ?_; refine CNQR ?_
 refine A0 (oLs rfl rfl rfl ty_52) ?_; refine A0 (oCl (check_ok l hl) rfl fn_28 ⟨(arg_v rfl), trivial⟩) ?_; refine A0 mX ?_; refine A0 (by first | exact g_x20 rfl rfl | exact g_x30 rfl rfl) ?_
 refine A0 (by first | exact g_x21 rfl rfl | exact g_x31 rfl rfl) ?_; refine aw_alloc ze_64 rfl rfl rfl rfl ?_; refine aw_store_b rfl rfl rfl rfl rfl (Lens.self _) ty_64 rfl ?_; refine A0 aV ?_; refine CNQQR ?_; refine A0 mV ?_
 refine A0 o_neq ?_
 refine aw_splitp (d := 19) (p := ¬ (checkOf l).2 = 0) rfl (by simp [IntL.toI]) (fun g19 => ?_) (fun g19 => ?_)
 ·
  refine A0 mV ?_; refine A2 ?_; refine A2 ?_; refine A2 ?_; refine A0 oK ?_; refine CN ?_; refine Ct ?_; refine CQR ?_; refine aw_store_nil rfl rfl rfl rfl rfl (Lens.self _) ty_46 rfl ?_
  refine aw_store_nil rfl rfl rfl rfl rfl (Lens.self _) ty_46 rfl ?_; refine aw_store_b rfl rfl rfl rfl rfl (Lens.self _) ty_4 rfl ?_; refine CN ?_
  exact aw_retr3 rfl rfl (rv_cell rfl rfl ty_46 (by rw [ext_out (.inl g19)])) (rv_cell rfl rfl ty_46 (by rw [ext_out (.inl g19)])) (rv_cell rfl rfl ty_4 (by rw [ext_out (.inl g19)]))
 ·
  refine A0 mV ?_; refine A1 (oLs rfl rfl rfl ty_24) ?_; refine A1 (oCl (checkP_ok p) rfl fn_11 ⟨(arg_v rfl), trivial⟩) ?_; refine A1 o_neq ?_; refine A0 oK ?_; refine CN ?_
  refine aw_ifc (p := ¬ checkP p = 0) rfl (by simp [IntL.toI]) (fun ht24 => ?_) (fun ht24 => ?_)
  ·
   refine CQR ?_; refine aw_store_nil rfl rfl rfl rfl rfl (Lens.self _) ty_46 rfl ?_; refine aw_store_nil rfl rfl rfl rfl rfl (Lens.self _) ty_46 rfl ?_; refine aw_store_b rfl rfl rfl rfl rfl (Lens.self _) ty_4 rfl ?_; refine CN ?_
   exact aw_retr3 rfl rfl (rv_cell rfl rfl ty_46 (by rw [ext_out (.inr ht24)])) (rv_cell rfl rfl ty_46 (by rw [ext_out (.inr ht24)])) (rv_cell rfl rfl ty_4 (by rw [ext_out (.inr ht24)]))
  ·
   have hc0 : (checkOf l).2 = 0 := Classical.not_not.1 g19
   have hp0 : checkP p = 0 := Classical.not_not.1 ht24
   have hlp := holds_pos hp0
   have hcp := chain_pos hc0
   have hsz := (checkP_holds.1 hp0).l2
   have hle := chain_end hc0
   have hal : A.length = p.p.length := by rw [hA]; unfold idsP; simp
   have hids := tells_pub (ids_ok p (by omega))
   rw [← hA] at hids
   have hiy : A[A.length - 1]? = some (headId (yAt p (p.p.length - 1)).h) := by rw [hal, hA]; exact ids_at p (by omega)
   refine CSQR ?_; refine A0 (oLs rfl rfl rfl ty_24) ?_; refine A0 (oCl (hids) rfl fn_20 ⟨(arg_v rfl), trivial⟩) ?_; refine aw_alloc ze_39 rfl rfl rfl rfl ?_; refine aw_store_b rfl rfl rfl rfl rfl (Lens.self _) ty_39 rfl ?_; refine CNQ ?_
   refine CQ ?_; refine CD mixed ?_; refine G0 (oLs rfl rfl rfl ty_39) ?_; refine G0 (oLs rfl rfl rfl ty_39) ?_; refine G0 (g_len rfl rfl isl_39) ?_; refine G0 o_sub ?_
   refine G0 (g_ia_i (i := A.length - 1) rfl rfl rfl (by omega) sl_39 (by assumption)) ?_; refine G0 (g_load_r rfl rfl ty_32) ?_; refine G0 (oFp fd_64_0) ?_; refine G0 (oFp fd_60_0) ?_; refine G0 (oLb (L_Tip_b.comp L_Block_h) ty_38) ?_
   refine G0 (oCl (headId_ok (checkOf l).1.b.h) rfl fn_14 ⟨(arg_v rfl), trivial⟩) ?_; refine G0 (g_neqS rfl rfl rfl (eqt_32)) ?_; refine GK.nil ?_
   refine aw_ifc (p := ¬ headId (yAt p (p.p.length - 1)).h = headId (checkOf l).1.b.h) rfl (by simp) (fun ht37 => ?_) (fun ht37 => ?_)
   ·
    refine CQR ?_; refine aw_store_nil rfl rfl rfl rfl rfl (Lens.self _) ty_46 rfl ?_; refine aw_store_nil rfl rfl rfl rfl rfl (Lens.self _) ty_46 rfl ?_; refine aw_store_b rfl rfl rfl rfl rfl (Lens.self _) ty_4 rfl ?_; refine CN ?_
    exact aw_retr3 rfl rfl (rv_cell rfl rfl ty_46 (by rw [ext_end hc0 hp0 ht37])) (rv_cell rfl rfl ty_46 (by rw [ext_end hc0 hp0 ht37])) (rv_cell rfl rfl ty_4 (by rw [ext_end hc0 hp0 ht37]))
   ·
    have hex := ext_in hc0 hp0 ht37
    refine CSQQR ?_; refine A0 (oFp fd_24_2) ?_; refine A0 (oLb L_Proof_p ty_22) ?_
    refine aw_inline rfl rfl rfl rfl Tryz.func55 fn_55 rfl rfl (fun ia1 iok1 => ?_)
    refine CQR ?_; refine aw_box rfl rfl rfl rfl rfl ?_; refine A0 aL ?_; refine CNQR ?_; refine A0 (g_mkf (caps := [_]) rfl rfl) ?_; refine A0 aC ?_; refine CN ?_; refine aw_back1 rfl ?_; refine CNB ?_
    refine aw_range rfl rfl rfl Tryz.func98 fn_98 rfl rfl (by intro n hn; simp only [List.mem_cons, List.not_mem_nil, or_false] at hn; rcases hn with rfl <;> rfl) (fun fid2 ca2 lN2 DN2 cok2 rc2 hrc2 => ?_)
    refine CQR ?_; refine A0 (oLs rfl rfl rfl ty_22) ?_; refine A0 (g_len rfl rfl isl_22) ?_; refine A0 o_sub ?_; refine A0 aV ?_; refine CNB ?_
    refine Lp (ι := Nat) 10 (fun (k : Nat) => (((Fr.none).set 0 (.lit (.func (.yield lN2) #[] #[]))).set 1 (.ptr 7 0)).set 3 (.val i64T ((k : Int) - 1))) (fun (k : Nat) => ((((((((Hp.none).set 1 (.box 52 (bsl blockT) l)).set 2 (.box 46 (sl u8T) [])).set 3 (.box 46 (sl u8T) [])).set 4 (.box 4 boolT false)).set 6 (.box 39 (sl idT) A)).set 7 (.box 22 (sl partT) p.p)).set 8 (.objAt DN2 (.deferred (some [])))).set 9 (.objAt lN2 (rc2 .ready none))) (fun (k : Nat) => k ≤ p.p.length ∧ extOf p l = extF p l k) (fun (k : Nat) => k) (p.p.length) (⟨Nat.le_refl _, hex⟩) ?_
    intro k hinv
    refine CQQR ?_; refine A0 mV ?_; refine A0 o_geq ?_; refine CN ?_
    refine Cf (p := 0 < k) (fun ht8 => ?_) (fun ht8 => ?_)
    ·
     obtain ⟨x, hx⟩ : ∃ x, p.p[k - 1]? = some x := ⟨_, List.getElem?_eq_getElem (by omega)⟩
     have hxi : A[k - 1]? = some (headId x.h) := by rw [hA, ← yat_of hx]; exact ids_at p (by omega)
     have hxl := holds_short hp0 hx
     refine CSQBQR ?_; refine A0 mL ?_; refine A0 mV ?_; refine A0 (oLs rfl rfl rfl ty_22) ?_; refine A0 mV ?_; refine A0 (g_ia_i (i := k - 1) rfl rfl rfl (by omega) sl_22 (by assumption)) ?_; refine A0 (g_load_r rfl rfl ty_41) ?_
     refine aw_yield (nL := 9) rfl rfl rfl rfl rfl hrc2 rfl rfl rfl (fun ya3 yok3 => ?_)
     refine CQR ?_; refine A0 aV ?_; refine CNR ?_; refine aw_alloc ze_41 rfl rfl rfl rfl ?_; refine aw_store_b rfl rfl rfl rfl rfl (Lens.self _) ty_41 rfl ?_; refine CN ?_; refine aw_begin (nL := 9) hrc2 rfl ?_; refine CB ?_; refine CQ ?_
     refine CD mixed ?_; refine G0 (oLs rfl rfl rfl ty_52) ?_; refine G0 (oLs rfl rfl rfl ty_39) ?_; refine G0 mV ?_; refine G0 (g_ia_i (i := k - 1) rfl rfl rfl (by omega) sl_39 (by assumption)) ?_; refine G0 (g_load_r rfl rfl ty_32) ?_
     refine G0 (oCl (findC_ok l (headId x.h)) rfl fn_56 ⟨(arg_v rfl), (by first | exact arg_same rfl | exact arg_bsl rfl | exact arg_own rfl rfl | exact arg_nil rfl | exact arg_rptr rfl | exact arg_fn rfl rfl | exact arg_lit rfl), trivial⟩) ?_
     refine G0 aV ?_; refine GK.nil ?_; refine CB ?_; refine CQR ?_; refine A0 mV ?_; refine A0 o_lss ?_; refine A0 aV ?_; refine CN ?_
     refine Cf (p := findOf l (headId x.h) < 0) (fun ht49 => ?_) (fun ht49 => ?_)
     ·
      refine CQR ?_; refine aw_store_nil rfl rfl rfl rfl rfl (Lens.self _) ty_46 rfl ?_; refine aw_store_nil rfl rfl rfl rfl rfl (Lens.self _) ty_46 rfl ?_; refine aw_store_b rfl rfl rfl rfl rfl (Lens.self _) ty_4 rfl ?_; refine CN ?_
      refine aw_round_ret (nL := 9) hrc2 rfl ?_; refine A0 oN ?_; refine CN ?_; refine Ct ?_; refine aw_iter_ret (nL := 9) rfl hrc2 rfl (by decide) ?_
      refine aw_of_ar (ar_unmark (nD := 8) rfl rfl rfl ?_)
      exact ar_retr3 rfl rfl (rv_cell rfl rfl ty_46 (by rw [hinv.2, extk_none ht8 hx ht49])) (rv_cell rfl rfl ty_46 (by rw [hinv.2, extk_none ht8 hx ht49])) (rv_cell rfl rfl ty_4 (by rw [hinv.2, extk_none ht8 hx ht49]))
     ·
      obtain ⟨b, hb⟩ := find_block ht49
      have hbl := chain_short (chain_of hc0) hb
      refine CQ ?_; refine CD mixed ?_; refine G0 (oLs rfl rfl rfl ty_52) ?_; refine G0 mV ?_; refine G0 (g_ia_i (i := (findOf l (headId x.h)).toNat) rfl rfl rfl (by omega) sl_52 (by assumption)) ?_; refine G0 (oFr fd_60_0 L_Block_h) ?_
      refine G0 (g_load_r rfl rfl ty_38) ?_; refine G0 (oFp fd_41_0) ?_; refine G0 (oLb L_Part_h ty_38) ?_; refine G0 (g_neqS rfl rfl rfl (eqt_38)) ?_; refine G0 aV ?_; refine GK.nil ?_
      refine aw_ifc (p := ¬ b.h = x.h) rfl (by simp) (fun ht52 => ?_) (fun ht52 => ?_)
      ·
       refine CQ ?_; refine aw_drawx [some 1, some 1, some 1, some 1, some 1, some 1, some 1, some 1, some 1, none, none, none] mixed (by decide +kernel) ?_; refine X0 (oFp fd_41_0) ?_; refine X0 (oLb L_Part_h ty_38) ?_
       refine X0 (oCl (tells_pub (sealedH_ok x.h)) rfl fn_57 ⟨(arg_v rfl), trivial⟩) ?_; refine X0 (oLs rfl rfl rfl ty_52) ?_; refine X0 mV ?_; refine X0 (g_ia_i (i := (findOf l (headId x.h)).toNat) rfl rfl rfl (by omega) sl_52 (by assumption)) ?_
       refine X0 (oFr fd_60_0 L_Block_h) ?_; refine X0 (g_load_r rfl rfl ty_38) ?_
       refine X0 (oCl (tells_pub (sealedH_ok b.h)) rfl fn_57 ⟨(by first | exact arg_same rfl | exact arg_bsl rfl | exact arg_own rfl rfl | exact arg_nil rfl | exact arg_rptr rfl | exact arg_fn rfl rfl | exact arg_lit rfl), trivial⟩) ?_
       refine XK.e (x := .idk) (fun fr' hfr kk H => by exact aw_store_b rfl rfl rfl ((hfr 4 (by decide +kernel)).trans rfl) rfl (Lens.self _) ty_46 ((hfr 63 (by decide +kernel)).trans rfl) (aw_nil H)) ?_
       refine XK.e (x := .idk) (fun fr' hfr kk H => by exact aw_store_b rfl rfl rfl ((hfr 5 (by decide +kernel)).trans rfl) rfl (Lens.self _) ty_46 ((hfr 69 (by decide +kernel)).trans rfl) (aw_nil H)) ?_
       refine XK.e (x := .idk) (fun fr' hfr kk H => by exact aw_store_b rfl rfl rfl ((hfr 6 (by decide +kernel)).trans rfl) rfl (Lens.self _) ty_4 rfl (aw_nil H)) ?_; refine XK.nil' ?_; refine aw_round_ret (nL := 9) hrc2 rfl ?_; refine A0 oN ?_
       refine CN ?_; refine Ct ?_; refine aw_iter_ret (nL := 9) rfl hrc2 rfl (by decide) ?_
       refine aw_of_ar (ar_unmark (nD := 8) rfl rfl rfl ?_)
       exact ar_retr3 rfl rfl (rv_cell rfl rfl ty_46 (by rw [hinv.2, extk_heads ht8 hx ht49 hb ht52])) (rv_cell rfl rfl ty_46 (by rw [hinv.2, extk_heads ht8 hx ht49 hb ht52])) (rv_cell rfl rfl ty_4 (by rw [hinv.2, extk_heads ht8 hx ht49 hb ht52]))
      ·
       refine CQ ?_; refine CD mixed ?_; refine G0 (oLs rfl rfl rfl ty_52) ?_; refine G0 mV ?_; refine G0 (g_ia_i (i := (findOf l (headId x.h)).toNat) rfl rfl rfl (by omega) sl_52 (by assumption)) ?_; refine G0 (oFr fd_60_1 L_Block_l) ?_
       refine G0 (g_load_r rfl rfl ty_39) ?_; refine G0 (oFp fd_41_1) ?_; refine G0 (oLb L_Part_l ty_39) ?_
       refine G0 (oCl (equalId b.l x.l) rfl fn_39 ⟨(by first | exact arg_same rfl | exact arg_bsl rfl | exact arg_own rfl rfl | exact arg_nil rfl | exact arg_rptr rfl | exact arg_fn rfl rfl | exact arg_lit rfl), (arg_v rfl), trivial⟩) ?_
       refine G0 oN ?_; refine G0 aV ?_; refine GK.nil ?_
       refine aw_ifc (p := ¬ b.l = x.l) rfl (by simp) (fun ht70 => ?_) (fun ht70 => ?_)
       ·
        refine CQ ?_; refine aw_drawx [some 1, some 1, some 1, some 1, some 1, some 1, some 1, some 1, some 1, some 1, some 1, none, none, none] mixed (by decide +kernel) ?_; refine X0 (oFp fd_41_1) ?_; refine X0 (oLb L_Part_l ty_39) ?_
        refine X0 (oLs rfl rfl rfl ty_52) ?_; refine X0 mV ?_; refine X0 (g_ia_i (i := (findOf l (headId x.h)).toNat) rfl rfl rfl (by omega) sl_52 (by assumption)) ?_; refine X0 (oFr fd_60_1 L_Block_l) ?_; refine X0 (g_load_r rfl rfl ty_39) ?_
        refine X0 (oCl (differ_ok x.l b.l (by omega) (by omega)) rfl fn_15 ⟨(arg_v rfl), (by first | exact arg_same rfl | exact arg_bsl rfl | exact arg_own rfl rfl | exact arg_nil rfl | exact arg_rptr rfl | exact arg_fn rfl rfl | exact arg_lit rfl), trivial⟩) ?_
        refine X0 (by first | exact g_x20 rfl rfl | exact g_x30 rfl rfl) ?_; refine X0 (by first | exact g_x21 rfl rfl | exact g_x31 rfl rfl) ?_; refine X0 e32 ?_
        refine XK.e (x := .idk) (fun fr' hfr kk H => by exact aw_store_b rfl rfl rfl ((hfr 4 (by decide +kernel)).trans rfl) rfl (Lens.self _) ty_46 ((hfr 88 (by decide +kernel)).trans rfl) (aw_nil H)) ?_
        refine XK.e (x := .idk) (fun fr' hfr kk H => by exact aw_store_b rfl rfl rfl ((hfr 5 (by decide +kernel)).trans rfl) rfl (Lens.self _) ty_46 ((hfr 89 (by decide +kernel)).trans rfl) (aw_nil H)) ?_
        refine XK.e (x := .idk) (fun fr' hfr kk H => by exact aw_store_b rfl rfl rfl ((hfr 6 (by decide +kernel)).trans rfl) rfl (Lens.self _) ty_4 ((hfr 90 (by decide +kernel)).trans rfl) (aw_nil H)) ?_; refine XK.nil' ?_
        refine aw_round_ret (nL := 9) hrc2 rfl ?_; refine A0 oN ?_; refine CN ?_; refine Ct ?_; refine aw_iter_ret (nL := 9) rfl hrc2 rfl (by decide) ?_
        refine aw_of_ar (ar_unmark (nD := 8) rfl rfl rfl ?_)
        exact ar_retr3 rfl rfl (rv_cell rfl rfl ty_46 (by rw [hinv.2, extk_links ht8 hx ht49 hb ht52 ht70])) (rv_cell rfl rfl ty_46 (by rw [hinv.2, extk_links ht8 hx ht49 hb ht52 ht70])) (rv_cell rfl rfl ty_4 (by rw [hinv.2, extk_links ht8 hx ht49 hb ht52 ht70]))
       ·
        refine CS ?_; refine CI ?_; refine CI ?_; refine aw_round_end (nL := 9) hrc2 rfl ?_; refine A0 oN ?_; refine CN ?_; refine Cg ?_; refine CSIR ?_; refine A0 mV ?_; refine A0 o_sub ?_; refine A0 aV ?_; refine CN ?_
        refine aw_reval (d := 3) (y := ((k - 1 : Nat) : Int) - 1) rfl (by omega) ?_
        exact Nx (k - 1) (⟨by omega, by rw [hinv.2]; exact extk_go ht8 hx ht49 hb ht52 ht70⟩) (by omega)
    ·
     refine CE ?_; refine aw_iter_fall (nL := 9) rfl hrc2 rfl (by decide) ?_; refine CI ?_; refine CQR ?_; refine aw_store_nil rfl rfl rfl rfl rfl (Lens.self _) ty_46 rfl ?_; refine aw_store_nil rfl rfl rfl rfl rfl (Lens.self _) ty_46 rfl ?_
     refine aw_store_b rfl rfl rfl rfl rfl (Lens.self _) ty_4 rfl ?_; refine CN ?_
     refine aw_of_ar (ar_unmark (nD := 8) rfl rfl rfl ?_)
     exact ar_retr3 rfl rfl (rv_cell rfl rfl ty_46 (by rw [hinv.2, show k = 0 by omega]; rfl)) (rv_cell rfl rfl ty_46 (by rw [hinv.2, show k = 0 by omega]; rfl)) (rv_cell rfl rfl ty_4 (by rw [hinv.2, show k = 0 by omega]; rfl))
end Go.Proofs.YtjldddonpfopaaaGreat
set_option maxRecDepth 20000
namespace Go.Proofs.YtjldddonpfopaaaGreat
set_option linter.unusedVariables false
set_option linter.unusedSimpArgs false
open Go.Ab Go.RowKit
theorem byte_nat (n : UInt64) {k : Nat} (hk : k ≤ 64) : (u8OfI (IntL.toI u64T (shr64 n k))).toNat = n.toNat / 2 ^ k % 256 := by
  unfold u8OfI
  show (UInt8.ofNat ((((shr64 n k).toNat : Nat) : Int) % 256).toNat).toNat = _
  rw [shr64_nat n hk, UInt8.toNat_ofNat_of_lt' (by show _ < 256; omega)]
  omega
theorem numBytes_succ (n : UInt64) (s : Nat) : numBytes n (s + 1) = u8OfI (IntL.toI u64T (shr64 n (8 * s))) :: numBytes n s := by
  unfold numBytes
  rw [List.range_succ_eq_map, List.map_cons, List.map_map]
  have e1 : s + 1 - 1 - 0 = s := by omega
  rw [e1]
  congr 1
  apply List.map_congr_left
  intro j _
  show u8OfI (IntL.toI u64T (shr64 n (8 * (s + 1 - 1 - (j + 1))))) = _
  rw [show s + 1 - 1 - (j + 1) = s - 1 - j by omega]
theorem numBytes_inj {n m : UInt64} : ∀ s : Nat, s ≤ 8 → numBytes n s = numBytes m s → n.toNat % 2 ^ (8 * s) = m.toNat % 2 ^ (8 * s)
  | 0, _, _ => by simp [Nat.mod_one]
  | s + 1, hs, h => by
    rw [numBytes_succ, numBytes_succ] at h
    injection h with h1 h2
    have ih := numBytes_inj s (by omega) h2
    have h1 := congrArg UInt8.toNat h1
    rw [byte_nat n (by omega), byte_nat m (by omega)] at h1
    rw [Nat.mul_add, Nat.pow_add, Nat.mod_mul, Nat.mod_mul (x := m.toNat), ih, show 2 ^ (8 * 1) = 256 from rfl, h1]
theorem numBytes_u64 {n m : UInt64} (h : numBytes n 8 = numBytes m 8) : n = m := by
  have h1 := numBytes_inj 8 (Nat.le_refl _) h
  have hn : n.toNat < 18446744073709551616 := n.toNat_lt
  have hm : m.toNat < 18446744073709551616 := m.toNat_lt
  rw [show (2 : Nat) ^ (8 * 8) = 18446744073709551616 from rfl, Nat.mod_eq_of_lt hn, Nat.mod_eq_of_lt hm] at h1
  exact UInt64.toNat_inj.1 h1
theorem bytesW_four (a b c d : UInt64) : bytesW [a, b, c, d] = numBytes d 8 ++ (numBytes c 8 ++ (numBytes b 8 ++ numBytes a 8)) := by rfl
theorem bytesW_inj {a b : Wide} (ha : a.length = 4) (hb : b.length = 4) (h : bytesW a = bytesW b) : a = b := by
  match a, ha with
  | [a0, a1, a2, a3], _ => match b, hb with
    | [b0, b1, b2, b3], _ =>
      rw [bytesW_four, bytesW_four] at h
      obtain ⟨h3, h⟩ := List.append_inj h (by rw [numBytes_len, numBytes_len])
      obtain ⟨h2, h⟩ := List.append_inj h (by rw [numBytes_len, numBytes_len])
      obtain ⟨h1, h0⟩ := List.append_inj h (by rw [numBytes_len, numBytes_len])
      rw [numBytes_u64 h0, numBytes_u64 h1, numBytes_u64 h2, numBytes_u64 h3]
def HW (h : Head) : Prop := h.prev.length = 32 ∧ h.links.length = 32 ∧ h.txs.length = 32 ∧ h.past.length = 32 ∧ h.work.length = 4
theorem u64OfI_nat {n : Int} (h0 : 0 ≤ n) (h1 : n < 4294967296) : (u64OfI n).toNat = n.toNat := by
  unfold u64OfI
  rw [UInt64.toNat_ofNat_of_lt' (by show _ < 18446744073709551616; omega)]
  omega
theorem four_inj {n m : Int} (h0 : 0 ≤ n) (h1 : n < 4294967296) (k0 : 0 ≤ m) (k1 : m < 4294967296) (h : numBytes (u64OfI n) 4 = numBytes (u64OfI m) 4) : n = m := by
  have h := numBytes_inj 4 (by decide) h
  rw [u64OfI_nat h0 h1, u64OfI_nat k0 k1, show (2 : Nat) ^ (8 * 4) = 4294967296 from rfl] at h
  omega
theorem hOk_iff {h : Head} : hOk h = true ↔ 0 ≤ h.height ∧ h.height ≤ 1048576 := by unfold hOk; rw [decide_eq_true_eq]
theorem putHead_inj {a b : Head} (ha : HW a) (hb : HW b) (oa : hOk a = true) (ob : hOk b = true) (h : putHead a = putHead b) : a = b := by
  obtain ⟨a1, a2, a3, a4, a5⟩ := ha
  obtain ⟨b1, b2, b3, b4, b5⟩ := hb
  have oa := hOk_iff.1 oa
  have ob := hOk_iff.1 ob
  unfold putHead at h
  simp only [List.flatten_cons, List.flatten_nil, List.append_nil] at h
  obtain ⟨e1, h⟩ := List.append_inj h (by rw [numBytes_len, numBytes_len])
  obtain ⟨e2, h⟩ := List.append_inj h (by rw [a1, b1])
  obtain ⟨e3, h⟩ := List.append_inj h (by rw [a2, b2])
  obtain ⟨e4, h⟩ := List.append_inj h (by rw [a3, b3])
  obtain ⟨e5, h⟩ := List.append_inj h (by rw [a4, b4])
  obtain ⟨e6, h⟩ := List.append_inj h (by rw [bytesW_len, bytesW_len])
  obtain ⟨e7, e8⟩ := List.append_inj h (by rw [numBytes_len, numBytes_len])
  have f1 : a.height = b.height := four_inj (n := a.height) (m := b.height) oa.1 (by omega) ob.1 (by omega) e1
  have f6 := bytesW_inj a5 b5 e6
  have ab : ((a.bits.toNat : Nat) : Int) < 4294967296 := by have : a.bits.toNat < 4294967296 := a.bits.toNat_lt; omega
  have bb : ((b.bits.toNat : Nat) : Int) < 4294967296 := by have : b.bits.toNat < 4294967296 := b.bits.toNat_lt; omega
  have f7 : a.bits = b.bits := UInt32.toNat_inj.1 (Int.ofNat.inj (four_inj (n := ((a.bits.toNat : Nat) : Int)) (m := ((b.bits.toNat : Nat) : Int)) (by omega) ab (by omega) bb e7))
  have f8 := numBytes_u64 e8
  cases a; cases b
  simp only at f1 e2 e3 e4 e5 f6 f7 f8
  subst f1 e2 e3 e4 e5 f6 f7 f8
  rfl
theorem mayH_ok {h : Head} (hm : headMay h = true) : hOk h = true := by
  unfold headMay headLevel at hm
  by_cases c : tgtOk h.bits = true ∧ hOk h = true
  · exact c.2
  · rw [if_neg c] at hm; exact absurd hm (by decide)
theorem headId_sealed {h : Head} (ho : hOk h = true) : headId h = shaSum (sealedL h) := by
  unfold headId sealedL headBytes
  rw [if_pos ho, if_pos ho]; rfl
theorem chain_block {l : List Block} {t : Tip} {k : Nat} {c : Block} (h : Chain l t) (hc : l[k]? = some c) : c.h.height = k ∧ hOk c.h = true ∧ (k = 0 → c.l = []) ∧ (1 ≤ k → c.h.links = linkRoot c.l) := by
  obtain ⟨hk, _⟩ := List.getElem?_eq_some_iff.1 hc
  by_cases k0 : k = 0
  · subst k0
    obtain ⟨t', h1, _⟩ := chain_take h (i := 1) (Nat.le_refl _) (by omega)
    have e : l.take 1 = [c] := by rw [show (1 : Nat) = 0 + 1 from rfl, List.take_add_one, hc]; rfl
    rw [e] at h1
    obtain ⟨_, hb, _⟩ := chain_one h1
    rw [hb]
    exact ⟨rfl, rfl, fun _ => rfl, fun c => by omega⟩
  · obtain ⟨g, hg⟩ : ∃ g, l[0]? = some g := ⟨_, List.getElem?_eq_getElem (by omega)⟩
    obtain ⟨a, ha⟩ : ∃ a, l[k - 1]? = some a := ⟨_, List.getElem?_eq_getElem (by omega)⟩
    obtain ⟨s1, _, _, _, _, _, s7, s8⟩ := chain_stands h (by omega) hc ha hg
    exact ⟨s1, mayH_ok s8, fun c => absurd c k0, fun _ => s7⟩
theorem holds_height {p : Proof} (hp : HoldsP p) : ∀ i, i < p.p.length → (i : Int) ≤ (yAt p i).h.height ∧ (i = 0 → (yAt p i).h.height = 0)
  | 0, _ => by
    obtain ⟨b1, _, b3⟩ := hp.fst
    have e : (yAt p 0).h.height = 0 := by rw [b3, firstTip_is b1]; rfl
    exact ⟨by rw [e]; exact Int.le_refl _, fun _ => e⟩
  | i + 1, h => by
    have ih := holds_height hp i (by omega)
    have hs := (prevF_zero.1 (hp.steps (i + 1) (by omega) h).1).1
    have hs : (yAt p i).h.height < (yAt p (i + 1)).h.height := hs
    exact ⟨by omega, fun c => by omega⟩
theorem holds_ok {p : Proof} (hp : HoldsP p) {i : Nat} (h : i < p.p.length) : hOk (yAt p i).h = true ∧ (i = 0 → (yAt p i).l = []) ∧ (1 ≤ i → linkRoot (yAt p i).l = (yAt p i).h.links) := by
  by_cases i0 : i = 0
  · subst i0
    obtain ⟨b1, b2, b3⟩ := hp.fst
    refine ⟨?_, fun _ => List.length_eq_zero_iff.1 b2, fun c => by omega⟩
    rw [b3, firstTip_is b1]; rfl
  · obtain ⟨_, s2, s3⟩ := hp.steps i (by omega) h
    exact ⟨mayH_ok (workF_zero.1 s3), fun c => absurd c i0, fun _ => (linkF_zero.1 s2).2.2.2.2⟩
theorem ext_spec {p : Proof} {l : List Block} {t : Tip} (hp : HoldsP p) (hc : Chain l t) (wp : ∀ x ∈ p.p, HW x.h) (wl : ∀ x ∈ l, HW x.h) :
    ∀ i, i ≤ p.p.length → (i = 0 ∨ ∃ (j : Nat) (b : Block), l[j]? = some b ∧ headId b.h = headId (yAt p (i - 1)).h) →
    ((extF p l i).2.2 = true → ¬ (extF p l i).1 = (extF p l i).2.1 ∧ shaSum (extF p l i).1 = shaSum (extF p l i).2.1) ∧
    ((extF p l i).2.2 = false → ∀ j, j < i → ∃ b, l[(yAt p j).h.height.toNat]? = some b ∧ b.h = (yAt p j).h ∧ b.l = (yAt p j).l)
  | 0, _, _ => ⟨fun h => (by cases h), fun _ j hj => by omega⟩
  | i + 1, hi, hf => by
    obtain ⟨j, b, hb, hid⟩ := hf.resolve_left (by omega)
    have hid : headId b.h = headId (yAt p i).h := hid
    obtain ⟨k, hk, _, c, hcl, hci⟩ := find_self hb
    rw [hid] at hk hci
    have hn : ¬ findOf l (headId (yAt p i).h) < 0 := by rw [hk]; omega
    have hcl' : l[(findOf l (headId (yAt p i).h)).toNat]? = some c := by rw [hk]; exact hcl
    obtain ⟨c1, c2, c3, c4⟩ := chain_block hc hcl
    obtain ⟨o1, o2, o3⟩ := holds_ok hp (i := i) (by omega)
    obtain ⟨g1, g2⟩ := holds_height hp i (by omega)
    by_cases hh : c.h = (yAt p i).h
    · have hkh : (yAt p i).h.height = k := by rw [← hh]; exact c1
      by_cases hl : c.l = (yAt p i).l
      · rw [ext_go hn hcl' hh hl]
        have ih := ext_spec hp hc wp wl i (by omega) (by
          by_cases i0 : i = 0
          · exact .inl i0
          · refine .inr ?_
            have hle := (linkF_zero.1 (hp.steps i (by omega) (by omega)).2.1).2.2.2.1
            unfold leadsB at hle
            rw [Bool.or_eq_true, decide_eq_true_eq, List.any_eq_true] at hle
            have hkl : k < l.length := (List.getElem?_eq_some_iff.1 hcl).1
            have hk1 : 1 ≤ k := by omega
            rcases hle with e | ⟨x, hx, e⟩
            · obtain ⟨a, ha⟩ : ∃ a, l[k - 1]? = some a := ⟨_, List.getElem?_eq_getElem (by omega)⟩
              have e2 := chain_prev hc (i := k - 1) ha (by rw [show k - 1 + 1 = k by omega]; exact hcl)
              exact ⟨k - 1, a, ha, by rw [← e2, hh]; exact e⟩
            · rw [decide_eq_true_eq] at e
              rw [← hl] at hx
              obtain ⟨n, hnl, hnx⟩ := List.getElem_of_mem hx
              have hll : c.l.length ≤ 32 := by rw [hl]; exact (linkF_zero.1 (hp.steps i (by omega) (by omega)).2.1).2.1
              obtain ⟨q1, _⟩ := ((chain_linked hc hk1 hcl).2 n (by omega)).1 hnl
              rw [List.getElem?_eq_getElem hnl, hnx] at q1
              have hlt : lastAt (levelAt l) n k < l.length := by
                have := lastAt_lt (v := levelAt l) (n := n) (i := k); omega
              obtain ⟨a, ha⟩ : ∃ a, l[lastAt (levelAt l) n k]? = some a := ⟨_, List.getElem?_eq_getElem hlt⟩
              refine ⟨_, a, ha, ?_⟩
              have q2 : idAt l (lastAt (levelAt l) n k) = headId a.h := by unfold idAt; rw [ha]; rfl
              rw [← q2, ← Option.some.inj q1]; exact e.symm)
        refine ⟨ih.1, fun h j hj => ?_⟩
        by_cases e : j = i
        · subst e
          exact ⟨c, by rw [hkh]; exact hcl, hh, hl⟩
        · exact ih.2 h j (by omega)
      · rw [ext_links hn hcl' hh hl]
        have hroot : linkRoot (yAt p i).l = linkRoot c.l := by
          by_cases i0 : i = 0
          · exact absurd (by rw [o2 i0, c3 (by have := g2 i0; omega)]) hl
          · rw [o3 (by omega), ← hh, c4 (by omega)]
        have hd := (differ_is (yAt p i).l c.l).2 ⟨fun e => hl e.symm, hroot⟩
        exact ⟨fun h => differ_yes h, fun h => by rw [hd] at h; cases h⟩
    · rw [ext_heads hn hcl' hh]
      refine ⟨fun _ => ⟨fun e => ?_, ?_⟩, fun h => (by cases h)⟩
      · have e : sealedL (yAt p i).h = sealedL c.h := e
        unfold sealedL headBytes at e
        rw [if_pos o1, if_pos c2] at e
        injection e with _ e
        have w1 : HW (yAt p i).h := wp _ (List.mem_of_getElem? (at_ p (i := i) (by omega)))
        exact hh (putHead_inj w1 (wl c (List.mem_of_getElem? hcl)) o1 c2 e).symm
      · show shaSum (sealedL (yAt p i).h) = shaSum (sealedL c.h)
        rw [← headId_sealed o1, ← headId_sealed c2]; exact hci.symm
theorem ext_full {p : Proof} {l : List Block} (hp : checkP p = 0) (hc : (checkOf l).2 = 0) (hlast : headId (yAt p (p.p.length - 1)).h = headId (checkOf l).1.b.h) (wp : ∀ x ∈ p.p, HW x.h) (wl : ∀ x ∈ l, HW x.h) :
    ((extOf p l).2.2 = true → ¬ (extOf p l).1 = (extOf p l).2.1 ∧ shaSum (extOf p l).1 = shaSum (extOf p l).2.1) ∧
    ((extOf p l).2.2 = false → ∀ j, j < p.p.length → ∃ b, l[(yAt p j).h.height.toNat]? = some b ∧ b.h = (yAt p j).h ∧ b.l = (yAt p j).l) := by
  have hh := checkP_holds.1 hp
  have hch := chain_of hc
  have e : extOf p l = extF p l p.p.length := by
    unfold extOf
    rw [if_neg (fun h => h.elim (fun c => c hc) (fun c => c hp)), if_neg (fun c => c hlast)]
  rw [e]
  refine ext_spec hh hch wp wl _ (Nat.le_refl _) (.inr ?_)
  have ht := (chain_tip hch).1
  rw [List.getLast?_eq_getElem?] at ht
  exact ⟨_, _, ht, hlast.symm⟩
theorem head_rel {U N : Nat → Prop} {w : World} {h : Head} {cs : List Value} (hr : headT.rel U N w h cs) : HW h := by
  obtain ⟨_, _, _, _, _, _, _, h1, _, _, _, h2, _, _, _, h3, _, _, _, h4, _, _, _, h5, _⟩ := hr
  exact ⟨h1.1, h2.1, h3.1, h4.1, h5.1⟩
theorem ids_rel {U N : Nat → Prop} {w : World} {b : Bool} {l : List Ab.Id} {cs : List Value} (hr : (slT b idT).rel U N w l cs) : Ids32 l := fun x hx => by
  obtain ⟨ad, cap, _, _, _, h3⟩ := hr
  obtain ⟨_, ds, _, _, hr, _⟩ := h3 (List.ne_nil_of_mem hx)
  obtain ⟨c, hc⟩ := relAll_mem hr x hx
  exact hc.1
theorem fact_hwp {p : Proof} {ρ : Nat → Value} {B : Nat → Prop} {U N : Nat → Prop} {w : World} {v : Value} (h : (AV.val proofT p).rel ρ B U N w v) : ∀ x ∈ p.p, HW x.h ∧ Ids32 x.l := by
  obtain ⟨cs, ⟨c1, c2, _, _, c3, c4, _, _, a, cap, _, _, _, h3⟩, _⟩ := h
  intro x hx
  obtain ⟨i, hi⟩ := List.getElem?_of_mem hx
  obtain ⟨ad, ds, _, _, hr, _⟩ := h3 (List.ne_nil_of_mem hx)
  obtain ⟨d1, d2, _, hh, hl⟩ := hr.get hi
  exact ⟨head_rel hh, ids_rel hl⟩
theorem fact_hwb {l : List Block} {b : Bool} {ρ : Nat → Value} {B : Nat → Prop} {U N : Nat → Prop} {w : World} {v : Value} (h : (AV.val (slT b blockT) l).rel ρ B U N w v) : ∀ x ∈ l, HW x.h ∧ Ids32 x.l := by
  obtain ⟨cs, ⟨ad, cap, _, _, _, h3⟩, _⟩ := h
  intro x hx
  obtain ⟨_, ds, _, _, hr, _⟩ := h3 (List.ne_nil_of_mem hx)
  obtain ⟨c, d1, d2, _, hh, e1, e2, _, hl, _⟩ := relAll_mem hr x hx
  exact ⟨head_rel hh, ids_rel hl⟩
theorem sealed_len {h : Head} (hh : HW h) : (sealedL h).length ≤ 177 := by
  obtain ⟨h1, h2, h3, h4, h5⟩ := hh
  unfold sealedL headBytes
  split <;> simp [putHead, h1, h2, h3, h4, bytesW_len, numBytes_len]
theorem extF_len {p : Proof} {l : List Block} (wp : ∀ x ∈ p.p, HW x.h ∧ Ids32 x.l) (wl : ∀ x ∈ l, HW x.h ∧ Ids32 x.l) : ∀ i, i ≤ p.p.length → (extF p l i).1.length ≤ 177 ∧ (extF p l i).2.1.length ≤ 177
  | 0, _ => ⟨Nat.zero_le _, Nat.zero_le _⟩
  | i + 1, hi => by
    have hy := wp _ (List.mem_of_getElem? (at_ p (i := i) (by omega)))
    by_cases h : findOf l (headId (yAt p i).h) < 0
    · rw [ext_none h]; exact ⟨Nat.zero_le _, Nat.zero_le _⟩
    · obtain ⟨b, hb⟩ := find_block h
      have hb2 := wl b (List.mem_of_getElem? hb)
      by_cases hh : b.h = (yAt p i).h
      · by_cases hl : b.l = (yAt p i).l
        · rw [ext_go h hb hh hl]; exact extF_len wp wl i (by omega)
        · rw [ext_links h hb hh hl]
          have := differ_len hy.2 hb2.2
          exact ⟨by omega, by omega⟩
      · rw [ext_heads h hb hh]
        exact ⟨sealed_len hy.1, sealed_len hb2.1⟩
theorem ext_len {p : Proof} {l : List Block} (wp : ∀ x ∈ p.p, HW x.h ∧ Ids32 x.l) (wl : ∀ x ∈ l, HW x.h ∧ Ids32 x.l) : (extOf p l).1.length ≤ 177 ∧ (extOf p l).2.1.length ≤ 177 := by
  unfold extOf
  split
  · exact ⟨Nat.zero_le _, Nat.zero_le _⟩
  · split
    · exact ⟨Nat.zero_le _, Nat.zero_le _⟩
    · exact extF_len wp wl _ (Nat.le_refl _)
theorem CheckAncestry_ok (p : Proof) (l : List Block) (i : Int) : Tells P 8 [.val proofT p, .val (sl blockT) l, .val i64T i] (.val boolT true) := by
 obtain ⟨A, hA⟩ : ∃ A, A = idsP p := ⟨_, rfl⟩
 have hal : A.length = p.p.length := by rw [hA]; unfold idsP; simp
 refine fn_of_aw Tryz.func8 rfl rfl rfl (fun ext w hext => ?_)
 refine aw_fact (d := 1) rfl fact_sl (fun hsl1 => ?_)
 refine aw_fact (d := 2) rfl fact_int (fun hin2 => ?_)
 refine aw_fact (d := 0) rfl fact_hwp (fun hwp => ?_)
 refine aw_fact (d := 1) rfl fact_hwb (fun hwl => ?_)
 have hel := ext_len hwp hwl
 refine CQR ?_; refine aw_box rfl rfl rfl rfl rfl ?_; refine A0 aV ?_; refine CNQR ?_; refine A0 (oCl (awake18_ok) rfl fn_9 trivial) ?_; refine A0 aV ?_; refine CNQR ?_; refine A0 (oLs rfl rfl rfl ty_24) ?_
 refine A0 (oCl (fewPr_ok p) rfl fn_10 ⟨(arg_v rfl), trivial⟩) ?_; refine A0 aV ?_; refine CNQR ?_; refine A0 mV ?_; refine A0 (oCl (fewC_ok l) rfl fn_19 ⟨(arg_v rfl), trivial⟩) ?_; refine A0 aV ?_; refine CNQQR ?_; refine A0 mV ?_
 refine A0 oN ?_; refine aw_isf (d := 24) rfl (rfl) ?_; refine A0 mV ?_; refine A1 mV ?_; refine A1 oN ?_
 refine aw_splitp (d := 27) (p := fewPr p = false) rfl (by cases fewPr p <;> rfl) (fun g27 => ?_) (fun g27 => ?_)
 ·
  refine A0 oK ?_; refine A0 mV ?_; refine A2 ?_; refine A2 ?_; refine A0 oK ?_; refine A0 mV ?_; refine A2 ?_; refine A2 ?_; refine A0 oK ?_; refine A0 mV ?_; refine A2 ?_; refine A2 ?_; refine A2 ?_; refine A2 ?_; refine A2 ?_
  refine A0 oK ?_; refine CN ?_; refine Ct ?_; refine CQR ?_; refine A0 mV ?_; refine A0 aV ?_; refine CN ?_
  exact aw_ret1 rfl rfl (ret_eq rfl (rfl))
 ·
  have hpl := fewPr_len (by simpa using g27)
  refine A0 oK ?_; refine A0 mV ?_; refine A1 mV ?_; refine A1 oN ?_
  refine aw_splitp (d := 31) (p := ¬ fewC l = true) rfl (by cases fewC l <;> rfl) (fun g31 => ?_) (fun g31 => ?_)
  ·
   refine A0 oK ?_; refine A0 mV ?_; refine A2 ?_; refine A2 ?_; refine A0 oK ?_; refine A0 mV ?_; refine A2 ?_; refine A2 ?_; refine A2 ?_; refine A2 ?_; refine A2 ?_; refine A0 oK ?_; refine CN ?_; refine Ct ?_; refine CQR ?_; refine A0 mV ?_
   refine A0 aV ?_; refine CN ?_
   exact aw_ret1 rfl rfl (ret_eq rfl (rfl))
  ·
   have hl := fewC_small (Classical.not_not.1 g31)
   refine A0 oK ?_; refine A0 mV ?_; refine A1 mV ?_; refine A1 o_lss ?_
   refine Sp (d := 35) (p := i < 0) (fun g35 => ?_) (fun g35 => ?_)
   ·
    refine A0 oK ?_; refine A0 mV ?_; refine A2 ?_; refine A2 ?_; refine A2 ?_; refine A2 ?_; refine A2 ?_; refine A0 oK ?_; refine CN ?_; refine Ct ?_; refine CQR ?_; refine A0 mV ?_; refine A0 aV ?_; refine CN ?_
    exact aw_ret1 rfl rfl (ret_eq rfl (rfl))
   ·
    refine A0 oK ?_; refine A0 mV ?_; refine A1 mV ?_; refine A1 (oFp fd_24_2) ?_; refine A1 (oLb L_Proof_p ty_22) ?_; refine A1 (g_len rfl rfl isl_22) ?_; refine A1 o_geq ?_; refine A0 oK ?_; refine CN ?_
    refine Cf (p := (p.p.length : Int) ≤ i) (fun ht43 => ?_) (fun ht43 => ?_)
    ·
     refine CQR ?_; refine A0 mV ?_; refine A0 aV ?_; refine CN ?_
     exact aw_ret1 rfl rfl (ret_eq rfl (rfl))
    ·
     have hids := tells_pub (ids_ok p (by omega))
     rw [← hA] at hids
     refine CSQR ?_; refine A0 mV ?_; refine A0 (oCl (check_ok l hl) rfl fn_28 ⟨(arg_v rfl), trivial⟩) ?_; refine A0 mX ?_; refine A0 (by first | exact g_x20 rfl rfl | exact g_x30 rfl rfl) ?_
     refine A0 (by first | exact g_x21 rfl rfl | exact g_x31 rfl rfl) ?_; refine aw_alloc ze_64 rfl rfl rfl rfl ?_; refine aw_store_b rfl rfl rfl rfl rfl (Lens.self _) ty_64 rfl ?_; refine A0 aV ?_; refine CNQR ?_
     refine A0 (oLs rfl rfl rfl ty_24) ?_; refine A0 (oCl (hids) rfl fn_20 ⟨(arg_v rfl), trivial⟩) ?_; refine A0 aV ?_; refine CNQR ?_; refine A0 (oLs rfl rfl rfl ty_24) ?_; refine A0 mV ?_
     refine A0 (oCl (extract_ok p l hl) rfl fn_25 ⟨(arg_v rfl), (arg_v rfl), trivial⟩) ?_; refine A0 mX ?_; refine A0 (by first | exact g_x20 rfl rfl | exact g_x30 rfl rfl) ?_; refine A0 (by first | exact g_x21 rfl rfl | exact g_x31 rfl rfl) ?_
     refine A0 e32 ?_; refine A0 aV ?_; refine A0 aV ?_; refine A0 aV ?_; refine CNQ ?_; refine CQ ?_; refine CD mixed ?_; refine G0 (oLs rfl rfl rfl ty_24) ?_; refine G0 (oCl (checkP_ok p) rfl fn_11 ⟨(arg_v rfl), trivial⟩) ?_; refine G0 o_neq ?_
     refine GK_splitp (d := 61) (p := ¬ checkP p = 0) rfl (by simp [IntL.toI]) (fun g61 => ?_) (fun g61 => ?_)
     ·
      have hex := ext_out (p := p) (l := l) (.inr g61)
      refine G0 mV ?_; refine G2 ?_; refine G2 ?_; refine G0 oK ?_; refine G0 mV ?_; refine G2 ?_; refine G2 ?_; refine G2 ?_; refine G2 ?_; refine G2 ?_; refine G2 ?_; refine G0 oK ?_; refine G0 mV ?_; refine G2 ?_; refine G2 ?_; refine G2 ?_
      refine G2 ?_; refine G2 ?_; refine G2 ?_; refine G2 ?_; refine G2 ?_; refine G2 ?_; refine G2 ?_; refine G2 ?_; refine G2 ?_; refine G2 ?_; refine G2 ?_; refine G2 ?_; refine G0 oK ?_; refine GK.nil ?_; refine Ct ?_; refine CQR ?_
      refine A0 mV ?_; refine A0 oN ?_; refine aw_ist (d := 92) rfl (by rw [hex]; rfl) ?_; refine A0 mV ?_; refine A1 mV ?_; refine A1 (g_len rfl rfl isl_46) ?_; refine A1 o_eql ?_; refine aw_ist (d := 96) rfl (by rw [hex]; rfl) ?_; refine A0 oK ?_
      refine A0 mV ?_; refine A1 mV ?_; refine A1 (g_len rfl rfl isl_46) ?_; refine A1 o_eql ?_; refine A0 oK ?_; refine A0 aV ?_; refine CN ?_
      exact aw_ret1 rfl rfl (ret_eq rfl (by rw [hex]; rfl))
     ·
      refine G0 mV ?_; refine G1 mV ?_; refine G1 o_neq ?_
      refine GK_splitp (d := 64) (p := ¬ (checkOf l).2 = 0) rfl (by simp [IntL.toI]) (fun g64 => ?_) (fun g64 => ?_)
      ·
       have hex := ext_out (p := p) (l := l) (.inl g64)
       refine G0 oK ?_; refine G0 mV ?_; refine G2 ?_; refine G2 ?_; refine G2 ?_; refine G2 ?_; refine G2 ?_; refine G2 ?_; refine G0 oK ?_; refine G0 mV ?_; refine G2 ?_; refine G2 ?_; refine G2 ?_; refine G2 ?_; refine G2 ?_; refine G2 ?_
       refine G2 ?_; refine G2 ?_; refine G2 ?_; refine G2 ?_; refine G2 ?_; refine G2 ?_; refine G2 ?_; refine G2 ?_; refine G2 ?_; refine G0 oK ?_; refine GK.nil ?_; refine Ct ?_; refine CQR ?_; refine A0 mV ?_; refine A0 oN ?_
       refine aw_ist (d := 92) rfl (by rw [hex]; rfl) ?_; refine A0 mV ?_; refine A1 mV ?_; refine A1 (g_len rfl rfl isl_46) ?_; refine A1 o_eql ?_; refine aw_ist (d := 96) rfl (by rw [hex]; rfl) ?_; refine A0 oK ?_; refine A0 mV ?_; refine A1 mV ?_
       refine A1 (g_len rfl rfl isl_46) ?_; refine A1 o_eql ?_; refine A0 oK ?_; refine A0 aV ?_; refine CN ?_
       exact aw_ret1 rfl rfl (ret_eq rfl (by rw [hex]; rfl))
      ·
       have hp0 : checkP p = 0 := Classical.not_not.1 g61
       have hc0 : (checkOf l).2 = 0 := Classical.not_not.1 g64
       have hlp := holds_pos hp0
       have hcp := chain_pos hc0
       have hle := chain_end hc0
       have hiy : A[A.length - 1]? = some (headId (yAt p (p.p.length - 1)).h) := by rw [hal, hA]; exact ids_at p (by omega)
       refine G0 oK ?_; refine G0 mV ?_; refine G1 mV ?_; refine G1 (g_len rfl rfl isl_39) ?_; refine G1 (oFp fd_24_2) ?_; refine G1 (oLb L_Proof_p ty_22) ?_; refine G1 (g_len rfl rfl isl_22) ?_; refine G1 o_neq ?_
       refine GK_isf (d := 72) rfl (by simp [IntL.toI, hal]) ?_; refine G0 oK ?_; refine G0 mV ?_; refine G1 mV ?_; refine G1 mV ?_; refine G1 (g_len rfl rfl isl_39) ?_; refine G1 o_sub ?_
       refine G1 (g_ia_i (i := A.length - 1) rfl rfl rfl (by omega) sl_39 (by assumption)) ?_; refine G1 (g_load_r rfl rfl ty_32) ?_; refine G1 mV ?_; refine G1 mV ?_; refine G1 (g_len rfl rfl isl_52) ?_; refine G1 o_sub ?_
       refine G1 (g_ia_i (i := l.length - 1) rfl rfl rfl (by omega) sl_52 (by assumption)) ?_; refine G1 (oFr fd_60_0 L_Block_h) ?_; refine G1 (g_load_r rfl rfl ty_38) ?_
       refine G1 (oCl (headId_ok (checkOf l).1.b.h) rfl fn_14 ⟨(by first | exact arg_same rfl | exact arg_bsl rfl | exact arg_own rfl rfl | exact arg_nil rfl | exact arg_rptr rfl | exact arg_fn rfl rfl | exact arg_lit rfl), trivial⟩) ?_
       refine G1 (g_neqS rfl rfl rfl (eqt_32)) ?_; refine G0 oK ?_; refine GK.nil ?_
       refine aw_ifc (p := ¬ headId (yAt p (p.p.length - 1)).h = headId (checkOf l).1.b.h) rfl (by simp) (fun ht90 => ?_) (fun ht90 => ?_)
       ·
        have hex := ext_end hc0 hp0 ht90
        refine CQR ?_; refine A0 mV ?_; refine A0 oN ?_; refine aw_ist (d := 92) rfl (by rw [hex]; rfl) ?_; refine A0 mV ?_; refine A1 mV ?_; refine A1 (g_len rfl rfl isl_46) ?_; refine A1 o_eql ?_; refine aw_ist (d := 96) rfl (by rw [hex]; rfl) ?_
        refine A0 oK ?_; refine A0 mV ?_; refine A1 mV ?_; refine A1 (g_len rfl rfl isl_46) ?_; refine A1 o_eql ?_; refine A0 oK ?_; refine A0 aV ?_; refine CN ?_
        exact aw_ret1 rfl rfl (ret_eq rfl (by rw [hex]; rfl))
       ·
        refine CSQQR ?_; refine A0 mV ?_; refine CN ?_
        refine aw_ifc (p := (extOf p l).2.2 = true) rfl (by simp) (fun ht103 => ?_) (fun ht103 => ?_)
        ·
         have hy := (ext_full hp0 hc0 (Classical.not_not.1 ht90) (fun x hx => (hwp x hx).1) (fun x hx => (hwl x hx).1)).1 ht103
         refine CQR ?_; refine A0 mV ?_; refine A0 (g_cvs rfl rfl uu_46 ui_5 st_9) ?_; refine A0 mV ?_; refine A0 (g_cvs rfl rfl uu_46 ui_5 st_9) ?_; refine A0 (g_neqstr rfl rfl rfl) ?_; refine aw_ist (d := 108) rfl (by simp [hy.1]) ?_
         refine A0 mV ?_; refine A1 mV ?_; refine A1 (oCl (sum_ok (extOf p l).1 (by omega)) rfl fn_18 ⟨(arg_v rfl), trivial⟩) ?_; refine A1 mV ?_; refine A1 (oCl (sum_ok (extOf p l).2.1 (by omega)) rfl fn_18 ⟨(arg_v rfl), trivial⟩) ?_
         refine A1 (g_eqlS rfl rfl rfl (eqt_32)) ?_; refine A0 oK ?_; refine A0 aV ?_; refine CN ?_
         exact aw_ret1 rfl rfl (ret_eq rfl (by simp [hy.2]))
        ·
         have hfull := ext_full hp0 hc0 (Classical.not_not.1 ht90) (fun x hx => (hwp x hx).1) (fun x hx => (hwl x hx).1)
         obtain ⟨b, hb, hbh, hbl⟩ := hfull.2 (Bool.eq_false_iff.2 ht103) i.toNat (by omega)
         have hyi := at_ p (i := i.toNat) (by omega)
         have hhh := (holds_height (checkP_holds.1 hp0) i.toNat (by omega)).1
         have hbk := (List.getElem?_eq_some_iff.1 hb).1
         refine CSQR ?_; refine A0 (oFp fd_24_2) ?_; refine A0 (oLb L_Proof_p ty_22) ?_; refine A0 mV ?_; refine A0 (g_ia_i (i := i.toNat) rfl rfl rfl (by omega) sl_22 (by assumption)) ?_; refine A0 (oFr fd_41_0 L_Part_h) ?_
         refine A0 (g_load_r rfl rfl ty_38) ?_; refine aw_alloc ze_38 rfl rfl rfl rfl ?_; refine aw_store_b rfl rfl rfl rfl rfl (Lens.self _) ty_38 rfl ?_; refine CNQ ?_; refine CQ ?_; refine CD mixed ?_; refine G0 (oFp fd_38_0) ?_
         refine G0 (oLb L_Head_height ty_3) ?_; refine G0 o_lss ?_; refine GK_isf (d := 124) rfl (decide_eq_false (by simp only [IntL.toI, id_eq]; omega)) ?_; refine G0 mV ?_; refine G1 (oFp fd_38_0) ?_; refine G1 (oLb L_Head_height ty_3) ?_
         refine G1 mV ?_; refine G1 (g_len rfl rfl isl_52) ?_; refine G1 o_geq ?_; refine GK_isf (d := 130) rfl (decide_eq_false (by simp only [IntL.toI, id_eq]; omega)) ?_; refine G0 oK ?_; refine G0 mV ?_; refine G1 mV ?_; refine G1 (oFp fd_38_0) ?_
         refine G1 (oLb L_Head_height ty_3) ?_; refine G1 (g_ia_i (i := (yAt p i.toNat).h.height.toNat) rfl rfl rfl (by omega) sl_52 (by assumption)) ?_; refine G1 (oFr fd_60_0 L_Block_h) ?_; refine G1 (g_load_r rfl rfl ty_38) ?_
         refine G1 (oLs rfl rfl rfl ty_38) ?_; refine G1 (g_neqS rfl rfl rfl (eqt_38)) ?_; refine G0 oK ?_; refine GK.nil ?_; refine aw_if_f rfl (by simp [hbh]) ?_; refine CS ?_; refine CQ ?_; refine CD mixed ?_; refine G0 mV ?_
         refine G0 (oFp fd_38_0) ?_; refine G0 (oLb L_Head_height ty_3) ?_; refine G0 (g_ia_i (i := (yAt p i.toNat).h.height.toNat) rfl rfl rfl (by omega) sl_52 (by assumption)) ?_; refine G0 (oFr fd_60_1 L_Block_l) ?_
         refine G0 (g_load_r rfl rfl ty_39) ?_; refine G0 (oFp fd_24_2) ?_; refine G0 (oLb L_Proof_p ty_22) ?_; refine G0 mV ?_; refine G0 (g_ia_i (i := i.toNat) rfl rfl rfl (by omega) sl_22 (by assumption)) ?_; refine G0 (oFr fd_41_1 L_Part_l) ?_
         refine G0 (g_load_r rfl rfl ty_39) ?_
         refine G0 (oCl (refIds_ok b.l (yAt p i.toNat).l) rfl fn_16 ⟨(by first | exact arg_same rfl | exact arg_bsl rfl | exact arg_own rfl rfl | exact arg_nil rfl | exact arg_rptr rfl | exact arg_fn rfl rfl | exact arg_lit rfl), (by first | exact arg_same rfl | exact arg_bsl rfl | exact arg_own rfl rfl | exact arg_nil rfl | exact arg_rptr rfl | exact arg_fn rfl rfl | exact arg_lit rfl), trivial⟩) ?_
         refine G0 aV ?_; refine GK.nil ?_; refine CQR ?_; refine A0 mV ?_; refine A0 aV ?_; refine CN ?_
         exact aw_ret1 rfl rfl (ret_eq rfl (by simp [hbl]))
end Go.Proofs.YtjldddonpfopaaaGreat
