/- Parts of the proof: the layer that reads Go values as data, and what the functions of the program tell. -/
import Derived.Test.YtjldddonpfopaaaGreatK5
set_option maxRecDepth 20000
namespace Go.Proofs.YtjldddonpfopaaaGreat
set_option linter.unusedVariables false
set_option linter.unusedSimpArgs false
open Go.Ab Go.RowKit
theorem uu_46 : P.underlying 46 = some (.slice 5) := by kernel_rfl
theorem zp_49 : (P.info? 49).bind (·.zero) = some .nilFunc := by kernel_rfl
def textL (l : List Ab.Id) : List UInt8 := if l.length = 0 then [2] else if l.length ≤ 1 then [0] ++ l.headD zId else nodeText (linkRoot (l.take (halfN l.length))) (linkRoot (l.drop (halfN l.length)))
theorem shaSum_len (b : List UInt8) : (shaSum b).length = 32 := by unfold shaSum; simp
theorem root_text (l : List Ab.Id) : linkRoot l = shaSum (textL l) := by
  unfold textL linkRoot
  rw [rootOf]
  simp only [List.length_map]
  by_cases h0 : l.length = 0
  · rw [if_pos h0, if_pos h0]
  · rw [if_neg h0, if_neg h0]
    by_cases h1 : l.length ≤ 1
    · rw [dif_pos h1, if_pos h1]
      match l, h0, h1 with
      | [x], _, _ => rfl
      | [], h0, _ => exact absurd rfl h0
      | _ :: _ :: _, _, h1 => simp at h1
    · rw [dif_neg h1, if_neg h1, ← List.map_take, ← List.map_drop]; rfl
theorem linkRoot_len (l : List Ab.Id) : (linkRoot l).length = 32 := by rw [root_text]; exact shaSum_len _
def diffF : Nat → List Ab.Id → List Ab.Id → List UInt8 × List UInt8 × Bool
  | 0, a, b => (textL a, textL b, !decide (textL a = textL b))
  | n + 1, a, b =>
    if ¬ textL a = textL b then (textL a, textL b, true)
    else if a.length < 2 ∨ b.length < 2 then (textL a, textL b, false)
    else if (diffF n (a.take (halfN a.length)) (b.take (halfN b.length))).2.2 = true then diffF n (a.take (halfN a.length)) (b.take (halfN b.length))
    else diffF n (a.drop (halfN a.length)) (b.drop (halfN b.length))
theorem diff_ne {n : Nat} {a b : List Ab.Id} (h : ¬ textL a = textL b) : diffF n a b = (textL a, textL b, true) := by
  cases n with
  | zero => unfold diffF; rw [decide_eq_false h]; rfl
  | succ n => unfold diffF; rw [if_pos h]
theorem diff_few {n : Nat} {a b : List Ab.Id} (h : textL a = textL b) (h2 : a.length < 2 ∨ b.length < 2) : diffF n a b = (textL a, textL b, false) := by
  cases n with
  | zero => unfold diffF; rw [decide_eq_true h]; rfl
  | succ n => unfold diffF; rw [if_neg (fun c => c h), if_pos h2]
def differOf (a b : List Ab.Id) : List UInt8 × List UInt8 × Bool :=
  if a = b ∨ ¬ linkRoot a = linkRoot b then ([], [], false)
  else if (diffF a.length a b).2.2 = true then diffF a.length a b else ([], [], false)
def HD (X Y : List UInt8) : Hp := ((Hp.none.set 0 (.box 46 (sl u8T) X)).set 1 (.box 46 (sl u8T) Y)).set 2 (.parts 49 [.clo 40 [0, 1, 2]])
theorem hd_two (X Y X' Y' : List UInt8) : HD X' Y' = ((HD X Y).set 0 (.box 46 (sl u8T) X')).set 1 (.box 46 (sl u8T) Y') := by
  funext t
  match t with
  | 0 => rfl
  | 1 => rfl
  | 2 => rfl
  | t + 3 => rfl
theorem hd_init (X Y : List UInt8) (Z : HE) : HD X Y = (((Hp.none.set 0 (.box 46 (sl u8T) X)).set 1 (.box 46 (sl u8T) Y)).set 2 Z).set 2 (.parts 49 [.clo 40 [0, 1, 2]]) := by
  funext t
  match t with
  | 0 => rfl
  | 1 => rfl
  | 2 => rfl
  | t + 3 => rfl
def DownCall (a b : List Ab.Id) (A B : List UInt8) (r : Bool) : Prop := ∀ {J : Job} {nx : Nat} {fr : Fr} {k : List It} {ops : Array Oper} {rest : List Oper} {o : Oper} {d : Nat} {x ya yb : Operand} {ts : Array TypeId} {X Y : List UInt8}, J.P = P → o.op = .call { callee := .value x, args := #[ya, yb], argTypes := ts } → o.dst = some d → o.guard = none → Nat.blt d J.nt = true →
  fr.ev x = .clo 40 [0, 1, 2] → fr.ev ya = .val (bsl idT) a → fr.ev yb = .val (bsl idT) b → AW J nx (fr.set d (.val boolT r)) (HD A B) (.ops ops rest :: k) → AW J nx fr (HD X Y) (.ops ops (o :: rest) :: k)
theorem chalf_ok (n : Nat) (h : 2 ≤ n) (hn : n < 4398046511104) : Tells P 43 [.val i64T (n : Int)] (.val i64T (halfN n : Nat)) := by
 obtain ⟨hb1, hb2⟩ := bitLen_one h hn
 refine fn_of_aw Tryz.func43 rfl rfl rfl (fun ext w hext => ?_)
 refine aw_fact (d := 0) rfl fact_int (fun hin0 => ?_)
 refine CQR ?_; refine A0 aV ?_; refine CNQR ?_; refine A0 mV ?_; refine A0 o_sub ?_; refine A0 (g_cv64 rfl (ui_130) (us_3) rfl) ?_; refine A0 (oCl (lenU_ok _) rfl fn_82 ⟨(arg_v rfl), trivial⟩) ?_; refine A0 o_sub ?_
 refine A0 (g_shlI rfl rfl rfl (by first | decide | omega | (show (0 : Int) ≤ ((_ : Nat) : Int) - 1; omega) | (simp [IntL.toI]; done) | (simp [IntL.toI]; omega)) rfl) ?_; refine A0 aV ?_; refine CN ?_
 exact aw_ret1 rfl rfl (ret_eq rfl (half_eq h hn))
theorem bequal_ok (a b : List UInt8) : Tells P 42 [.val (bsl u8T) a, .val (bsl u8T) b] (.val boolT (decide (a = b))) := by
 refine fn_of_aw Tryz.func42 rfl rfl rfl (fun ext w hext => ?_)
 refine aw_fact (d := 0) rfl fact_sl (fun hsl0 => ?_)
 refine aw_fact (d := 1) rfl fact_sl (fun hsl1 => ?_)
 refine CQR ?_; refine A0 aV ?_; refine CNQR ?_; refine A0 mV ?_; refine A0 (g_cvs rfl rfl uu_46 ui_5 st_9) ?_; refine A0 mV ?_; refine A0 (g_cvs rfl rfl uu_46 ui_5 st_9) ?_; refine A0 (g_eqlstr rfl rfl rfl) ?_; refine A0 aV ?_; refine CN ?_
 exact aw_ret1 rfl rfl (ret_eq rfl (rfl))
theorem text_ok (l : List Ab.Id) (hl : l.length ≤ 1000000) : Tells P 41 [.val (bsl idT) l] (.fresh 5 u8T (textL l)) := by
 refine fn_of_aw Tryz.func41 rfl rfl rfl (fun ext w hext => ?_)
 refine aw_fact (d := 0) rfl fact_sl (fun hsl0 => ?_)
 refine aw_fact (d := 0) rfl fact_idsL (fun hids => ?_)
 refine CQR ?_; refine A0 aL ?_; refine CNQQR ?_; refine A0 mV ?_; refine A0 (g_len rfl rfl isl_39) ?_; refine CNB ?_; refine CQR ?_; refine A0 o_eql ?_; refine A0 aV ?_; refine CN ?_
 refine aw_ifc (p := l.length = 0) rfl (by simp [IntL.toI]) (fun ht8 => ?_) (fun ht8 => ?_)
 ·
  refine CQR ?_; refine aw_bslice (T := u8T) (xs := [_]) rfl rfl rfl rfl sl_46 row_46 ⟨rfl, rfl, trivial⟩ rfl rfl ?_; refine A0 aO ?_; refine CN ?_
  exact aw_ret1 rfl rfl (ret_fresh_eq rfl rfl (by unfold textL; rw [if_pos ht8]; rfl))
 ·
  refine CQR ?_; refine A0 o_eql ?_; refine A0 aV ?_; refine CN ?_
  refine aw_ifc (p := l.length = 1) rfl (by rw [decide_eq_decide]; simp only [IntL.toI, id_eq]; omega) (fun ht11 => ?_) (fun ht11 => ?_)
  ·
   obtain ⟨x, hx⟩ : ∃ x, l[0]? = some x := ⟨_, List.getElem?_eq_getElem (by omega)⟩
   have hxl := hids x (List.mem_of_getElem? hx)
   refine CQR ?_; refine aw_bslice (T := u8T) (xs := [_]) rfl rfl rfl rfl sl_46 row_46 ⟨rfl, rfl, trivial⟩ rfl rfl ?_; refine A0 mV ?_; refine A0 (g_ia_i (i := 0) rfl rfl rfl (by omega) sl_39 (by assumption)) ?_
   refine A0 (g_slice_r rfl rfl ar_32 rfl rfl) ?_; refine aw_append rfl rfl rfl rfl rfl rfl rfl row_46 (by simp; omega) ?_; refine A0 aO ?_; refine CN ?_
   exact aw_ret1 rfl rfl (ret_fresh_eq rfl rfl (by unfold textL; rw [if_neg ht8, if_pos (by omega)]; cases l with | nil => simp at hx | cons y m => simp at hx; simp [hx]))
  ·
   have hp := half_pos l.length
   have hh := half_lt (n := l.length) (by omega)
   have hra := linkRoot_len (l.take (halfN l.length))
   have hrb := linkRoot_len (l.drop (halfN l.length))
   refine CS ?_; refine CI ?_; refine CQR ?_; refine A0 mV ?_; refine A0 (g_len rfl rfl isl_39) ?_; refine A0 (oCl (chalf_ok l.length (by omega) (by omega)) rfl fn_43 ⟨(arg_v rfl), trivial⟩) ?_; refine A0 aV ?_; refine CNQ ?_
   refine aw_drawf 8 (.box 32 idT zId) [some 1000001, some 1000001, some 1000001, some 1000001, some 1000001, some 1000001, some 1000001, some 1000001, some 1000001, none, none, none] mixed (by decide +kernel) rfl ?_
   refine XKF.ga rfl (fun _ => g_mv (.inl rfl) rfl) rfl rfl rfl rfl ?_; refine XKF.ga rfl (fun _ => g_mv (.inl rfl) rfl) rfl rfl rfl rfl ?_
   refine XKF.ga rfl (fun _ => by first | exact g_sl_nil rfl rfl rfl (by first | rfl | omega) sl_39 | exact g_sl_h rfl rfl rfl sl_39 (by first | assumption | omega | (simp; omega))) rfl rfl rfl rfl ?_
   refine XKF.ga rfl (fun _ => g_call (linkRoot_ok (l.take (halfN l.length)) (by simp; omega)) rfl fn_17 ⟨(arg_v rfl), trivial⟩ rfl) rfl rfl rfl rfl ?_; refine XKF.ga rfl (fun _ => g_mv (.inl rfl) rfl) rfl rfl rfl rfl ?_
   refine XKF.ga rfl (fun _ => g_mv (.inl rfl) rfl) rfl rfl rfl rfl ?_; refine XKF.ga rfl (fun _ => g_sl_l rfl rfl rfl sl_39 (by first | assumption | omega | (simp; omega))) rfl rfl rfl rfl ?_
   refine XKF.ga rfl (fun _ => g_call (linkRoot_ok (l.drop (halfN l.length)) (by simp; omega)) rfl fn_17 ⟨(arg_v rfl), trivial⟩ rfl) rfl rfl rfl rfl ?_; refine XKF.f rfl ze_32 rfl rfl rfl rfl rfl rfl ?_
   refine XKF.e rfl (fun fr' hfr kk H => by exact aw_alloc ze_32 rfl rfl rfl rfl (aw_nil H)) (EffA.conv (fun fr' hfr kk H => by exact aw_alloc ze_32 rfl rfl rfl rfl (aw_nil H)) (by first | exact hp_out rfl | exact hp_out2 rfl rfl | exact hp_out3 rfl rfl rfl | rfl)) (by exact rfl) (by exact rfl) (by exact rfl) (by (repeat refine av_set ?_ rfl); exact fun _ _ => rfl) ?_
   refine XKF.ew (x := .idk) rfl (by decide +kernel) (fun fr' hfr kk H => by exact aw_store_b rfl rfl rfl ((hfr 4 (by decide +kernel)).trans rfl) rfl (Lens.self _) ty_32 ((hfr 24 (by decide +kernel)).trans rfl) (aw_nil H)) (by exact rfl) (by (repeat refine av_set ?_ rfl); exact fun _ _ => rfl) ?_
   refine XKF.ew (x := .idk) rfl (by decide +kernel) (fun fr' hfr kk H => by exact aw_store_b rfl rfl rfl ((hfr 5 (by decide +kernel)).trans rfl) rfl (Lens.self _) ty_32 ((hfr 28 (by decide +kernel)).trans rfl) (aw_nil H)) (by exact rfl) (by (repeat refine av_set ?_ rfl); exact fun _ _ => rfl) ?_
   refine XKF.nilp trivial ?_; refine CQ ?_; refine aw_freeze (d := 4) rfl rfl (Lens.self _) ?_; refine aw_freeze (d := 5) rfl rfl (Lens.self _) ?_; refine aw_drawx [some 1, some 1, some 1, some 1, none, some 1] mixed (by decide +kernel) ?_
   refine X0 (g_lend (T := sl u8T) (S := bsl u8T) (g_bslice (T := u8T) (xs := [_]) rfl sl_46 row_46 ⟨rfl, rfl, trivial⟩ rfl rfl)) ?_; refine X0 (g_slice_r rfl rfl ar_32 rfl rfl) ?_; refine X0 (g_slice_r rfl rfl ar_32 rfl rfl) ?_
   refine X0 (g_bslice (T := (bsl u8T)) (xs := [_, _, _]) rfl sl_128 row_128 ⟨rfl, rfl, rfl, rfl, rfl, rfl, trivial⟩ rfl rfl) ?_
   refine XK.e (fun fr' hfr kk H => by exact aw_callf (concat_ok [[1], linkRoot (l.take (halfN l.length)), linkRoot (l.drop (halfN l.length))] (by simp; omega)) rfl fn_80 ⟨(arg_v ((hfr 32 (by decide +kernel)).trans rfl)), trivial⟩ rfl rfl rfl (aw_nil H)) ?_
   refine X0 aO ?_; refine XK.nil' ?_
   exact aw_ret1 rfl rfl (ret_fresh_eq rfl rfl (by unfold textL; rw [if_neg ht8, if_neg (by omega)]; unfold nodeText; simp))
theorem down_ok (n : Nat) : ∀ (a b : List Ab.Id), a.length ≤ n → a.length ≤ 1000000 → b.length ≤ 1000000 → DownCall a b (diffF n a b).1 (diffF n a b).2.1 (diffF n a b).2.2 := by
 induction n using Nat.strongRecOn with
 | _ n ih =>
 intro a b hn hal hbl J nx fr k ops rest o d x ya yb ts X Y hP ho hd hg hlt hx hya hyb H
 cases J
 dsimp only at hP
 subst hP
 refine aw_inlinec ho hd hg hlt hx Tryz.func40 fn_40 rfl rfl (by intro n hn; simp only [List.mem_cons, List.not_mem_nil, or_false] at hn; rcases hn with rfl | rfl | rfl <;> rfl) (fun ia iok => ?_)
 have hargs : ((#[ya, yb] : Array Operand).toList.map fr.ev ++ ([0, 1, 2] : List Nat).map fun n => AV.ptr n 0) = [.val (bsl idT) a, .val (bsl idT) b, .ptr 0 0, .ptr 1 0, .ptr 2 0] := by simp [hya, hyb]
 rw [hargs]
 refine CQR ?_; refine A0 aV ?_; refine CNQR ?_; refine A0 mV ?_; refine A0 (oCl (tells_pub (text_ok a (by omega))) rfl fn_41 ⟨(arg_v rfl), trivial⟩) ?_; refine A0 mV ?_
 refine A0 (oCl (tells_pub (text_ok b (by omega))) rfl fn_41 ⟨(arg_v rfl), trivial⟩) ?_; refine aw_store_b rfl rfl rfl rfl rfl (Lens.self _) ty_46 rfl ?_; refine aw_store_b rfl rfl rfl rfl rfl (Lens.self _) ty_46 rfl ?_; refine CN ?_
 refine aw_heq (hp' := HD (textL a) (textL b)) (hd_two _ _ _ _) ?_; refine CQQR ?_; refine A0 (oLs rfl rfl rfl ty_46) ?_; refine A0 (oLs rfl rfl rfl ty_46) ?_
 refine A0 (oCl (bequal_ok (textL a) (textL b)) rfl fn_42 ⟨(arg_v rfl), (arg_v rfl), trivial⟩) ?_; refine A0 oN ?_; refine CN ?_
 refine aw_ifc (p := ¬ textL a = textL b) rfl (by simp) (fun ht17 => ?_) (fun ht17 => ?_)
 ·
  refine CQR ?_; refine A0 aV ?_; refine CN ?_; refine aw_back1 rfl ?_
  rw [diff_ne ht17] at H
  exact H
 ·
  have hte := Classical.not_not.1 ht17
  refine CSQQR ?_; refine A0 mV ?_; refine A0 (g_len rfl rfl isl_39) ?_; refine A0 mV ?_; refine A0 (g_len rfl rfl isl_39) ?_; refine A0 (g_min rfl rfl rfl) ?_; refine A0 o_lss ?_; refine CN ?_
  refine aw_ifc (p := a.length < 2 ∨ b.length < 2) rfl (by rw [decide_eq_decide]; simp only [IntL.toI, id_eq]; omega) (fun ht23 => ?_) (fun ht23 => ?_)
  ·
   refine CQR ?_; refine A0 aV ?_; refine CN ?_; refine aw_back1 rfl ?_
   rw [diff_few hte ht23] at H
   exact aw_heq rfl H
  ·
   obtain ⟨m, rfl⟩ : ∃ m, n = m + 1 := ⟨n - 1, by omega⟩
   have hpa := half_pos a.length
   have hha := half_lt (n := a.length) (by omega)
   have hpb := half_pos b.length
   have hhb := half_lt (n := b.length) (by omega)
   have ihl := @ih m (Nat.lt_succ_self m) (a.take (halfN a.length)) (b.take (halfN b.length)) (by simp; omega) (by simp; omega) (by simp; omega)
   have ihr := @ih m (Nat.lt_succ_self m) (a.drop (halfN a.length)) (b.drop (halfN b.length)) (by simp; omega) (by simp; omega) (by simp; omega)
   have hdn : diffF (m + 1) a b = if (diffF m (a.take (halfN a.length)) (b.take (halfN b.length))).2.2 = true then diffF m (a.take (halfN a.length)) (b.take (halfN b.length)) else diffF m (a.drop (halfN a.length)) (b.drop (halfN b.length)) := by rw [diffF, if_neg ht17, if_neg ht23]
   rw [hdn] at H
   obtain ⟨A2, B2, r, hr⟩ : ∃ A2 B2 r, diffF m (a.take (halfN a.length)) (b.take (halfN b.length)) = (A2, B2, r) := ⟨_, _, _, rfl⟩
   rw [hr] at ihl H
   cases r
   ·
    refine CSQR ?_; refine A0 mV ?_; refine A0 (g_len rfl rfl isl_39) ?_; refine A0 (oCl (chalf_ok a.length (by omega) (by omega)) rfl fn_43 ⟨(arg_v rfl), trivial⟩) ?_; refine A0 mV ?_; refine A0 (g_len rfl rfl isl_39) ?_
    refine A0 (oCl (chalf_ok b.length (by omega) (by omega)) rfl fn_43 ⟨(arg_v rfl), trivial⟩) ?_; refine A0 aV ?_; refine A0 aV ?_; refine CNQ ?_
    refine aw_drawx [some 1, some 1, some 1, some 1, some 1, some 1, some 1, none, some 1, some 1, some 1, some 1, some 1, some 1, some 1, some 1, none, some 1, some 1] mixed (by decide +kernel) ?_
    refine X0 (by first | exact g_load_p rfl rfl rfl rfl rfl ty_49 | exact g_load_pv rfl rfl rfl rfl ty_49) ?_; refine X0 mV ?_; refine X0 mV ?_
    refine X0 (by first | exact g_sl_nil rfl rfl rfl (by first | rfl | omega) sl_39 | exact g_sl_h rfl rfl rfl sl_39 (by first | assumption | omega | (simp; omega))) ?_; refine X0 mV ?_; refine X0 mV ?_
    refine X0 (by first | exact g_sl_nil rfl rfl rfl (by first | rfl | omega) sl_39 | exact g_sl_h rfl rfl rfl sl_39 (by first | assumption | omega | (simp; omega))) ?_
    refine XK.e (fun fr' hfr kk H => by exact ihl rfl rfl rfl rfl rfl ((hfr 30 (by decide +kernel)).trans rfl) ((hfr 33 (by decide +kernel)).trans rfl) ((hfr 36 (by decide +kernel)).trans rfl) (aw_nil H)) ?_; refine X0 mX ?_
    refine XK.gi (by first | exact g_load_p rfl rfl rfl rfl rfl ty_49 | exact g_load_pv rfl rfl rfl rfl ty_49) rfl rfl rfl rfl rfl rfl rfl rfl ?_; refine XK.gi (g_mv (.inl rfl) rfl) rfl rfl rfl rfl rfl rfl rfl rfl ?_
    refine XK.gi (g_mv (.inl rfl) rfl) rfl rfl rfl rfl rfl rfl rfl rfl ?_; refine XK.gi (g_sl_l rfl rfl rfl sl_39 (by first | assumption | omega | (simp; omega))) rfl rfl rfl rfl rfl rfl rfl rfl ?_
    refine XK.gi (g_mv (.inl rfl) rfl) rfl rfl rfl rfl rfl rfl rfl rfl ?_; refine XK.gi (g_mv (.inl rfl) rfl) rfl rfl rfl rfl rfl rfl rfl rfl ?_
    refine XK.gi (g_sl_l rfl rfl rfl sl_39 (by first | assumption | omega | (simp; omega))) rfl rfl rfl rfl rfl rfl rfl rfl ?_
    refine XK.e (fun fr' hfr kk H => by exact aw_unguard rfl rfl rfl ((hfr 38 (by decide +kernel)).trans rfl) rfl rfl (ihr rfl rfl rfl rfl rfl ((hfr 39 (by decide +kernel)).trans rfl) ((hfr 42 (by decide +kernel)).trans rfl) ((hfr 45 (by decide +kernel)).trans rfl) (aw_nil H))) ?_
    refine X0 oK ?_; refine X0 aX ?_; refine XK.nil' ?_; refine aw_back1 rfl ?_
    exact H
   ·
    refine CSQR ?_; refine A0 mV ?_; refine A0 (g_len rfl rfl isl_39) ?_; refine A0 (oCl (chalf_ok a.length (by omega) (by omega)) rfl fn_43 ⟨(arg_v rfl), trivial⟩) ?_; refine A0 mV ?_; refine A0 (g_len rfl rfl isl_39) ?_
    refine A0 (oCl (chalf_ok b.length (by omega) (by omega)) rfl fn_43 ⟨(arg_v rfl), trivial⟩) ?_; refine A0 aV ?_; refine A0 aV ?_; refine CNQ ?_
    refine aw_drawx [some 1, some 1, some 1, some 1, some 1, some 1, some 1, none, some 1, some 1, some 1, some 1, some 1, some 1, some 1, some 1, some 1, some 1, some 1] mixed (by decide +kernel) ?_
    refine X0 (by first | exact g_load_p rfl rfl rfl rfl rfl ty_49 | exact g_load_pv rfl rfl rfl rfl ty_49) ?_; refine X0 mV ?_; refine X0 mV ?_
    refine X0 (by first | exact g_sl_nil rfl rfl rfl (by first | rfl | omega) sl_39 | exact g_sl_h rfl rfl rfl sl_39 (by first | assumption | omega | (simp; omega))) ?_; refine X0 mV ?_; refine X0 mV ?_
    refine X0 (by first | exact g_sl_nil rfl rfl rfl (by first | rfl | omega) sl_39 | exact g_sl_h rfl rfl rfl sl_39 (by first | assumption | omega | (simp; omega))) ?_
    refine XK.e (fun fr' hfr kk H => by exact ihl rfl rfl rfl rfl rfl ((hfr 30 (by decide +kernel)).trans rfl) ((hfr 33 (by decide +kernel)).trans rfl) ((hfr 36 (by decide +kernel)).trans rfl) (aw_nil H)) ?_; refine X0 mX ?_
    refine XK.gn rfl rfl rfl rfl rfl rfl rfl rfl rfl ?_; refine XK.gn rfl rfl rfl rfl rfl rfl rfl rfl rfl ?_; refine XK.gn rfl rfl rfl rfl rfl rfl rfl rfl rfl ?_; refine XK.gn rfl rfl rfl rfl rfl rfl rfl rfl rfl ?_
    refine XK.gn rfl rfl rfl rfl rfl rfl rfl rfl rfl ?_; refine XK.gn rfl rfl rfl rfl rfl rfl rfl rfl rfl ?_; refine XK.gn rfl rfl rfl rfl rfl rfl rfl rfl rfl ?_; refine XK.gn rfl rfl rfl rfl rfl rfl rfl rfl rfl ?_; refine X0 oK ?_
    refine X0 aV ?_; refine XK.nil' ?_; refine aw_back1 rfl ?_
    exact H
theorem differ_ok (a b : List Ab.Id) (hal : a.length ≤ 1000000) (hbl : b.length ≤ 1000000) : Tells P 15 [.val (bsl idT) a, .val (bsl idT) b] (.tup3 (.val (sl u8T) (differOf a b).1) (.val (sl u8T) (differOf a b).2.1) (.val boolT (differOf a b).2.2)) := by
 refine fn_of_aw Tryz.func15 rfl rfl rfl (fun ext w hext => ?_)
 refine aw_fact (d := 0) rfl fact_sl (fun hsl0 => ?_)
 refine aw_fact (d := 1) rfl fact_sl (fun hsl1 => ?_)
 refine CQR ?_; refine A0 aL ?_; refine A0 aL ?_; refine A0 aV ?_; refine CNQQR ?_; refine A0 mV ?_; refine A0 mV ?_; refine A0 (oCl (equalId a b) rfl fn_39 ⟨(arg_v rfl), (arg_v rfl), trivial⟩) ?_; refine A0 mV ?_
 refine Sp (d := 13) (p := a = b) (fun g13 => ?_) (fun g13 => ?_)
 ·
  refine A2 ?_; refine A2 ?_; refine A2 ?_; refine A2 ?_; refine A2 ?_; refine A0 oK ?_; refine CN ?_; refine Ct ?_; refine CQR ?_; refine A0 aL ?_; refine A0 aL ?_; refine A0 aV ?_; refine CN ?_
  exact aw_ret3 rfl rfl (by unfold differOf; rw [if_pos (.inl g13)]; exact ret_nil rfl) (by unfold differOf; rw [if_pos (.inl g13)]; exact ret_nil rfl) (ret_eq rfl (by unfold differOf; rw [if_pos (.inl g13)]))
 ·
  refine A1 mV ?_; refine A1 (oCl (linkRoot_ok a (by omega)) rfl fn_17 ⟨(arg_v rfl), trivial⟩) ?_; refine A1 mV ?_; refine A1 (oCl (linkRoot_ok b (by omega)) rfl fn_17 ⟨(arg_v rfl), trivial⟩) ?_; refine A1 (g_neqS rfl rfl rfl (eqt_32)) ?_
  refine A0 oK ?_; refine CN ?_
  refine aw_ifc (p := ¬ linkRoot a = linkRoot b) rfl (by simp) (fun ht19 => ?_) (fun ht19 => ?_)
  ·
   refine CQR ?_; refine A0 aL ?_; refine A0 aL ?_; refine A0 aV ?_; refine CN ?_
   exact aw_ret3 rfl rfl (by unfold differOf; rw [if_pos (.inr ht19)]; exact ret_nil rfl) (by unfold differOf; rw [if_pos (.inr ht19)]; exact ret_nil rfl) (ret_eq rfl (by unfold differOf; rw [if_pos (.inr ht19)]))
  ·
   have hdf : differOf a b = if (diffF a.length a b).2.2 = true then diffF a.length a b else ([], [], false) := by unfold differOf; rw [if_neg (fun h => h.elim g13 ht19)]
   have hdn := @down_ok a.length a b (Nat.le_refl _) hal hbl
   obtain ⟨A, B, r, hr⟩ : ∃ A B r, diffF a.length a b = (A, B, r) := ⟨_, _, _, rfl⟩
   rw [hr] at hdn hdf
   refine CSQR ?_; refine aw_alloc ze_46 rfl rfl rfl rfl ?_; refine aw_alloc ze_46 rfl rfl rfl rfl ?_; refine CNQR ?_; refine aw_alloc_p zp_49 rfl rfl rfl rfl rfl rfl ?_; refine CNQR ?_; refine A0 (g_mkf (caps := [_, _, _]) rfl rfl) ?_
   refine aw_store_p rfl rfl rfl rfl rfl rfl rfl rfl rfl rfl ty_49 ?_; refine CN ?_; refine aw_heq (hp' := HD [] []) (hd_init _ _ _) ?_; refine CQQR ?_
   refine A0 (by first | exact g_load_p rfl rfl rfl rfl rfl ty_49 | exact g_load_pv rfl rfl rfl rfl ty_49) ?_; refine A0 mV ?_; refine A0 mV ?_; refine hdn rfl rfl rfl rfl rfl rfl rfl rfl ?_; refine A0 oN ?_; refine CN ?_
   refine aw_ifc (p := r = false) rfl (by cases r <;> rfl) (fun ht25 => ?_) (fun ht25 => ?_)
   ·
    refine CQR ?_; refine A0 aL ?_; refine A0 aL ?_; refine A0 aV ?_; refine CN ?_
    exact aw_ret3 rfl rfl (by rw [hdf, if_neg (by rw [ht25]; simp)]; exact ret_nil rfl) (by rw [hdf, if_neg (by rw [ht25]; simp)]; exact ret_nil rfl) (ret_eq rfl (by rw [hdf, if_neg (by rw [ht25]; simp)]))
   ·
    refine CS ?_; refine CQ ?_; refine CD mixed ?_; refine G0 (oLs rfl rfl rfl ty_46) ?_; refine G0 (oLs rfl rfl rfl ty_46) ?_; refine G0 aV ?_; refine G0 aV ?_; refine G0 aV ?_; refine GK.nil ?_
    exact aw_ret3 rfl rfl (ret_eq rfl (by rw [hdf, if_pos (by simpa using ht25)])) (ret_eq rfl (by rw [hdf, if_pos (by simpa using ht25)])) (ret_eq rfl (by rw [hdf, if_pos (by simpa using ht25)]; simpa using ht25))
end Go.Proofs.YtjldddonpfopaaaGreat
set_option maxRecDepth 20000
namespace Go.Proofs.YtjldddonpfopaaaGreat
set_option linter.unusedVariables false
set_option linter.unusedSimpArgs false
open Go.Ab Go.RowKit
theorem awake18_ok : Tells P 9 [] (.val boolT true) := by
 refine fn_of_aw Tryz.func9 rfl rfl rfl (fun ext w hext => ?_)
 have hw0 : (levelsP easyP)[0]? = some 31 := by show some (headLevel easyH) = _; rw [easy_level]
 have hw1 : (idsP easyP)[1]? = some (headId easyB.h) := rfl
 have hw2 : ([easyB0, easyB] : List Block)[1]? = some easyB := rfl
 refine CQR ?_; refine A0 aV ?_; refine CNQR ?_; refine A0 (oCl (two_ok) rfl fn_29 trivial) ?_; refine A0 aV ?_; refine CNQR ?_; refine A0 mV ?_
 refine A0 (oCl (prBuild_ok [easyB0, easyB] 1 1 small_easyC) rfl fn_30 ⟨(arg_v rfl), (arg_v rfl), (arg_v rfl), trivial⟩) ?_; refine A0 mX ?_; refine A0 (by first | exact g_x20 rfl rfl | exact g_x30 rfl rfl) ?_
 refine aw_reval (d := 10) (y := easyP) rfl easy_pr ?_; refine A0 (by first | exact g_x21 rfl rfl | exact g_x31 rfl rfl) ?_; refine aw_reval (d := 11) (y := (0 : Int)) rfl easy_prE ?_; refine aw_alloc ze_24 rfl rfl rfl rfl ?_
 refine aw_store_b rfl rfl rfl rfl rfl (Lens.self _) ty_24 rfl ?_; refine A0 aV ?_; refine CNQQR ?_; refine A0 mV ?_; refine A0 o_neq ?_; refine A0 mV ?_; refine aw_isf (d := 14) rfl (rfl) ?_; refine A1 (oFp fd_24_2) ?_
 refine A1 (oLb L_Proof_p ty_22) ?_; refine A1 (g_len rfl rfl isl_22) ?_; refine A1 o_neq ?_; refine A0 oK ?_; refine A0 mV ?_; refine aw_isf (d := 20) rfl (rfl) ?_; refine A1 (oLs rfl rfl rfl ty_24) ?_
 refine A1 (oCl (checkP_ok easyP) rfl fn_11 ⟨(arg_v rfl), trivial⟩) ?_; refine A1 o_neq ?_; refine A0 oK ?_; refine A0 mV ?_; refine aw_isf (d := 25) rfl (by rw [easy_check]; rfl) ?_; refine A1 (g_build rfl ze_24 bd_24 .nil rfl) ?_
 refine A1 (oCl (checkP_ok zProof) rfl fn_11 ⟨(arg_v rfl), trivial⟩) ?_; refine A1 o_neq ?_; refine A0 oK ?_; refine CN ?_; refine aw_if_f rfl (by rw [zero_check]; rfl) ?_; refine CSQR ?_; refine A0 (oLs rfl rfl rfl ty_24) ?_
 refine A0 (oCl (tells_pub (levelsP_ok easyP (by decide))) rfl fn_12 ⟨(arg_v rfl), trivial⟩) ?_; refine A0 aV ?_; refine CNQR ?_; refine A0 (oLs rfl rfl rfl ty_24) ?_
 refine A0 (oCl (tells_pub (ids_ok easyP (by decide))) rfl fn_20 ⟨(arg_v rfl), trivial⟩) ?_; refine A0 aV ?_; refine CNQ ?_; refine CD mixed ?_; refine G0 mV ?_; refine G0 (g_len rfl rfl isl_29) ?_; refine G0 o_eql ?_; refine G0 mV ?_
 refine GK_ist (d := 37) rfl (rfl) ?_; refine G1 mV ?_; refine G1 (g_ia_i (i := 0) rfl rfl rfl (by omega) sl_29 (by assumption)) ?_; refine G1 (g_load_r rfl rfl ty_3) ?_; refine G1 o_eql ?_; refine G0 oK ?_; refine G0 mV ?_
 refine GK_ist (d := 43) rfl (rfl) ?_; refine G1 mV ?_; refine G1 (g_len rfl rfl isl_39) ?_; refine G1 o_eql ?_; refine G0 oK ?_; refine G0 mV ?_; refine GK_ist (d := 48) rfl (rfl) ?_; refine G1 mV ?_
 refine G1 (g_ia_i (i := 1) rfl rfl rfl (by omega) sl_39 (by assumption)) ?_; refine G1 (g_load_r rfl rfl ty_32) ?_; refine G1 mV ?_; refine G1 (g_ia_i (i := 1) rfl rfl rfl (by omega) sl_52 (by assumption)) ?_
 refine G1 (oFr fd_60_0 L_Block_h) ?_; refine G1 (g_load_r rfl rfl ty_38) ?_
 refine G1 (oCl (headId_ok easyB.h) rfl fn_14 ⟨(by first | exact arg_same rfl | exact arg_bsl rfl | exact arg_own rfl rfl | exact arg_nil rfl | exact arg_rptr rfl | exact arg_fn rfl rfl | exact arg_lit rfl), trivial⟩) ?_
 refine G1 (g_eqlS rfl rfl rfl (eqt_32)) ?_; refine G0 oK ?_; refine G0 mV ?_; refine GK_ist (d := 59) rfl (by simp) ?_; refine G1 mV ?_; refine G1 (g_ia_i (i := 1) rfl rfl rfl (by omega) sl_39 (by assumption)) ?_
 refine G1 (g_load_r rfl rfl ty_32) ?_; refine G1 (g_buildZ rfl ar_32 ze_32 rfl) ?_; refine G1 (g_neqS rfl rfl rfl (eqt_32)) ?_; refine G0 oK ?_; refine G0 aV ?_; refine GK.nil ?_
 exact aw_ret1 rfl rfl (ret_eq rfl (by rw [easy_nz]; rfl))
end Go.Proofs.YtjldddonpfopaaaGreat
set_option maxRecDepth 20000
namespace Go.Proofs.YtjldddonpfopaaaGreat
set_option linter.unusedVariables false
set_option linter.unusedSimpArgs false
open Go.Ab Go.RowKit
def Ids32 (l : List Ab.Id) : Prop := ∀ x ∈ l, x.length = 32
theorem fact_ids32 {l : List Ab.Id} {b : Bool} {ρ : Nat → Value} {B : Nat → Prop} {U N : Nat → Prop} {w : World} {v : Value} (h : (AV.val (slT b idT) l).rel ρ B U N w v) : Ids32 l := fun x hx => by
  obtain ⟨cs, ⟨ad, cap, _, _, _, h3⟩, _⟩ := h
  obtain ⟨_, ds, _, _, hr, _⟩ := h3 (List.ne_nil_of_mem hx)
  obtain ⟨c, hc⟩ := relAll_mem hr x hx
  exact hc.1
theorem Ids32.take {l : List Ab.Id} (h : Ids32 l) (n : Nat) : Ids32 (l.take n) := fun x hx => h x (List.mem_of_mem_take hx)
theorem Ids32.drop {l : List Ab.Id} (h : Ids32 l) (n : Nat) : Ids32 (l.drop n) := fun x hx => h x (List.mem_of_mem_drop hx)
theorem textL_len {l : List Ab.Id} (h : Ids32 l) : (textL l).length ≤ 65 := by
  unfold textL
  split
  · simp
  · split
    · match l with
      | [] => simp [zId]
      | x :: _ => have := h x (List.mem_cons_self ..); simp [this]
    · unfold nodeText
      simp [linkRoot_len]
theorem node_inj {a b c d : Ab.Id} (ha : a.length = 32) (hc : c.length = 32) (h : nodeText a b = nodeText c d) : a = c ∧ b = d := by
  unfold nodeText at h
  have h : a ++ b = c ++ d := by simpa using h
  exact List.append_inj h (by rw [ha, hc])
theorem text_few {a b : List Ab.Id} (h : textL a = textL b) (hs : a.length < 2) : a = b := by
  unfold textL at h
  match a, hs with
  | [], _ =>
    by_cases h0 : b.length = 0
    · exact (List.length_eq_zero_iff.1 h0).symm
    · rw [if_pos (show ([] : List Ab.Id).length = 0 from rfl), if_neg h0] at h
      by_cases h1 : b.length ≤ 1
      · rw [if_pos h1] at h; simp at h
      · rw [if_neg h1] at h; unfold nodeText at h; simp at h
  | [x], _ =>
    rw [if_neg (show ¬ [x].length = 0 by simp), if_pos (show [x].length ≤ 1 by simp)] at h
    by_cases h0 : b.length = 0
    · rw [if_pos h0] at h; simp at h
    · rw [if_neg h0] at h
      by_cases h1 : b.length ≤ 1
      · rw [if_pos h1] at h
        match b, h0, h1 with
        | [y], _, _ => simp at h; rw [h]
        | [], h0, _ => exact absurd rfl h0
        | _ :: _ :: _, _, h1 => simp at h1
      · rw [if_neg h1] at h; unfold nodeText at h; simp at h
theorem diff_spec : ∀ (n : Nat) (a b : List Ab.Id), a.length ≤ n → linkRoot a = linkRoot b →
    ((diffF n a b).2.2 = true ↔ ¬ a = b) ∧ ((diffF n a b).2.2 = true → ¬ (diffF n a b).1 = (diffF n a b).2.1 ∧ shaSum (diffF n a b).1 = shaSum (diffF n a b).2.1) := by
  intro n
  induction n with
  | zero =>
    intro a b hn hr
    by_cases h : textL a = textL b
    · have e := text_few h (by omega)
      rw [diff_few h (.inl (by omega))]
      exact ⟨⟨fun c => (by cases c), fun c => absurd e c⟩, fun c => (by cases c)⟩
    · rw [diff_ne h]
      exact ⟨⟨fun _ c => h (by rw [c]), fun _ => rfl⟩, fun _ => ⟨h, by rw [← root_text, ← root_text]; exact hr⟩⟩
  | succ n ih =>
    intro a b hn hr
    by_cases h : textL a = textL b
    · by_cases h2 : a.length < 2 ∨ b.length < 2
      · have e : a = b := h2.elim (text_few h) (fun c => (text_few h.symm c).symm)
        rw [diff_few h h2]
        exact ⟨⟨fun c => (by cases c), fun c => absurd e c⟩, fun c => (by cases c)⟩
      · have hp := half_pos a.length
        have hh := half_lt (n := a.length) (by omega)
        have ht := h
        unfold textL at ht
        rw [if_neg (by omega), if_neg (by omega), if_neg (by omega), if_neg (by omega)] at ht
        obtain ⟨r1, r2⟩ := node_inj (linkRoot_len _) (linkRoot_len _) ht
        have hl := ih (a.take (halfN a.length)) (b.take (halfN b.length)) (by simp; omega) r1
        have hd := ih (a.drop (halfN a.length)) (b.drop (halfN b.length)) (by simp; omega) r2
        have hdn : diffF (n + 1) a b = if (diffF n (a.take (halfN a.length)) (b.take (halfN b.length))).2.2 = true then diffF n (a.take (halfN a.length)) (b.take (halfN b.length)) else diffF n (a.drop (halfN a.length)) (b.drop (halfN b.length)) := by rw [diffF, if_neg (fun c => c h), if_neg h2]
        rw [hdn]
        by_cases c : (diffF n (a.take (halfN a.length)) (b.take (halfN b.length))).2.2 = true
        · rw [if_pos c]
          exact ⟨⟨fun _ e => hl.1.1 c (by rw [e]), fun _ => c⟩, hl.2⟩
        · rw [if_neg c]
          have et : a.take (halfN a.length) = b.take (halfN b.length) := Classical.byContradiction fun e => c (hl.1.2 e)
          refine ⟨hd.1.trans ⟨fun e q => e (by rw [q]), fun e q => e ?_⟩, hd.2⟩
          rw [← List.take_append_drop (halfN a.length) a, et, q, List.take_append_drop]
    · rw [diff_ne h]
      exact ⟨⟨fun _ c => h (by rw [c]), fun _ => rfl⟩, fun _ => ⟨h, by rw [← root_text, ← root_text]; exact hr⟩⟩
theorem diff_mem : ∀ (n : Nat) (a b : List Ab.Id), Ids32 a → Ids32 b → (diffF n a b).1.length ≤ 65 ∧ (diffF n a b).2.1.length ≤ 65
  | 0, a, b, ha, hb => ⟨textL_len ha, textL_len hb⟩
  | n + 1, a, b, ha, hb => by
    unfold diffF
    split
    · exact ⟨textL_len ha, textL_len hb⟩
    · split
      · exact ⟨textL_len ha, textL_len hb⟩
      · split
        · exact diff_mem n _ _ (ha.take _) (hb.take _)
        · exact diff_mem n _ _ (ha.drop _) (hb.drop _)
theorem differ_len {a b : List Ab.Id} (ha : Ids32 a) (hb : Ids32 b) : (differOf a b).1.length ≤ 65 ∧ (differOf a b).2.1.length ≤ 65 := by
  unfold differOf
  split
  · simp
  · split
    · exact diff_mem _ _ _ ha hb
    · simp
theorem differ_is (a b : List Ab.Id) : (differOf a b).2.2 = true ↔ ¬ a = b ∧ linkRoot a = linkRoot b := by
  unfold differOf
  by_cases h : a = b ∨ ¬ linkRoot a = linkRoot b
  · rw [if_pos h]
    exact ⟨fun c => (by cases c), fun c => absurd h (fun q => q.elim c.1 (fun e => e c.2))⟩
  · rw [if_neg h]
    have hr : linkRoot a = linkRoot b := Classical.byContradiction fun c => h (.inr c)
    have hs := (diff_spec a.length a b (Nat.le_refl _) hr).1
    have hne : ¬ a = b := fun c => h (.inl c)
    rw [if_pos (hs.2 hne)]
    exact ⟨fun _ => ⟨hne, hr⟩, fun _ => hs.2 hne⟩
theorem differ_yes {a b : List Ab.Id} (h : (differOf a b).2.2 = true) : ¬ (differOf a b).1 = (differOf a b).2.1 ∧ shaSum (differOf a b).1 = shaSum (differOf a b).2.1 := by
  obtain ⟨h1, h2⟩ := (differ_is a b).1 h
  have hs := diff_spec a.length a b (Nat.le_refl _) h2
  have e : differOf a b = diffF a.length a b := by unfold differOf; rw [if_neg (fun q => q.elim h1 (fun c => c h2)), if_pos (hs.1.2 h1)]
  rw [e] at h ⊢
  exact hs.2 h
theorem differ_no {a b : List Ab.Id} (h : (differOf a b).2.2 = false) : (differOf a b).1 = [] ∧ (differOf a b).2.1 = [] := by
  unfold differOf at h ⊢
  split
  · exact ⟨rfl, rfl⟩
  · rename_i c
    rw [if_neg c] at h
    split
    · rename_i c2; rw [if_pos c2] at h; rw [h] at c2; cases c2
    · exact ⟨rfl, rfl⟩
theorem is_eq1 {a b : List Ab.Id} (h : ¬ a = b) : (!((differOf a b).2.2 == decide (linkRoot a = linkRoot b))) = false := by
  have hd := differ_is a b
  by_cases c : linkRoot a = linkRoot b
  · rw [hd.2 ⟨h, c⟩, decide_eq_true c]; rfl
  · rw [decide_eq_false c, Bool.eq_false_iff.2 (fun e => c (hd.1 e).2)]; rfl
theorem is_eq2 {a b : List Ab.Id} (h : ¬ ¬ a = b) : (!((differOf a b).2.2 == false)) = false := by
  rw [Bool.eq_false_iff.2 (fun e => h ((differ_is a b).1 e).1)]; rfl
theorem CheckDiffer_ok (a b : List Ab.Id) : Tells P 6 [.val (sl idT) a, .val (sl idT) b] (.val boolT true) := by
 refine fn_of_aw Tryz.func6 rfl rfl rfl (fun ext w hext => ?_)
 refine aw_fact (d := 0) rfl fact_sl (fun hsl0 => ?_)
 refine aw_fact (d := 1) rfl fact_sl (fun hsl1 => ?_)
 refine aw_fact (d := 0) rfl fact_ids32 (fun ha => ?_)
 refine aw_fact (d := 1) rfl fact_ids32 (fun hb => ?_)
 have hdl := differ_len ha hb
 refine CQR ?_; refine A0 aV ?_; refine CNQR ?_; refine A0 (oCl (awake18_ok) rfl fn_9 trivial) ?_; refine A0 aV ?_; refine CNQQR ?_; refine A0 mV ?_; refine A0 oN ?_; refine A0 mV ?_; refine aw_isf (d := 13) rfl (rfl) ?_; refine A1 mV ?_
 refine A1 (g_len rfl rfl isl_39) ?_; refine A1 o_gtr ?_; refine A0 oK ?_; refine A0 mV ?_
 refine Sp (d := 18) (p := 40 < a.length) (fun g18 => ?_) (fun g18 => ?_)
 ·
  refine A2 ?_; refine A2 ?_; refine A2 ?_; refine A0 oK ?_; refine CN ?_; refine Ct ?_; refine CQR ?_; refine A0 mV ?_; refine A0 aV ?_; refine CN ?_
  exact aw_ret1 rfl rfl (ret_eq rfl (rfl))
 ·
  refine A1 mV ?_; refine A1 (g_len rfl rfl isl_39) ?_; refine A1 o_gtr ?_; refine A0 oK ?_; refine CN ?_
  refine Cf (p := 40 < b.length) (fun ht22 => ?_) (fun ht22 => ?_)
  ·
   refine CQR ?_; refine A0 mV ?_; refine A0 aV ?_; refine CN ?_
   exact aw_ret1 rfl rfl (ret_eq rfl (rfl))
  ·
   refine CSQR ?_; refine A0 mV ?_; refine A0 mV ?_; refine A0 (oCl (differ_ok a b (by omega) (by omega)) rfl fn_15 ⟨(arg_v rfl), (arg_v rfl), trivial⟩) ?_; refine A0 mX ?_; refine A0 (by first | exact g_x20 rfl rfl | exact g_x30 rfl rfl) ?_
   refine A0 (by first | exact g_x21 rfl rfl | exact g_x31 rfl rfl) ?_; refine A0 e32 ?_; refine A0 aV ?_; refine A0 aV ?_; refine A0 aV ?_; refine CNQR ?_; refine A0 mV ?_; refine A0 mV ?_
   refine A0 (oCl (refIds_ok a b) rfl fn_16 ⟨(arg_v rfl), (arg_v rfl), trivial⟩) ?_; refine A0 aV ?_; refine CNQQR ?_; refine A0 mV ?_; refine A0 mV ?_; refine A0 oN ?_; refine A0 mV ?_
   refine aw_splitp (d := 37) (p := ¬ a = b) rfl (by simp) (fun g37 => ?_) (fun g37 => ?_)
   ·
    refine A1 mV ?_; refine A1 (oCl (linkRoot_ok a (by omega)) rfl fn_17 ⟨(arg_v rfl), trivial⟩) ?_; refine A1 mV ?_; refine A1 (oCl (linkRoot_ok b (by omega)) rfl fn_17 ⟨(arg_v rfl), trivial⟩) ?_; refine A1 (g_eqlS rfl rfl rfl (eqt_32)) ?_
    refine A0 oK ?_; refine A0 (g_neqB rfl rfl rfl ub_4) ?_; refine CN ?_; refine aw_if_f rfl (is_eq1 g37) ?_; refine CSQR ?_; refine A0 mV ?_; refine A0 oN ?_; refine A0 mV ?_
    refine aw_splitp (d := 47) (p := (differOf a b).2.2 = false) rfl (by cases (differOf a b).2.2 <;> rfl) (fun g47 => ?_) (fun g47 => ?_)
    ·
     have hno := differ_no g47
     refine A1 mV ?_; refine A1 (g_len rfl rfl isl_46) ?_; refine A1 o_eql ?_; refine A0 oK ?_; refine A0 mV ?_; refine aw_ist (d := 52) rfl (by rw [hno.1]; rfl) ?_; refine A1 mV ?_; refine A1 (g_len rfl rfl isl_46) ?_; refine A1 o_eql ?_
     refine A0 oK ?_; refine A0 mV ?_; refine aw_ist (d := 57) rfl (by rw [hno.2]; rfl) ?_; refine A2 ?_; refine A2 ?_; refine A3 ?_; refine A3 ?_; refine A3 ?_; refine A3 ?_; refine A3 ?_; refine A2 ?_; refine A2 ?_; refine A3 ?_; refine A3 ?_
     refine A3 ?_; refine A3 ?_; refine A3 ?_; refine A2 ?_; refine A0 oK ?_; refine A0 aV ?_; refine CN ?_
     exact aw_ret1 rfl rfl (ret_eq rfl (rfl))
    ·
     have hdt : (differOf a b).2.2 = true := by simpa using g47
     have hyes := differ_yes hdt
     refine A2 ?_; refine A2 ?_; refine A2 ?_; refine A0 oK ?_; refine A0 mV ?_; refine A2 ?_; refine A2 ?_; refine A2 ?_; refine A0 oK ?_; refine A0 mV ?_; refine A1 mV ?_; refine A1 mV ?_; refine aw_ist (d := 59) rfl (hdt) ?_; refine A1 mV ?_
     refine A1 (g_cvs rfl rfl uu_46 ui_5 st_9) ?_; refine A1 mV ?_; refine A1 (g_cvs rfl rfl uu_46 ui_5 st_9) ?_; refine A1 (g_neqstr rfl rfl rfl) ?_; refine A1 oK ?_; refine A1 mV ?_; refine aw_ist (d := 66) rfl (by simp [hyes.1]) ?_
     refine A1 mV ?_; refine A1 (oCl (sum_ok (differOf a b).1 (by omega)) rfl fn_18 ⟨(arg_v rfl), trivial⟩) ?_; refine A1 mV ?_; refine A1 (oCl (sum_ok (differOf a b).2.1 (by omega)) rfl fn_18 ⟨(arg_v rfl), trivial⟩) ?_
     refine A1 (g_eqlS rfl rfl rfl (eqt_32)) ?_; refine A1 oK ?_; refine A0 oK ?_; refine A0 aV ?_; refine CN ?_
     exact aw_ret1 rfl rfl (ret_eq rfl (by simp [hyes.2]))
   ·
    refine A2 ?_; refine A2 ?_; refine A2 ?_; refine A2 ?_; refine A2 ?_; refine A0 oK ?_; refine A0 (g_neqB rfl rfl rfl ub_4) ?_; refine CN ?_; refine aw_if_f rfl (is_eq2 g37) ?_; refine CSQR ?_; refine A0 mV ?_; refine A0 oN ?_; refine A0 mV ?_
    refine aw_splitp (d := 47) (p := (differOf a b).2.2 = false) rfl (by cases (differOf a b).2.2 <;> rfl) (fun g47 => ?_) (fun g47 => ?_)
    ·
     have hno := differ_no g47
     refine A1 mV ?_; refine A1 (g_len rfl rfl isl_46) ?_; refine A1 o_eql ?_; refine A0 oK ?_; refine A0 mV ?_; refine aw_ist (d := 52) rfl (by rw [hno.1]; rfl) ?_; refine A1 mV ?_; refine A1 (g_len rfl rfl isl_46) ?_; refine A1 o_eql ?_
     refine A0 oK ?_; refine A0 mV ?_; refine aw_ist (d := 57) rfl (by rw [hno.2]; rfl) ?_; refine A2 ?_; refine A2 ?_; refine A3 ?_; refine A3 ?_; refine A3 ?_; refine A3 ?_; refine A3 ?_; refine A2 ?_; refine A2 ?_; refine A3 ?_; refine A3 ?_
     refine A3 ?_; refine A3 ?_; refine A3 ?_; refine A2 ?_; refine A0 oK ?_; refine A0 aV ?_; refine CN ?_
     exact aw_ret1 rfl rfl (ret_eq rfl (rfl))
    ·
     have hdt : (differOf a b).2.2 = true := by simpa using g47
     have hyes := differ_yes hdt
     refine A2 ?_; refine A2 ?_; refine A2 ?_; refine A0 oK ?_; refine A0 mV ?_; refine A2 ?_; refine A2 ?_; refine A2 ?_; refine A0 oK ?_; refine A0 mV ?_; refine A1 mV ?_; refine A1 mV ?_; refine aw_ist (d := 59) rfl (hdt) ?_; refine A1 mV ?_
     refine A1 (g_cvs rfl rfl uu_46 ui_5 st_9) ?_; refine A1 mV ?_; refine A1 (g_cvs rfl rfl uu_46 ui_5 st_9) ?_; refine A1 (g_neqstr rfl rfl rfl) ?_; refine A1 oK ?_; refine A1 mV ?_; refine aw_ist (d := 66) rfl (by simp [hyes.1]) ?_
     refine A1 mV ?_; refine A1 (oCl (sum_ok (differOf a b).1 (by omega)) rfl fn_18 ⟨(arg_v rfl), trivial⟩) ?_; refine A1 mV ?_; refine A1 (oCl (sum_ok (differOf a b).2.1 (by omega)) rfl fn_18 ⟨(arg_v rfl), trivial⟩) ?_
     refine A1 (g_eqlS rfl rfl rfl (eqt_32)) ?_; refine A1 oK ?_; refine A0 oK ?_; refine A0 aV ?_; refine CN ?_
     exact aw_ret1 rfl rfl (ret_eq rfl (by simp [hyes.2]))
end Go.Proofs.YtjldddonpfopaaaGreat
