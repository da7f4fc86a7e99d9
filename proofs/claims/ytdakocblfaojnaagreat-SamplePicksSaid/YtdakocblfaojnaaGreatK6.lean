/- Parts of the proof: the layer that reads Go values as data, and what the functions of the program tell. -/
import Derived.Test.YtdakocblfaojnaaGreatK5
set_option maxRecDepth 20000
namespace Go.Proofs.YtdakocblfaojnaaGreat
set_option linter.unusedVariables false
set_option linter.unusedSimpArgs false
open Go.Ab Go.RowKit
theorem check_no {root leaf : Total} {i : Int} {path : List Total} (h : root.n < 1 ∨ 64 < root.n ∨ i < 0 ∨ root.n ≤ i ∨ leaf.n ≠ 1 ∨ (spans 0 root.n.toNat i.toNat).length ≠ path.length) : mmrCheck root i leaf path = (zWide, false) := by unfold mmrCheck; rw [if_pos h]
theorem check_go {root leaf : Total} {N q : Nat} {path : List Total} (hN : root.n = (N : Int)) (h1 : 1 ≤ N) (h2 : N ≤ 64) (h3 : q < N) (hl : leaf.n = 1) (hp : (spans 0 N q).length = path.length) : mmrCheck root (q : Int) leaf path = match chkF (spans 0 N q) path leaf zWide with
  | some c => if c.1 = root then (c.2, true) else (zWide, false)
  | none => (zWide, false) := by
  unfold mmrCheck
  rw [hN, Int.toNat_natCast, Int.toNat_natCast, if_neg (by omega)]
  rfl
theorem chk_step {sp : List (Nat × Nat × Bool)} {p : List Total} {cur : Total} {ah : Wide} {k : Nat} {s : Nat × Nat × Bool} {x : Total} (hs : sp[k]? = some s) (hx : p[k]? = some x) : chkF (sp.drop k) (p.drop k) cur ah = if addOk cur.w x.w = false ∨ x.n ≠ (s.2.1 : Int) then none else if s.2.2 = true then chkF (sp.drop (k + 1)) (p.drop (k + 1)) (joinT cur x) ah else chkF (sp.drop (k + 1)) (p.drop (k + 1)) (joinT x cur) (addW ah x.w) := by
  obtain ⟨h1, rfl⟩ := List.getElem?_eq_some_iff.1 hs
  obtain ⟨h2, rfl⟩ := List.getElem?_eq_some_iff.1 hx
  rw [List.drop_eq_getElem_cons h1, List.drop_eq_getElem_cons h2, chkF]
theorem chk_end {sp : List (Nat × Nat × Bool)} {p : List Total} {cur : Total} {ah : Wide} {k : Nat} (h : sp.length ≤ k) : chkF (sp.drop k) (p.drop k) cur ah = some (cur, ah) := by
  rw [List.drop_of_length_le h]
  cases p.drop k <;> rfl
theorem loc_yes {l : List Total} {w s : Wide} {k : Nat} {x : Total} (hx : l[k]? = some x) (h1 : ¬ addOk s x.w = false) (h2 : 0 < cmpW (addW s x.w) w) : locF w (l.drop k) s k = (k : Int) := by
  obtain ⟨h, rfl⟩ := List.getElem?_eq_some_iff.1 hx
  rw [List.drop_eq_getElem_cons h, locF, if_neg h1, if_pos h2]
theorem loc_no {l : List Total} {w s : Wide} {k : Nat} {x : Total} (hx : l[k]? = some x) (h1 : addOk s x.w = false) : locF w (l.drop k) s k = -1 := by
  obtain ⟨h, rfl⟩ := List.getElem?_eq_some_iff.1 hx
  rw [List.drop_eq_getElem_cons h, locF, if_pos h1]
theorem loc_go {l : List Total} {w s : Wide} {k : Nat} {x : Total} (hx : l[k]? = some x) (h1 : ¬ addOk s x.w = false) (h2 : ¬ 0 < cmpW (addW s x.w) w) : locF w (l.drop k) s k = locF w (l.drop (k + 1)) (addW s x.w) (k + 1) := by
  obtain ⟨h, rfl⟩ := List.getElem?_eq_some_iff.1 hx
  rw [List.drop_eq_getElem_cons h, locF, if_neg h1, if_neg h2]
theorem loc_end {l : List Total} {w s : Wide} {k : Nat} (h : l.length ≤ k) : locF w (l.drop k) s k = -1 := by rw [List.drop_of_length_le h]; rfl
def placeSE (x : STrial) : Int := if ¬ x.s.h.height = x.s.i then 5 else 0
def workSE (x : STrial) : Int := if ¬ headMay x.s.h = true then 4 else 0
def rootSE (x : STrial) : Int := if (mmrCheck ⟨x.tip.past, x.tip.work, x.tip.height⟩ x.s.i (leafH x.s.h) x.s.path).2 = false ∨ cmpW x.pick (mmrCheck ⟨x.tip.past, x.tip.work, x.tip.height⟩ x.s.i (leafH x.s.h) x.s.path).1 < 0 ∨ 0 ≤ cmpW x.pick (addW (mmrCheck ⟨x.tip.past, x.tip.work, x.tip.height⟩ x.s.i (leafH x.s.h) x.s.path).1 (leafH x.s.h).w) then 7 else 0
theorem mcheck_ok (root : Total) (i : Int) (leaf : Total) (path : List Total) : Tells P 18 [.val totalT root, .val i64T i, .val totalT leaf, .val (bsl totalT) path] (.tup2 (.val wideT (mmrCheck root i leaf path).1) (.val boolT (mmrCheck root i leaf path).2)) := by
 refine fn_of_aw Tryz.func18 rfl rfl rfl (fun ext w hext => ?_)
 refine aw_fact (d := 1) rfl fact_int (fun hin1 => ?_)
 refine aw_fact (d := 3) rfl fact_sl (fun hsl3 => ?_)
 refine CQR ?_; refine aw_box rfl rfl rfl rfl rfl ?_; refine aw_box rfl rfl rfl rfl rfl ?_; refine aw_alloc ze_29 rfl rfl rfl rfl ?_; refine A0 aV ?_; refine CNQQR ?_; refine A0 (oFp fd_53_2) ?_; refine A0 (oLb L_Total_n ty_3) ?_
 refine A0 o_lss ?_; refine A0 mV ?_
 refine Sp (d := 20) (p := root.n < 1) (fun g20 => ?_) (fun g20 => ?_)
 ·
  refine A2 ?_; refine A2 ?_; refine A2 ?_; refine A0 oK ?_; refine A0 mV ?_; refine A2 ?_; refine A2 ?_; refine A0 oK ?_; refine A0 mV ?_; refine A2 ?_; refine A2 ?_; refine A2 ?_; refine A2 ?_; refine A0 oK ?_; refine A0 mV ?_; refine A2 ?_
  refine A2 ?_; refine A2 ?_; refine A0 oK ?_; refine CN ?_; refine Ct ?_; refine CQR ?_; refine A0 (g_buildZ rfl ar_29 ze_29 rfl) ?_; refine aw_store_b rfl rfl rfl rfl rfl (Lens.self _) ty_29 rfl ?_; refine A0 aV ?_; refine CN ?_
  exact aw_retr2 rfl rfl (rv_cell rfl rfl ty_29 (by rw [check_no (.inl g20)])) (rv_tmp (ret_eq rfl (by rw [check_no (.inl g20)])))
 ·
  refine A1 (oFp fd_53_2) ?_; refine A1 (oLb L_Total_n ty_3) ?_; refine A1 o_gtr ?_; refine A0 oK ?_; refine A0 mV ?_
  refine Sp (d := 25) (p := 64 < root.n) (fun g25 => ?_) (fun g25 => ?_)
  ·
   refine A2 ?_; refine A2 ?_; refine A0 oK ?_; refine A0 mV ?_; refine A2 ?_; refine A2 ?_; refine A2 ?_; refine A2 ?_; refine A0 oK ?_; refine A0 mV ?_; refine A2 ?_; refine A2 ?_; refine A2 ?_; refine A0 oK ?_; refine CN ?_; refine Ct ?_
   refine CQR ?_; refine A0 (g_buildZ rfl ar_29 ze_29 rfl) ?_; refine aw_store_b rfl rfl rfl rfl rfl (Lens.self _) ty_29 rfl ?_; refine A0 aV ?_; refine CN ?_
   exact aw_retr2 rfl rfl (rv_cell rfl rfl ty_29 (by rw [check_no (.inr (.inl g25))])) (rv_tmp (ret_eq rfl (by rw [check_no (.inr (.inl g25))])))
  ·
   refine A1 mV ?_; refine A1 o_lss ?_; refine A0 oK ?_; refine A0 mV ?_
   refine Sp (d := 29) (p := i < 0) (fun g29 => ?_) (fun g29 => ?_)
   ·
    refine A2 ?_; refine A2 ?_; refine A2 ?_; refine A2 ?_; refine A0 oK ?_; refine A0 mV ?_; refine A2 ?_; refine A2 ?_; refine A2 ?_; refine A0 oK ?_; refine CN ?_; refine Ct ?_; refine CQR ?_; refine A0 (g_buildZ rfl ar_29 ze_29 rfl) ?_
    refine aw_store_b rfl rfl rfl rfl rfl (Lens.self _) ty_29 rfl ?_; refine A0 aV ?_; refine CN ?_
    exact aw_retr2 rfl rfl (rv_cell rfl rfl ty_29 (by rw [check_no (.inr (.inr (.inl g29)))])) (rv_tmp (ret_eq rfl (by rw [check_no (.inr (.inr (.inl g29)))])))
   ·
    refine A1 mV ?_; refine A1 (oFp fd_53_2) ?_; refine A1 (oLb L_Total_n ty_3) ?_; refine A1 o_geq ?_; refine A0 oK ?_; refine A0 mV ?_
    refine Sp (d := 35) (p := root.n ≤ i) (fun g35 => ?_) (fun g35 => ?_)
    ·
     refine A2 ?_; refine A2 ?_; refine A2 ?_; refine A0 oK ?_; refine CN ?_; refine Ct ?_; refine CQR ?_; refine A0 (g_buildZ rfl ar_29 ze_29 rfl) ?_; refine aw_store_b rfl rfl rfl rfl rfl (Lens.self _) ty_29 rfl ?_; refine A0 aV ?_; refine CN ?_
     exact aw_retr2 rfl rfl (rv_cell rfl rfl ty_29 (by rw [check_no (.inr (.inr (.inr (.inl g35))))])) (rv_tmp (ret_eq rfl (by rw [check_no (.inr (.inr (.inr (.inl g35))))])))
    ·
     refine A1 (oFp fd_53_2) ?_; refine A1 (oLb L_Total_n ty_3) ?_; refine A1 o_neq ?_; refine A0 oK ?_; refine CN ?_
     refine aw_ifc (p := ¬ leaf.n = 1) rfl (by simp [IntL.toI]) (fun ht39 => ?_) (fun ht39 => ?_)
     ·
      refine CQR ?_; refine A0 (g_buildZ rfl ar_29 ze_29 rfl) ?_; refine aw_store_b rfl rfl rfl rfl rfl (Lens.self _) ty_29 rfl ?_; refine A0 aV ?_; refine CN ?_
      exact aw_retr2 rfl rfl (rv_cell rfl rfl ty_29 (by rw [check_no (.inr (.inr (.inr (.inr (.inl ht39)))))])) (rv_tmp (ret_eq rfl (by rw [check_no (.inr (.inr (.inr (.inr (.inl ht39)))))])))
     ·
      obtain ⟨q, rfl⟩ : ∃ q : Nat, i = q := ⟨i.toNat, by omega⟩
      obtain ⟨N, hN⟩ : ∃ N : Nat, root.n = N := ⟨root.n.toNat, by omega⟩
      have hsl : (stepsOf N q).length = (spans 0 N q).length := by unfold stepsOf; rw [List.length_map]
      refine CSQR ?_; refine A0 (oFp fd_53_2) ?_; refine A0 (oLb L_Total_n ty_3) ?_; refine aw_reval (d := 42) (y := (N : Int)) rfl hN ?_; refine A0 mV ?_
      refine A0 (oCl (tells_pub (steps_ok N q (by omega))) rfl fn_38 ⟨(arg_v rfl), (arg_v rfl), trivial⟩) ?_; refine A0 aX ?_; refine CNQQR ?_; refine A0 mX ?_
      refine A0 (by first | exact g_len rfl rfl isl_92 | exact g_len_o rfl rfl rfl isl_92 | exact g_len_nil rfl rfl isl_92) ?_; refine A0 mV ?_; refine A0 (g_len rfl rfl isl_49) ?_; refine A0 o_neq ?_; refine CN ?_
      refine aw_ifc (p := ¬ (stepsOf N q).length = path.length) rfl (by simp [IntL.toI]; omega) (fun ht49 => ?_) (fun ht49 => ?_)
      ·
       refine CQR ?_; refine A0 (g_buildZ rfl ar_29 ze_29 rfl) ?_; refine aw_store_b rfl rfl rfl rfl rfl (Lens.self _) ty_29 rfl ?_; refine A0 aV ?_; refine CN ?_
       exact aw_retr2 rfl rfl (rv_cell rfl rfl ty_29 (by rw [check_no (.inr (.inr (.inr (.inr (.inr (by rw [hN, Int.toNat_natCast, Int.toNat_natCast, ← hsl]; exact ht49))))))])) (rv_tmp (ret_eq rfl (by rw [check_no (.inr (.inr (.inr (.inr (.inr (by rw [hN, Int.toNat_natCast, Int.toNat_natCast, ← hsl]; exact ht49))))))])))
      ·
       have hcg := check_go (q := q) (path := path) hN (by omega) (by omega) (by omega) (Classical.not_not.1 ht39) (by omega)
       refine CSQR ?_; refine aw_alloc ze_29 rfl rfl rfl rfl ?_; refine CNQQR ?_; refine A0 mX ?_; refine A0 (by first | exact g_len rfl rfl isl_92 | exact g_len_o rfl rfl rfl isl_92 | exact g_len_nil rfl rfl isl_92) ?_; refine A0 mV ?_
       refine CNB ?_
       refine Lp (ι := Nat × Total × Wide) 4 (fun (i : Nat × Total × Wide) => match i with | (k, cur, ah) => (((((((((Fr.none).set 3 (.val (bsl totalT) path)).set 4 (.ptr 0 0)).set 6 (.ptr 1 0)).set 8 (.ptr 2 0)).set 9 (.val boolT false)).set 11 (.ptr 3 0)).set 51 (.val (sl mStepT) (stepsOf N q))).set 52 (.val i64T ((stepsOf N q).length : Int))).set 53 (.val i64T (k : Int))) (fun (i : Nat × Total × Wide) => match i with | (k, cur, ah) => ((((Hp.none).set 0 (.box 53 totalT root)).set 1 (.box 53 totalT cur)).set 2 (.box 29 wideT zWide)).set 3 (.box 29 wideT ah)) (fun (i : Nat × Total × Wide) => match i with | (k, cur, ah) => k ≤ (stepsOf N q).length ∧ chkF (spans 0 N q) path leaf zWide = chkF ((spans 0 N q).drop k) (path.drop k) cur ah) (fun (i : Nat × Total × Wide) => match i with | (k, cur, ah) => (stepsOf N q).length - k) ((0, leaf, zWide)) (⟨Nat.zero_le _, rfl⟩) ?_
       intro ⟨k, cur, ah⟩ hinv
       dsimp only at hinv
       refine CQR ?_; refine A0 o_lss ?_; refine CNQ ?_
       refine Cf (p := k < (stepsOf N q).length) (fun ht54 => ?_) (fun ht54 => ?_)
       ·
        obtain ⟨s, hs⟩ : ∃ s, (spans 0 N q)[k]? = some s := ⟨_, List.getElem?_eq_getElem (by omega)⟩
        have hsx : (stepsOf N q)[k]? = some (toStep s) := by unfold stepsOf; rw [List.getElem?_map, hs]; rfl
        obtain ⟨x, hx⟩ : ∃ x, path[k]? = some x := ⟨_, List.getElem?_eq_getElem (by omega)⟩
        have hst := chk_step (cur := cur) (ah := ah) hs hx
        refine CSQBQR ?_; refine A0 mV ?_; refine A0 (g_ia_i (i := k) rfl rfl rfl (by omega) sl_92 (by assumption)) ?_; refine A0 (g_load_r rfl rfl ty_97) ?_; refine aw_alloc ze_97 rfl rfl rfl rfl ?_; refine A0 aV ?_
        refine aw_store_b rfl rfl rfl rfl rfl (Lens.self _) ty_97 rfl ?_; refine CNQR ?_; refine A0 mV ?_; refine A0 mV ?_; refine A0 (g_ia_i (i := k) rfl rfl rfl (by omega) sl_49 (by assumption)) ?_; refine A0 (g_load_r rfl rfl ty_53) ?_
        refine aw_alloc ze_53 rfl rfl rfl rfl ?_; refine aw_store_b rfl rfl rfl rfl rfl (Lens.self _) ty_53 rfl ?_; refine CNQQR ?_; refine A0 (oFp fd_53_1) ?_; refine A0 (oLb L_Total_w ty_29) ?_; refine A0 (oFp fd_53_1) ?_
        refine A0 (oLb L_Total_w ty_29) ?_; refine A0 (oCl (addW_ok cur.w x.w) rfl fn_19 ⟨(arg_v rfl), (arg_v rfl), trivial⟩) ?_; refine A0 mX ?_; refine A0 (by first | exact g_x20 rfl rfl | exact g_x30 rfl rfl) ?_
        refine A0 (by first | exact g_x21 rfl rfl | exact g_x31 rfl rfl) ?_; refine aw_alloc ze_29 rfl rfl rfl rfl ?_; refine aw_store_b rfl rfl rfl rfl rfl (Lens.self _) ty_29 rfl ?_; refine A0 aV ?_; refine CNQR ?_; refine A0 mV ?_; refine A0 oN ?_
        refine A0 mV ?_
        refine aw_splitp (d := 72) (p := addOk cur.w x.w = false) rfl (by cases addOk cur.w x.w <;> rfl) (fun g72 => ?_) (fun g72 => ?_)
        ·
         refine A2 ?_; refine A2 ?_; refine A2 ?_; refine A2 ?_; refine A2 ?_; refine A2 ?_; refine A0 oK ?_; refine CN ?_; refine Ct ?_; refine CQR ?_; refine A0 (g_buildZ rfl ar_29 ze_29 rfl) ?_
         refine aw_store_b rfl rfl rfl rfl rfl (Lens.self _) ty_29 rfl ?_; refine A0 aV ?_; refine CN ?_
         exact aw_retr2 rfl rfl (rv_cell rfl rfl ty_29 (by rw [hcg, hinv.2, hst, if_pos (.inl g72)])) (rv_tmp (ret_eq rfl (by rw [hcg, hinv.2, hst, if_pos (.inl g72)])))
        ·
         refine A1 (oFp fd_53_2) ?_; refine A1 (oLb L_Total_n ty_3) ?_; refine A1 (oFp fd_97_0) ?_; refine A1 (oFp fd_95_1) ?_; refine A1 (oLb (L_MStep_span.comp L_Span_many) ty_3) ?_; refine A1 o_neq ?_; refine A0 oK ?_; refine CN ?_
         refine aw_ifc (p := ¬ x.n = (s.2.1 : Int)) rfl (by simp [IntL.toI]; rfl) (fun ht79 => ?_) (fun ht79 => ?_)
         ·
          refine CQR ?_; refine A0 (g_buildZ rfl ar_29 ze_29 rfl) ?_; refine aw_store_b rfl rfl rfl rfl rfl (Lens.self _) ty_29 rfl ?_; refine A0 aV ?_; refine CN ?_
          exact aw_retr2 rfl rfl (rv_cell rfl rfl ty_29 (by rw [hcg, hinv.2, hst, if_pos (.inr ht79)])) (rv_tmp (ret_eq rfl (by rw [hcg, hinv.2, hst, if_pos (.inr ht79)])))
         ·
          refine CSQQR ?_; refine A0 (oFp fd_97_1) ?_; refine A0 (oLb L_MStep_left ty_4) ?_; refine CN ?_
          refine aw_ifc (p := s.2.2 = true) rfl (by cases s; rename_i a b; cases b; rename_i b c; cases c <;> rfl) (fun ht82 => ?_) (fun ht82 => ?_)
          ·
           refine CQR ?_; refine A0 (oLs rfl rfl rfl ty_53) ?_; refine A0 (oLs rfl rfl rfl ty_53) ?_; refine A0 (oCl (join_ok cur x) rfl fn_39 ⟨(arg_v rfl), (arg_v rfl), trivial⟩) ?_; refine aw_store_b rfl rfl rfl rfl rfl (Lens.self _) ty_53 rfl ?_
           refine CN ?_; refine CE ?_; refine CR ?_; refine A0 o_add ?_; refine A0 mV ?_; refine CN ?_
           exact Nx ((k + 1, joinT cur x, ah)) (by first | exact ⟨by omega, by rw [hinv.2, hst, if_neg (fun h => h.elim g72 ht79), if_pos ht82]⟩ | exact ⟨by omega, by rw [hinv.2, hst, if_neg (fun h => h.elim g72 ht79), if_neg ht82]⟩) (by show (stepsOf N q).length - (k + 1) < (stepsOf N q).length - k; omega)
          ·
           refine CSQR ?_; refine A0 (oLs rfl rfl rfl ty_53) ?_; refine A0 (oLs rfl rfl rfl ty_53) ?_; refine A0 (oCl (join_ok x cur) rfl fn_39 ⟨(arg_v rfl), (arg_v rfl), trivial⟩) ?_; refine aw_store_b rfl rfl rfl rfl rfl (Lens.self _) ty_53 rfl ?_
           refine CNR ?_; refine A0 (oLs rfl rfl rfl ty_29) ?_; refine A0 (oFp fd_53_1) ?_; refine A0 (oLb L_Total_w ty_29) ?_; refine A0 (oCl (addW_ok ah x.w) rfl fn_19 ⟨(arg_v rfl), (arg_v rfl), trivial⟩) ?_; refine A0 mX ?_
           refine A0 (by first | exact g_x20 rfl rfl | exact g_x30 rfl rfl) ?_; refine A0 (by first | exact g_x21 rfl rfl | exact g_x31 rfl rfl) ?_; refine aw_store_b rfl rfl rfl rfl rfl (Lens.self _) ty_29 rfl ?_; refine CNIR ?_; refine A0 o_add ?_
           refine A0 mV ?_; refine CN ?_
           exact Nx ((k + 1, joinT x cur, addW ah x.w)) (by first | exact ⟨by omega, by rw [hinv.2, hst, if_neg (fun h => h.elim g72 ht79), if_pos ht82]⟩ | exact ⟨by omega, by rw [hinv.2, hst, if_neg (fun h => h.elim g72 ht79), if_neg ht82]⟩) (by show (stepsOf N q).length - (k + 1) < (stepsOf N q).length - k; omega)
       ·
        refine CE ?_; refine CQQR ?_; refine A0 (oLs rfl rfl rfl ty_53) ?_; refine A0 (oLs rfl rfl rfl ty_53) ?_; refine A0 (g_neqS rfl rfl rfl (eqt_53)) ?_; refine CN ?_
        refine aw_ifc (p := ¬ cur = root) rfl (by simp) (fun ht99 => ?_) (fun ht99 => ?_)
        ·
         refine CQR ?_; refine A0 (g_buildZ rfl ar_29 ze_29 rfl) ?_; refine aw_store_b rfl rfl rfl rfl rfl (Lens.self _) ty_29 rfl ?_; refine A0 aV ?_; refine CN ?_
         exact aw_retr2 rfl rfl (rv_cell rfl rfl ty_29 (by rw [hcg, hinv.2, chk_end (by omega)]; simp only []; rw [if_neg ht99])) (rv_tmp (ret_eq rfl (by rw [hcg, hinv.2, chk_end (by omega)]; simp only []; rw [if_neg ht99])))
        ·
         refine CSQR ?_; refine A0 (oLs rfl rfl rfl ty_29) ?_; refine aw_store_b rfl rfl rfl rfl rfl (Lens.self _) ty_29 rfl ?_; refine A0 aV ?_; refine CN ?_
         exact aw_retr2 rfl rfl (rv_cell rfl rfl ty_29 (by rw [hcg, hinv.2, chk_end (by omega)]; simp only []; rw [if_pos (Classical.not_not.1 ht99)])) (rv_tmp (ret_eq rfl (by rw [hcg, hinv.2, chk_end (by omega)]; simp only []; rw [if_pos (Classical.not_not.1 ht99)])))
theorem locate_ok (l : List Total) (z : Wide) : Tells P 22 [.val (bsl totalT) l, .val wideT z] (.val i64T (locOf l z)) := by
 refine fn_of_aw Tryz.func22 rfl rfl rfl (fun ext w hext => ?_)
 refine aw_fact (d := 0) rfl fact_sl (fun hsl0 => ?_)
 refine CQR ?_; refine aw_box rfl rfl rfl rfl rfl ?_; refine A0 aV ?_; refine CNQR ?_; refine aw_alloc ze_29 rfl rfl rfl rfl ?_; refine CNQQR ?_; refine A0 mV ?_; refine A0 (g_len rfl rfl isl_49) ?_; refine A0 mV ?_; refine CNB ?_
 refine Lp (ι := Nat × Wide) 2 (fun (i : Nat × Wide) => match i with | (k, s) => (((((Fr.none).set 3 (.ptr 0 0)).set 5 (.ptr 1 0)).set 10 (.val (bsl totalT) l)).set 11 (.val i64T (l.length : Int))).set 12 (.val i64T (k : Int))) (fun (i : Nat × Wide) => match i with | (k, s) => ((Hp.none).set 0 (.box 29 wideT z)).set 1 (.box 29 wideT s)) (fun (i : Nat × Wide) => match i with | (k, s) => k ≤ l.length ∧ locOf l z = locF z (l.drop k) s k) (fun (i : Nat × Wide) => match i with | (k, s) => l.length - k) ((0, zWide)) (⟨Nat.zero_le _, rfl⟩) ?_
 intro ⟨k, s⟩ hinv
 dsimp only at hinv
 refine CQR ?_; refine A0 o_lss ?_; refine CNQ ?_
 refine Cf (p := k < l.length) (fun ht13 => ?_) (fun ht13 => ?_)
 ·
  obtain ⟨x, hx⟩ : ∃ x, l[k]? = some x := ⟨_, List.getElem?_eq_getElem ht13⟩
  refine CSQBQR ?_; refine A0 mV ?_; refine A0 (g_ia_i (i := k) rfl rfl rfl (by omega) sl_49 (by assumption)) ?_; refine A0 (g_load_r rfl rfl ty_53) ?_; refine aw_alloc ze_53 rfl rfl rfl rfl ?_; refine A0 aV ?_
  refine aw_store_b rfl rfl rfl rfl rfl (Lens.self _) ty_53 rfl ?_; refine CNQR ?_; refine A0 (oLs rfl rfl rfl ty_29) ?_; refine A0 (oFp fd_53_1) ?_; refine A0 (oLb L_Total_w ty_29) ?_
  refine A0 (oCl (addW_ok s x.w) rfl fn_19 ⟨(arg_v rfl), (arg_v rfl), trivial⟩) ?_; refine A0 mX ?_; refine A0 (by first | exact g_x20 rfl rfl | exact g_x30 rfl rfl) ?_; refine A0 (by first | exact g_x21 rfl rfl | exact g_x31 rfl rfl) ?_
  refine aw_alloc ze_29 rfl rfl rfl rfl ?_; refine aw_store_b rfl rfl rfl rfl rfl (Lens.self _) ty_29 rfl ?_; refine A0 aV ?_; refine CNQ ?_; refine CB ?_; refine CQR ?_; refine A0 mV ?_; refine A0 oN ?_; refine A0 aV ?_; refine CN ?_
  refine aw_ifc (p := addOk s x.w = false) rfl (by cases addOk s x.w <;> rfl) (fun ht24 => ?_) (fun ht24 => ?_)
  ·
   refine CQR ?_; refine A0 aV ?_; refine CN ?_
   exact aw_ret1 rfl rfl (ret_eq rfl (hinv.2.trans (loc_no hx ht24)).symm)
  ·
   refine CQR ?_; refine A0 (oLs rfl rfl rfl ty_29) ?_; refine A0 (oLs rfl rfl rfl ty_29) ?_; refine A0 (oCl (cmpW_ok (addW s x.w) z) rfl fn_20 ⟨(arg_v rfl), (arg_v rfl), trivial⟩) ?_; refine A0 o_gtr ?_; refine A0 aV ?_; refine CN ?_
   refine Cf (p := 0 < cmpW (addW s x.w) z) (fun ht27 => ?_) (fun ht27 => ?_)
   ·
    refine CQR ?_; refine A0 mV ?_; refine A0 aV ?_; refine CN ?_
    exact aw_ret1 rfl rfl (ret_eq rfl (hinv.2.trans (loc_yes hx ht24 ht27)).symm)
   ·
    refine CSIR ?_; refine A0 (oLs rfl rfl rfl ty_29) ?_; refine aw_store_b rfl rfl rfl rfl rfl (Lens.self _) ty_29 rfl ?_; refine CNIR ?_; refine A0 o_add ?_; refine A0 mV ?_; refine CN ?_
    exact Nx ((k + 1, addW s x.w)) (⟨by omega, hinv.2.trans (loc_go hx ht24 ht27)⟩) (by show l.length - (k + 1) < l.length - k; omega)
 ·
  refine CE ?_; refine CQR ?_; refine A0 aV ?_; refine CN ?_
  exact aw_ret1 rfl rfl (ret_eq rfl (hinv.2.trans (loc_end (by omega))).symm)
theorem splace_ok (x : STrial) : Tells P 30 [.rptr sTrialT x] (.val i64T (placeSE x)) := by
 refine fn_of_aw Tryz.func30 rfl rfl rfl (fun ext w hext => ?_)
 refine CQR ?_; refine A0 aV ?_; refine CNQ ?_; refine CQ ?_; refine CD mixed ?_; refine G0 mR ?_; refine G0 (g_nc_r rfl rfl) ?_; refine G0 (oFr fd_80_1 L_STrial_s) ?_; refine G0 (oFr fd_51_1 L_Sample_h) ?_
 refine G0 (oFr fd_32_0 L_Head_height) ?_; refine G0 (g_load_r rfl rfl ty_3) ?_; refine G0 mR ?_; refine G0 (g_nc_r rfl rfl) ?_; refine G0 (oFr fd_80_1 L_STrial_s) ?_; refine G0 (oFr fd_51_0 L_Sample_i) ?_; refine G0 (g_load_r rfl rfl ty_3) ?_
 refine G0 o_neq ?_; refine GK.nil ?_
 refine aw_ifc (p := ¬ x.s.h.height = x.s.i) rfl (by simp [IntL.toI]) (fun ht14 => ?_) (fun ht14 => ?_)
 ·
  refine CQR ?_; refine A0 aV ?_; refine CN ?_
  exact aw_ret1 rfl rfl (ret_eq rfl (by unfold placeSE; rw [if_pos ht14]))
 ·
  refine CSQR ?_; refine A0 aV ?_; refine CN ?_
  exact aw_ret1 rfl rfl (ret_eq rfl (by unfold placeSE; rw [if_neg ht14]))
theorem swork_ok (x : STrial) : Tells P 31 [.rptr sTrialT x] (.val i64T (workSE x)) := by
 refine fn_of_aw Tryz.func31 rfl rfl rfl (fun ext w hext => ?_)
 refine CQR ?_; refine A0 aV ?_; refine CNQQR ?_; refine A0 mR ?_; refine A0 (g_nc_r rfl rfl) ?_; refine A0 (oFr fd_80_1 L_STrial_s) ?_; refine A0 (oFr fd_51_1 L_Sample_h) ?_; refine A0 (g_load_r rfl rfl ty_32) ?_
 refine A0 (oCl (headMay_ok _) rfl fn_29 ⟨(by first | exact arg_same rfl | exact arg_bsl rfl | exact arg_own rfl rfl | exact arg_nil rfl | exact arg_rptr rfl | exact arg_fn rfl rfl | exact arg_lit rfl), trivial⟩) ?_; refine A0 oN ?_
 refine CN ?_
 refine aw_ifc (p := ¬ headMay x.s.h = true) rfl (by cases headMay x.s.h <;> rfl) (fun ht9 => ?_) (fun ht9 => ?_)
 ·
  refine CQR ?_; refine A0 aV ?_; refine CN ?_
  exact aw_ret1 rfl rfl (ret_eq rfl (by unfold workSE; rw [if_pos ht9]))
 ·
  refine CSQR ?_; refine A0 aV ?_; refine CN ?_
  exact aw_ret1 rfl rfl (ret_eq rfl (by unfold workSE; rw [if_neg ht9]))
theorem sroot_ok (x : STrial) : Tells P 32 [.rptr sTrialT x] (.val i64T (rootSE x)) := by
 obtain ⟨c, hc⟩ : ∃ c, c = mmrCheck ⟨x.tip.past, x.tip.work, x.tip.height⟩ x.s.i (leafH x.s.h) x.s.path := ⟨_, rfl⟩
 have hck := mcheck_ok ⟨x.tip.past, x.tip.work, x.tip.height⟩ x.s.i (leafH x.s.h) x.s.path
 rw [← hc] at hck
 refine fn_of_aw Tryz.func32 rfl rfl rfl (fun ext w hext => ?_)
 refine CQR ?_; refine A0 aV ?_; refine CNQ ?_
 refine aw_drawx [some 1000001, some 1000001, some 1000001, some 1000001, some 1000001, some 1000001, some 1000001, some 1000001, some 1000001, some 1000001, some 1000001, some 1000001, some 1000001, none, none] mixed (by decide +kernel) ?_
 refine XK.ga (fun _ => g_mr (.inl rfl) rfl) rfl rfl rfl ?_; refine XK.ga (fun _ => g_nc_r rfl rfl) rfl rfl rfl ?_; refine XK.ga (fun _ => g_fa_r rfl rfl fd_80_1 L_STrial_s) rfl rfl rfl ?_
 refine XK.ga (fun _ => g_fa_r rfl rfl fd_51_1 L_Sample_h) rfl rfl rfl ?_; refine XK.ga (fun _ => g_load_r rfl rfl ty_32) rfl rfl rfl ?_
 refine XK.ga (fun _ => g_call (headId_ok _) rfl fn_15 ⟨(by first | exact arg_same rfl | exact arg_bsl rfl | exact arg_own rfl rfl | exact arg_nil rfl | exact arg_rptr rfl | exact arg_fn rfl rfl | exact arg_lit rfl), trivial⟩ rfl) rfl rfl rfl ?_
 refine XK.ga (fun _ => g_mr (.inl rfl) rfl) rfl rfl rfl ?_; refine XK.ga (fun _ => g_nc_r rfl rfl) rfl rfl rfl ?_; refine XK.ga (fun _ => g_fa_r rfl rfl fd_80_1 L_STrial_s) rfl rfl rfl ?_
 refine XK.ga (fun _ => g_fa_r rfl rfl fd_51_1 L_Sample_h) rfl rfl rfl ?_; refine XK.ga (fun _ => g_load_r rfl rfl ty_32) rfl rfl rfl ?_
 refine XK.ga (fun _ => g_call (headWork_ok _) rfl fn_17 ⟨(by first | exact arg_same rfl | exact arg_bsl rfl | exact arg_own rfl rfl | exact arg_nil rfl | exact arg_rptr rfl | exact arg_fn rfl rfl | exact arg_lit rfl), trivial⟩ rfl) rfl rfl rfl ?_
 refine XK.ga (fun _ => g_call (mleaf_ok (headId x.s.h) (headWork x.s.h)) rfl fn_16 ⟨(arg_v rfl), (arg_v rfl), trivial⟩ rfl) rfl rfl rfl ?_; refine XK.e (fun fr' hfr kk H => by exact aw_alloc ze_53 rfl rfl rfl rfl (aw_nil H)) ?_
 refine XK.e (x := .idk) (fun fr' hfr kk H => by exact aw_store_b rfl rfl rfl ((hfr 3 (by decide +kernel)).trans rfl) rfl (Lens.self _) ty_53 ((hfr 20 (by decide +kernel)).trans rfl) (aw_nil H)) ?_; refine XK.nil' ?_; refine CQ ?_
 refine aw_drawx [some 1000001, some 1000001, some 1000001, some 1000001, some 1000001, some 1000001, some 1000001, some 1000001, some 1000001, some 1000001, some 1000001, some 1000001, some 1000001, some 1000001, some 1000001, some 1000001, some 1000001, some 1000001, some 1000001, some 1000001, some 1000001, some 1000001, some 1000001, some 1000001, some 1000001, some 1000001, some 1000001, some 1000001, some 1000001, some 1000001, some 1000001, none, none, some 1] mixed (by decide +kernel) ?_
 refine XK.ga (fun _ => g_mr (.inl rfl) rfl) rfl rfl rfl ?_; refine XK.ga (fun _ => g_nc_r rfl rfl) rfl rfl rfl ?_; refine XK.ga (fun _ => g_fa_r rfl rfl fd_80_0 L_STrial_tip) rfl rfl rfl ?_
 refine XK.ga (fun _ => g_fa_r rfl rfl fd_32_4 L_Head_past) rfl rfl rfl ?_; refine XK.ga (fun _ => g_load_r rfl rfl ty_26) rfl rfl rfl ?_; refine XK.ga (fun _ => g_mr (.inl rfl) rfl) rfl rfl rfl ?_
 refine XK.ga (fun _ => g_nc_r rfl rfl) rfl rfl rfl ?_; refine XK.ga (fun _ => g_fa_r rfl rfl fd_80_0 L_STrial_tip) rfl rfl rfl ?_; refine XK.ga (fun _ => g_fa_r rfl rfl fd_32_5 L_Head_work) rfl rfl rfl ?_
 refine XK.ga (fun _ => g_load_r rfl rfl ty_29) rfl rfl rfl ?_; refine XK.ga (fun _ => g_mr (.inl rfl) rfl) rfl rfl rfl ?_; refine XK.ga (fun _ => g_nc_r rfl rfl) rfl rfl rfl ?_
 refine XK.ga (fun _ => g_fa_r rfl rfl fd_80_0 L_STrial_tip) rfl rfl rfl ?_; refine XK.ga (fun _ => g_fa_r rfl rfl fd_32_0 L_Head_height) rfl rfl rfl ?_; refine XK.ga (fun _ => g_load_r rfl rfl ty_3) rfl rfl rfl ?_
 refine XK.ga (fun _ => g_build rfl ze_53 bd_53 (.cons fd_53_0 L_Total_h ty_26 rfl (.cons fd_53_1 L_Total_w ty_29 rfl (.cons fd_53_2 L_Total_n ty_3 rfl .nil))) rfl) rfl rfl rfl ?_; refine XK.ga (fun _ => g_mr (.inl rfl) rfl) rfl rfl rfl ?_
 refine XK.ga (fun _ => g_nc_r rfl rfl) rfl rfl rfl ?_; refine XK.ga (fun _ => g_fa_r rfl rfl fd_80_1 L_STrial_s) rfl rfl rfl ?_; refine XK.ga (fun _ => g_fa_r rfl rfl fd_51_0 L_Sample_i) rfl rfl rfl ?_
 refine XK.ga (fun _ => g_load_r rfl rfl ty_3) rfl rfl rfl ?_; refine XK.gf (t := 3) rfl rfl (fun _ he => g_load_b rfl rfl he (Lens.self _) ty_53) ⟨rfl, trivial⟩ rfl rfl rfl ?_; refine XK.ga (fun _ => g_mr (.inl rfl) rfl) rfl rfl rfl ?_
 refine XK.ga (fun _ => g_nc_r rfl rfl) rfl rfl rfl ?_; refine XK.ga (fun _ => g_fa_r rfl rfl fd_80_1 L_STrial_s) rfl rfl rfl ?_; refine XK.ga (fun _ => g_fa_r rfl rfl fd_51_2 L_Sample_path) rfl rfl rfl ?_
 refine XK.ga (fun _ => g_load_r rfl rfl ty_49) rfl rfl rfl ?_
 refine XK.ga (fun _ => g_call (hck) rfl fn_18 ⟨(arg_v rfl), (by first | exact arg_same rfl | exact arg_bsl rfl | exact arg_own rfl rfl | exact arg_nil rfl | exact arg_rptr rfl | exact arg_fn rfl rfl | exact arg_lit rfl), (arg_v rfl), (by first | exact arg_same rfl | exact arg_bsl rfl | exact arg_own rfl rfl | exact arg_nil rfl | exact arg_rptr rfl | exact arg_fn rfl rfl | exact arg_lit rfl), trivial⟩ rfl) rfl rfl rfl ?_
 refine XK.ga (fun _ => by first | exact g_mv (.inl rfl) rfl | exact g_mp (.inl rfl) rfl | exact g_mo (.inl rfl) rfl | exact g_ml (.inl rfl) rfl | exact g_mc (.inl rfl) rfl | exact g_mr (.inl rfl) rfl | exact g_mf1 (.inl rfl) rfl | exact g_mf2 (.inl rfl) rfl | exact g_mw (.inl rfl) rfl | exact g_me (.inl rfl) rfl | exact g_ms (.inl rfl) rfl | exact g_mt2 (.inl rfl) rfl | exact g_mt3 (.inl rfl) rfl | exact g_mi (.inl rfl) rfl) rfl rfl rfl ?_
 refine XK.ga (fun _ => by first | exact g_x20 rfl rfl | exact g_x30 rfl rfl) rfl rfl rfl ?_; refine XK.ga (fun _ => by first | exact g_x21 rfl rfl | exact g_x31 rfl rfl) rfl rfl rfl ?_
 refine XK.e (fun fr' hfr kk H => by exact aw_alloc ze_29 rfl rfl rfl rfl (aw_nil H)) ?_
 refine XK.e (x := .idk) (fun fr' hfr kk H => by exact aw_store_b rfl rfl rfl ((hfr 4 (by decide +kernel)).trans rfl) rfl (Lens.self _) ty_29 ((hfr 50 (by decide +kernel)).trans rfl) (aw_nil H)) ?_; refine X0 aX ?_
 refine XK.nilp ⟨⟨hpB rfl rfl, hpB rfl rfl, trivial⟩, trivial⟩ ?_; refine CQR ?_; refine A0 (oLs rfl rfl rfl ty_29) ?_; refine A0 (oFp fd_53_1) ?_; refine A0 (oLb L_Total_w ty_29) ?_
 refine A0 (oCl (addW_ok c.1 (leafH x.s.h).w) rfl fn_19 ⟨(arg_v rfl), (arg_v rfl), trivial⟩) ?_; refine A0 mX ?_; refine A0 (by first | exact g_x20 rfl rfl | exact g_x30 rfl rfl) ?_
 refine A0 (by first | exact g_x21 rfl rfl | exact g_x31 rfl rfl) ?_; refine aw_alloc ze_29 rfl rfl rfl rfl ?_; refine aw_store_b rfl rfl rfl rfl rfl (Lens.self _) ty_29 rfl ?_; refine A0 aV ?_; refine CNQ ?_; refine CQ ?_; refine CD mixed ?_
 refine G0 mX ?_; refine G0 oN ?_; refine G0 mV ?_
 refine GK_splitp (d := 61) (p := c.2 = false) rfl (by cases c.2 <;> rfl) (fun g61 => ?_) (fun g61 => ?_)
 ·
  refine G2 ?_; refine G2 ?_; refine G2 ?_; refine G2 ?_; refine G2 ?_; refine G2 ?_; refine G2 ?_; refine G0 oK ?_; refine G0 mV ?_; refine G2 ?_; refine G2 ?_; refine G2 ?_; refine G2 ?_; refine G2 ?_; refine G2 ?_; refine G2 ?_
  refine G0 oK ?_; refine GK.nil ?_; refine Ct ?_; refine CQR ?_; refine A0 aV ?_; refine CN ?_
  exact aw_ret1 rfl rfl (ret_eq rfl (by unfold rootSE; rw [← hc, if_pos (.inl g61)]))
 ·
  refine G1 mR ?_; refine G1 (g_nc_r rfl rfl) ?_; refine G1 (oFr fd_80_2 L_STrial_pick) ?_; refine G1 (g_load_r rfl rfl ty_29) ?_; refine G1 (oLs rfl rfl rfl ty_29) ?_
  refine G1 (oCl (cmpW_ok _ _) rfl fn_20 ⟨(by first | exact arg_same rfl | exact arg_bsl rfl | exact arg_own rfl rfl | exact arg_nil rfl | exact arg_rptr rfl | exact arg_fn rfl rfl | exact arg_lit rfl), (arg_v rfl), trivial⟩) ?_
  refine G1 o_lss ?_; refine G0 oK ?_; refine G0 mV ?_
  refine GK_splitp (d := 70) (p := cmpW x.pick c.1 < 0) rfl (by first | rfl | (rw [decide_eq_decide]; simp only [IntL.toI, id_eq]; omega) | (simp [IntL.toI]; done) | (simp [IntL.toI]; omega)) (fun g70 => ?_) (fun g70 => ?_)
  ·
   refine G2 ?_; refine G2 ?_; refine G2 ?_; refine G2 ?_; refine G2 ?_; refine G2 ?_; refine G2 ?_; refine G0 oK ?_; refine GK.nil ?_; refine Ct ?_; refine CQR ?_; refine A0 aV ?_; refine CN ?_
   exact aw_ret1 rfl rfl (ret_eq rfl (by unfold rootSE; rw [← hc, if_pos (.inr (.inl g70))]))
  ·
   refine G1 mR ?_; refine G1 (g_nc_r rfl rfl) ?_; refine G1 (oFr fd_80_2 L_STrial_pick) ?_; refine G1 (g_load_r rfl rfl ty_29) ?_; refine G1 (oLs rfl rfl rfl ty_29) ?_
   refine G1 (oCl (cmpW_ok _ _) rfl fn_20 ⟨(by first | exact arg_same rfl | exact arg_bsl rfl | exact arg_own rfl rfl | exact arg_nil rfl | exact arg_rptr rfl | exact arg_fn rfl rfl | exact arg_lit rfl), (arg_v rfl), trivial⟩) ?_
   refine G1 o_geq ?_; refine G0 oK ?_; refine GK.nil ?_
   refine Cf (p := 0 ≤ cmpW x.pick (addW c.1 (leafH x.s.h).w)) (fun ht78 => ?_) (fun ht78 => ?_)
   ·
    refine CQR ?_; refine A0 aV ?_; refine CN ?_
    exact aw_ret1 rfl rfl (ret_eq rfl (by unfold rootSE; rw [← hc, if_pos (.inr (.inr ht78))]))
   ·
    refine CSQR ?_; refine A0 aV ?_; refine CN ?_
    exact aw_ret1 rfl rfl (ret_eq rfl (by unfold rootSE; rw [← hc, if_neg (fun h => h.elim g61 (fun h => h.elim g70 ht78))]))
end Go.Proofs.YtdakocblfaojnaaGreat
set_option maxRecDepth 20000
namespace Go.Proofs.YtdakocblfaojnaaGreat
set_option linter.unusedVariables false
set_option linter.unusedSimpArgs false
open Go.Ab Go.RowKit
theorem fact_id32 {x : Ab.Id} {ρ : Nat → Value} {B : Nat → Prop} {U N : Nat → Prop} {w : World} {v : Value} (hv : (AV.val idT x).rel ρ B U N w v) : x.length = 32 := by
  obtain ⟨cs, h, _⟩ := hv
  exact h.1
theorem zn_46 : ZeroAt P 46 nilT () := zeroAt_one zero_nil (by kernel_rfl)
theorem picks_none {seed : Ab.Id} {below : Wide} {n : Int} (h : ¬ (1 ≤ n ∧ n ≤ 20 ∧ below ≠ zWide)) : picksOf seed below n = [] := by unfold picksOf; rw [if_neg h]
theorem picks_all {seed : Ab.Id} {below : Wide} {n : Int} {k : Nat} (h1 : n ≤ 20) (h2 : below ≠ zWide) (hk : (k : Int) + 1 = n) : (List.range k).map (pickN seed below) ++ [pickN seed below k] = picksOf seed below n := by
  unfold picksOf
  rw [if_pos ⟨by omega, h1, h2⟩, show n.toNat = k + 1 by omega, List.range_succ, List.map_append]; rfl
theorem picks_ok (seed : Ab.Id) (below : Wide) (n : Int) : Tells P 14 [.val idT seed, .val wideT below, .val i64T n] (.fresh 29 wideT (picksOf seed below n)) := by
 refine fn_of_aw Tryz.func14 rfl rfl rfl (fun ext w hext => ?_)
 refine aw_fact (d := 2) rfl fact_int (fun hin2 => ?_)
 refine aw_fact (d := 0) rfl fact_id32 (fun hseed => ?_)
 refine CQR ?_; refine aw_box rfl rfl rfl rfl rfl ?_; refine aw_box rfl rfl rfl rfl rfl ?_; refine aw_box rfl rfl rfl rfl rfl ?_; refine A0 aL ?_; refine CNQQR ?_; refine A0 (oLs rfl rfl rfl ty_3) ?_; refine A0 o_lss ?_; refine A0 mV ?_
 refine Sp (d := 11) (p := n < 1) (fun g11 => ?_) (fun g11 => ?_)
 ·
  refine A2 ?_; refine A2 ?_; refine A0 oK ?_; refine CN ?_; refine Ct ?_; refine CQR ?_; refine A0 aL ?_; refine CN ?_
  exact aw_ret1 rfl rfl (by rw [picks_none (by omega)]; exact ret_fresh_nil rfl)
 ·
  refine A1 (oLs rfl rfl rfl ty_3) ?_; refine A1 o_gtr ?_; refine A0 oK ?_; refine CN ?_
  refine Cf (p := 20 < n) (fun ht14 => ?_) (fun ht14 => ?_)
  ·
   refine CQR ?_; refine A0 aL ?_; refine CN ?_
   exact aw_ret1 rfl rfl (by rw [picks_none (by omega)]; exact ret_fresh_nil rfl)
  ·
   refine CSQR ?_; refine aw_alloc zn_46 rfl rfl rfl rfl ?_; refine CN ?_; refine aw_nilbox 3 29 wideT rfl ?_; refine CQQR ?_; refine A0 (oLs rfl rfl rfl ty_26) ?_; refine A0 (oLs rfl rfl rfl ty_29) ?_
   refine aw_inline rfl rfl rfl rfl Tryz.func33 fn_33 rfl rfl (fun ia2 iok2 => ?_)
   refine CQR ?_; refine aw_box rfl rfl rfl rfl rfl ?_; refine aw_box rfl rfl rfl rfl rfl ?_; refine A0 aL ?_; refine CNQR ?_; refine A0 (g_mkf (caps := [_, _]) rfl rfl) ?_; refine A0 aC ?_; refine CN ?_; refine aw_back1 rfl ?_; refine CNB ?_
   refine aw_range rfl rfl rfl Tryz.func57 fn_57 rfl rfl (by intro n hn; simp only [List.mem_cons, List.not_mem_nil, or_false] at hn; rcases hn with rfl | rfl <;> rfl) (fun fid3 ca3 lN3 DN3 cok3 rc3 hrc3 => ?_)
   refine CQR ?_; refine A0 aV ?_; refine CNB ?_; refine aw_freeze (d := 1) rfl rfl (Lens.self _) ?_; refine aw_freeze (d := 2) rfl rfl (Lens.self _) ?_; refine aw_ren 4 9 10 rfl rfl rfl rfl rfl rfl ?_
   refine Lp (ι := Nat) 10 (fun (k : Nat) => ((((Fr.none).set 0 (.lit (.func (.yield lN3) #[] #[]))).set 1 (.rptr idT seed)).set 2 (.rptr wideT below)).set 4 (.val i64T (k : Int))) (fun (k : Nat) => (((((((Hp.none).set 0 (.box 26 idT seed)).set 1 (.box 29 wideT below)).set 2 (.box 3 i64T n)).set 3 (.parts 46 [.own 9])).set 9 (.row 29 wideT ((List.range k).map (pickN seed below)))).set 7 (.objAt DN3 (.deferred (some [])))).set 8 (.objAt lN3 (rc3 .ready none))) (fun (k : Nat) => (k : Int) < n ∧ (0 < k → below ≠ zWide)) (fun (k : Nat) => n.toNat - k) (0) (⟨by omega, fun h => absurd h (by decide)⟩) ?_
   intro k hinv
   refine CQ ?_; refine CB ?_; refine CQR ?_; refine A0 (g_lend (T := sl u8T) (S := bsl u8T) (g_bslice (T := u8T) (xs := [_]) rfl sl_86 row_86 ⟨rfl, rfl, trivial⟩ rfl rfl)) ?_; refine A0 (g_slice_r rfl rfl ar_26 rfl rfl) ?_; refine A0 mV ?_
   refine A0 (g_cv8 rfl (ui_5) (us_3) rfl) ?_; refine A0 (g_lend (T := sl u8T) (S := bsl u8T) (g_bslice (T := u8T) (xs := [_]) rfl sl_86 row_86 ⟨rfl, rfl, trivial⟩ rfl rfl)) ?_
   refine A0 (g_bslice (T := (bsl u8T)) (xs := [_, _, _]) rfl sl_130 row_130 ⟨rfl, rfl, rfl, rfl, rfl, rfl, trivial⟩ rfl rfl) ?_; refine A0 (oCl (of_ok [[7], seed, [u8OfI (k : Int)]] (by simp [hseed])) rfl fn_35 ⟨(arg_v rfl), trivial⟩) ?_
   refine aw_alloc ze_26 rfl rfl rfl rfl ?_; refine aw_store_b rfl rfl rfl rfl rfl (Lens.self _) ty_26 rfl ?_; refine CNQ ?_
   refine aw_drawf 9 (.box 29 wideT zWide) [some 1000001, some 1000001, some 1000001, some 1000001, some 1000001, some 1000001, some 1000001, some 1000001, none, some 1000002, none, none, some 1] mixed (by decide +kernel) rfl ?_
   refine XKF.gf (t := 5) rfl rfl rfl (fun _ he => g_load_b rfl rfl he (Lens.self _) ty_26) rfl rfl ⟨rfl, trivial⟩ rfl rfl rfl ?_; refine XKF.ga rfl (fun _ => g_call (of32W_ok _) rfl fn_59 ⟨(arg_v rfl), trivial⟩ rfl) rfl rfl rfl rfl ?_
   refine XKF.ga rfl (fun _ => g_load_r rfl rfl ty_29) rfl rfl rfl rfl ?_; refine XKF.ga rfl (fun _ => g_call (divW_ok _ _) rfl fn_58 ⟨(arg_v rfl), (arg_v rfl), trivial⟩ rfl) rfl rfl rfl rfl ?_
   refine XKF.ga rfl (fun _ => by first | exact g_mv (.inl rfl) rfl | exact g_mp (.inl rfl) rfl | exact g_mo (.inl rfl) rfl | exact g_ml (.inl rfl) rfl | exact g_mc (.inl rfl) rfl | exact g_mr (.inl rfl) rfl | exact g_mf1 (.inl rfl) rfl | exact g_mf2 (.inl rfl) rfl | exact g_mw (.inl rfl) rfl | exact g_me (.inl rfl) rfl | exact g_ms (.inl rfl) rfl | exact g_mt2 (.inl rfl) rfl | exact g_mt3 (.inl rfl) rfl | exact g_mi (.inl rfl) rfl) rfl rfl rfl rfl ?_
   refine XKF.ga rfl (fun _ => by first | exact g_x20 rfl rfl | exact g_x30 rfl rfl) rfl rfl rfl rfl ?_; refine XKF.ga rfl (fun _ => by first | exact g_x21 rfl rfl | exact g_x31 rfl rfl) rfl rfl rfl rfl ?_
   refine XKF.ga rfl (fun _ => g_x32 rfl rfl) rfl rfl rfl rfl ?_
   refine XKF.e rfl (fun fr' hfr kk H => by exact aw_alloc ze_29 rfl rfl rfl rfl (aw_nil H)) (EffA.conv (fun fr' hfr kk H => by exact aw_alloc ze_29 rfl rfl rfl rfl (aw_nil H)) (by first | exact hp_out rfl | exact hp_out2 rfl rfl | exact hp_out3 rfl rfl rfl | rfl)) (by exact rfl) (by exact rfl) (by exact rfl) (by (repeat refine av_set ?_ rfl); exact fun _ _ => rfl) ?_
   refine XKF.f rfl ze_29 rfl rfl rfl rfl rfl rfl ?_
   refine XKF.ew (x := .idk) rfl (by decide +kernel) (fun fr' hfr kk H => by exact aw_store_b rfl rfl rfl ((hfr 6 (by decide +kernel)).trans rfl) rfl (Lens.self _) ty_29 ((hfr 23 (by decide +kernel)).trans rfl) (aw_nil H)) (by exact rfl) (by (repeat refine av_set ?_ rfl); exact fun _ _ => rfl) ?_
   refine XKF.ew (x := .idk) rfl (by decide +kernel) (fun fr' hfr kk H => by exact aw_store_b rfl rfl rfl ((hfr 7 (by decide +kernel)).trans rfl) rfl (Lens.self _) ty_29 ((hfr 24 (by decide +kernel)).trans rfl) (aw_nil H)) (by exact rfl) (by (repeat refine av_set ?_ rfl); exact fun _ _ => rfl) ?_
   refine XKF.gw rfl (by decide +kernel) (g_mv (.inr rfl) rfl) rfl rfl rfl ?_; refine XKF.nilp ⟨⟨hpB rfl rfl, hpB rfl rfl, hpB rfl rfl, trivial⟩, trivial⟩ ?_; refine CQR ?_; refine A0 mV ?_; refine A0 oN ?_; refine A0 mV ?_
   refine aw_splitp (d := 28) (p := below = zWide) rfl (by unfold divOk; simp) (fun g28 => ?_) (fun g28 => ?_)
   ·
    refine A2 ?_; refine A2 ?_; refine A2 ?_; refine A2 ?_; refine A0 oK ?_; refine CN ?_; refine Ct ?_; refine aw_iter_ret (nL := 8) rfl hrc3 rfl (by decide) ?_; refine CI ?_; refine CQR ?_
    refine A0 (by first | exact g_load_p rfl rfl rfl rfl rfl ty_46 | exact g_load_pv rfl rfl rfl rfl ty_46) ?_; refine A0 aO ?_; refine CN ?_
    refine aw_of_ar (ar_unmark (nD := 7) rfl rfl rfl ?_)
    exact ar_ret1 rfl rfl (ret_fresh_eq rfl rfl (by obtain rfl : k = 0 := Nat.eq_zero_of_not_pos fun h => hinv.2 h g28; rw [picks_none (fun h => h.2.2 g28)]; rfl))
   ·
    refine A1 mL ?_; refine A1 (oLs rfl rfl rfl ty_29) ?_; refine aw_unguard rfl rfl rfl rfl rfl rfl ?_
    refine aw_yield (nL := 8) rfl rfl rfl rfl rfl hrc3 rfl rfl rfl (fun ya4 yok4 => ?_)
    refine CR ?_; refine aw_alloc ze_29 rfl rfl rfl rfl ?_; refine aw_store_b rfl rfl rfl rfl rfl (Lens.self _) ty_29 rfl ?_; refine CN ?_; refine aw_begin (nL := 8) hrc3 rfl ?_; refine CB ?_; refine CQR ?_
    refine A0 (by first | exact g_load_p rfl rfl rfl rfl rfl ty_46 | exact g_load_pv rfl rfl rfl rfl ty_46) ?_; refine A0 (oLs rfl rfl rfl ty_29) ?_; refine A0 (g_bslice (T := wideT) (xs := [_]) rfl sl_46 row_46 ⟨rfl, rfl, trivial⟩ rfl rfl) ?_
    refine aw_append rfl rfl rfl rfl rfl rfl rfl row_46 (by first | omega | (simp; omega)) ?_; refine aw_store_p rfl rfl rfl rfl rfl rfl rfl rfl rfl rfl ty_46 ?_; refine CNQR ?_
    refine A0 (by first | exact g_load_p rfl rfl rfl rfl rfl ty_46 | exact g_load_pv rfl rfl rfl rfl ty_46) ?_; refine A0 (g_len_o rfl rfl rfl isl_46) ?_; refine A0 (oLs rfl rfl rfl ty_3) ?_; refine A0 o_eql ?_; refine CN ?_
    refine aw_ifc (p := (k : Int) + 1 = n) rfl (by simp [IntL.toI]) (fun ht26 => ?_) (fun ht26 => ?_)
    ·
     refine aw_round_exit (nL := 8) rfl hrc3 rfl ?_; refine A1 oN ?_; refine A0 oK ?_; refine CN ?_; refine Ct ?_; refine aw_iter_ret (nL := 8) rfl hrc3 rfl (by decide) ?_; refine CE ?_; refine CQR ?_
     refine A0 (by first | exact g_load_p rfl rfl rfl rfl rfl ty_46 | exact g_load_pv rfl rfl rfl rfl ty_46) ?_; refine A0 aO ?_; refine CN ?_
     refine aw_of_ar (ar_unmark (nD := 7) rfl rfl rfl ?_)
     exact ar_ret1 rfl rfl (ret_fresh_eq rfl rfl (by rw [← picks_all (by omega) g28 ht26]; unfold pickN; simp))
    ·
     refine CS ?_; refine CI ?_; refine aw_round_end (nL := 8) hrc3 rfl ?_; refine A1 oN ?_; refine A0 oK ?_; refine CN ?_; refine Cg ?_; refine CSIR ?_; refine A0 mV ?_; refine A0 o_add ?_; refine A0 aV ?_; refine CN ?_
     refine aw_ren 14 9 15 rfl rfl rfl rfl rfl rfl ?_; refine aw_rerow (n := 9) (y := (List.range (k + 1)).map (pickN seed below)) rfl (by rw [List.range_succ, List.map_append]; unfold pickN; simp) ?_
     exact Nx (k + 1) (⟨by omega, fun _ => g28⟩) (by omega)
end Go.Proofs.YtdakocblfaojnaaGreat
set_option maxRecDepth 20000
namespace Go.Proofs.YtdakocblfaojnaaGreat
set_option linter.unusedVariables false
set_option linter.unusedSimpArgs false
open Go.Ab Go.RowKit
def askOne (e : Nat × STrial) : Int := if e.1 = 30 then placeSE e.2 else if e.1 = 31 then workSE e.2 else rootSE e.2
def asksE : List (Nat × STrial) → Int
  | [] => 0
  | e :: l => if askOne e = 0 then asksE l else askOne e
def three (z : STrial) : List (Nat × STrial) := [(30, z), (31, z), (32, z)]
theorem asks_step {L : List (Nat × STrial)} {j : Nat} {e : Nat × STrial} (h : L[j]? = some e) : asksE (L.drop j) = if askOne e = 0 then asksE (L.drop (j + 1)) else askOne e := by
  obtain ⟨h1, rfl⟩ := List.getElem?_eq_some_iff.1 h
  rw [List.drop_eq_getElem_cons h1, asksE]
theorem asks_three {tip : Head} {pick : Wide} {x : Sample} : asksE (three ⟨tip, x, pick⟩) = sampE tip pick x := by
  obtain ⟨z, hz⟩ : ∃ z : STrial, z = ⟨tip, x, pick⟩ := ⟨_, rfl⟩
  have e : asksE (three z) = if placeSE z = 0 then (if workSE z = 0 then (if rootSE z = 0 then 0 else rootSE z) else workSE z) else placeSE z := rfl
  rw [← hz, e]
  have hp : placeSE z = if x.h.height ≠ x.i then 5 else 0 := by rw [hz]; rfl
  have hw : workSE z = if headMay x.h = false then 4 else 0 := by
    rw [hz]; unfold workSE
    cases headMay x.h <;> simp
  have hr : (if rootSE z = 0 then 0 else rootSE z) = rootSE z := by split <;> simp_all
  rw [hr]
  unfold sampE
  by_cases c1 : x.h.height ≠ x.i
  · rw [hp, if_pos c1, if_pos c1, if_neg (by decide)]
  · rw [hp, if_neg c1, if_neg c1, if_pos rfl]
    by_cases c2 : headMay x.h = false
    · rw [hw, if_pos c2, if_pos c2, if_neg (by decide)]
    · rw [hw, if_neg c2, if_neg c2, if_pos rfl, hz]; rfl
theorem samps_step {tip : Head} {P : List Wide} {l : List Sample} {k : Nat} {x : Sample} (h : l[k]? = some x) : sampsE tip P (l.drop k) k = if sampE tip (P.getD k zWide) x = 0 then sampsE tip P (l.drop (k + 1)) (k + 1) else sampE tip (P.getD k zWide) x := by
  obtain ⟨h1, rfl⟩ := List.getElem?_eq_some_iff.1 h
  rw [List.drop_eq_getElem_cons h1, sampsE]
theorem zn_35 : ZeroAt P 35 (pairT headT nilT) (zHead, ()) := zeroAt_agg (zero_pair zero_Head zero_nil) (by kernel_rfl)
theorem bld_err {l : List Block} {n e : Int} (h : buildE l n = e) (he : e ≠ 0) : zSampling = buildOf l n := by unfold buildOf; rw [h, if_neg he]
theorem samp_at {l : List Block} {L : List Total} {z : Wide} {q : Nat} {b : Block} (h1 : locOf L z = (q : Int)) (h2 : l[q]? = some b) (h3 : L.length ≤ 64) (h4 : q < L.length) : sampAt l L z = ⟨(q : Int), b.h, pathOf L (q : Int)⟩ := by
  unfold sampAt pathOf
  rw [h1, Int.toNat_natCast, h2, if_pos (by unfold pathOk; rw [decide_eq_true_eq]; omega)]; rfl
theorem scheck_ok (s : Sampling) (n : Int) : Tells P 12 [.val samplingT s, .val i64T n] (.val i64T (checkS s n)) := by
 obtain ⟨P1, hP1⟩ : ∃ P1, P1 = picksOf (headId s.tip) s.tip.work n := ⟨_, rfl⟩
 have hpk := tells_pub (picks_ok (headId s.tip) s.tip.work n)
 rw [← hP1] at hpk
 refine fn_of_aw Tryz.func12 rfl rfl rfl (fun ext w hext => ?_)
 refine aw_fact (d := 1) rfl fact_int (fun hin1 => ?_)
 refine CQR ?_; refine aw_box rfl rfl rfl rfl rfl ?_; refine A0 aV ?_; refine CNQ ?_; refine CB ?_; refine CQQR ?_; refine A0 mV ?_; refine A0 o_lss ?_; refine A0 aV ?_; refine CN ?_
 refine Cf (p := n < 1) (fun ht12 => ?_) (fun ht12 => ?_)
 ·
  refine CS ?_; refine aw_if_t rfl (by simpa [IntL.toI] using ht12) ?_; refine CQR ?_; refine A0 aV ?_; refine CN ?_
  exact aw_ret1 rfl rfl (ret_eq rfl (by unfold checkS; rw [if_pos (.inl ht12)]))
 ·
  have hn1 := ht12
  refine CR ?_; refine A0 mV ?_; refine A0 o_gtr ?_; refine A0 aV ?_; refine CN ?_
  refine Cf (p := 20 < n) (fun ht12 => ?_) (fun ht12 => ?_)
  ·
   refine CQR ?_; refine A0 aV ?_; refine CN ?_
   exact aw_ret1 rfl rfl (ret_eq rfl (by unfold checkS; rw [if_pos (.inr ht12)]))
  ·
   have hn2 := ht12
   refine CQQR ?_; refine A0 (oFp fd_35_0) ?_; refine A0 (oLb L_Sampling_tip ty_32) ?_; refine A0 (oCl (headMay_ok s.tip) rfl fn_29 ⟨(arg_v rfl), trivial⟩) ?_; refine A0 oN ?_; refine A0 aV ?_; refine CN ?_
   refine aw_ifc (p := headMay s.tip = false) rfl (by cases headMay s.tip <;> rfl) (fun ht17 => ?_) (fun ht17 => ?_)
   ·
    refine CS ?_; refine aw_if_t rfl (by rw [ht17]; rfl) ?_; refine CQR ?_; refine A0 aV ?_; refine CN ?_
    exact aw_ret1 rfl rfl (ret_eq rfl (by unfold checkS; rw [if_neg (by omega), if_pos (.inl ht17)]))
   ·
    have hm1 := ht17
    refine CR ?_; refine A0 (oFp fd_35_0) ?_; refine A0 (oFp fd_32_0) ?_; refine A0 (oLb (L_Sampling_tip.comp L_Head_height) ty_3) ?_; refine A0 o_lss ?_; refine A0 aV ?_; refine CN ?_
    refine Cf (p := s.tip.height < 1) (fun ht17 => ?_) (fun ht17 => ?_)
    ·
     refine CQR ?_; refine A0 aV ?_; refine CN ?_
     exact aw_ret1 rfl rfl (ret_eq rfl (by unfold checkS; rw [if_neg (by omega), if_pos (.inr ht17)]))
    ·
     have hm2 := ht17
     have h17 : ¬ (headMay s.tip = false ∨ s.tip.height < 1) := fun h => h.elim hm1 ht17
     refine CQQR ?_; refine A0 (oFp fd_35_1) ?_; refine A0 (oLb L_Sampling_s ty_33) ?_; refine A0 (g_len rfl rfl isl_33) ?_; refine A0 mV ?_; refine A0 o_neq ?_; refine A0 aV ?_; refine CN ?_
     refine aw_ifc (p := ¬ (s.s.length : Int) = n) rfl (by simp [IntL.toI]) (fun ht26 => ?_) (fun ht26 => ?_)
     ·
      refine CS ?_; refine aw_if_t rfl (by simpa [IntL.toI] using ht26) ?_; refine CQR ?_; refine A0 aV ?_; refine CN ?_
      exact aw_ret1 rfl rfl (ret_eq rfl (by unfold checkS; rw [if_neg (by omega), if_neg h17, if_pos (.inl ht26)]))
     ·
      have hs1 := ht26
      refine CR ?_; refine A0 (oFp fd_35_0) ?_; refine A0 (oFp fd_32_0) ?_; refine A0 (oLb (L_Sampling_tip.comp L_Head_height) ty_3) ?_; refine A0 o_gtr ?_; refine A0 aV ?_; refine CN ?_
      refine Cf (p := 64 < s.tip.height) (fun ht26 => ?_) (fun ht26 => ?_)
      ·
       refine CQR ?_; refine A0 aV ?_; refine CN ?_
       exact aw_ret1 rfl rfl (ret_eq rfl (by unfold checkS; rw [if_neg (by omega), if_neg h17, if_pos (.inr ht26)]))
      ·
       have hs2 := ht26
       have hck : checkS s n = sampsE s.tip P1 s.s 0 := by unfold checkS; rw [if_neg (by omega), if_neg h17, if_neg (fun h => h.elim hs1 ht26), hP1]
       refine CS ?_; refine CI ?_; refine CQ ?_; refine CD mixed ?_; refine G0 (oFp fd_35_0) ?_; refine G0 (oLb L_Sampling_tip ty_32) ?_; refine G0 (oCl (headId_ok s.tip) rfl fn_15 ⟨(arg_v rfl), trivial⟩) ?_; refine G0 (oFp fd_35_0) ?_
       refine G0 (oFp fd_32_5) ?_; refine G0 (oLb (L_Sampling_tip.comp L_Head_work) ty_29) ?_; refine G0 mV ?_; refine G0 (oCl (hpk) rfl fn_14 ⟨(arg_v rfl), (arg_v rfl), (arg_v rfl), trivial⟩) ?_; refine G0 aX ?_; refine GK.nil ?_; refine CQQR ?_
       refine A0 (oFp fd_35_1) ?_; refine A0 (oLb L_Sampling_s ty_33) ?_; refine A0 (g_len rfl rfl isl_33) ?_; refine A0 mV ?_; refine CNB ?_
       refine Lp (ι := Nat) 1 (fun (k : Nat) => ((((((Fr.none).set 1 (.val i64T n)).set 2 (.ptr 0 0)).set 5 (.val (sl wideT) P1)).set 45 (.val (sl sampleT) s.s)).set 46 (.val i64T (s.s.length : Int))).set 47 (.val i64T (k : Int))) (fun (k : Nat) => (Hp.none).set 0 (.box 35 samplingT s)) (fun (k : Nat) => k ≤ s.s.length ∧ checkS s n = sampsE s.tip P1 (s.s.drop k) k) (fun (k : Nat) => s.s.length - k) (0) (⟨Nat.zero_le _, hck⟩) ?_
       intro k hinv
       refine CQR ?_; refine A0 o_lss ?_; refine CNQ ?_
       refine Cf (p := k < s.s.length) (fun ht48 => ?_) (fun ht48 => ?_)
       ·
        obtain ⟨x, hx⟩ : ∃ x, s.s[k]? = some x := ⟨_, List.getElem?_eq_getElem ht48⟩
        have hst := samps_step (tip := s.tip) (P := P1) hx
        refine CSQBQR ?_; refine A0 mV ?_; refine A0 (g_ia_i (i := k) rfl rfl rfl (by omega) sl_33 (by assumption)) ?_; refine A0 (g_load_r rfl rfl ty_51) ?_; refine aw_alloc ze_51 rfl rfl rfl rfl ?_; refine A0 aV ?_
        refine aw_store_b rfl rfl rfl rfl rfl (Lens.self _) ty_51 rfl ?_; refine CNQR ?_; refine A0 (oFp fd_35_0) ?_; refine A0 (oLb L_Sampling_tip ty_32) ?_; refine A0 (oLs rfl rfl rfl ty_51) ?_
        refine A0 (g_build rfl ze_80 bd_80 (.cons fd_80_0 L_STrial_tip ty_32 rfl (.cons fd_80_1 L_STrial_s ty_51 rfl .nil)) rfl) ?_; refine aw_box rfl rfl rfl rfl rfl ?_; refine A0 aP ?_; refine CNQQR ?_; refine A0 mV ?_
        refine A0 (g_len rfl rfl isl_46) ?_; refine A0 o_gtr ?_; refine CN ?_
        refine Cf (p := 0 < P1.length) (fun ht59 => ?_) (fun ht59 => ?_)
        ·
         have hpl : (P1.length : Int) = n := by rw [hP1] at ht59 ⊢; refine picks_len ⟨by omega, by omega, fun e => ?_⟩; rw [picks_none (fun h => h.2.2 e)] at ht59; exact absurd ht59 (by decide)
         obtain ⟨y, hy⟩ : ∃ y, P1[k]? = some y := ⟨_, List.getElem?_eq_getElem (by omega)⟩
         have hgd : P1.getD k zWide = y := by rw [List.getD_eq_getElem?_getD, hy]; rfl
         refine CR ?_; refine A0 mP ?_; refine A0 mV ?_; refine A0 mV ?_; refine A0 (g_ia_i (i := k) rfl rfl rfl (by omega) sl_46 (by assumption)) ?_; refine A0 (g_load_r rfl rfl ty_29) ?_; refine A0 (g_nc rfl rfl) ?_; refine A0 (oFp fd_80_2) ?_
         refine aw_store_b rfl rfl rfl rfl rfl L_STrial_pick ty_29 rfl ?_; refine CNQ ?_
         obtain ⟨z, hz⟩ : ∃ z : STrial, z = ⟨s.tip, x, P1.getD k zWide⟩ := ⟨_, rfl⟩
         refine aw_reheap (n := 2) (y := z) rfl (by rw [hz]; first | (rw [hgd]) | (rw [List.getD_eq_getElem?_getD, List.getElem?_eq_none (by omega)]; rfl)) ?_; refine aw_freeze (d := 8) rfl rfl (Lens.self _) ?_; refine CR ?_; refine A0 mR ?_
         refine A0 (g_mkb rfl rfl) ?_; refine A0 mR ?_; refine A0 (g_mkb rfl rfl) ?_; refine A0 mR ?_; refine A0 (g_mkb rfl rfl) ?_
         refine A0 (g_bslice (T := (bndT sTrialT)) (xs := [_, _, _]) rfl sl_82 row_82 ⟨rfl, rfl, rfl, rfl, rfl, rfl, trivial⟩ rfl rfl) ?_
         obtain ⟨L, hL⟩ : ∃ L, L = three z := ⟨_, rfl⟩
         refine aw_reval (d := 73) (y := L) rfl hL.symm ?_; refine A0 (g_len rfl rfl isl_82) ?_; refine A0 mV ?_; refine CNB ?_
         refine Lp (ι := Nat) 1 (fun (j : Nat) => (((((((((Fr.none).set 1 (.val i64T n)).set 2 (.ptr 0 0)).set 5 (.val (sl wideT) P1)).set 45 (.val (sl sampleT) s.s)).set 46 (.val i64T (s.s.length : Int))).set 47 (.val i64T (k : Int))).set 73 (.val (sl (bndT sTrialT)) L)).set 74 (.val i64T (L.length : Int))).set 75 (.val i64T (j : Int))) (fun (j : Nat) => (Hp.none).set 0 (.box 35 samplingT s)) (fun (j : Nat) => j ≤ L.length ∧ asksE L = asksE (L.drop j)) (fun (j : Nat) => L.length - j) (0) (⟨Nat.zero_le _, rfl⟩) ?_
         intro j hjn
         refine CQR ?_; refine A0 o_lss ?_; refine CNQ ?_
         refine Cf (p := j < L.length) (fun ht76 => ?_) (fun ht76 => ?_)
         ·
          obtain ⟨e, he⟩ : ∃ e, L[j]? = some e := ⟨_, List.getElem?_eq_getElem ht76⟩
          have hask : e = (30, z) ∨ e = (31, z) ∨ e = (32, z) := by have h := List.mem_of_getElem? he; rw [hL] at h; unfold three at h; simpa using h
          have has := asks_step he
          have hL3 : L.length = 3 := by rw [hL]; rfl
          rcases hask with hk | hk | hk
          ·
           refine CSQBQR ?_; refine A0 (g_ia_i (i := j) rfl rfl rfl (by omega) sl_82 (by assumption)) ?_; refine A0 (g_load_r rfl rfl ty_81) ?_; refine aw_reval (d := 78) (y := (30, z)) rfl hk ?_; refine A0 aX ?_; refine CNQR ?_; refine A0 mX ?_
           refine A0 (g_callb (splace_ok z) rfl rfl fn_30 rfl) ?_; refine A0 aX ?_; refine CNQR ?_; refine A0 mX ?_; refine A0 o_neq ?_; refine CN ?_
           refine aw_ifc (p := ¬ askOne e = 0) rfl (by rw [hk]; simp [askOne, IntL.toI]) (fun ht82 => ?_) (fun ht82 => ?_)
           ·
            refine CQR ?_; refine A0 mX ?_; refine A0 aX ?_; refine CN ?_
            exact aw_ret1 rfl rfl (ret_eq rfl (by rw [hinv.2, hst, ← asks_three (tip := s.tip), ← hz, ← hL, hjn.2, has, if_neg ht82, if_neg ht82, hk]; rfl))
           ·
            refine CSIR ?_; refine A0 o_add ?_; refine A0 mV ?_; refine CN ?_
            exact Nx (j + 1) (⟨by omega, by rw [hjn.2, has, if_pos (Classical.not_not.1 ht82)]⟩) (by omega)
          ·
           refine CSQBQR ?_; refine A0 (g_ia_i (i := j) rfl rfl rfl (by omega) sl_82 (by assumption)) ?_; refine A0 (g_load_r rfl rfl ty_81) ?_; refine aw_reval (d := 78) (y := (31, z)) rfl hk ?_; refine A0 aX ?_; refine CNQR ?_; refine A0 mX ?_
           refine A0 (g_callb (swork_ok z) rfl rfl fn_31 rfl) ?_; refine A0 aX ?_; refine CNQR ?_; refine A0 mX ?_; refine A0 o_neq ?_; refine CN ?_
           refine aw_ifc (p := ¬ askOne e = 0) rfl (by rw [hk]; simp [askOne, IntL.toI]) (fun ht82 => ?_) (fun ht82 => ?_)
           ·
            refine CQR ?_; refine A0 mX ?_; refine A0 aX ?_; refine CN ?_
            exact aw_ret1 rfl rfl (ret_eq rfl (by rw [hinv.2, hst, ← asks_three (tip := s.tip), ← hz, ← hL, hjn.2, has, if_neg ht82, if_neg ht82, hk]; rfl))
           ·
            refine CSIR ?_; refine A0 o_add ?_; refine A0 mV ?_; refine CN ?_
            exact Nx (j + 1) (⟨by omega, by rw [hjn.2, has, if_pos (Classical.not_not.1 ht82)]⟩) (by omega)
          ·
           refine CSQBQR ?_; refine A0 (g_ia_i (i := j) rfl rfl rfl (by omega) sl_82 (by assumption)) ?_; refine A0 (g_load_r rfl rfl ty_81) ?_; refine aw_reval (d := 78) (y := (32, z)) rfl hk ?_; refine A0 aX ?_; refine CNQR ?_; refine A0 mX ?_
           refine A0 (g_callb (sroot_ok z) rfl rfl fn_32 rfl) ?_; refine A0 aX ?_; refine CNQR ?_; refine A0 mX ?_; refine A0 o_neq ?_; refine CN ?_
           refine aw_ifc (p := ¬ askOne e = 0) rfl (by rw [hk]; simp [askOne, IntL.toI]) (fun ht82 => ?_) (fun ht82 => ?_)
           ·
            refine CQR ?_; refine A0 mX ?_; refine A0 aX ?_; refine CN ?_
            exact aw_ret1 rfl rfl (ret_eq rfl (by rw [hinv.2, hst, ← asks_three (tip := s.tip), ← hz, ← hL, hjn.2, has, if_neg ht82, if_neg ht82, hk]; rfl))
           ·
            refine CSIR ?_; refine A0 o_add ?_; refine A0 mV ?_; refine CN ?_
            exact Nx (j + 1) (⟨by omega, by rw [hjn.2, has, if_pos (Classical.not_not.1 ht82)]⟩) (by omega)
         ·
          refine CE ?_; refine CI ?_; refine CR ?_; refine A0 o_add ?_; refine A0 mV ?_; refine CN ?_
          exact Nx (k + 1) (⟨by omega, by rw [hinv.2, hst, ← asks_three (tip := s.tip), ← hz, ← hL, hjn.2, List.drop_of_length_le (by omega)]; rfl⟩) (by omega)
        ·
         refine CS ?_; refine CQ ?_
         obtain ⟨z, hz⟩ : ∃ z : STrial, z = ⟨s.tip, x, P1.getD k zWide⟩ := ⟨_, rfl⟩
         refine aw_reheap (n := 2) (y := z) rfl (by rw [hz]; first | (rw [hgd]) | (rw [List.getD_eq_getElem?_getD, List.getElem?_eq_none (by omega)]; rfl)) ?_; refine aw_freeze (d := 8) rfl rfl (Lens.self _) ?_; refine CR ?_; refine A0 mR ?_
         refine A0 (g_mkb rfl rfl) ?_; refine A0 mR ?_; refine A0 (g_mkb rfl rfl) ?_; refine A0 mR ?_; refine A0 (g_mkb rfl rfl) ?_
         refine A0 (g_bslice (T := (bndT sTrialT)) (xs := [_, _, _]) rfl sl_82 row_82 ⟨rfl, rfl, rfl, rfl, rfl, rfl, trivial⟩ rfl rfl) ?_
         obtain ⟨L, hL⟩ : ∃ L, L = three z := ⟨_, rfl⟩
         refine aw_reval (d := 73) (y := L) rfl hL.symm ?_; refine A0 (g_len rfl rfl isl_82) ?_; refine A0 mV ?_; refine CNB ?_
         refine Lp (ι := Nat) 1 (fun (j : Nat) => (((((((((Fr.none).set 1 (.val i64T n)).set 2 (.ptr 0 0)).set 5 (.val (sl wideT) P1)).set 45 (.val (sl sampleT) s.s)).set 46 (.val i64T (s.s.length : Int))).set 47 (.val i64T (k : Int))).set 73 (.val (sl (bndT sTrialT)) L)).set 74 (.val i64T (L.length : Int))).set 75 (.val i64T (j : Int))) (fun (j : Nat) => (Hp.none).set 0 (.box 35 samplingT s)) (fun (j : Nat) => j ≤ L.length ∧ asksE L = asksE (L.drop j)) (fun (j : Nat) => L.length - j) (0) (⟨Nat.zero_le _, rfl⟩) ?_
         intro j hjn
         refine CQR ?_; refine A0 o_lss ?_; refine CNQ ?_
         refine Cf (p := j < L.length) (fun ht76 => ?_) (fun ht76 => ?_)
         ·
          obtain ⟨e, he⟩ : ∃ e, L[j]? = some e := ⟨_, List.getElem?_eq_getElem ht76⟩
          have hask : e = (30, z) ∨ e = (31, z) ∨ e = (32, z) := by have h := List.mem_of_getElem? he; rw [hL] at h; unfold three at h; simpa using h
          have has := asks_step he
          have hL3 : L.length = 3 := by rw [hL]; rfl
          rcases hask with hk | hk | hk
          ·
           refine CSQBQR ?_; refine A0 (g_ia_i (i := j) rfl rfl rfl (by omega) sl_82 (by assumption)) ?_; refine A0 (g_load_r rfl rfl ty_81) ?_; refine aw_reval (d := 78) (y := (30, z)) rfl hk ?_; refine A0 aX ?_; refine CNQR ?_; refine A0 mX ?_
           refine A0 (g_callb (splace_ok z) rfl rfl fn_30 rfl) ?_; refine A0 aX ?_; refine CNQR ?_; refine A0 mX ?_; refine A0 o_neq ?_; refine CN ?_
           refine aw_ifc (p := ¬ askOne e = 0) rfl (by rw [hk]; simp [askOne, IntL.toI]) (fun ht82 => ?_) (fun ht82 => ?_)
           ·
            refine CQR ?_; refine A0 mX ?_; refine A0 aX ?_; refine CN ?_
            exact aw_ret1 rfl rfl (ret_eq rfl (by rw [hinv.2, hst, ← asks_three (tip := s.tip), ← hz, ← hL, hjn.2, has, if_neg ht82, if_neg ht82, hk]; rfl))
           ·
            refine CSIR ?_; refine A0 o_add ?_; refine A0 mV ?_; refine CN ?_
            exact Nx (j + 1) (⟨by omega, by rw [hjn.2, has, if_pos (Classical.not_not.1 ht82)]⟩) (by omega)
          ·
           refine CSQBQR ?_; refine A0 (g_ia_i (i := j) rfl rfl rfl (by omega) sl_82 (by assumption)) ?_; refine A0 (g_load_r rfl rfl ty_81) ?_; refine aw_reval (d := 78) (y := (31, z)) rfl hk ?_; refine A0 aX ?_; refine CNQR ?_; refine A0 mX ?_
           refine A0 (g_callb (swork_ok z) rfl rfl fn_31 rfl) ?_; refine A0 aX ?_; refine CNQR ?_; refine A0 mX ?_; refine A0 o_neq ?_; refine CN ?_
           refine aw_ifc (p := ¬ askOne e = 0) rfl (by rw [hk]; simp [askOne, IntL.toI]) (fun ht82 => ?_) (fun ht82 => ?_)
           ·
            refine CQR ?_; refine A0 mX ?_; refine A0 aX ?_; refine CN ?_
            exact aw_ret1 rfl rfl (ret_eq rfl (by rw [hinv.2, hst, ← asks_three (tip := s.tip), ← hz, ← hL, hjn.2, has, if_neg ht82, if_neg ht82, hk]; rfl))
           ·
            refine CSIR ?_; refine A0 o_add ?_; refine A0 mV ?_; refine CN ?_
            exact Nx (j + 1) (⟨by omega, by rw [hjn.2, has, if_pos (Classical.not_not.1 ht82)]⟩) (by omega)
          ·
           refine CSQBQR ?_; refine A0 (g_ia_i (i := j) rfl rfl rfl (by omega) sl_82 (by assumption)) ?_; refine A0 (g_load_r rfl rfl ty_81) ?_; refine aw_reval (d := 78) (y := (32, z)) rfl hk ?_; refine A0 aX ?_; refine CNQR ?_; refine A0 mX ?_
           refine A0 (g_callb (sroot_ok z) rfl rfl fn_32 rfl) ?_; refine A0 aX ?_; refine CNQR ?_; refine A0 mX ?_; refine A0 o_neq ?_; refine CN ?_
           refine aw_ifc (p := ¬ askOne e = 0) rfl (by rw [hk]; simp [askOne, IntL.toI]) (fun ht82 => ?_) (fun ht82 => ?_)
           ·
            refine CQR ?_; refine A0 mX ?_; refine A0 aX ?_; refine CN ?_
            exact aw_ret1 rfl rfl (ret_eq rfl (by rw [hinv.2, hst, ← asks_three (tip := s.tip), ← hz, ← hL, hjn.2, has, if_neg ht82, if_neg ht82, hk]; rfl))
           ·
            refine CSIR ?_; refine A0 o_add ?_; refine A0 mV ?_; refine CN ?_
            exact Nx (j + 1) (⟨by omega, by rw [hjn.2, has, if_pos (Classical.not_not.1 ht82)]⟩) (by omega)
         ·
          refine CE ?_; refine CI ?_; refine CR ?_; refine A0 o_add ?_; refine A0 mV ?_; refine CN ?_
          exact Nx (k + 1) (⟨by omega, by rw [hinv.2, hst, ← asks_three (tip := s.tip), ← hz, ← hL, hjn.2, List.drop_of_length_le (by omega)]; rfl⟩) (by omega)
       ·
        refine CE ?_; refine CQR ?_; refine A0 aV ?_; refine CN ?_
        exact aw_ret1 rfl rfl (ret_eq rfl (by rw [hinv.2, List.drop_of_length_le (by omega)]; rfl))
theorem build_ok20 (l : List Block) (n : Int) (hl : smallC l) : Tells P 11 [.val (bsl blockT) l, .val i64T n] (.tup2 (.val samplingT (buildOf l n)) (.val i64T (buildE l n))) := by
 have hll := hl.1
 refine fn_of_aw Tryz.func11 rfl rfl rfl (fun ext w hext => ?_)
 refine aw_fact (d := 0) rfl fact_sl (fun hsl0 => ?_)
 refine aw_fact (d := 1) rfl fact_int (fun hin1 => ?_)
 refine CQR ?_; refine aw_alloc ze_35 rfl rfl rfl rfl ?_; refine A0 aV ?_; refine CNQR ?_; refine A0 mV ?_; refine A0 (oCl (check_ok l hl) rfl fn_27 ⟨(arg_v rfl), trivial⟩) ?_; refine A0 mX ?_
 refine A0 (by first | exact g_x20 rfl rfl | exact g_x30 rfl rfl) ?_; refine A0 (by first | exact g_x21 rfl rfl | exact g_x31 rfl rfl) ?_; refine aw_alloc ze_72 rfl rfl rfl rfl ?_
 refine aw_store_b rfl rfl rfl rfl rfl (Lens.self _) ty_72 rfl ?_; refine A0 aV ?_; refine CNQQR ?_; refine A0 mV ?_; refine A0 o_neq ?_; refine CN ?_
 refine aw_ifc (p := ¬ (checkOf l).2 = 0) rfl (by simp [IntL.toI]) (fun ht21 => ?_) (fun ht21 => ?_)
 ·
  refine CQR ?_; refine A0 (g_build rfl ze_35 bd_35 .nil rfl) ?_; refine A0 mV ?_; refine aw_store_b rfl rfl rfl rfl rfl (Lens.self _) ty_35 rfl ?_; refine A0 aV ?_; refine CN ?_
  exact aw_retr2 rfl rfl (rv_cell rfl rfl ty_35 (bld_err (e := (checkOf l).2) (by unfold buildE; rw [if_pos ht21]) ht21)) (rv_tmp (ret_eq rfl (by unfold buildE; rw [if_pos ht21])))
 ·
  refine CSQQR ?_; refine A0 mV ?_; refine A0 o_lss ?_; refine A0 mV ?_
  refine Sp (d := 26) (p := n < 1) (fun g26 => ?_) (fun g26 => ?_)
  ·
   refine A2 ?_; refine A2 ?_; refine A0 oK ?_; refine A0 mV ?_; refine A2 ?_; refine A2 ?_; refine A2 ?_; refine A0 oK ?_; refine CN ?_; refine Ct ?_; refine CQR ?_; refine A0 (g_build rfl ze_35 bd_35 .nil rfl) ?_
   refine aw_store_b rfl rfl rfl rfl rfl (Lens.self _) ty_35 rfl ?_; refine A0 aV ?_; refine CN ?_
   exact aw_retr2 rfl rfl (rv_cell rfl rfl ty_35 (bld_err (e := 1) (by unfold buildE; rw [if_neg ht21, if_pos (by omega)]) (by decide))) (rv_tmp (ret_eq rfl (by unfold buildE; rw [if_neg ht21, if_pos (by omega)])))
  ·
   refine A1 mV ?_; refine A1 o_gtr ?_; refine A0 oK ?_; refine A0 mV ?_
   refine Sp (d := 30) (p := 20 < n) (fun g30 => ?_) (fun g30 => ?_)
   ·
    refine A2 ?_; refine A2 ?_; refine A2 ?_; refine A0 oK ?_; refine CN ?_; refine Ct ?_; refine CQR ?_; refine A0 (g_build rfl ze_35 bd_35 .nil rfl) ?_; refine aw_store_b rfl rfl rfl rfl rfl (Lens.self _) ty_35 rfl ?_; refine A0 aV ?_
    refine CN ?_
    exact aw_retr2 rfl rfl (rv_cell rfl rfl ty_35 (bld_err (e := 1) (by unfold buildE; rw [if_neg ht21, if_pos (by omega)]) (by decide))) (rv_tmp (ret_eq rfl (by unfold buildE; rw [if_neg ht21, if_pos (by omega)])))
   ·
    refine A1 mV ?_; refine A1 (g_len rfl rfl isl_22) ?_; refine A1 o_lss ?_; refine A0 oK ?_; refine CN ?_
    refine Cf (p := l.length < 2) (fun ht34 => ?_) (fun ht34 => ?_)
    ·
     refine CQR ?_; refine A0 (g_build rfl ze_35 bd_35 .nil rfl) ?_; refine aw_store_b rfl rfl rfl rfl rfl (Lens.self _) ty_35 rfl ?_; refine A0 aV ?_; refine CN ?_
     exact aw_retr2 rfl rfl (rv_cell rfl rfl ty_35 (bld_err (e := 1) (by unfold buildE; rw [if_neg ht21, if_pos (by omega)]) (by decide))) (rv_tmp (ret_eq rfl (by unfold buildE; rw [if_neg ht21, if_pos (by omega)])))
    ·
     have hb : buildE l n = 0 := by unfold buildE; rw [if_neg ht21, if_neg (by omega)]
     obtain ⟨t, m, h0, hc, hm, hn1, hn2, hbo, hpn⟩ := build_ok hb
     have h48 := (chain_tip hc).2.2.1
     obtain ⟨L, hLd⟩ : ∃ L, L = leavesOf (l.take (m + 1)) := ⟨_, rfl⟩
     have hLl : L.length = m + 1 := by rw [hLd]; unfold leavesOf; rw [List.length_map, List.length_take]; omega
     obtain ⟨P1, hP1⟩ : ∃ P1, P1 = picksOf (headId t.b.h) t.b.h.work n := ⟨_, rfl⟩
     have hpk := tells_pub (picks_ok (headId t.b.h) t.b.h.work n)
     rw [← hP1] at hpk
     have hlv := tells_pub (leaves_ok (l.take (m + 1)) (by rw [List.length_take]; omega))
     rw [← hLd] at hlv
     rw [← hLd, ← hP1] at hbo
     have hPl : P1.length ≤ 20 := by rw [hP1]; exact picks_le
     refine CS ?_; refine CQ ?_; refine aw_reheap (n := 1) (y := t) rfl (by rw [h0]) ?_; refine CR ?_; refine A0 (oFp fd_72_0) ?_; refine A0 (oFp fd_43_0) ?_; refine A0 (oLb (L_Tip_b.comp L_Block_h) ty_32) ?_
     refine A0 (g_build rfl zn_35 bd_35 (.cons fd_35_0 (Lens.fst _ _) ty_32 rfl .nil) rfl) ?_; refine aw_alloc zn_35 rfl rfl rfl rfl ?_; refine aw_store_b rfl rfl rfl rfl rfl (Lens.self _) ty_35 rfl ?_; refine CN ?_
     refine aw_nilbox2 2 51 sampleT rfl rfl ?_; refine CQR ?_; refine A0 mV ?_; refine A0 mV ?_; refine A0 (g_len rfl rfl isl_22) ?_; refine A0 o_sub ?_
     refine A0 (by first | exact g_sl_nil rfl rfl rfl (by first | rfl | omega) sl_22 | exact g_sl_h rfl rfl rfl sl_22 (by first | assumption | omega | (simp; omega))) ?_; refine aw_reval (d := 44) (y := l.take (m + 1)) rfl (by congr 1; omega) ?_
     refine A0 (oCl (hlv) rfl fn_21 ⟨(arg_v rfl), trivial⟩) ?_; refine A0 aV ?_; refine CNQ ?_; refine CQ ?_; refine CD mixed ?_; refine G0 (oFp fd_72_0) ?_; refine G0 (oFp fd_43_0) ?_; refine G0 (oLb (L_Tip_b.comp L_Block_h) ty_32) ?_
     refine G0 (oCl (headId_ok t.b.h) rfl fn_15 ⟨(arg_v rfl), trivial⟩) ?_; refine G0 (oFp fd_72_0) ?_; refine G0 (oFp fd_43_0) ?_; refine G0 (oFp fd_32_5) ?_; refine G0 (oLb ((L_Tip_b.comp L_Block_h).comp L_Head_work) ty_29) ?_; refine G0 mV ?_
     refine G0 (oCl (hpk) rfl fn_14 ⟨(arg_v rfl), (arg_v rfl), (arg_v rfl), trivial⟩) ?_; refine G0 (by first | exact g_len rfl rfl isl_46 | exact g_len_o rfl rfl rfl isl_46 | exact g_len_nil rfl rfl isl_46) ?_; refine G0 mV ?_; refine GK.nil ?_
     refine CB ?_
     refine Lp (ι := Nat) 4 (fun (k : Nat) => (((((((Fr.none).set 0 (.val (bsl blockT) l)).set 4 (.ptr 0 0)).set 8 (.ptr 2 0)).set 9 (.val (sl totalT) L)).set 55 (.val (sl wideT) P1)).set 56 (.val i64T (P1.length : Int))).set 57 (.val i64T (k : Int))) (fun (k : Nat) => (((Hp.none).set 0 (.box 35 samplingT zSampling)).set 2 (.parts 35 [.val headT t.b.h, .own 3])).set 3 (.row 51 sampleT ((P1.take k).map (sampAt l L)))) (fun (k : Nat) => k ≤ P1.length) (fun (k : Nat) => P1.length - k) (0) (Nat.zero_le _) ?_
     intro k hinv
     refine CQR ?_; refine A0 o_lss ?_; refine CNQ ?_
     refine Cf (p := k < P1.length) (fun ht58 => ?_) (fun ht58 => ?_)
     ·
      obtain ⟨z, hz⟩ : ∃ z, P1[k]? = some z := ⟨_, List.getElem?_eq_getElem ht58⟩
      obtain ⟨q, b, q1, q2, q3, w4, q4, q5, q6, q7⟩ := pick_at (n := n) (w := z) hc hm (by rw [← hP1]; exact List.mem_of_getElem? hz)
      rw [← hLd] at q4
      have hsa := samp_at (l := l) q4 q2 (by omega) (by omega)
      refine CSQBQR ?_; refine A0 (g_ia_i (i := k) rfl rfl rfl (by omega) sl_46 (by assumption)) ?_; refine A0 (g_load_r rfl rfl ty_29) ?_; refine aw_alloc ze_29 rfl rfl rfl rfl ?_; refine aw_store_b rfl rfl rfl rfl rfl (Lens.self _) ty_29 rfl ?_
      refine CNQR ?_; refine A0 mV ?_; refine A0 (oLs rfl rfl rfl ty_29) ?_; refine A0 (oCl (locate_ok L z) rfl fn_22 ⟨(arg_v rfl), (arg_v rfl), trivial⟩) ?_; refine aw_reval (d := 63) (y := (q : Int)) rfl q4 ?_; refine A0 aX ?_; refine CNQR ?_
      refine A0 mV ?_; refine A0 mX ?_
      refine A0 (oCl (tells_pub2 (path_ok L (q : Int))) rfl fn_28 ⟨(arg_v rfl), (by first | exact arg_same rfl | exact arg_bsl rfl | exact arg_own rfl rfl | exact arg_nil rfl | exact arg_rptr rfl | exact arg_fn rfl rfl | exact arg_lit rfl), trivial⟩) ?_
      refine A0 mX ?_; refine A0 (by first | exact g_x20 rfl rfl | exact g_x30 rfl rfl) ?_; refine A0 (by first | exact g_x21 rfl rfl | exact g_x31 rfl rfl) ?_; refine A0 aX ?_; refine A0 aX ?_; refine CN ?_
      refine aw_drawx [some 1, some 1, some 1, some 1, some 1, some 1, some 1, some 1, some 1, some 1, some 1, none, some 1, none] mixed (by decide +kernel) ?_; refine X0 (oFp fd_35_1) ?_; refine X0 (g_load_p rfl rfl rfl rfl rfl ty_33) ?_
      refine X0 mX ?_; refine X0 mV ?_; refine X0 mX ?_; refine X0 (g_ia_i (i := q) rfl rfl rfl (by omega) sl_22 (by assumption)) ?_; refine X0 (oFr fd_43_0 L_Block_h) ?_; refine X0 (g_load_r rfl rfl ty_32) ?_; refine X0 mX ?_
      refine X0 (g_build rfl ze_51 bd_51 (.cons fd_51_0 L_Sample_i ty_3 rfl (.cons fd_51_1 L_Sample_h ty_32 rfl (.cons fd_51_2 L_Sample_path ty_49 rfl .nil))) rfl) ?_
      refine X0 (g_bslice (T := sampleT) (xs := [_]) rfl sl_33 row_33 ⟨rfl, rfl, trivial⟩ rfl rfl) ?_
      refine XK.e (fun fr' hfr kk H => by exact aw_append rfl rfl rfl rfl ((hfr 71 (by decide +kernel)).trans rfl) rfl ((hfr 80 (by decide +kernel)).trans rfl) row_33 (by first | omega | (simp; omega)) (aw_nil H)) ?_; refine X0 (oFp fd_35_1) ?_
      refine XK.e (x := .idk) (fun fr' hfr kk H => by exact aw_store_p rfl rfl rfl ((hfr 82 (by decide +kernel)).trans rfl) rfl rfl ((hfr 81 (by decide +kernel)).trans rfl) rfl rfl rfl ty_33 (aw_nil H)) ?_; refine XK.nil' ?_; refine CI ?_
      refine CR ?_; refine A0 o_add ?_; refine A0 mV ?_; refine CN ?_; refine aw_ren 5 3 6 rfl rfl rfl rfl rfl rfl ?_
      refine aw_rerow (n := 3) (y := (P1.take (k + 1)).map (sampAt l L)) rfl (by rw [List.take_add_one, hz, List.map_append]; simp [hsa]) ?_
      exact Nx (k + 1) (by omega) (by omega)
     ·
      refine CE ?_; refine CQ ?_; refine aw_rerow (n := 3) (y := P1.map (sampAt l L)) rfl (by rw [List.take_of_length_le (by omega)]) ?_
      refine aw_joinbox 2 3 (z := (⟨t.b.h, P1.map (sampAt l L)⟩ : Sampling)) (R := samplingT) rfl rfl rfl (fun h1 h2 => ⟨_, _, rfl, h1, h2⟩) ?_; refine CR ?_; refine A0 (oLs rfl rfl rfl ty_35) ?_
      refine aw_store_b rfl rfl rfl rfl rfl (Lens.self _) ty_35 rfl ?_; refine A0 aV ?_; refine CN ?_
      exact aw_retr2 rfl rfl (rv_cell rfl rfl ty_35 (hbo.symm)) (rv_tmp (ret_eq rfl (hb.symm)))
end Go.Proofs.YtdakocblfaojnaaGreat
set_option maxRecDepth 20000
namespace Go.Proofs.YtdakocblfaojnaaGreat
set_option linter.unusedVariables false
set_option linter.unusedSimpArgs false
open Go.Ab Go.RowKit
theorem fact_ws {l : List Total} {ρ : Nat → Value} {B : Nat → Prop} {U N : Nat → Prop} {w : World} {v : Value} (hv : (AV.val (sl totalT) l).rel ρ B U N w v) : Ws l := fun y hy => by
  obtain ⟨cs, ⟨ad, cap, _, _, _, h3⟩, _⟩ := hv
  obtain ⟨_, ds2, _, _, hr2, _⟩ := h3 (List.ne_nil_of_mem hy)
  obtain ⟨c', _, _, _, _, _, _, _, hw, _⟩ := relAll_mem hr2 y hy
  exact hw.1
theorem two_ok {n : Int} (h1 : 1 ≤ n) (h2 : n ≤ 20) : buildE [easyB0, easyB] n = 0 := by
  unfold buildE
  rw [easy_chain1, if_neg (by decide), if_neg (by have : [easyB0, easyB].length = 2 := rfl; omega)]
theorem two_facts {s : Sampling} (hs : s = buildOf [easyB0, easyB] 2) : s.s = [⟨0, easyB0.h, []⟩, ⟨0, easyB0.h, []⟩] ∧ checkS s 2 = 0 ∧ checkS s 1 = 3 ∧ s.tip.height = 1 := by
  have hb := two_ok (n := 2) (by decide) (by decide)
  obtain ⟨h1, h2, ⟨b, h3, h4⟩, h5⟩ := holds hb
  have e0 := two_law (i := 0) hb (by decide)
  have e1 := two_law (i := 1) hb (by decide)
  rw [← hs] at h1 h2 h4 h5 e0 e1
  have hb2 : b = easyB := by injection h3 with h3; exact h3.symm
  refine ⟨?_, h1, ?_, by rw [h4, hb2]; rfl⟩
  · match hss : s.s, h2, e0, e1 with
    | [a, b], _, e0, e1 =>
      injection e0 with e0; injection e1 with e1
      rw [e0, e1]
    | [], h2, _, _ => simp at h2
    | [_], h2, _, _ => simp at h2
    | _ :: _ :: _ :: _, h2, _, _ => simp at h2; omega
  · obtain ⟨_, _, c3, c4, _⟩ := check_is h1
    unfold checkS
    rw [if_neg (by decide), if_neg (fun h => h.elim (fun h => by rw [c3] at h; cases h) (fun h => by omega)), if_pos (.inl (by rw [h2]; decide))]
theorem awake_loc : locOf [⟨zId, ofW 2, 0⟩] (ofW 1) = 0 := by
  unfold locOf
  have h1 : addOk zWide (ofW 2) = true := by decide +kernel
  have h2 : 0 < cmpW (addW zWide (ofW 2)) (ofW 1) := by decide +kernel
  rw [locF, if_neg (by rw [h1]; decide), if_pos h2]; rfl
theorem awake_picks : (picksOf zId (ofW 5) 3).length = 3 := by
  have := picks_len (seed := zId) (below := ofW 5) (n := 3) ⟨by decide, by decide, by decide +kernel⟩
  omega
theorem pick_below {seed : Ab.Id} {below x : Wide} {n : Int} {i : Nat} (h : (picksOf seed below n)[i]? = some x) (hb : below.length = 4) : ¬ 0 ≤ cmpW x below := by
  obtain ⟨e, hz, _⟩ := picks_at h
  obtain ⟨h1, h2⟩ := pickN_lt (seed := seed) (i := i) hb hz
  rw [← e] at h1 h2
  have := (cmp_neg h1 hb).2 h2
  omega
theorem pick_same {seed : Ab.Id} {below x y : Wide} {n k : Int} {i : Nat} (h : (picksOf seed below n)[i]? = some x) (h' : (picksOf seed below k)[i]? = some y) : x = y := by rw [(picks_at h).1, (picks_at h').1]
theorem loc_range {l : List Total} {w : Wide} (hw : w.length = 4) (hl : Ws l) : -1 ≤ locOf l w ∧ locOf l w < l.length := by
  rcases loc_law hw hl with h | ⟨k, x, h1, h2, _⟩
  · rw [h]; omega
  · rw [h2]; omega
theorem sameTotals_ok (a b : List Total) : Tells P 49 [.val (bsl totalT) a, .val (bsl totalT) b] (.val boolT (decide (a = b))) := by
 refine fn_of_aw Tryz.func49 rfl rfl rfl (fun ext w hext => ?_)
 refine aw_fact (d := 0) rfl fact_sl (fun hsl0 => ?_)
 refine aw_fact (d := 1) rfl fact_sl (fun hsl1 => ?_)
 refine CQR ?_; refine A0 aV ?_; refine CNQR ?_; refine A0 mV ?_; refine A0 mV ?_; refine A0 (oCl (equalTotal _ _) rfl fn_71 ⟨(arg_v rfl), (arg_v rfl), trivial⟩) ?_; refine A0 aV ?_; refine CN ?_
 exact aw_ret1 rfl rfl (ret_eq rfl rfl)
theorem sampSame1_ok (a b : Sample) : Tells P 48 [.val sampleT a, .val sampleT b] (.val boolT (decide (a = b))) := by
 refine fn_of_aw Tryz.func48 rfl rfl rfl (fun ext w hext => ?_)
 refine CQR ?_; refine aw_box rfl rfl rfl rfl rfl ?_; refine aw_box rfl rfl rfl rfl rfl ?_; refine A0 aV ?_; refine CNQR ?_; refine A0 (oFp fd_51_0) ?_; refine A0 (oLb L_Sample_i ty_3) ?_; refine A0 (oFp fd_51_0) ?_
 refine A0 (oLb L_Sample_i ty_3) ?_; refine A0 o_eql ?_; refine A0 mV ?_
 refine aw_splitp (d := 10) (p := a.i = b.i) rfl (by simp [IntL.toI]) (fun g10 => ?_) (fun g10 => ?_)
 ·
  refine A1 (oFp fd_51_1) ?_; refine A1 (oLb L_Sample_h ty_32) ?_; refine A1 (oFp fd_51_1) ?_; refine A1 (oLb L_Sample_h ty_32) ?_; refine A1 (g_eqlS rfl rfl rfl (eqt_32)) ?_; refine A0 oK ?_; refine A0 mV ?_
  refine aw_splitp (d := 17) (p := a.h = b.h) rfl (by simp) (fun g17 => ?_) (fun g17 => ?_)
  ·
   refine A1 (oFp fd_51_2) ?_; refine A1 (oLb L_Sample_path ty_49) ?_; refine A1 (oFp fd_51_2) ?_; refine A1 (oLb L_Sample_path ty_49) ?_; refine A1 (oCl (sameTotals_ok a.path b.path) rfl fn_49 ⟨(arg_v rfl), (arg_v rfl), trivial⟩) ?_
   refine A0 oK ?_; refine A0 aV ?_; refine CN ?_
   exact aw_ret1 rfl rfl (ret_eq rfl (by rw [decide_eq_decide]; exact ⟨fun h => by cases a; cases b; simp_all, fun h => by rw [h]⟩))
  ·
   refine A2 ?_; refine A2 ?_; refine A2 ?_; refine A2 ?_; refine A2 ?_; refine A0 oK ?_; refine A0 aV ?_; refine CN ?_
   exact aw_ret1 rfl rfl (ret_eq rfl (by symm; apply decide_eq_false; intro h; exact g17 (by rw [h])))
 ·
  refine A2 ?_; refine A2 ?_; refine A2 ?_; refine A2 ?_; refine A2 ?_; refine A0 oK ?_; refine A0 mV ?_; refine A2 ?_; refine A2 ?_; refine A2 ?_; refine A2 ?_; refine A2 ?_; refine A0 oK ?_; refine A0 aV ?_; refine CN ?_
  exact aw_ret1 rfl rfl (ret_eq rfl (by symm; apply decide_eq_false; intro h; exact g10 (by rw [h])))
theorem equalFSample (l m : List Sample) : Tells P 50 [.val (bsl sampleT) l, .val (bsl sampleT) m, .fn2 P sampleT sampleT boolT (fun x y => decide (x = y))] (.val boolT (decide (l = m))) := by
 refine fn_of_aw Tryz.func50 rfl rfl rfl (fun ext w hext => ?_)
 refine aw_fact (d := 0) rfl fact_sl (fun hsl0 => ?_)
 refine aw_fact (d := 1) rfl fact_sl (fun hsl1 => ?_)
 refine CQR ?_; refine A0 aV ?_; refine CNQQR ?_; refine A0 mV ?_; refine A0 (g_len rfl rfl isl_33) ?_; refine A0 mV ?_; refine A0 (g_len rfl rfl isl_33) ?_; refine A0 o_neq ?_; refine CN ?_
 refine Cf (p := ¬ l.length = m.length) (fun ht14 => ?_) (fun ht14 => ?_)
 ·
  refine CQR ?_; refine A0 aV ?_; refine CN ?_
  exact aw_ret1 rfl rfl (ret_eq rfl (decide_eq_false (fun e => ht14 (by rw [e]))).symm)
 ·
  refine CSQQR ?_; refine A0 mV ?_; refine A0 (g_len rfl rfl isl_33) ?_; refine A0 mV ?_; refine CNB ?_
  refine Lp (ι := Nat) 0 (fun (k : Nat) => ((((((Fr.none).set 0 (.val (bsl sampleT) l)).set 1 (.val (bsl sampleT) m)).set 2 (.fn2 P sampleT sampleT boolT (fun x y => decide (x = y)))).set 15 (.val (bsl sampleT) l)).set 16 (.val i64T (l.length : Int))).set 17 (.val i64T (k : Int))) (fun (k : Nat) => Hp.none) (fun (k : Nat) => k ≤ l.length ∧ l.take k = m.take k) (fun (k : Nat) => l.length - k) (0) (⟨Nat.zero_le _, by simp⟩) ?_
  intro k hinv
  refine CQR ?_; refine A0 o_lss ?_; refine CNQ ?_
  refine Cf (p := k < l.length) (fun ht18 => ?_) (fun ht18 => ?_)
  ·
   obtain ⟨x, hx⟩ : ∃ x, l[k]? = some x := ⟨_, List.getElem?_eq_getElem ht18⟩
   obtain ⟨y, hy⟩ : ∃ y, m[k]? = some y := ⟨_, List.getElem?_eq_getElem (by omega)⟩
   refine CSQBQR ?_; refine A0 mV ?_; refine A0 (g_ia_n rfl rfl rfl sl_33 (by assumption)) ?_; refine A0 (g_load_r rfl rfl ty_51) ?_; refine aw_alloc ze_51 rfl rfl rfl rfl ?_; refine A0 aV ?_
   refine aw_store_b rfl rfl rfl rfl rfl (Lens.self _) ty_51 rfl ?_; refine CNQR ?_; refine A0 mV ?_; refine A0 mV ?_; refine A0 (g_ia_n rfl rfl rfl sl_33 (by assumption)) ?_; refine A0 (g_load_r rfl rfl ty_51) ?_
   refine aw_alloc ze_51 rfl rfl rfl rfl ?_; refine aw_store_b rfl rfl rfl rfl rfl (Lens.self _) ty_51 rfl ?_; refine CNQR ?_; refine A0 mH ?_; refine A0 (oLs rfl rfl rfl ty_51) ?_; refine A0 (oLs rfl rfl rfl ty_51) ?_
   refine A0 (g_callf2 rfl rfl (arg_v rfl) (arg_v rfl)) ?_; refine A0 oN ?_; refine CN ?_
   refine aw_ifc (p := ¬ x = y) rfl (by simp) (fun ht30 => ?_) (fun ht30 => ?_)
   ·
    refine CQR ?_; refine A0 aV ?_; refine CN ?_
    exact aw_ret1 rfl rfl (ret_eq rfl (decide_eq_false (ne_of_at hx hy ht30)).symm)
   ·
    refine CSIR ?_; refine A0 o_add ?_; refine A0 mV ?_; refine CN ?_
    exact Nx (k + 1) (⟨by omega, beq_all_succ hx hy hinv.2 (by simpa using ht30)⟩) (by omega)
  ·
   refine CE ?_; refine CQR ?_; refine A0 aV ?_; refine CN ?_
   exact aw_ret1 rfl rfl (ret_eq rfl (decide_eq_true (by have h := hinv.2; rw [List.take_of_length_le (by omega), List.take_of_length_le (by omega)] at h; exact h)).symm)
theorem sampSame_ok (a b : Sampling) : Tells P 25 [.val samplingT a, .val samplingT b] (.val boolT (decide (a = b))) := by
 refine fn_of_aw Tryz.func25 rfl rfl rfl (fun ext w hext => ?_)
 refine CQR ?_; refine aw_box rfl rfl rfl rfl rfl ?_; refine aw_box rfl rfl rfl rfl rfl ?_; refine A0 aV ?_; refine CNQR ?_; refine A0 aC ?_; refine CNQR ?_; refine A0 (oFp fd_35_0) ?_; refine A0 (oLb L_Sampling_tip ty_32) ?_
 refine A0 (oFp fd_35_0) ?_; refine A0 (oLb L_Sampling_tip ty_32) ?_; refine A0 (g_eqlS rfl rfl rfl (eqt_32)) ?_; refine A0 mV ?_
 refine aw_splitp (d := 11) (p := a.tip = b.tip) rfl (by simp) (fun g11 => ?_) (fun g11 => ?_)
 ·
  refine A1 (oFp fd_35_1) ?_; refine A1 (oLb L_Sampling_s ty_33) ?_; refine A1 (oFp fd_35_1) ?_; refine A1 (oLb L_Sampling_s ty_33) ?_; refine A1 mC ?_
  refine A1 (oCl (equalFSample _ _) rfl fn_50 ⟨(arg_v rfl), (arg_v rfl), (by first | exact arg_fn1 (Cs := []) rfl fn_48 (by intro n hn; cases hn) trivial rfl (fun x => sampSame1_ok x y) | exact arg_fn2 (Cs := []) rfl fn_48 (by intro n hn; cases hn) trivial rfl (fun x y => sampSame1_ok x y) | exact arg_clo rfl), trivial⟩) ?_
  refine A0 oK ?_; refine A0 aV ?_; refine CN ?_
  exact aw_ret1 rfl rfl (ret_eq rfl (by rw [decide_eq_decide]; exact ⟨fun h => by cases a; cases b; simp_all, fun h => by rw [h]⟩))
 ·
  refine A2 ?_; refine A2 ?_; refine A2 ?_; refine A2 ?_; refine A2 ?_; refine A2 ?_; refine A0 oK ?_; refine A0 aV ?_; refine CN ?_
  exact aw_ret1 rfl rfl (ret_eq rfl (by symm; apply decide_eq_false; intro h; exact g11 (by rw [h])))
theorem two_okc : Tells P 24 [] (.val (sl blockT) [easyB0, easyB]) := by
 refine fn_of_aw Tryz.func24 rfl rfl rfl (fun ext w hext => ?_)
 refine CQR ?_; refine A0 aL ?_; refine CNQR ?_; refine A0 (oCl (newC_ok 545259519) rfl fn_46 ⟨(arg_v rfl), trivial⟩) ?_; refine A0 mX ?_; refine A0 (by first | exact g_x20 rfl rfl | exact g_x30 rfl rfl) ?_
 refine aw_reval (d := 7) (y := [easyB0]) rfl easy_newOf ?_; refine A0 (by first | exact g_x21 rfl rfl | exact g_x31 rfl rfl) ?_; refine A0 aV ?_; refine A0 aV ?_; refine CNQR ?_; refine A0 mV ?_
 refine A0 (oCl (tells_pub2 (growC_ok [easyB0] [] 0 small_easyC0 ⟨by decide, fun t ht => by cases ht⟩)) rfl fn_47 ⟨(arg_v rfl), (by first | exact arg_same rfl | exact arg_bsl rfl | exact arg_own rfl rfl | exact arg_nil rfl | exact arg_rptr rfl | exact arg_fn rfl rfl | exact arg_lit rfl), (arg_v rfl), trivial⟩) ?_
 refine A0 mX ?_; refine A0 (by first | exact g_x20 rfl rfl | exact g_x30 rfl rfl) ?_; refine aw_reval (d := 12) (y := [easyB0, easyB]) rfl easy_grown ?_; refine A0 (by first | exact g_x21 rfl rfl | exact g_x31 rfl rfl) ?_; refine A0 aV ?_
 refine A0 aV ?_; refine CNQR ?_; refine A0 mV ?_; refine A0 aV ?_; refine CN ?_
 exact aw_ret1 rfl rfl (ret_eq rfl rfl)
theorem awake20_ok : Tells P 9 [] (.val boolT true) := by
 obtain ⟨s, hs⟩ : ∃ s, s = buildOf [easyB0, easyB] 2 := ⟨_, rfl⟩
 have hb := build_ok20 [easyB0, easyB] 2 small_easyC
 rw [← hs, two_ok (n := 2) (by decide) (by decide)] at hb
 obtain ⟨f1, f2, f3, f4⟩ := two_facts hs
 have g1 : s.s[0]? = some ⟨0, easyB0.h, []⟩ := by rw [f1]; rfl
 have g2 : s.s[1]? = some ⟨0, easyB0.h, []⟩ := by rw [f1]; rfl
 refine fn_of_aw Tryz.func9 rfl rfl rfl (fun ext w hext => ?_)
 refine CQR ?_; refine A0 aV ?_; refine CNQR ?_; refine A0 (oCl (two_okc) rfl fn_24 trivial) ?_; refine A0 (oCl (hb) rfl fn_11 ⟨(arg_v rfl), (arg_v rfl), trivial⟩) ?_; refine A0 mX ?_
 refine A0 (by first | exact g_x20 rfl rfl | exact g_x30 rfl rfl) ?_; refine A0 (by first | exact g_x21 rfl rfl | exact g_x31 rfl rfl) ?_; refine aw_alloc ze_35 rfl rfl rfl rfl ?_
 refine aw_store_b rfl rfl rfl rfl rfl (Lens.self _) ty_35 rfl ?_; refine A0 aV ?_; refine CNQR ?_; refine A0 mV ?_; refine A0 o_eql ?_; refine A0 mV ?_; refine aw_ist (d := 10) rfl (rfl) ?_; refine A1 (oFp fd_35_1) ?_
 refine A1 (oLb L_Sampling_s ty_33) ?_; refine A1 (g_len rfl rfl isl_33) ?_; refine A1 o_eql ?_; refine A0 oK ?_; refine A0 mV ?_; refine aw_ist (d := 16) rfl (by rw [f1]; rfl) ?_; refine A1 (oFp fd_35_1) ?_
 refine A1 (oLb L_Sampling_s ty_33) ?_; refine A1 (g_ia_i (i := 0) rfl rfl rfl (by omega) sl_33 (by assumption)) ?_; refine A1 (oFr fd_51_0 L_Sample_i) ?_; refine A1 (g_load_r rfl rfl ty_3) ?_; refine A1 o_eql ?_; refine A0 oK ?_
 refine A0 mV ?_; refine aw_ist (d := 24) rfl (rfl) ?_; refine A1 (oFp fd_35_1) ?_; refine A1 (oLb L_Sampling_s ty_33) ?_; refine A1 (g_ia_i (i := 1) rfl rfl rfl (by omega) sl_33 (by assumption)) ?_; refine A1 (oFr fd_51_0 L_Sample_i) ?_
 refine A1 (g_load_r rfl rfl ty_3) ?_; refine A1 o_eql ?_; refine A0 oK ?_; refine A0 mV ?_; refine aw_ist (d := 32) rfl (rfl) ?_; refine A1 (oLs rfl rfl rfl ty_35) ?_
 refine A1 (oCl (scheck_ok s 2) rfl fn_12 ⟨(arg_v rfl), (arg_v rfl), trivial⟩) ?_; refine A1 o_eql ?_; refine A0 oK ?_; refine A0 mV ?_; refine aw_ist (d := 37) rfl (by rw [f2]; rfl) ?_; refine A1 (oLs rfl rfl rfl ty_35) ?_
 refine A1 (oCl (scheck_ok s 1) rfl fn_12 ⟨(arg_v rfl), (arg_v rfl), trivial⟩) ?_; refine A1 o_eql ?_; refine A0 oK ?_; refine A0 mV ?_; refine aw_ist (d := 42) rfl (by rw [f3]; rfl) ?_; refine A1 (oFp fd_35_0) ?_; refine A1 (oFp fd_32_0) ?_
 refine A1 (oLb (L_Sampling_tip.comp L_Head_height) ty_3) ?_; refine A1 o_eql ?_; refine A0 oK ?_; refine A0 mV ?_; refine aw_ist (d := 48) rfl (by rw [f4]; rfl) ?_; refine A1 (oLs rfl rfl rfl ty_35) ?_; refine A1 (oLs rfl rfl rfl ty_35) ?_
 refine A1 (oCl (sampSame_ok s s) rfl fn_25 ⟨(arg_v rfl), (arg_v rfl), trivial⟩) ?_; refine A0 oK ?_; refine A0 mV ?_; refine aw_ist (d := 53) rfl (by simp) ?_; refine A1 (g_buildZ rfl ar_26 ze_26 rfl) ?_
 refine A1 (oCl (ofW_ok 5) rfl fn_23 ⟨(arg_v rfl), trivial⟩) ?_; refine A1 (oCl (tells_pub (picks_ok zId (ofW 5) 3)) rfl fn_14 ⟨(arg_v rfl), (arg_v rfl), (arg_v rfl), trivial⟩) ?_; refine A1 (g_len rfl rfl isl_46) ?_; refine A1 o_eql ?_
 refine A0 oK ?_; refine A0 mV ?_; refine aw_ist (d := 60) rfl (by rw [awake_picks]; rfl) ?_; refine A1 (oCl (ofW_ok 2) rfl fn_23 ⟨(arg_v rfl), trivial⟩) ?_; refine A1 (g_build rfl ze_53 bd_53 (.cons fd_53_1 L_Total_w ty_29 rfl .nil) rfl) ?_
 refine A1 (g_bslice (T := totalT) (xs := [_]) rfl sl_49 row_49 ⟨rfl, rfl, trivial⟩ rfl rfl) ?_; refine A1 (oCl (ofW_ok 1) rfl fn_23 ⟨(arg_v rfl), trivial⟩) ?_
 refine A1 (oCl (locate_ok [⟨zId, ofW 2, 0⟩] (ofW 1)) rfl fn_22 ⟨(arg_v rfl), (arg_v rfl), trivial⟩) ?_; refine A1 o_eql ?_; refine A0 oK ?_; refine A0 aV ?_; refine CN ?_
 exact aw_ret1 rfl rfl (ret_eq rfl (by rw [awake_loc]; rfl))
end Go.Proofs.YtdakocblfaojnaaGreat
set_option maxRecDepth 20000
namespace Go.Proofs.YtdakocblfaojnaaGreat
set_option linter.unusedVariables false
set_option linter.unusedSimpArgs false
open Go.Ab Go.RowKit
theorem SamplePicks_ok (seed : Ab.Id) (below : Wide) (n m : Int) (l : List Total) (z : Wide) : Tells P 6 [.val idT seed, .val wideT below, .val i64T n, .val i64T m, .val (sl totalT) l, .val wideT z] (.val boolT true) := by
 obtain ⟨Pa, hPa⟩ : ∃ Pa, Pa = picksOf seed below n := ⟨_, rfl⟩
 have hpA := tells_pub (picks_ok seed below n)
 rw [← hPa] at hpA
 obtain ⟨Pb, hPb⟩ : ∃ Pb, Pb = picksOf seed below m := ⟨_, rfl⟩
 have hpB1 := tells_pub (picks_ok seed below m)
 rw [← hPb] at hpB1
 have hPl : Pa.length ≤ 20 := by rw [hPa]; exact picks_le
 refine fn_of_aw Tryz.func6 rfl rfl rfl (fun ext w hext => ?_)
 refine aw_fact (d := 2) rfl fact_int (fun hin2 => ?_)
 refine aw_fact (d := 3) rfl fact_int (fun hin3 => ?_)
 refine aw_fact (d := 4) rfl fact_sl (fun hsl4 => ?_)
 refine aw_fact (d := 1) rfl fact_wide (fun hb4 => ?_)
 refine aw_fact (d := 5) rfl fact_wide (fun hz4 => ?_)
 refine aw_fact (d := 4) rfl fact_ws (fun hws => ?_)
 refine CQR ?_; refine aw_box rfl rfl rfl rfl rfl ?_; refine aw_box rfl rfl rfl rfl rfl ?_; refine aw_box rfl rfl rfl rfl rfl ?_; refine A0 aV ?_; refine CNQR ?_; refine A0 (oCl (awake20_ok) rfl fn_9 trivial) ?_; refine A0 aV ?_
 refine CNQQR ?_; refine A0 mV ?_; refine A0 oN ?_; refine A0 mV ?_; refine aw_isf (d := 27) rfl (rfl) ?_; refine A1 mV ?_; refine A1 (g_len rfl rfl isl_49) ?_; refine A1 o_gtr ?_; refine A0 oK ?_; refine CN ?_
 refine Cf (p := 70 < l.length) (fun ht31 => ?_) (fun ht31 => ?_)
 ·
  refine CQR ?_; refine A0 mV ?_; refine A0 aV ?_; refine CN ?_
  first | exact aw_ret1 rfl rfl (ret_eq rfl rfl) | exact aw_ret1 rfl rfl (ret_eq rfl (decide_eq_true q5))
 ·
  refine CSQR ?_; refine A0 (oLs rfl rfl rfl ty_26) ?_; refine A0 (oLs rfl rfl rfl ty_29) ?_; refine A0 mV ?_; refine A0 (oCl (hpA) rfl fn_14 ⟨(arg_v rfl), (arg_v rfl), (arg_v rfl), trivial⟩) ?_; refine A0 aV ?_; refine CNQR ?_
  refine A0 (oLs rfl rfl rfl ty_26) ?_; refine A0 (oLs rfl rfl rfl ty_29) ?_; refine A0 mV ?_; refine A0 (oCl (hpB1) rfl fn_14 ⟨(arg_v rfl), (arg_v rfl), (arg_v rfl), trivial⟩) ?_; refine A0 aV ?_; refine CNQQR ?_; refine A0 mV ?_
  refine A0 o_geq ?_; refine A0 mV ?_
  refine Sp (d := 43) (p := 1 ≤ n) (fun g43 => ?_) (fun g43 => ?_)
  ·
   refine A1 mV ?_; refine A1 o_leq ?_; refine A0 oK ?_; refine A0 mV ?_
   refine Sp (d := 47) (p := n ≤ 20) (fun g47 => ?_) (fun g47 => ?_)
   ·
    refine A1 (oLs rfl rfl rfl ty_29) ?_; refine A1 (g_buildZ rfl ar_29 ze_29 rfl) ?_; refine A1 (g_neqS rfl rfl rfl (eqt_29)) ?_; refine A0 oK ?_; refine A0 mV ?_
    refine aw_splitp (d := 52) (p := ¬ below = zWide) rfl (by simp) (fun g52 => ?_) (fun g52 => ?_)
    ·
     refine A1 mV ?_; refine A1 (g_len rfl rfl isl_46) ?_; refine A1 mV ?_; refine A1 o_neq ?_; refine A0 oK ?_; refine CN ?_
     refine aw_if_f rfl (by have := picks_len (seed := seed) (below := below) (n := n) ⟨g43, g47, g52⟩; rw [← hPa] at this; simp [IntL.toI, this]) ?_; refine CSQQR ?_; refine A0 aV ?_; refine CNB ?_
     refine Lp (ι := Nat) 3 (fun (k : Nat) => ((((((Fr.none).set 4 (.val (sl totalT) l)).set 7 (.ptr 1 0)).set 11 (.ptr 2 0)).set 14 (.val (sl wideT) Pa)).set 15 (.val (sl wideT) Pb)).set 16 (.val i64T (k : Int))) (fun (k : Nat) => ((Hp.none).set 1 (.box 29 wideT below)).set 2 (.box 29 wideT z)) (fun (k : Nat) => k ≤ Pa.length) (fun (k : Nat) => Pa.length - k) (0) (Nat.zero_le _) ?_
     intro k hinv
     refine CQQR ?_; refine A0 mV ?_; refine A0 mV ?_; refine A0 (g_len rfl rfl isl_46) ?_; refine A0 o_lss ?_; refine CN ?_
     refine Cf (p := k < Pa.length) (fun ht61 => ?_) (fun ht61 => ?_)
     ·
      obtain ⟨x, hx⟩ : ∃ x, Pa[k]? = some x := ⟨_, List.getElem?_eq_getElem ht61⟩
      refine CS ?_; refine CQ ?_; refine CB ?_; refine CQ ?_; refine CD mixed ?_; refine G0 mV ?_; refine G0 mV ?_; refine G0 (g_ia_i (i := k) rfl rfl rfl (by omega) sl_46 (by assumption)) ?_; refine G0 (g_load_r rfl rfl ty_29) ?_
      refine G0 (oLs rfl rfl rfl ty_29) ?_
      refine G0 (oCl (cmpW_ok _ _) rfl fn_20 ⟨(by first | exact arg_same rfl | exact arg_bsl rfl | exact arg_own rfl rfl | exact arg_nil rfl | exact arg_rptr rfl | exact arg_fn rfl rfl | exact arg_lit rfl), (arg_v rfl), trivial⟩) ?_
      refine G0 o_geq ?_; refine G0 mV ?_; refine GK_isf (d := 71) rfl (decide_eq_false (pick_below (hPa ▸ hx) hb4)) ?_; refine G1 mV ?_; refine G1 mV ?_; refine G1 (g_len rfl rfl isl_46) ?_; refine G1 o_lss ?_; refine G1 mV ?_
      refine GK_splitp (d := 76) (p := k < Pb.length) rfl (by first | rfl | (rw [decide_eq_decide]; simp only [IntL.toI, id_eq]; omega) | (simp [IntL.toI]; done) | (simp [IntL.toI]; omega)) (fun g76 => ?_) (fun g76 => ?_)
      ·
       obtain ⟨y, hy⟩ : ∃ y, Pb[k]? = some y := ⟨_, List.getElem?_eq_getElem g76⟩
       have hxy : x = y := pick_same (seed := seed) (below := below) (n := n) (k := m) (by rw [← hPa]; exact hx) (by rw [← hPb]; exact hy)
       refine G1 mV ?_; refine G1 mV ?_; refine G1 (g_ia_i (i := k) rfl rfl rfl (by omega) sl_46 (by assumption)) ?_; refine G1 (g_load_r rfl rfl ty_29) ?_; refine G1 mV ?_; refine G1 mV ?_
       refine G1 (g_ia_i (i := k) rfl rfl rfl (by omega) sl_46 (by assumption)) ?_; refine G1 (g_load_r rfl rfl ty_29) ?_; refine G1 (g_neqS rfl rfl rfl (eqt_29)) ?_; refine G1 oK ?_; refine G0 oK ?_; refine GK.nil ?_
       refine aw_if_f rfl (by rw [hxy]; simp) ?_; refine CSIR ?_; refine A0 mV ?_; refine A0 o_add ?_; refine A0 aV ?_; refine CN ?_
       exact Nx (k + 1) (by omega) (by omega)
      ·
       refine G2 ?_; refine G2 ?_; refine G2 ?_; refine G2 ?_; refine G2 ?_; refine G2 ?_; refine G2 ?_; refine G2 ?_; refine G2 ?_; refine G1 oK ?_; refine G0 oK ?_; refine GK.nil ?_; refine Cg ?_; refine CSIR ?_; refine A0 mV ?_
       refine A0 o_add ?_; refine A0 aV ?_; refine CN ?_
       exact Nx (k + 1) (by omega) (by omega)
     ·
      refine CE ?_; refine CQR ?_; refine A0 mV ?_; refine A0 (oLs rfl rfl rfl ty_29) ?_; refine A0 (oCl (locate_ok l z) rfl fn_22 ⟨(arg_v rfl), (arg_v rfl), trivial⟩) ?_; refine A0 aV ?_; refine CNQQR ?_; refine A0 mV ?_; refine A0 o_lss ?_
      refine A0 mV ?_; refine aw_isf (d := 93) rfl (decide_eq_false (by have := (loc_range hz4 hws).1; simp [IntL.toI]; omega)) ?_; refine A1 mV ?_; refine A1 mV ?_; refine A1 (g_len rfl rfl isl_49) ?_; refine A1 o_geq ?_; refine A0 oK ?_
      refine CN ?_; refine aw_if_f rfl (decide_eq_false (by have := (loc_range hz4 hws).2; simp [IntL.toI]; omega)) ?_; refine CSQR ?_; refine A0 (oCl (ofW_ok 0) rfl fn_23 ⟨(arg_v rfl), trivial⟩) ?_; refine aw_alloc ze_29 rfl rfl rfl rfl ?_
      refine aw_store_b rfl rfl rfl rfl rfl (Lens.self _) ty_29 rfl ?_; refine CNQQR ?_; refine A0 aV ?_; refine CNB ?_; refine aw_reheap (n := 3) (y := aheadW l 0) rfl rfl ?_
      refine Lp (ι := Nat) 4 (fun (j : Nat) => (((((Fr.none).set 4 (.val (sl totalT) l)).set 11 (.ptr 2 0)).set 17 (.val i64T (locOf l z))).set 18 (.ptr 3 0)).set 19 (.val i64T (j : Int))) (fun (j : Nat) => ((Hp.none).set 2 (.box 29 wideT z)).set 3 (.box 29 wideT (aheadW l j))) (fun (j : Nat) => j = 0 ∨ (j : Int) ≤ locOf l z) (fun (j : Nat) => l.length - j) (0) (.inl rfl) ?_
      intro j hinv
      refine CQQR ?_; refine A0 mV ?_; refine A0 mV ?_; refine A0 o_lss ?_; refine CN ?_
      refine Cf (p := (j : Int) < locOf l z) (fun ht102 => ?_) (fun ht102 => ?_)
      ·
       have hlr := (loc_range hz4 hws).2
       obtain ⟨y, hyl⟩ : ∃ y, l[j]? = some y := ⟨_, List.getElem?_eq_getElem (by omega)⟩
       refine CS ?_; refine CQ ?_; refine CB ?_; refine CQ ?_
       refine aw_drawx [some 1000001, some 1000001, some 1000001, some 1000001, some 1000001, some 1000001, some 1000001, some 1000001, some 1000001, some 1000001, none, none, some 1] mixed (by decide +kernel) ?_
       refine XK.gf (t := 18) rfl rfl (fun _ he => g_load_b rfl rfl he (Lens.self _) ty_29) ⟨rfl, trivial⟩ rfl rfl rfl ?_; refine XK.ga (fun _ => g_mv (.inl rfl) rfl) rfl rfl rfl ?_; refine XK.ga (fun _ => g_mv (.inl rfl) rfl) rfl rfl rfl ?_
       refine XK.ga (fun _ => g_ia_i (i := j) rfl rfl rfl (by omega) sl_49 (by assumption)) rfl rfl rfl ?_; refine XK.ga (fun _ => g_fa_r rfl rfl fd_53_1 L_Total_w) rfl rfl rfl ?_; refine XK.ga (fun _ => g_load_r rfl rfl ty_29) rfl rfl rfl ?_
       refine XK.ga (fun _ => g_call (addW_ok (aheadW l j) y.w) rfl fn_19 ⟨(arg_v rfl), (by first | exact arg_same rfl | exact arg_bsl rfl | exact arg_own rfl rfl | exact arg_nil rfl | exact arg_rptr rfl | exact arg_fn rfl rfl | exact arg_lit rfl), trivial⟩ rfl) rfl rfl rfl ?_
       refine XK.ga (fun _ => by first | exact g_mv (.inl rfl) rfl | exact g_mp (.inl rfl) rfl | exact g_mo (.inl rfl) rfl | exact g_ml (.inl rfl) rfl | exact g_mc (.inl rfl) rfl | exact g_mr (.inl rfl) rfl | exact g_mf1 (.inl rfl) rfl | exact g_mf2 (.inl rfl) rfl | exact g_mw (.inl rfl) rfl | exact g_me (.inl rfl) rfl | exact g_ms (.inl rfl) rfl | exact g_mt2 (.inl rfl) rfl | exact g_mt3 (.inl rfl) rfl | exact g_mi (.inl rfl) rfl) rfl rfl rfl ?_
       refine XK.ga (fun _ => by first | exact g_x20 rfl rfl | exact g_x30 rfl rfl) rfl rfl rfl ?_; refine XK.ga (fun _ => by first | exact g_x21 rfl rfl | exact g_x31 rfl rfl) rfl rfl rfl ?_
       refine XK.e (fun fr' hfr kk H => by exact aw_alloc ze_29 rfl rfl rfl rfl (aw_nil H)) ?_
       refine XK.e (x := .idk) (fun fr' hfr kk H => by exact aw_store_b rfl rfl rfl ((hfr 20 (by decide +kernel)).trans rfl) rfl (Lens.self _) ty_29 ((hfr 113 (by decide +kernel)).trans rfl) (aw_nil H)) ?_; refine X0 aV ?_
       refine XK.nilp ⟨⟨hpB rfl rfl, hpB rfl rfl, trivial⟩, trivial⟩ ?_; refine CR ?_; refine A0 (oLs rfl rfl rfl ty_29) ?_; refine aw_store_b rfl rfl rfl rfl rfl (Lens.self _) ty_29 rfl ?_; refine CNIR ?_; refine A0 mV ?_; refine A0 o_add ?_
       refine A0 aV ?_; refine CN ?_; refine aw_reheap (n := 3) (y := aheadW l (j + 1)) rfl (ahead_succ hyl) ?_
       exact Nx (j + 1) (.inr (by omega)) (by omega)
      ·
       refine CE ?_; refine CQQR ?_; refine A0 mV ?_; refine A0 o_lss ?_; refine CN ?_
       refine Cf (p := locOf l z < 0) (fun ht117 => ?_) (fun ht117 => ?_)
       ·
        refine CQR ?_; refine A0 aV ?_; refine CN ?_
        first | exact aw_ret1 rfl rfl (ret_eq rfl rfl) | exact aw_ret1 rfl rfl (ret_eq rfl (decide_eq_true q5))
       ·
        obtain ⟨q, y, q1, q2, q3, q4, q5⟩ := (loc_law hz4 hws).resolve_left (by omega)
        obtain rfl : j = q := by omega
        refine CS ?_; refine CQ ?_; refine aw_drawx [some 1000001, some 1000001, some 1000001, some 1000001, some 1000001, some 1000001, some 1000001, some 1000001, some 1000001, some 1000001, none, none, some 1] mixed (by decide +kernel) ?_
        refine XK.gf (t := 18) rfl rfl (fun _ he => g_load_b rfl rfl he (Lens.self _) ty_29) ⟨rfl, trivial⟩ rfl rfl rfl ?_; refine XK.ga (fun _ => g_mv (.inl rfl) rfl) rfl rfl rfl ?_; refine XK.ga (fun _ => g_mv (.inl rfl) rfl) rfl rfl rfl ?_
        refine XK.ga (fun _ => g_ia_i (i := j) rfl rfl rfl (by omega) sl_49 (by assumption)) rfl rfl rfl ?_; refine XK.ga (fun _ => g_fa_r rfl rfl fd_53_1 L_Total_w) rfl rfl rfl ?_; refine XK.ga (fun _ => g_load_r rfl rfl ty_29) rfl rfl rfl ?_
        refine XK.ga (fun _ => g_call (addW_ok (aheadW l j) y.w) rfl fn_19 ⟨(arg_v rfl), (by first | exact arg_same rfl | exact arg_bsl rfl | exact arg_own rfl rfl | exact arg_nil rfl | exact arg_rptr rfl | exact arg_fn rfl rfl | exact arg_lit rfl), trivial⟩ rfl) rfl rfl rfl ?_
        refine XK.ga (fun _ => by first | exact g_mv (.inl rfl) rfl | exact g_mp (.inl rfl) rfl | exact g_mo (.inl rfl) rfl | exact g_ml (.inl rfl) rfl | exact g_mc (.inl rfl) rfl | exact g_mr (.inl rfl) rfl | exact g_mf1 (.inl rfl) rfl | exact g_mf2 (.inl rfl) rfl | exact g_mw (.inl rfl) rfl | exact g_me (.inl rfl) rfl | exact g_ms (.inl rfl) rfl | exact g_mt2 (.inl rfl) rfl | exact g_mt3 (.inl rfl) rfl | exact g_mi (.inl rfl) rfl) rfl rfl rfl ?_
        refine XK.ga (fun _ => by first | exact g_x20 rfl rfl | exact g_x30 rfl rfl) rfl rfl rfl ?_; refine XK.ga (fun _ => by first | exact g_x21 rfl rfl | exact g_x31 rfl rfl) rfl rfl rfl ?_
        refine XK.e (fun fr' hfr kk H => by exact aw_alloc ze_29 rfl rfl rfl rfl (aw_nil H)) ?_
        refine XK.e (x := .idk) (fun fr' hfr kk H => by exact aw_store_b rfl rfl rfl ((hfr 22 (by decide +kernel)).trans rfl) rfl (Lens.self _) ty_29 ((hfr 126 (by decide +kernel)).trans rfl) (aw_nil H)) ?_; refine X0 aV ?_
        refine XK.nilp ⟨⟨hpB rfl rfl, hpB rfl rfl, trivial⟩, trivial⟩ ?_; refine CQR ?_; refine A0 (oLs rfl rfl rfl ty_29) ?_; refine A0 (oLs rfl rfl rfl ty_29) ?_; refine A0 (oCl (cmpW_ok _ _) rfl fn_20 ⟨(arg_v rfl), (arg_v rfl), trivial⟩) ?_
        refine A0 o_leq ?_; refine A0 mV ?_; refine aw_ist (d := 132) rfl (decide_eq_true q4) ?_; refine A1 (oLs rfl rfl rfl ty_29) ?_; refine A1 (oLs rfl rfl rfl ty_29) ?_
        refine A1 (oCl (cmpW_ok _ _) rfl fn_20 ⟨(arg_v rfl), (arg_v rfl), trivial⟩) ?_; refine A1 o_lss ?_; refine A0 oK ?_; refine A0 aV ?_; refine CN ?_
        first | exact aw_ret1 rfl rfl (ret_eq rfl rfl) | exact aw_ret1 rfl rfl (ret_eq rfl (decide_eq_true q5))
    ·
     refine A2 ?_; refine A2 ?_; refine A2 ?_; refine A2 ?_; refine A0 oK ?_; refine CN ?_; refine Cg ?_; refine CSQQR ?_; refine A0 aV ?_; refine CNB ?_
     refine Lp (ι := Nat) 3 (fun (k : Nat) => ((((((Fr.none).set 4 (.val (sl totalT) l)).set 7 (.ptr 1 0)).set 11 (.ptr 2 0)).set 14 (.val (sl wideT) Pa)).set 15 (.val (sl wideT) Pb)).set 16 (.val i64T (k : Int))) (fun (k : Nat) => ((Hp.none).set 1 (.box 29 wideT below)).set 2 (.box 29 wideT z)) (fun (k : Nat) => k ≤ Pa.length) (fun (k : Nat) => Pa.length - k) (0) (Nat.zero_le _) ?_
     intro k hinv
     refine CQQR ?_; refine A0 mV ?_; refine A0 mV ?_; refine A0 (g_len rfl rfl isl_46) ?_; refine A0 o_lss ?_; refine CN ?_
     refine Cf (p := k < Pa.length) (fun ht61 => ?_) (fun ht61 => ?_)
     ·
      obtain ⟨x, hx⟩ : ∃ x, Pa[k]? = some x := ⟨_, List.getElem?_eq_getElem ht61⟩
      refine CS ?_; refine CQ ?_; refine CB ?_; refine CQ ?_; refine CD mixed ?_; refine G0 mV ?_; refine G0 mV ?_; refine G0 (g_ia_i (i := k) rfl rfl rfl (by omega) sl_46 (by assumption)) ?_; refine G0 (g_load_r rfl rfl ty_29) ?_
      refine G0 (oLs rfl rfl rfl ty_29) ?_
      refine G0 (oCl (cmpW_ok _ _) rfl fn_20 ⟨(by first | exact arg_same rfl | exact arg_bsl rfl | exact arg_own rfl rfl | exact arg_nil rfl | exact arg_rptr rfl | exact arg_fn rfl rfl | exact arg_lit rfl), (arg_v rfl), trivial⟩) ?_
      refine G0 o_geq ?_; refine G0 mV ?_; refine GK_isf (d := 71) rfl (decide_eq_false (pick_below (hPa ▸ hx) hb4)) ?_; refine G1 mV ?_; refine G1 mV ?_; refine G1 (g_len rfl rfl isl_46) ?_; refine G1 o_lss ?_; refine G1 mV ?_
      refine GK_splitp (d := 76) (p := k < Pb.length) rfl (by first | rfl | (rw [decide_eq_decide]; simp only [IntL.toI, id_eq]; omega) | (simp [IntL.toI]; done) | (simp [IntL.toI]; omega)) (fun g76 => ?_) (fun g76 => ?_)
      ·
       obtain ⟨y, hy⟩ : ∃ y, Pb[k]? = some y := ⟨_, List.getElem?_eq_getElem g76⟩
       have hxy : x = y := pick_same (seed := seed) (below := below) (n := n) (k := m) (by rw [← hPa]; exact hx) (by rw [← hPb]; exact hy)
       refine G1 mV ?_; refine G1 mV ?_; refine G1 (g_ia_i (i := k) rfl rfl rfl (by omega) sl_46 (by assumption)) ?_; refine G1 (g_load_r rfl rfl ty_29) ?_; refine G1 mV ?_; refine G1 mV ?_
       refine G1 (g_ia_i (i := k) rfl rfl rfl (by omega) sl_46 (by assumption)) ?_; refine G1 (g_load_r rfl rfl ty_29) ?_; refine G1 (g_neqS rfl rfl rfl (eqt_29)) ?_; refine G1 oK ?_; refine G0 oK ?_; refine GK.nil ?_
       refine aw_if_f rfl (by rw [hxy]; simp) ?_; refine CSIR ?_; refine A0 mV ?_; refine A0 o_add ?_; refine A0 aV ?_; refine CN ?_
       exact Nx (k + 1) (by omega) (by omega)
      ·
       refine G2 ?_; refine G2 ?_; refine G2 ?_; refine G2 ?_; refine G2 ?_; refine G2 ?_; refine G2 ?_; refine G2 ?_; refine G2 ?_; refine G1 oK ?_; refine G0 oK ?_; refine GK.nil ?_; refine Cg ?_; refine CSIR ?_; refine A0 mV ?_
       refine A0 o_add ?_; refine A0 aV ?_; refine CN ?_
       exact Nx (k + 1) (by omega) (by omega)
     ·
      refine CE ?_; refine CQR ?_; refine A0 mV ?_; refine A0 (oLs rfl rfl rfl ty_29) ?_; refine A0 (oCl (locate_ok l z) rfl fn_22 ⟨(arg_v rfl), (arg_v rfl), trivial⟩) ?_; refine A0 aV ?_; refine CNQQR ?_; refine A0 mV ?_; refine A0 o_lss ?_
      refine A0 mV ?_; refine aw_isf (d := 93) rfl (decide_eq_false (by have := (loc_range hz4 hws).1; simp [IntL.toI]; omega)) ?_; refine A1 mV ?_; refine A1 mV ?_; refine A1 (g_len rfl rfl isl_49) ?_; refine A1 o_geq ?_; refine A0 oK ?_
      refine CN ?_; refine aw_if_f rfl (decide_eq_false (by have := (loc_range hz4 hws).2; simp [IntL.toI]; omega)) ?_; refine CSQR ?_; refine A0 (oCl (ofW_ok 0) rfl fn_23 ⟨(arg_v rfl), trivial⟩) ?_; refine aw_alloc ze_29 rfl rfl rfl rfl ?_
      refine aw_store_b rfl rfl rfl rfl rfl (Lens.self _) ty_29 rfl ?_; refine CNQQR ?_; refine A0 aV ?_; refine CNB ?_; refine aw_reheap (n := 3) (y := aheadW l 0) rfl rfl ?_
      refine Lp (ι := Nat) 4 (fun (j : Nat) => (((((Fr.none).set 4 (.val (sl totalT) l)).set 11 (.ptr 2 0)).set 17 (.val i64T (locOf l z))).set 18 (.ptr 3 0)).set 19 (.val i64T (j : Int))) (fun (j : Nat) => ((Hp.none).set 2 (.box 29 wideT z)).set 3 (.box 29 wideT (aheadW l j))) (fun (j : Nat) => j = 0 ∨ (j : Int) ≤ locOf l z) (fun (j : Nat) => l.length - j) (0) (.inl rfl) ?_
      intro j hinv
      refine CQQR ?_; refine A0 mV ?_; refine A0 mV ?_; refine A0 o_lss ?_; refine CN ?_
      refine Cf (p := (j : Int) < locOf l z) (fun ht102 => ?_) (fun ht102 => ?_)
      ·
       have hlr := (loc_range hz4 hws).2
       obtain ⟨y, hyl⟩ : ∃ y, l[j]? = some y := ⟨_, List.getElem?_eq_getElem (by omega)⟩
       refine CS ?_; refine CQ ?_; refine CB ?_; refine CQ ?_
       refine aw_drawx [some 1000001, some 1000001, some 1000001, some 1000001, some 1000001, some 1000001, some 1000001, some 1000001, some 1000001, some 1000001, none, none, some 1] mixed (by decide +kernel) ?_
       refine XK.gf (t := 18) rfl rfl (fun _ he => g_load_b rfl rfl he (Lens.self _) ty_29) ⟨rfl, trivial⟩ rfl rfl rfl ?_; refine XK.ga (fun _ => g_mv (.inl rfl) rfl) rfl rfl rfl ?_; refine XK.ga (fun _ => g_mv (.inl rfl) rfl) rfl rfl rfl ?_
       refine XK.ga (fun _ => g_ia_i (i := j) rfl rfl rfl (by omega) sl_49 (by assumption)) rfl rfl rfl ?_; refine XK.ga (fun _ => g_fa_r rfl rfl fd_53_1 L_Total_w) rfl rfl rfl ?_; refine XK.ga (fun _ => g_load_r rfl rfl ty_29) rfl rfl rfl ?_
       refine XK.ga (fun _ => g_call (addW_ok (aheadW l j) y.w) rfl fn_19 ⟨(arg_v rfl), (by first | exact arg_same rfl | exact arg_bsl rfl | exact arg_own rfl rfl | exact arg_nil rfl | exact arg_rptr rfl | exact arg_fn rfl rfl | exact arg_lit rfl), trivial⟩ rfl) rfl rfl rfl ?_
       refine XK.ga (fun _ => by first | exact g_mv (.inl rfl) rfl | exact g_mp (.inl rfl) rfl | exact g_mo (.inl rfl) rfl | exact g_ml (.inl rfl) rfl | exact g_mc (.inl rfl) rfl | exact g_mr (.inl rfl) rfl | exact g_mf1 (.inl rfl) rfl | exact g_mf2 (.inl rfl) rfl | exact g_mw (.inl rfl) rfl | exact g_me (.inl rfl) rfl | exact g_ms (.inl rfl) rfl | exact g_mt2 (.inl rfl) rfl | exact g_mt3 (.inl rfl) rfl | exact g_mi (.inl rfl) rfl) rfl rfl rfl ?_
       refine XK.ga (fun _ => by first | exact g_x20 rfl rfl | exact g_x30 rfl rfl) rfl rfl rfl ?_; refine XK.ga (fun _ => by first | exact g_x21 rfl rfl | exact g_x31 rfl rfl) rfl rfl rfl ?_
       refine XK.e (fun fr' hfr kk H => by exact aw_alloc ze_29 rfl rfl rfl rfl (aw_nil H)) ?_
       refine XK.e (x := .idk) (fun fr' hfr kk H => by exact aw_store_b rfl rfl rfl ((hfr 20 (by decide +kernel)).trans rfl) rfl (Lens.self _) ty_29 ((hfr 113 (by decide +kernel)).trans rfl) (aw_nil H)) ?_; refine X0 aV ?_
       refine XK.nilp ⟨⟨hpB rfl rfl, hpB rfl rfl, trivial⟩, trivial⟩ ?_; refine CR ?_; refine A0 (oLs rfl rfl rfl ty_29) ?_; refine aw_store_b rfl rfl rfl rfl rfl (Lens.self _) ty_29 rfl ?_; refine CNIR ?_; refine A0 mV ?_; refine A0 o_add ?_
       refine A0 aV ?_; refine CN ?_; refine aw_reheap (n := 3) (y := aheadW l (j + 1)) rfl (ahead_succ hyl) ?_
       exact Nx (j + 1) (.inr (by omega)) (by omega)
      ·
       refine CE ?_; refine CQQR ?_; refine A0 mV ?_; refine A0 o_lss ?_; refine CN ?_
       refine Cf (p := locOf l z < 0) (fun ht117 => ?_) (fun ht117 => ?_)
       ·
        refine CQR ?_; refine A0 aV ?_; refine CN ?_
        first | exact aw_ret1 rfl rfl (ret_eq rfl rfl) | exact aw_ret1 rfl rfl (ret_eq rfl (decide_eq_true q5))
       ·
        obtain ⟨q, y, q1, q2, q3, q4, q5⟩ := (loc_law hz4 hws).resolve_left (by omega)
        obtain rfl : j = q := by omega
        refine CS ?_; refine CQ ?_; refine aw_drawx [some 1000001, some 1000001, some 1000001, some 1000001, some 1000001, some 1000001, some 1000001, some 1000001, some 1000001, some 1000001, none, none, some 1] mixed (by decide +kernel) ?_
        refine XK.gf (t := 18) rfl rfl (fun _ he => g_load_b rfl rfl he (Lens.self _) ty_29) ⟨rfl, trivial⟩ rfl rfl rfl ?_; refine XK.ga (fun _ => g_mv (.inl rfl) rfl) rfl rfl rfl ?_; refine XK.ga (fun _ => g_mv (.inl rfl) rfl) rfl rfl rfl ?_
        refine XK.ga (fun _ => g_ia_i (i := j) rfl rfl rfl (by omega) sl_49 (by assumption)) rfl rfl rfl ?_; refine XK.ga (fun _ => g_fa_r rfl rfl fd_53_1 L_Total_w) rfl rfl rfl ?_; refine XK.ga (fun _ => g_load_r rfl rfl ty_29) rfl rfl rfl ?_
        refine XK.ga (fun _ => g_call (addW_ok (aheadW l j) y.w) rfl fn_19 ⟨(arg_v rfl), (by first | exact arg_same rfl | exact arg_bsl rfl | exact arg_own rfl rfl | exact arg_nil rfl | exact arg_rptr rfl | exact arg_fn rfl rfl | exact arg_lit rfl), trivial⟩ rfl) rfl rfl rfl ?_
        refine XK.ga (fun _ => by first | exact g_mv (.inl rfl) rfl | exact g_mp (.inl rfl) rfl | exact g_mo (.inl rfl) rfl | exact g_ml (.inl rfl) rfl | exact g_mc (.inl rfl) rfl | exact g_mr (.inl rfl) rfl | exact g_mf1 (.inl rfl) rfl | exact g_mf2 (.inl rfl) rfl | exact g_mw (.inl rfl) rfl | exact g_me (.inl rfl) rfl | exact g_ms (.inl rfl) rfl | exact g_mt2 (.inl rfl) rfl | exact g_mt3 (.inl rfl) rfl | exact g_mi (.inl rfl) rfl) rfl rfl rfl ?_
        refine XK.ga (fun _ => by first | exact g_x20 rfl rfl | exact g_x30 rfl rfl) rfl rfl rfl ?_; refine XK.ga (fun _ => by first | exact g_x21 rfl rfl | exact g_x31 rfl rfl) rfl rfl rfl ?_
        refine XK.e (fun fr' hfr kk H => by exact aw_alloc ze_29 rfl rfl rfl rfl (aw_nil H)) ?_
        refine XK.e (x := .idk) (fun fr' hfr kk H => by exact aw_store_b rfl rfl rfl ((hfr 22 (by decide +kernel)).trans rfl) rfl (Lens.self _) ty_29 ((hfr 126 (by decide +kernel)).trans rfl) (aw_nil H)) ?_; refine X0 aV ?_
        refine XK.nilp ⟨⟨hpB rfl rfl, hpB rfl rfl, trivial⟩, trivial⟩ ?_; refine CQR ?_; refine A0 (oLs rfl rfl rfl ty_29) ?_; refine A0 (oLs rfl rfl rfl ty_29) ?_; refine A0 (oCl (cmpW_ok _ _) rfl fn_20 ⟨(arg_v rfl), (arg_v rfl), trivial⟩) ?_
        refine A0 o_leq ?_; refine A0 mV ?_; refine aw_ist (d := 132) rfl (decide_eq_true q4) ?_; refine A1 (oLs rfl rfl rfl ty_29) ?_; refine A1 (oLs rfl rfl rfl ty_29) ?_
        refine A1 (oCl (cmpW_ok _ _) rfl fn_20 ⟨(arg_v rfl), (arg_v rfl), trivial⟩) ?_; refine A1 o_lss ?_; refine A0 oK ?_; refine A0 aV ?_; refine CN ?_
        first | exact aw_ret1 rfl rfl (ret_eq rfl rfl) | exact aw_ret1 rfl rfl (ret_eq rfl (decide_eq_true q5))
   ·
    refine A2 ?_; refine A2 ?_; refine A2 ?_; refine A0 oK ?_; refine A0 mV ?_; refine A2 ?_; refine A2 ?_; refine A2 ?_; refine A2 ?_; refine A0 oK ?_; refine CN ?_; refine Cg ?_; refine CSQQR ?_; refine A0 aV ?_; refine CNB ?_
    refine Lp (ι := Nat) 3 (fun (k : Nat) => ((((((Fr.none).set 4 (.val (sl totalT) l)).set 7 (.ptr 1 0)).set 11 (.ptr 2 0)).set 14 (.val (sl wideT) Pa)).set 15 (.val (sl wideT) Pb)).set 16 (.val i64T (k : Int))) (fun (k : Nat) => ((Hp.none).set 1 (.box 29 wideT below)).set 2 (.box 29 wideT z)) (fun (k : Nat) => k ≤ Pa.length) (fun (k : Nat) => Pa.length - k) (0) (Nat.zero_le _) ?_
    intro k hinv
    refine CQQR ?_; refine A0 mV ?_; refine A0 mV ?_; refine A0 (g_len rfl rfl isl_46) ?_; refine A0 o_lss ?_; refine CN ?_
    refine Cf (p := k < Pa.length) (fun ht61 => ?_) (fun ht61 => ?_)
    ·
     obtain ⟨x, hx⟩ : ∃ x, Pa[k]? = some x := ⟨_, List.getElem?_eq_getElem ht61⟩
     refine CS ?_; refine CQ ?_; refine CB ?_; refine CQ ?_; refine CD mixed ?_; refine G0 mV ?_; refine G0 mV ?_; refine G0 (g_ia_i (i := k) rfl rfl rfl (by omega) sl_46 (by assumption)) ?_; refine G0 (g_load_r rfl rfl ty_29) ?_
     refine G0 (oLs rfl rfl rfl ty_29) ?_
     refine G0 (oCl (cmpW_ok _ _) rfl fn_20 ⟨(by first | exact arg_same rfl | exact arg_bsl rfl | exact arg_own rfl rfl | exact arg_nil rfl | exact arg_rptr rfl | exact arg_fn rfl rfl | exact arg_lit rfl), (arg_v rfl), trivial⟩) ?_
     refine G0 o_geq ?_; refine G0 mV ?_; refine GK_isf (d := 71) rfl (decide_eq_false (pick_below (hPa ▸ hx) hb4)) ?_; refine G1 mV ?_; refine G1 mV ?_; refine G1 (g_len rfl rfl isl_46) ?_; refine G1 o_lss ?_; refine G1 mV ?_
     refine GK_splitp (d := 76) (p := k < Pb.length) rfl (by first | rfl | (rw [decide_eq_decide]; simp only [IntL.toI, id_eq]; omega) | (simp [IntL.toI]; done) | (simp [IntL.toI]; omega)) (fun g76 => ?_) (fun g76 => ?_)
     ·
      obtain ⟨y, hy⟩ : ∃ y, Pb[k]? = some y := ⟨_, List.getElem?_eq_getElem g76⟩
      have hxy : x = y := pick_same (seed := seed) (below := below) (n := n) (k := m) (by rw [← hPa]; exact hx) (by rw [← hPb]; exact hy)
      refine G1 mV ?_; refine G1 mV ?_; refine G1 (g_ia_i (i := k) rfl rfl rfl (by omega) sl_46 (by assumption)) ?_; refine G1 (g_load_r rfl rfl ty_29) ?_; refine G1 mV ?_; refine G1 mV ?_
      refine G1 (g_ia_i (i := k) rfl rfl rfl (by omega) sl_46 (by assumption)) ?_; refine G1 (g_load_r rfl rfl ty_29) ?_; refine G1 (g_neqS rfl rfl rfl (eqt_29)) ?_; refine G1 oK ?_; refine G0 oK ?_; refine GK.nil ?_
      refine aw_if_f rfl (by rw [hxy]; simp) ?_; refine CSIR ?_; refine A0 mV ?_; refine A0 o_add ?_; refine A0 aV ?_; refine CN ?_
      exact Nx (k + 1) (by omega) (by omega)
     ·
      refine G2 ?_; refine G2 ?_; refine G2 ?_; refine G2 ?_; refine G2 ?_; refine G2 ?_; refine G2 ?_; refine G2 ?_; refine G2 ?_; refine G1 oK ?_; refine G0 oK ?_; refine GK.nil ?_; refine Cg ?_; refine CSIR ?_; refine A0 mV ?_
      refine A0 o_add ?_; refine A0 aV ?_; refine CN ?_
      exact Nx (k + 1) (by omega) (by omega)
    ·
     refine CE ?_; refine CQR ?_; refine A0 mV ?_; refine A0 (oLs rfl rfl rfl ty_29) ?_; refine A0 (oCl (locate_ok l z) rfl fn_22 ⟨(arg_v rfl), (arg_v rfl), trivial⟩) ?_; refine A0 aV ?_; refine CNQQR ?_; refine A0 mV ?_; refine A0 o_lss ?_
     refine A0 mV ?_; refine aw_isf (d := 93) rfl (decide_eq_false (by have := (loc_range hz4 hws).1; simp [IntL.toI]; omega)) ?_; refine A1 mV ?_; refine A1 mV ?_; refine A1 (g_len rfl rfl isl_49) ?_; refine A1 o_geq ?_; refine A0 oK ?_
     refine CN ?_; refine aw_if_f rfl (decide_eq_false (by have := (loc_range hz4 hws).2; simp [IntL.toI]; omega)) ?_; refine CSQR ?_; refine A0 (oCl (ofW_ok 0) rfl fn_23 ⟨(arg_v rfl), trivial⟩) ?_; refine aw_alloc ze_29 rfl rfl rfl rfl ?_
     refine aw_store_b rfl rfl rfl rfl rfl (Lens.self _) ty_29 rfl ?_; refine CNQQR ?_; refine A0 aV ?_; refine CNB ?_; refine aw_reheap (n := 3) (y := aheadW l 0) rfl rfl ?_
     refine Lp (ι := Nat) 4 (fun (j : Nat) => (((((Fr.none).set 4 (.val (sl totalT) l)).set 11 (.ptr 2 0)).set 17 (.val i64T (locOf l z))).set 18 (.ptr 3 0)).set 19 (.val i64T (j : Int))) (fun (j : Nat) => ((Hp.none).set 2 (.box 29 wideT z)).set 3 (.box 29 wideT (aheadW l j))) (fun (j : Nat) => j = 0 ∨ (j : Int) ≤ locOf l z) (fun (j : Nat) => l.length - j) (0) (.inl rfl) ?_
     intro j hinv
     refine CQQR ?_; refine A0 mV ?_; refine A0 mV ?_; refine A0 o_lss ?_; refine CN ?_
     refine Cf (p := (j : Int) < locOf l z) (fun ht102 => ?_) (fun ht102 => ?_)
     ·
      have hlr := (loc_range hz4 hws).2
      obtain ⟨y, hyl⟩ : ∃ y, l[j]? = some y := ⟨_, List.getElem?_eq_getElem (by omega)⟩
      refine CS ?_; refine CQ ?_; refine CB ?_; refine CQ ?_
      refine aw_drawx [some 1000001, some 1000001, some 1000001, some 1000001, some 1000001, some 1000001, some 1000001, some 1000001, some 1000001, some 1000001, none, none, some 1] mixed (by decide +kernel) ?_
      refine XK.gf (t := 18) rfl rfl (fun _ he => g_load_b rfl rfl he (Lens.self _) ty_29) ⟨rfl, trivial⟩ rfl rfl rfl ?_; refine XK.ga (fun _ => g_mv (.inl rfl) rfl) rfl rfl rfl ?_; refine XK.ga (fun _ => g_mv (.inl rfl) rfl) rfl rfl rfl ?_
      refine XK.ga (fun _ => g_ia_i (i := j) rfl rfl rfl (by omega) sl_49 (by assumption)) rfl rfl rfl ?_; refine XK.ga (fun _ => g_fa_r rfl rfl fd_53_1 L_Total_w) rfl rfl rfl ?_; refine XK.ga (fun _ => g_load_r rfl rfl ty_29) rfl rfl rfl ?_
      refine XK.ga (fun _ => g_call (addW_ok (aheadW l j) y.w) rfl fn_19 ⟨(arg_v rfl), (by first | exact arg_same rfl | exact arg_bsl rfl | exact arg_own rfl rfl | exact arg_nil rfl | exact arg_rptr rfl | exact arg_fn rfl rfl | exact arg_lit rfl), trivial⟩ rfl) rfl rfl rfl ?_
      refine XK.ga (fun _ => by first | exact g_mv (.inl rfl) rfl | exact g_mp (.inl rfl) rfl | exact g_mo (.inl rfl) rfl | exact g_ml (.inl rfl) rfl | exact g_mc (.inl rfl) rfl | exact g_mr (.inl rfl) rfl | exact g_mf1 (.inl rfl) rfl | exact g_mf2 (.inl rfl) rfl | exact g_mw (.inl rfl) rfl | exact g_me (.inl rfl) rfl | exact g_ms (.inl rfl) rfl | exact g_mt2 (.inl rfl) rfl | exact g_mt3 (.inl rfl) rfl | exact g_mi (.inl rfl) rfl) rfl rfl rfl ?_
      refine XK.ga (fun _ => by first | exact g_x20 rfl rfl | exact g_x30 rfl rfl) rfl rfl rfl ?_; refine XK.ga (fun _ => by first | exact g_x21 rfl rfl | exact g_x31 rfl rfl) rfl rfl rfl ?_
      refine XK.e (fun fr' hfr kk H => by exact aw_alloc ze_29 rfl rfl rfl rfl (aw_nil H)) ?_
      refine XK.e (x := .idk) (fun fr' hfr kk H => by exact aw_store_b rfl rfl rfl ((hfr 20 (by decide +kernel)).trans rfl) rfl (Lens.self _) ty_29 ((hfr 113 (by decide +kernel)).trans rfl) (aw_nil H)) ?_; refine X0 aV ?_
      refine XK.nilp ⟨⟨hpB rfl rfl, hpB rfl rfl, trivial⟩, trivial⟩ ?_; refine CR ?_; refine A0 (oLs rfl rfl rfl ty_29) ?_; refine aw_store_b rfl rfl rfl rfl rfl (Lens.self _) ty_29 rfl ?_; refine CNIR ?_; refine A0 mV ?_; refine A0 o_add ?_
      refine A0 aV ?_; refine CN ?_; refine aw_reheap (n := 3) (y := aheadW l (j + 1)) rfl (ahead_succ hyl) ?_
      exact Nx (j + 1) (.inr (by omega)) (by omega)
     ·
      refine CE ?_; refine CQQR ?_; refine A0 mV ?_; refine A0 o_lss ?_; refine CN ?_
      refine Cf (p := locOf l z < 0) (fun ht117 => ?_) (fun ht117 => ?_)
      ·
       refine CQR ?_; refine A0 aV ?_; refine CN ?_
       first | exact aw_ret1 rfl rfl (ret_eq rfl rfl) | exact aw_ret1 rfl rfl (ret_eq rfl (decide_eq_true q5))
      ·
       obtain ⟨q, y, q1, q2, q3, q4, q5⟩ := (loc_law hz4 hws).resolve_left (by omega)
       obtain rfl : j = q := by omega
       refine CS ?_; refine CQ ?_; refine aw_drawx [some 1000001, some 1000001, some 1000001, some 1000001, some 1000001, some 1000001, some 1000001, some 1000001, some 1000001, some 1000001, none, none, some 1] mixed (by decide +kernel) ?_
       refine XK.gf (t := 18) rfl rfl (fun _ he => g_load_b rfl rfl he (Lens.self _) ty_29) ⟨rfl, trivial⟩ rfl rfl rfl ?_; refine XK.ga (fun _ => g_mv (.inl rfl) rfl) rfl rfl rfl ?_; refine XK.ga (fun _ => g_mv (.inl rfl) rfl) rfl rfl rfl ?_
       refine XK.ga (fun _ => g_ia_i (i := j) rfl rfl rfl (by omega) sl_49 (by assumption)) rfl rfl rfl ?_; refine XK.ga (fun _ => g_fa_r rfl rfl fd_53_1 L_Total_w) rfl rfl rfl ?_; refine XK.ga (fun _ => g_load_r rfl rfl ty_29) rfl rfl rfl ?_
       refine XK.ga (fun _ => g_call (addW_ok (aheadW l j) y.w) rfl fn_19 ⟨(arg_v rfl), (by first | exact arg_same rfl | exact arg_bsl rfl | exact arg_own rfl rfl | exact arg_nil rfl | exact arg_rptr rfl | exact arg_fn rfl rfl | exact arg_lit rfl), trivial⟩ rfl) rfl rfl rfl ?_
       refine XK.ga (fun _ => by first | exact g_mv (.inl rfl) rfl | exact g_mp (.inl rfl) rfl | exact g_mo (.inl rfl) rfl | exact g_ml (.inl rfl) rfl | exact g_mc (.inl rfl) rfl | exact g_mr (.inl rfl) rfl | exact g_mf1 (.inl rfl) rfl | exact g_mf2 (.inl rfl) rfl | exact g_mw (.inl rfl) rfl | exact g_me (.inl rfl) rfl | exact g_ms (.inl rfl) rfl | exact g_mt2 (.inl rfl) rfl | exact g_mt3 (.inl rfl) rfl | exact g_mi (.inl rfl) rfl) rfl rfl rfl ?_
       refine XK.ga (fun _ => by first | exact g_x20 rfl rfl | exact g_x30 rfl rfl) rfl rfl rfl ?_; refine XK.ga (fun _ => by first | exact g_x21 rfl rfl | exact g_x31 rfl rfl) rfl rfl rfl ?_
       refine XK.e (fun fr' hfr kk H => by exact aw_alloc ze_29 rfl rfl rfl rfl (aw_nil H)) ?_
       refine XK.e (x := .idk) (fun fr' hfr kk H => by exact aw_store_b rfl rfl rfl ((hfr 22 (by decide +kernel)).trans rfl) rfl (Lens.self _) ty_29 ((hfr 126 (by decide +kernel)).trans rfl) (aw_nil H)) ?_; refine X0 aV ?_
       refine XK.nilp ⟨⟨hpB rfl rfl, hpB rfl rfl, trivial⟩, trivial⟩ ?_; refine CQR ?_; refine A0 (oLs rfl rfl rfl ty_29) ?_; refine A0 (oLs rfl rfl rfl ty_29) ?_; refine A0 (oCl (cmpW_ok _ _) rfl fn_20 ⟨(arg_v rfl), (arg_v rfl), trivial⟩) ?_
       refine A0 o_leq ?_; refine A0 mV ?_; refine aw_ist (d := 132) rfl (decide_eq_true q4) ?_; refine A1 (oLs rfl rfl rfl ty_29) ?_; refine A1 (oLs rfl rfl rfl ty_29) ?_
       refine A1 (oCl (cmpW_ok _ _) rfl fn_20 ⟨(arg_v rfl), (arg_v rfl), trivial⟩) ?_; refine A1 o_lss ?_; refine A0 oK ?_; refine A0 aV ?_; refine CN ?_
       first | exact aw_ret1 rfl rfl (ret_eq rfl rfl) | exact aw_ret1 rfl rfl (ret_eq rfl (decide_eq_true q5))
  ·
   refine A2 ?_; refine A2 ?_; refine A0 oK ?_; refine A0 mV ?_; refine A2 ?_; refine A2 ?_; refine A2 ?_; refine A0 oK ?_; refine A0 mV ?_; refine A2 ?_; refine A2 ?_; refine A2 ?_; refine A2 ?_; refine A0 oK ?_; refine CN ?_; refine Cg ?_
   refine CSQQR ?_; refine A0 aV ?_; refine CNB ?_
   refine Lp (ι := Nat) 3 (fun (k : Nat) => ((((((Fr.none).set 4 (.val (sl totalT) l)).set 7 (.ptr 1 0)).set 11 (.ptr 2 0)).set 14 (.val (sl wideT) Pa)).set 15 (.val (sl wideT) Pb)).set 16 (.val i64T (k : Int))) (fun (k : Nat) => ((Hp.none).set 1 (.box 29 wideT below)).set 2 (.box 29 wideT z)) (fun (k : Nat) => k ≤ Pa.length) (fun (k : Nat) => Pa.length - k) (0) (Nat.zero_le _) ?_
   intro k hinv
   refine CQQR ?_; refine A0 mV ?_; refine A0 mV ?_; refine A0 (g_len rfl rfl isl_46) ?_; refine A0 o_lss ?_; refine CN ?_
   refine Cf (p := k < Pa.length) (fun ht61 => ?_) (fun ht61 => ?_)
   ·
    obtain ⟨x, hx⟩ : ∃ x, Pa[k]? = some x := ⟨_, List.getElem?_eq_getElem ht61⟩
    refine CS ?_; refine CQ ?_; refine CB ?_; refine CQ ?_; refine CD mixed ?_; refine G0 mV ?_; refine G0 mV ?_; refine G0 (g_ia_i (i := k) rfl rfl rfl (by omega) sl_46 (by assumption)) ?_; refine G0 (g_load_r rfl rfl ty_29) ?_
    refine G0 (oLs rfl rfl rfl ty_29) ?_
    refine G0 (oCl (cmpW_ok _ _) rfl fn_20 ⟨(by first | exact arg_same rfl | exact arg_bsl rfl | exact arg_own rfl rfl | exact arg_nil rfl | exact arg_rptr rfl | exact arg_fn rfl rfl | exact arg_lit rfl), (arg_v rfl), trivial⟩) ?_
    refine G0 o_geq ?_; refine G0 mV ?_; refine GK_isf (d := 71) rfl (decide_eq_false (pick_below (hPa ▸ hx) hb4)) ?_; refine G1 mV ?_; refine G1 mV ?_; refine G1 (g_len rfl rfl isl_46) ?_; refine G1 o_lss ?_; refine G1 mV ?_
    refine GK_splitp (d := 76) (p := k < Pb.length) rfl (by first | rfl | (rw [decide_eq_decide]; simp only [IntL.toI, id_eq]; omega) | (simp [IntL.toI]; done) | (simp [IntL.toI]; omega)) (fun g76 => ?_) (fun g76 => ?_)
    ·
     obtain ⟨y, hy⟩ : ∃ y, Pb[k]? = some y := ⟨_, List.getElem?_eq_getElem g76⟩
     have hxy : x = y := pick_same (seed := seed) (below := below) (n := n) (k := m) (by rw [← hPa]; exact hx) (by rw [← hPb]; exact hy)
     refine G1 mV ?_; refine G1 mV ?_; refine G1 (g_ia_i (i := k) rfl rfl rfl (by omega) sl_46 (by assumption)) ?_; refine G1 (g_load_r rfl rfl ty_29) ?_; refine G1 mV ?_; refine G1 mV ?_
     refine G1 (g_ia_i (i := k) rfl rfl rfl (by omega) sl_46 (by assumption)) ?_; refine G1 (g_load_r rfl rfl ty_29) ?_; refine G1 (g_neqS rfl rfl rfl (eqt_29)) ?_; refine G1 oK ?_; refine G0 oK ?_; refine GK.nil ?_
     refine aw_if_f rfl (by rw [hxy]; simp) ?_; refine CSIR ?_; refine A0 mV ?_; refine A0 o_add ?_; refine A0 aV ?_; refine CN ?_
     exact Nx (k + 1) (by omega) (by omega)
    ·
     refine G2 ?_; refine G2 ?_; refine G2 ?_; refine G2 ?_; refine G2 ?_; refine G2 ?_; refine G2 ?_; refine G2 ?_; refine G2 ?_; refine G1 oK ?_; refine G0 oK ?_; refine GK.nil ?_; refine Cg ?_; refine CSIR ?_; refine A0 mV ?_
     refine A0 o_add ?_; refine A0 aV ?_; refine CN ?_
     exact Nx (k + 1) (by omega) (by omega)
   ·
    refine CE ?_; refine CQR ?_; refine A0 mV ?_; refine A0 (oLs rfl rfl rfl ty_29) ?_; refine A0 (oCl (locate_ok l z) rfl fn_22 ⟨(arg_v rfl), (arg_v rfl), trivial⟩) ?_; refine A0 aV ?_; refine CNQQR ?_; refine A0 mV ?_; refine A0 o_lss ?_
    refine A0 mV ?_; refine aw_isf (d := 93) rfl (decide_eq_false (by have := (loc_range hz4 hws).1; simp [IntL.toI]; omega)) ?_; refine A1 mV ?_; refine A1 mV ?_; refine A1 (g_len rfl rfl isl_49) ?_; refine A1 o_geq ?_; refine A0 oK ?_
    refine CN ?_; refine aw_if_f rfl (decide_eq_false (by have := (loc_range hz4 hws).2; simp [IntL.toI]; omega)) ?_; refine CSQR ?_; refine A0 (oCl (ofW_ok 0) rfl fn_23 ⟨(arg_v rfl), trivial⟩) ?_; refine aw_alloc ze_29 rfl rfl rfl rfl ?_
    refine aw_store_b rfl rfl rfl rfl rfl (Lens.self _) ty_29 rfl ?_; refine CNQQR ?_; refine A0 aV ?_; refine CNB ?_; refine aw_reheap (n := 3) (y := aheadW l 0) rfl rfl ?_
    refine Lp (ι := Nat) 4 (fun (j : Nat) => (((((Fr.none).set 4 (.val (sl totalT) l)).set 11 (.ptr 2 0)).set 17 (.val i64T (locOf l z))).set 18 (.ptr 3 0)).set 19 (.val i64T (j : Int))) (fun (j : Nat) => ((Hp.none).set 2 (.box 29 wideT z)).set 3 (.box 29 wideT (aheadW l j))) (fun (j : Nat) => j = 0 ∨ (j : Int) ≤ locOf l z) (fun (j : Nat) => l.length - j) (0) (.inl rfl) ?_
    intro j hinv
    refine CQQR ?_; refine A0 mV ?_; refine A0 mV ?_; refine A0 o_lss ?_; refine CN ?_
    refine Cf (p := (j : Int) < locOf l z) (fun ht102 => ?_) (fun ht102 => ?_)
    ·
     have hlr := (loc_range hz4 hws).2
     obtain ⟨y, hyl⟩ : ∃ y, l[j]? = some y := ⟨_, List.getElem?_eq_getElem (by omega)⟩
     refine CS ?_; refine CQ ?_; refine CB ?_; refine CQ ?_
     refine aw_drawx [some 1000001, some 1000001, some 1000001, some 1000001, some 1000001, some 1000001, some 1000001, some 1000001, some 1000001, some 1000001, none, none, some 1] mixed (by decide +kernel) ?_
     refine XK.gf (t := 18) rfl rfl (fun _ he => g_load_b rfl rfl he (Lens.self _) ty_29) ⟨rfl, trivial⟩ rfl rfl rfl ?_; refine XK.ga (fun _ => g_mv (.inl rfl) rfl) rfl rfl rfl ?_; refine XK.ga (fun _ => g_mv (.inl rfl) rfl) rfl rfl rfl ?_
     refine XK.ga (fun _ => g_ia_i (i := j) rfl rfl rfl (by omega) sl_49 (by assumption)) rfl rfl rfl ?_; refine XK.ga (fun _ => g_fa_r rfl rfl fd_53_1 L_Total_w) rfl rfl rfl ?_; refine XK.ga (fun _ => g_load_r rfl rfl ty_29) rfl rfl rfl ?_
     refine XK.ga (fun _ => g_call (addW_ok (aheadW l j) y.w) rfl fn_19 ⟨(arg_v rfl), (by first | exact arg_same rfl | exact arg_bsl rfl | exact arg_own rfl rfl | exact arg_nil rfl | exact arg_rptr rfl | exact arg_fn rfl rfl | exact arg_lit rfl), trivial⟩ rfl) rfl rfl rfl ?_
     refine XK.ga (fun _ => by first | exact g_mv (.inl rfl) rfl | exact g_mp (.inl rfl) rfl | exact g_mo (.inl rfl) rfl | exact g_ml (.inl rfl) rfl | exact g_mc (.inl rfl) rfl | exact g_mr (.inl rfl) rfl | exact g_mf1 (.inl rfl) rfl | exact g_mf2 (.inl rfl) rfl | exact g_mw (.inl rfl) rfl | exact g_me (.inl rfl) rfl | exact g_ms (.inl rfl) rfl | exact g_mt2 (.inl rfl) rfl | exact g_mt3 (.inl rfl) rfl | exact g_mi (.inl rfl) rfl) rfl rfl rfl ?_
     refine XK.ga (fun _ => by first | exact g_x20 rfl rfl | exact g_x30 rfl rfl) rfl rfl rfl ?_; refine XK.ga (fun _ => by first | exact g_x21 rfl rfl | exact g_x31 rfl rfl) rfl rfl rfl ?_
     refine XK.e (fun fr' hfr kk H => by exact aw_alloc ze_29 rfl rfl rfl rfl (aw_nil H)) ?_
     refine XK.e (x := .idk) (fun fr' hfr kk H => by exact aw_store_b rfl rfl rfl ((hfr 20 (by decide +kernel)).trans rfl) rfl (Lens.self _) ty_29 ((hfr 113 (by decide +kernel)).trans rfl) (aw_nil H)) ?_; refine X0 aV ?_
     refine XK.nilp ⟨⟨hpB rfl rfl, hpB rfl rfl, trivial⟩, trivial⟩ ?_; refine CR ?_; refine A0 (oLs rfl rfl rfl ty_29) ?_; refine aw_store_b rfl rfl rfl rfl rfl (Lens.self _) ty_29 rfl ?_; refine CNIR ?_; refine A0 mV ?_; refine A0 o_add ?_
     refine A0 aV ?_; refine CN ?_; refine aw_reheap (n := 3) (y := aheadW l (j + 1)) rfl (ahead_succ hyl) ?_
     exact Nx (j + 1) (.inr (by omega)) (by omega)
    ·
     refine CE ?_; refine CQQR ?_; refine A0 mV ?_; refine A0 o_lss ?_; refine CN ?_
     refine Cf (p := locOf l z < 0) (fun ht117 => ?_) (fun ht117 => ?_)
     ·
      refine CQR ?_; refine A0 aV ?_; refine CN ?_
      first | exact aw_ret1 rfl rfl (ret_eq rfl rfl) | exact aw_ret1 rfl rfl (ret_eq rfl (decide_eq_true q5))
     ·
      obtain ⟨q, y, q1, q2, q3, q4, q5⟩ := (loc_law hz4 hws).resolve_left (by omega)
      obtain rfl : j = q := by omega
      refine CS ?_; refine CQ ?_; refine aw_drawx [some 1000001, some 1000001, some 1000001, some 1000001, some 1000001, some 1000001, some 1000001, some 1000001, some 1000001, some 1000001, none, none, some 1] mixed (by decide +kernel) ?_
      refine XK.gf (t := 18) rfl rfl (fun _ he => g_load_b rfl rfl he (Lens.self _) ty_29) ⟨rfl, trivial⟩ rfl rfl rfl ?_; refine XK.ga (fun _ => g_mv (.inl rfl) rfl) rfl rfl rfl ?_; refine XK.ga (fun _ => g_mv (.inl rfl) rfl) rfl rfl rfl ?_
      refine XK.ga (fun _ => g_ia_i (i := j) rfl rfl rfl (by omega) sl_49 (by assumption)) rfl rfl rfl ?_; refine XK.ga (fun _ => g_fa_r rfl rfl fd_53_1 L_Total_w) rfl rfl rfl ?_; refine XK.ga (fun _ => g_load_r rfl rfl ty_29) rfl rfl rfl ?_
      refine XK.ga (fun _ => g_call (addW_ok (aheadW l j) y.w) rfl fn_19 ⟨(arg_v rfl), (by first | exact arg_same rfl | exact arg_bsl rfl | exact arg_own rfl rfl | exact arg_nil rfl | exact arg_rptr rfl | exact arg_fn rfl rfl | exact arg_lit rfl), trivial⟩ rfl) rfl rfl rfl ?_
      refine XK.ga (fun _ => by first | exact g_mv (.inl rfl) rfl | exact g_mp (.inl rfl) rfl | exact g_mo (.inl rfl) rfl | exact g_ml (.inl rfl) rfl | exact g_mc (.inl rfl) rfl | exact g_mr (.inl rfl) rfl | exact g_mf1 (.inl rfl) rfl | exact g_mf2 (.inl rfl) rfl | exact g_mw (.inl rfl) rfl | exact g_me (.inl rfl) rfl | exact g_ms (.inl rfl) rfl | exact g_mt2 (.inl rfl) rfl | exact g_mt3 (.inl rfl) rfl | exact g_mi (.inl rfl) rfl) rfl rfl rfl ?_
      refine XK.ga (fun _ => by first | exact g_x20 rfl rfl | exact g_x30 rfl rfl) rfl rfl rfl ?_; refine XK.ga (fun _ => by first | exact g_x21 rfl rfl | exact g_x31 rfl rfl) rfl rfl rfl ?_
      refine XK.e (fun fr' hfr kk H => by exact aw_alloc ze_29 rfl rfl rfl rfl (aw_nil H)) ?_
      refine XK.e (x := .idk) (fun fr' hfr kk H => by exact aw_store_b rfl rfl rfl ((hfr 22 (by decide +kernel)).trans rfl) rfl (Lens.self _) ty_29 ((hfr 126 (by decide +kernel)).trans rfl) (aw_nil H)) ?_; refine X0 aV ?_
      refine XK.nilp ⟨⟨hpB rfl rfl, hpB rfl rfl, trivial⟩, trivial⟩ ?_; refine CQR ?_; refine A0 (oLs rfl rfl rfl ty_29) ?_; refine A0 (oLs rfl rfl rfl ty_29) ?_; refine A0 (oCl (cmpW_ok _ _) rfl fn_20 ⟨(arg_v rfl), (arg_v rfl), trivial⟩) ?_
      refine A0 o_leq ?_; refine A0 mV ?_; refine aw_ist (d := 132) rfl (decide_eq_true q4) ?_; refine A1 (oLs rfl rfl rfl ty_29) ?_; refine A1 (oLs rfl rfl rfl ty_29) ?_
      refine A1 (oCl (cmpW_ok _ _) rfl fn_20 ⟨(arg_v rfl), (arg_v rfl), trivial⟩) ?_; refine A1 o_lss ?_; refine A0 oK ?_; refine A0 aV ?_; refine CN ?_
      first | exact aw_ret1 rfl rfl (ret_eq rfl rfl) | exact aw_ret1 rfl rfl (ret_eq rfl (decide_eq_true q5))
end Go.Proofs.YtdakocblfaojnaaGreat
