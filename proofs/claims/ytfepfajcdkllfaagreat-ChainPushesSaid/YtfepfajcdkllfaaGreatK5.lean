/- Parts of the proof: the layer that reads Go values as data, and what the functions of the program tell. -/
import Derived.Test.YtfepfajcdkllfaaGreatK4
set_option maxRecDepth 20000
namespace Go.Proofs.YtfepfajcdkllfaaGreat
set_option linter.unusedVariables false
set_option linter.unusedSimpArgs false
open Go.Ab Go.RowKit
def leafH (h : Head) : Total := leafT (headId h) (headWork h)
def linksT (t : Tip) : List Ab.Id := linkNext t.b.l (headId t.b.h) (headLevel t.b.h)
def nextH (t : Tip) (l : List Tx) (nonce : UInt64) : Head := ⟨IntKind.i64.wrap (t.b.h.height + 1), headId t.b.h, linkRoot (linksT t), txRoot l, (mmrRoot t.p).h, (mmrRoot t.p).w, t.b.h.bits, nonce⟩
def firstH (bits : UInt32) : Head := ⟨0, zId, linkRoot [], txRoot [], (mmrRoot []).h, zWide, bits, 0⟩
def firstTip (bits : UInt32) : Tip := if tgtOk bits = true then ⟨⟨firstH bits, [], []⟩, mmrAppend [] (leafH (firstH bits)), []⟩ else zTip
def behindH (h : Head) : Head := { zHead with height := h.height, prev := h.prev, bits := h.bits }
theorem linkNext_len {l : List Ab.Id} {id : Ab.Id} {level : Int} : (linkNext l id level).length ≤ 64 := by
  unfold linkNext
  split
  · simp
  · split
    · simp
    · split
      · omega
      · simp; omega
def smallTx (t : Tx) : Prop := t.ins.length * 40 ≤ 140737488351232 ∧ t.outs.length * 16 ≤ 140737488351232
def smallL (l : List Tx) : Prop := l.length * 48 ≤ 140737488351232 ∧ ∀ t ∈ l, smallTx t
def smallB (b : Block) : Prop := b.l.length * 32 ≤ 140737488351232 ∧ smallL b.t
def smallTip (t : Tip) : Prop := smallB t.b ∧ t.p.length ≤ 1000 ∧ t.c.length ≤ 1000
theorem set_same {α : Type} {l : List α} {k : Nat} {x : α} (h : l[k]? = some x) : l.set k x = l := by
  obtain ⟨hk, rfl⟩ := List.getElem?_eq_some_iff.1 h
  exact List.set_getElem_self hk
theorem leafH_ok (h : Head) : Tells P 57 [.val headT h] (.val totalT (leafH h)) := by
 refine fn_of_aw Tryz.func57 rfl rfl rfl (fun ext w hext => ?_)
 refine CQR ?_; refine aw_box rfl rfl rfl rfl rfl ?_; refine aw_alloc ze_68 rfl rfl rfl rfl ?_; refine CNQ ?_; refine aw_drawx [some 1, some 1, some 1, some 1, some 1, none] mixed (by decide +kernel) ?_; refine X0 (oLs rfl rfl rfl ty_34) ?_
 refine X0 (oCl (headId_ok _) rfl fn_17 ⟨(arg_v rfl), trivial⟩) ?_; refine X0 (oLs rfl rfl rfl ty_34) ?_; refine X0 (oCl (headWork_ok _) rfl fn_105 ⟨(arg_v rfl), trivial⟩) ?_
 refine X0 (oCl (mleaf_ok _ _) rfl fn_104 ⟨(arg_v rfl), (arg_v rfl), trivial⟩) ?_
 refine XK.e (x := .idk) (fun fr' hfr kk H => by exact aw_store_b rfl rfl rfl ((hfr 2 (by decide +kernel)).trans rfl) rfl (Lens.self _) ty_68 ((hfr 7 (by decide +kernel)).trans rfl) (aw_nil H)) ?_; refine XK.nil' ?_
 exact aw_retc1 rfl rfl rfl rfl ty_68 (rfl)
theorem linksT_ok (t : Tip) : Tells P 95 [.val tipT t] (.fresh 29 idT (linksT t)) := by
 refine fn_of_aw Tryz.func95 rfl rfl rfl (fun ext w hext => ?_)
 refine CQR ?_; refine aw_box rfl rfl rfl rfl rfl ?_; refine A0 aL ?_; refine CNQ ?_; refine aw_drawx [some 1, some 1, some 1, some 1, some 1, some 1, some 1, some 1, some 1, some 1, some 1, none, some 1] mixed (by decide +kernel) ?_
 refine X0 (oFp fd_41_0) ?_; refine X0 (oFp fd_37_1) ?_; refine X0 (oLb (L_Tip_b.comp L_Block_l) ty_35) ?_; refine X0 (oFp fd_41_0) ?_; refine X0 (oFp fd_37_0) ?_; refine X0 (oLb (L_Tip_b.comp L_Block_h) ty_34) ?_
 refine X0 (oCl (headId_ok _) rfl fn_17 ⟨(arg_v rfl), trivial⟩) ?_; refine X0 (oFp fd_41_0) ?_; refine X0 (oFp fd_37_0) ?_; refine X0 (oLb (L_Tip_b.comp L_Block_h) ty_34) ?_; refine X0 (oCl (headLevel_ok _) rfl fn_21 ⟨(arg_v rfl), trivial⟩) ?_
 refine XK.e (fun fr' hfr kk H => by exact aw_callf (linkNext_ok t.b.l (headId t.b.h) (headLevel t.b.h)) rfl fn_144 ⟨(arg_v ((hfr 5 (by decide +kernel)).trans rfl)), (arg_v ((hfr 9 (by decide +kernel)).trans rfl)), (arg_v ((hfr 13 (by decide +kernel)).trans rfl)), trivial⟩ rfl rfl rfl (aw_nil H)) ?_
 refine X0 aO ?_; refine XK.nil' ?_
 exact aw_ret1 rfl rfl (ret_fresh_eq rfl rfl rfl)
theorem nextH_ok (t : Tip) (l : List Tx) (nonce : UInt64) (hl : l.length ≤ 4000000000000) (hp : t.p.length ≤ 1000000) : Tells P 47 [.val tipT t, .val (bsl txT) l, .val u64T nonce] (.val headT (nextH t l nonce)) := by
 have hlk : (linksT t).length ≤ 64 := linkNext_len
 refine fn_of_aw Tryz.func47 rfl rfl rfl (fun ext w hext => ?_)
 refine aw_fact (d := 1) rfl fact_sl (fun hsl1 => ?_)
 refine CQR ?_; refine aw_box rfl rfl rfl rfl rfl ?_; refine aw_alloc ze_34 rfl rfl rfl rfl ?_; refine CNQR ?_; refine A0 (oFp fd_41_1) ?_; refine A0 (oLb L_Tip_p ty_38) ?_
 refine A0 (oCl (mmrRoot_ok t.p hp) rfl fn_34 ⟨(arg_v rfl), trivial⟩) ?_; refine aw_alloc ze_68 rfl rfl rfl rfl ?_; refine aw_store_b rfl rfl rfl rfl rfl (Lens.self _) ty_68 rfl ?_; refine CNQ ?_
 refine aw_drawx [some 1, some 1, some 1, some 1, some 1, some 1, some 1, some 1, some 1, some 1, some 1, some 1, some 1, some 1, some 1, some 1, some 1, some 1, some 1, some 1, some 1, some 1, some 1, some 1, none] mixed (by decide +kernel) ?_
 refine X0 (oFp fd_41_0) ?_; refine X0 (oFp fd_37_0) ?_; refine X0 (oFp fd_34_0) ?_; refine X0 (oLb ((L_Tip_b.comp L_Block_h).comp L_Head_height) ty_3) ?_; refine X0 o_add ?_; refine X0 (oFp fd_41_0) ?_; refine X0 (oFp fd_37_0) ?_
 refine X0 (oLb (L_Tip_b.comp L_Block_h) ty_34) ?_; refine X0 (oCl (headId_ok _) rfl fn_17 ⟨(arg_v rfl), trivial⟩) ?_; refine X0 (oLs rfl rfl rfl ty_41) ?_; refine X0 (oCl (tells_pub (linksT_ok t)) rfl fn_95 ⟨(arg_v rfl), trivial⟩) ?_
 refine X0 (oCl (linkRoot_ok (linksT t) (by omega)) rfl fn_36 ⟨(arg_v rfl), trivial⟩) ?_; refine X0 mV ?_; refine X0 (oCl (txRoot_ok l hl) rfl fn_83 ⟨(arg_v rfl), trivial⟩) ?_; refine X0 (oFp fd_68_0) ?_; refine X0 (oLb L_Total_h ty_29) ?_
 refine X0 (oFp fd_68_1) ?_; refine X0 (oLb L_Total_w ty_31) ?_; refine X0 (oFp fd_41_0) ?_; refine X0 (oFp fd_37_0) ?_; refine X0 (oFp fd_34_6) ?_; refine X0 (oLb ((L_Tip_b.comp L_Block_h).comp L_Head_bits) ty_32) ?_; refine X0 mV ?_
 refine X0 (g_build rfl ze_34 bd_34 (.cons fd_34_0 L_Head_height ty_3 rfl (.cons fd_34_1 L_Head_prev ty_29 rfl (.cons fd_34_2 L_Head_links ty_29 rfl (.cons fd_34_3 L_Head_txs ty_29 rfl (.cons fd_34_4 L_Head_past ty_29 rfl (.cons fd_34_5 L_Head_work ty_31 rfl (.cons fd_34_6 L_Head_bits ty_32 rfl (.cons fd_34_7 L_Head_nonce ty_24 rfl .nil)))))))) rfl) ?_
 refine XK.e (x := .idk) (fun fr' hfr kk H => by exact aw_store_b rfl rfl rfl ((hfr 6 (by decide +kernel)).trans rfl) rfl (Lens.self _) ty_34 ((hfr 34 (by decide +kernel)).trans rfl) (aw_nil H)) ?_; refine XK.nil' ?_
 exact aw_retc1 rfl rfl rfl rfl ty_34 (rfl)
theorem firstTip_ok (bits : UInt32) : Tells P 38 [.val u32T bits] (.tup2 (.val tipT (firstTip bits)) (.val boolT (tgtOk bits))) := by
 refine fn_of_aw Tryz.func38 rfl rfl rfl (fun ext w hext => ?_)
 refine CQR ?_; refine aw_alloc ze_41 rfl rfl rfl rfl ?_; refine A0 aV ?_; refine CNQQR ?_; refine A0 mV ?_; refine A0 (oCl (target_ok _) rfl fn_63 ⟨(arg_v rfl), trivial⟩) ?_; refine A0 mX ?_
 refine A0 (by first | exact g_x20 rfl rfl | exact g_x30 rfl rfl) ?_; refine A0 (by first | exact g_x21 rfl rfl | exact g_x31 rfl rfl) ?_; refine aw_alloc ze_31 rfl rfl rfl rfl ?_
 refine aw_store_b rfl rfl rfl rfl rfl (Lens.self _) ty_31 rfl ?_; refine A0 aV ?_; refine CNQR ?_; refine A0 mV ?_; refine A0 oN ?_; refine CN ?_
 refine aw_ifc (p := ¬ tgtOk bits = true) rfl (by cases tgtOk bits <;> rfl) (fun ht13 => ?_) (fun ht13 => ?_)
 ·
  refine CQR ?_; refine A0 (g_build rfl ze_41 bd_41 .nil rfl) ?_; refine aw_store_b rfl rfl rfl rfl rfl (Lens.self _) ty_41 rfl ?_; refine A0 aV ?_; refine CN ?_
  exact aw_retr2 rfl rfl (rv_cell rfl rfl ty_41 (by unfold firstTip; rw [if_neg ht13])) (rv_tmp (ret_eq rfl (by simpa using ht13)))
 ·
  refine CSQR ?_
  refine A0 (oCl (linkRoot_ok [] (by decide)) rfl fn_36 ⟨(by first | exact arg_same rfl | exact arg_bsl rfl | exact arg_own rfl rfl | exact arg_nil rfl | exact arg_rptr rfl | exact arg_fn rfl rfl | exact arg_lit rfl), trivial⟩) ?_
  refine A0 (oCl (txRoot_ok [] (by decide)) rfl fn_83 ⟨(by first | exact arg_same rfl | exact arg_bsl rfl | exact arg_own rfl rfl | exact arg_nil rfl | exact arg_rptr rfl | exact arg_fn rfl rfl | exact arg_lit rfl), trivial⟩) ?_
  refine A0 (oCl (mmrRoot_ok [] (by decide)) rfl fn_34 ⟨(by first | exact arg_same rfl | exact arg_bsl rfl | exact arg_own rfl rfl | exact arg_nil rfl | exact arg_rptr rfl | exact arg_fn rfl rfl | exact arg_lit rfl), trivial⟩) ?_
  refine A0 (g_field rfl rfl fd_68_0 L_Total_h ty_29) ?_; refine A0 mV ?_
  refine A0 (g_build rfl ze_34 bd_34 (.cons fd_34_2 L_Head_links ty_29 rfl (.cons fd_34_3 L_Head_txs ty_29 rfl (.cons fd_34_4 L_Head_past ty_29 rfl (.cons fd_34_6 L_Head_bits ty_32 rfl .nil)))) rfl) ?_; refine aw_alloc ze_34 rfl rfl rfl rfl ?_
  refine aw_store_b rfl rfl rfl rfl rfl (Lens.self _) ty_34 rfl ?_; refine CNQ ?_; refine aw_drawx [some 1, some 1, some 1, some 1, some 1, some 1, none, some 1] mixed (by decide +kernel) ?_; refine X0 (oLs rfl rfl rfl ty_34) ?_
  refine X0 (g_build rfl ze_37 bd_37 (.cons fd_37_0 L_Block_h ty_34 rfl .nil) rfl) ?_; refine X0 (oLs rfl rfl rfl ty_34) ?_; refine X0 (oCl (leafH_ok (firstH bits)) rfl fn_57 ⟨(arg_v rfl), trivial⟩) ?_
  refine X0 (oCl (tells_pub (mmrAppend_ok [] (leafH (firstH bits)) (by decide))) rfl fn_33 ⟨(by first | exact arg_same rfl | exact arg_bsl rfl | exact arg_own rfl rfl | exact arg_nil rfl | exact arg_rptr rfl | exact arg_fn rfl rfl | exact arg_lit rfl), (arg_v rfl), trivial⟩) ?_
  refine X0 (g_build rfl ze_41 bd_41 (.cons fd_41_0 L_Tip_b ty_37 rfl (.cons fd_41_1 L_Tip_p ty_38 rfl .nil)) rfl) ?_
  refine XK.e (x := .idk) (fun fr' hfr kk H => by exact aw_store_b rfl rfl rfl ((hfr 2 (by decide +kernel)).trans rfl) rfl (Lens.self _) ty_41 ((hfr 26 (by decide +kernel)).trans rfl) (aw_nil H)) ?_; refine X0 aV ?_; refine XK.nil' ?_
  exact aw_retr2 rfl rfl (rv_cell rfl rfl ty_41 (by unfold firstTip; rw [if_pos (Classical.not_not.1 ht13)]; rfl)) (rv_tmp (ret_eq rfl ((Classical.not_not.1 ht13).symm)))
theorem behindH_ok (h : Head) : Tells P 100 [.val headT h] (.val headT (behindH h)) := by
 refine fn_of_aw Tryz.func100 rfl rfl rfl (fun ext w hext => ?_)
 refine CQR ?_; refine aw_box rfl rfl rfl rfl rfl ?_; refine aw_alloc ze_34 rfl rfl rfl rfl ?_; refine CNQR ?_; refine A0 (oFp fd_34_0) ?_; refine A0 (oLb L_Head_height ty_3) ?_; refine A0 (oFp fd_34_1) ?_; refine A0 (oLb L_Head_prev ty_29) ?_
 refine A0 (oFp fd_34_6) ?_; refine A0 (oLb L_Head_bits ty_32) ?_; refine A0 (g_build rfl ze_34 bd_34 (.cons fd_34_0 L_Head_height ty_3 rfl (.cons fd_34_1 L_Head_prev ty_29 rfl (.cons fd_34_6 L_Head_bits ty_32 rfl .nil))) rfl) ?_
 refine aw_store_b rfl rfl rfl rfl rfl (Lens.self _) ty_34 rfl ?_; refine CN ?_
 exact aw_retc1 rfl rfl rfl rfl ty_34 (rfl)
theorem txs_ok (l : List Tx) (hl : smallL l) : Tells P 96 [.val (bsl txT) l] (.fresh 77 txT l) := by
 obtain ⟨hl1, hl2⟩ := hl
 refine fn_of_aw Tryz.func96 rfl rfl rfl (fun ext w hext => ?_)
 refine aw_fact (d := 0) rfl fact_sl (fun hsl0 => ?_)
 refine CQR ?_; refine A0 aL ?_; refine CNQR ?_; refine A0 mV ?_; refine aw_callf (cloneTx l (by constructor <;> omega)) rfl fn_145 ⟨(arg_v rfl), trivial⟩ rfl rfl rfl ?_; refine A0 aO ?_; refine CNQQR ?_; refine A0 mO ?_
 refine A0 (g_len_o rfl rfl rfl isl_23) ?_; refine A0 mV ?_; refine CNB ?_
 refine Lp (ι := Nat) 1 (fun (k : Nat) => ((((Fr.none).set 3 (.own 0)).set 8 (.own 0)).set 9 (.val i64T (l.length : Int))).set 10 (.val i64T (k : Int))) (fun (k : Nat) => (Hp.none).set 0 (.row 77 txT l)) (fun (k : Nat) => k ≤ l.length) (fun (k : Nat) => l.length - k) (0) (Nat.zero_le _) ?_
 intro k hinv
 refine CQR ?_; refine A0 o_lss ?_; refine CNQ ?_
 refine Cf (p := k < l.length) (fun ht11 => ?_) (fun ht11 => ?_)
 ·
  obtain ⟨x, hx⟩ : ∃ x, l[k]? = some x := ⟨_, List.getElem?_eq_getElem ht11⟩
  have hxm := List.mem_of_getElem? hx
  refine CSQBQR ?_; refine A0 mV ?_; refine A0 (g_ia_o (i := k) rfl rfl rfl rfl (by first | omega | rfl) sl_23 (by first | assumption | omega | (simp; omega))) ?_; refine A0 (g_load_e rfl rfl rfl rfl (by assumption) (Lens.self _) ty_77) ?_
  refine aw_alloc ze_77 rfl rfl rfl rfl ?_; refine A0 aV ?_; refine aw_store_b rfl rfl rfl rfl rfl (Lens.self _) ty_77 rfl ?_; refine CN ?_
  refine aw_drawx [some 1, some 1, some 1, some 1, some 1, some 1, some 1, some 1, some 1, some 1, none] mixed (by decide +kernel) ?_; refine X0 mO ?_; refine X0 mV ?_; refine X0 (oFp fd_77_0) ?_; refine X0 (oLb L_Tx_ins ty_74) ?_
  refine X0 (oCl (tells_pub (cloneIn x.ins (by have := hl2 x hxm; unfold smallTx at this; constructor <;> omega))) rfl fn_92 ⟨(arg_v rfl), trivial⟩) ?_; refine X0 (oFp fd_77_1) ?_; refine X0 (oLb L_Tx_outs ty_75) ?_
  refine X0 (oCl (tells_pub (cloneOut x.outs (by have := hl2 x hxm; unfold smallTx at this; constructor <;> omega))) rfl fn_93 ⟨(arg_v rfl), trivial⟩) ?_
  refine X0 (g_build rfl ze_77 bd_77 (.cons fd_77_0 L_Tx_ins ty_74 rfl (.cons fd_77_1 L_Tx_outs ty_75 rfl .nil)) rfl) ?_
  refine X0 (g_ia_o (i := k) rfl rfl rfl rfl (by first | omega | rfl) sl_23 (by first | assumption | omega | (simp; omega))) ?_
  refine XK.e (x := .idk) (fun fr' hfr kk H => by exact aw_store_e rfl rfl rfl ((hfr 24 (by decide +kernel)).trans rfl) rfl rfl (by assumption) (Lens.self _) ty_77 ((hfr 23 (by decide +kernel)).trans rfl) (aw_nil H)) ?_; refine XK.nil' ?_
  refine CI ?_; refine CR ?_; refine A0 o_add ?_; refine A0 mV ?_; refine CN ?_; refine aw_rerow (n := 0) (y := l) rfl (by rw [show (⟨x.ins, x.outs⟩ : Tx) = x from rfl]; exact set_same hx) ?_
  exact Nx (k + 1) (by omega) (by omega)
 ·
  refine CE ?_; refine CQR ?_; refine A0 mO ?_; refine A0 aO ?_; refine CN ?_
  exact aw_ret1 rfl rfl (ret_fresh_eq rfl rfl rfl)
theorem copied_ok (b : Block) (hb : smallB b) : Tells P 56 [.val blockT b] (.val blockT b) := by
 obtain ⟨hb1, hb2⟩ := hb
 refine fn_of_aw Tryz.func56 rfl rfl rfl (fun ext w hext => ?_)
 refine CQR ?_; refine aw_box rfl rfl rfl rfl rfl ?_; refine aw_alloc ze_37 rfl rfl rfl rfl ?_; refine CNQR ?_; refine A0 (oFp fd_37_1) ?_; refine A0 (oLb L_Block_l ty_35) ?_
 refine A0 (oCl (tells_pub (cloneId b.l (by constructor <;> omega))) rfl fn_89 ⟨(arg_v rfl), trivial⟩) ?_; refine A0 (oFp fd_37_1) ?_; refine aw_store_b rfl rfl rfl rfl rfl L_Block_l ty_35 rfl ?_; refine CNQR ?_; refine A0 (oFp fd_37_2) ?_
 refine A0 (oLb L_Block_t ty_23) ?_; refine A0 (oCl (tells_pub (txs_ok b.t hb2)) rfl fn_96 ⟨(arg_v rfl), trivial⟩) ?_; refine A0 (oFp fd_37_2) ?_; refine aw_store_b rfl rfl rfl rfl rfl L_Block_t ty_23 rfl ?_; refine CNQR ?_
 refine A0 (oLs rfl rfl rfl ty_37) ?_; refine aw_store_b rfl rfl rfl rfl rfl (Lens.self _) ty_37 rfl ?_; refine CN ?_
 exact aw_retc1 rfl rfl rfl rfl ty_37 (rfl)
theorem own_ok (t : Tip) (ht : smallTip t) : Tells P 55 [.val tipT t] (.val tipT t) := by
 obtain ⟨ht1, ht2, ht3⟩ := ht
 refine fn_of_aw Tryz.func55 rfl rfl rfl (fun ext w hext => ?_)
 refine CQR ?_; refine aw_box rfl rfl rfl rfl rfl ?_; refine aw_alloc ze_41 rfl rfl rfl rfl ?_; refine CNQ ?_
 refine aw_drawx [some 1, some 1, some 1, some 1, some 1, some 1, some 1, some 1, some 1, some 1, none, some 1, none, some 1, none] mixed (by decide +kernel) ?_; refine X0 (oFp fd_41_0) ?_; refine X0 (oLb L_Tip_b ty_37) ?_
 refine X0 (oCl (copied_ok t.b ht1) rfl fn_56 ⟨(arg_v rfl), trivial⟩) ?_; refine X0 (oFp fd_41_1) ?_; refine X0 (oLb L_Tip_p ty_38) ?_; refine X0 (oCl (tells_pub (cloneTotal t.p (by constructor <;> omega))) rfl fn_75 ⟨(arg_v rfl), trivial⟩) ?_
 refine X0 (oFp fd_41_2) ?_; refine X0 (oLb L_Tip_c ty_39) ?_; refine X0 (oCl (tells_pub (cloneCoin t.c (by constructor <;> omega))) rfl fn_103 ⟨(arg_v rfl), trivial⟩) ?_; refine X0 (oFp fd_41_0) ?_
 refine XK.e (x := .idk) (fun fr' hfr kk H => by exact aw_store_b rfl rfl rfl ((hfr 12 (by decide +kernel)).trans rfl) rfl L_Tip_b ty_37 ((hfr 5 (by decide +kernel)).trans rfl) (aw_nil H)) ?_; refine X0 (oFp fd_41_1) ?_
 refine XK.e (x := .idk) (fun fr' hfr kk H => by exact aw_store_b rfl rfl rfl ((hfr 13 (by decide +kernel)).trans rfl) rfl L_Tip_p ty_38 ((hfr 8 (by decide +kernel)).trans rfl) (aw_nil H)) ?_; refine X0 (oFp fd_41_2) ?_
 refine XK.e (x := .idk) (fun fr' hfr kk H => by exact aw_store_b rfl rfl rfl ((hfr 14 (by decide +kernel)).trans rfl) rfl L_Tip_c ty_39 ((hfr 11 (by decide +kernel)).trans rfl) (aw_nil H)) ?_; refine XK.nil' ?_; refine CQR ?_
 refine A0 (oLs rfl rfl rfl ty_41) ?_; refine aw_store_b rfl rfl rfl rfl rfl (Lens.self _) ty_41 rfl ?_; refine CN ?_
 exact aw_retc1 rfl rfl rfl rfl ty_41 (rfl)
theorem sameB_ok (a b : Block) : Tells P 39 [.val blockT a, .val blockT b] (.val boolT (decide (a = b))) := by
 refine fn_of_aw Tryz.func39 rfl rfl rfl (fun ext w hext => ?_)
 refine CQR ?_; refine aw_box rfl rfl rfl rfl rfl ?_; refine aw_box rfl rfl rfl rfl rfl ?_; refine A0 aV ?_; refine CNQR ?_; refine A0 (oFp fd_37_0) ?_; refine A0 (oLb L_Block_h ty_34) ?_; refine A0 (oFp fd_37_0) ?_
 refine A0 (oLb L_Block_h ty_34) ?_; refine A0 (g_eqlS rfl rfl rfl (eqt_34)) ?_
 refine Sp (d := 9) (p := a.h = b.h) (fun g9 => ?_) (fun g9 => ?_)
 ·
  refine A0 mV ?_; refine A1 (oFp fd_37_1) ?_; refine A1 (oLb L_Block_l ty_35) ?_; refine A1 (oFp fd_37_1) ?_; refine A1 (oLb L_Block_l ty_35) ?_; refine A1 (oCl (equalId _ _) rfl fn_84 ⟨(arg_v rfl), (arg_v rfl), trivial⟩) ?_
  refine Sp (d := 15) (p := a.l = b.l) (fun g15 => ?_) (fun g15 => ?_)
  ·
   refine A0 oK ?_; refine A0 mV ?_; refine A1 (oFp fd_37_2) ?_; refine A1 (oLb L_Block_t ty_23) ?_; refine A1 (oFp fd_37_2) ?_; refine A1 (oLb L_Block_t ty_23) ?_
   refine A1 (oCl (equalFTx _ _) rfl fn_85 ⟨(arg_v rfl), (arg_v rfl), (by first | exact arg_fn1 (Cs := []) rfl fn_86 (by intro n hn; cases hn) trivial rfl (fun x => coinSame_ok x y) | exact arg_fn2 (Cs := []) rfl fn_86 (by intro n hn; cases hn) trivial rfl (fun x y => coinSame_ok x y) | exact arg_clo rfl), trivial⟩) ?_
   refine A0 oK ?_; refine A0 aV ?_; refine CN ?_
   exact aw_ret1 rfl rfl (ret_eq rfl (by rw [decide_eq_decide]; exact ⟨fun h => by cases a; cases b; simp_all, fun h => by rw [h]⟩))
  ·
   refine A0 oK ?_; refine A0 mV ?_; refine A2 ?_; refine A2 ?_; refine A2 ?_; refine A2 ?_; refine A2 ?_; refine A0 oK ?_; refine A0 aV ?_; refine CN ?_
   exact aw_ret1 rfl rfl (ret_eq rfl (by symm; apply decide_eq_false; intro h; exact g15 (by rw [h])))
 ·
  refine A0 mV ?_; refine A2 ?_; refine A2 ?_; refine A2 ?_; refine A2 ?_; refine A2 ?_; refine A0 oK ?_; refine A0 mV ?_; refine A2 ?_; refine A2 ?_; refine A2 ?_; refine A2 ?_; refine A2 ?_; refine A0 oK ?_; refine A0 aV ?_; refine CN ?_
  exact aw_ret1 rfl rfl (ret_eq rfl (by symm; apply decide_eq_false; intro h; exact g9 (by rw [h])))
end Go.Proofs.YtfepfajcdkllfaaGreat
set_option maxRecDepth 20000
namespace Go.Proofs.YtfepfajcdkllfaaGreat
set_option linter.unusedVariables false
set_option linter.unusedSimpArgs false
open Go.Ab Go.RowKit
def smallTrial (x : Trial) : Prop := smallTip x.t ∧ x.b.t.length ≤ 4000000000000
def sizeE (x : Trial) : Int := if 48 ≤ x.b.h.height then 3 else 0
def prevE (x : Trial) : Int := if ¬ behindH x.b.h = behindH x.want then 5 else 0
def linkE (x : Trial) : Int := if ¬ x.b.h.links = x.want.links ∨ ¬ x.b.l = linksT x.t then 6 else 0
def rootE (x : Trial) : Int := if ¬ x.b.h = x.want then 7 else 0
def workE (x : Trial) : Int := if ¬ headMay x.b.h = true then 4 else 0
def coinsE (x : Trial) : Int := (applyOf x.t.c x.b.t).2
def coinsX (x : Trial) : Trial := { x with c := (applyOf x.t.c x.b.t).1 }
def askOf (f : Option Nat) (x : Trial) : Int := if f = some 48 then sizeE x else if f = some 49 then prevE x else if f = some 50 then linkE x else if f = some 51 then rootE x else if f = some 52 then workE x else coinsE x
def askX (f : Option Nat) (x : Trial) : Trial := if f = some 53 then coinsX x else x
def firstE : List (Option Nat) → Trial → Int
  | [], _ => 0
  | f :: l, x => if askOf f x = 0 then firstE l (askX f x) else askOf f x
def firstX : List (Option Nat) → Trial → Trial
  | [], x => x
  | f :: l, x => if askOf f x = 0 then firstX l (askX f x) else askX f x
def Asks (f : Option Nat) : Prop := f = some 48 ∨ f = some 49 ∨ f = some 50 ∨ f = some 51 ∨ f = some 52 ∨ f = some 53
theorem first_step {l : List (Option Nat)} {k : Nat} {f : Option Nat} {x : Trial} (h : l[k]? = some f) (h0 : askOf f x = 0) : firstE (l.drop k) x = firstE (l.drop (k + 1)) (askX f x) ∧ firstX (l.drop k) x = firstX (l.drop (k + 1)) (askX f x) := by
  obtain ⟨hk, rfl⟩ := List.getElem?_eq_some_iff.1 h
  rw [List.drop_eq_getElem_cons hk, firstE, firstX, if_pos h0, if_pos h0]
  exact ⟨rfl, rfl⟩
theorem first_stop {l : List (Option Nat)} {k : Nat} {f : Option Nat} {x : Trial} (h : l[k]? = some f) (h0 : ¬ askOf f x = 0) : firstE (l.drop k) x = askOf f x ∧ firstX (l.drop k) x = askX f x := by
  obtain ⟨hk, rfl⟩ := List.getElem?_eq_some_iff.1 h
  rw [List.drop_eq_getElem_cons hk, firstE, firstX, if_neg h0, if_neg h0]
  exact ⟨rfl, rfl⟩
theorem first_end {l : List (Option Nat)} {k : Nat} {x : Trial} (h : l.length ≤ k) : firstE (l.drop k) x = 0 ∧ firstX (l.drop k) x = x := by
  rw [List.drop_of_length_le h]; exact ⟨rfl, rfl⟩
theorem smallTrial_ask {f : Option Nat} {x : Trial} (h : smallTrial x) : smallTrial (askX f x) := by unfold askX; split <;> exact h
theorem ask_size (x : Trial) : Tells P 48 [.rptr trialT x] (.val i64T (sizeE x)) := by
 refine fn_of_aw Tryz.func48 rfl rfl rfl (fun ext w hext => ?_)
 refine CQR ?_; refine A0 aV ?_; refine CNQQR ?_; refine A0 mR ?_; refine A0 (g_nc_r rfl rfl) ?_; refine A0 (oFr fd_94_1 L_Trial_b) ?_; refine A0 (oFr fd_37_0 L_Block_h) ?_; refine A0 (oFr fd_34_0 L_Head_height) ?_
 refine A0 (g_load_r rfl rfl ty_3) ?_; refine A0 o_geq ?_; refine CN ?_
 refine Cf (p := 48 ≤ x.b.h.height) (fun ht9 => ?_) (fun ht9 => ?_)
 ·
  refine CQR ?_; refine A0 aV ?_; refine CN ?_
  exact aw_ret1 rfl rfl (ret_eq rfl (by unfold sizeE; rw [if_pos (ht9)]))
 ·
  refine CSQR ?_; refine A0 aV ?_; refine CN ?_
  exact aw_ret1 rfl rfl (ret_eq rfl (by unfold sizeE; rw [if_neg (ht9)]))
theorem ask_prev (x : Trial) : Tells P 49 [.rptr trialT x] (.val i64T (prevE x)) := by
 refine fn_of_aw Tryz.func49 rfl rfl rfl (fun ext w hext => ?_)
 refine CQR ?_; refine A0 aV ?_; refine CNQ ?_; refine CQ ?_; refine CD mixed ?_; refine G0 mR ?_; refine G0 (g_nc_r rfl rfl) ?_; refine G0 (oFr fd_94_1 L_Trial_b) ?_; refine G0 (oFr fd_37_0 L_Block_h) ?_; refine G0 (g_load_r rfl rfl ty_34) ?_
 refine G0 (oCl (behindH_ok _) rfl fn_100 ⟨(by first | exact arg_same rfl | exact arg_bsl rfl | exact arg_own rfl rfl | exact arg_nil rfl | exact arg_rptr rfl | exact arg_fn rfl rfl | exact arg_lit rfl), trivial⟩) ?_; refine G0 mR ?_
 refine G0 (g_nc_r rfl rfl) ?_; refine G0 (oFr fd_94_2 L_Trial_want) ?_; refine G0 (g_load_r rfl rfl ty_34) ?_
 refine G0 (oCl (behindH_ok _) rfl fn_100 ⟨(by first | exact arg_same rfl | exact arg_bsl rfl | exact arg_own rfl rfl | exact arg_nil rfl | exact arg_rptr rfl | exact arg_fn rfl rfl | exact arg_lit rfl), trivial⟩) ?_
 refine G0 (g_neqS rfl rfl rfl (eqt_34)) ?_; refine GK.nil ?_
 refine aw_ifc (p := ¬ behindH x.b.h = behindH x.want) rfl (by simp) (fun ht14 => ?_) (fun ht14 => ?_)
 ·
  refine CQR ?_; refine A0 aV ?_; refine CN ?_
  exact aw_ret1 rfl rfl (ret_eq rfl (by unfold prevE; rw [if_pos (ht14)]))
 ·
  refine CSQR ?_; refine A0 aV ?_; refine CN ?_
  exact aw_ret1 rfl rfl (ret_eq rfl (by unfold prevE; rw [if_neg (ht14)]))
theorem ask_link (x : Trial) (hx : smallTrial x) : Tells P 50 [.rptr trialT x] (.val i64T (linkE x)) := by
 refine fn_of_aw Tryz.func50 rfl rfl rfl (fun ext w hext => ?_)
 refine CQR ?_; refine A0 aV ?_; refine CNQ ?_; refine CQ ?_; refine CD mixed ?_; refine G0 mR ?_; refine G0 (g_nc_r rfl rfl) ?_; refine G0 (oFr fd_94_1 L_Trial_b) ?_; refine G0 (oFr fd_37_0 L_Block_h) ?_
 refine G0 (oFr fd_34_2 L_Head_links) ?_; refine G0 (g_load_r rfl rfl ty_29) ?_; refine G0 mR ?_; refine G0 (g_nc_r rfl rfl) ?_; refine G0 (oFr fd_94_2 L_Trial_want) ?_; refine G0 (oFr fd_34_2 L_Head_links) ?_
 refine G0 (g_load_r rfl rfl ty_29) ?_; refine G0 (g_neqS rfl rfl rfl (eqt_29)) ?_
 refine GK_splitp (d := 14) (p := ¬ x.b.h.links = x.want.links) rfl (by simp) (fun g14 => ?_) (fun g14 => ?_)
 ·
  refine G0 mV ?_; refine G2 ?_; refine G2 ?_; refine G2 ?_; refine G2 ?_; refine G2 ?_; refine G2 ?_; refine G2 ?_; refine G2 ?_; refine G2 ?_; refine G2 ?_; refine G2 ?_; refine G2 ?_; refine G0 oK ?_; refine GK.nil ?_; refine Ct ?_
  refine CQR ?_; refine A0 aV ?_; refine CN ?_
  exact aw_ret1 rfl rfl (ret_eq rfl (by unfold linkE; rw [if_pos (.inl g14)]))
 ·
  refine G0 mV ?_; refine G1 mR ?_; refine G1 (g_nc_r rfl rfl) ?_; refine G1 (oFr fd_94_1 L_Trial_b) ?_; refine G1 (oFr fd_37_1 L_Block_l) ?_; refine G1 (g_load_r rfl rfl ty_35) ?_; refine G1 mR ?_; refine G1 (g_nc_r rfl rfl) ?_
  refine G1 (oFr fd_94_0 L_Trial_t) ?_; refine G1 (g_load_r rfl rfl ty_41) ?_
  refine G1 (oCl (tells_pub (linksT_ok x.t)) rfl fn_95 ⟨(by first | exact arg_same rfl | exact arg_bsl rfl | exact arg_own rfl rfl | exact arg_nil rfl | exact arg_rptr rfl | exact arg_fn rfl rfl | exact arg_lit rfl), trivial⟩) ?_
  refine G1 (oCl (equalId _ _) rfl fn_84 ⟨(by first | exact arg_same rfl | exact arg_bsl rfl | exact arg_own rfl rfl | exact arg_nil rfl | exact arg_rptr rfl | exact arg_fn rfl rfl | exact arg_lit rfl), (arg_v rfl), trivial⟩) ?_
  refine G1 oN ?_; refine G0 oK ?_; refine GK.nil ?_
  refine aw_ifc (p := ¬ x.b.l = linksT x.t) rfl (by simp) (fun ht28 => ?_) (fun ht28 => ?_)
  ·
   refine CQR ?_; refine A0 aV ?_; refine CN ?_
   exact aw_ret1 rfl rfl (ret_eq rfl (by unfold linkE; rw [if_pos (.inr ht28)]))
  ·
   refine CSQR ?_; refine A0 aV ?_; refine CN ?_
   exact aw_ret1 rfl rfl (ret_eq rfl (by unfold linkE; rw [if_neg (fun h => h.elim g14 ht28)]))
theorem ask_root (x : Trial) : Tells P 51 [.rptr trialT x] (.val i64T (rootE x)) := by
 refine fn_of_aw Tryz.func51 rfl rfl rfl (fun ext w hext => ?_)
 refine CQR ?_; refine A0 aV ?_; refine CNQ ?_; refine CQ ?_; refine CD mixed ?_; refine G0 mR ?_; refine G0 (g_nc_r rfl rfl) ?_; refine G0 (oFr fd_94_1 L_Trial_b) ?_; refine G0 (oFr fd_37_0 L_Block_h) ?_; refine G0 (g_load_r rfl rfl ty_34) ?_
 refine G0 mR ?_; refine G0 (g_nc_r rfl rfl) ?_; refine G0 (oFr fd_94_2 L_Trial_want) ?_; refine G0 (g_load_r rfl rfl ty_34) ?_; refine G0 (g_neqS rfl rfl rfl (eqt_34)) ?_; refine GK.nil ?_
 refine aw_ifc (p := ¬ x.b.h = x.want) rfl (by simp) (fun ht12 => ?_) (fun ht12 => ?_)
 ·
  refine CQR ?_; refine A0 aV ?_; refine CN ?_
  exact aw_ret1 rfl rfl (ret_eq rfl (by unfold rootE; rw [if_pos (ht12)]))
 ·
  refine CSQR ?_; refine A0 aV ?_; refine CN ?_
  exact aw_ret1 rfl rfl (ret_eq rfl (by unfold rootE; rw [if_neg (ht12)]))
theorem ask_work (x : Trial) : Tells P 52 [.rptr trialT x] (.val i64T (workE x)) := by
 refine fn_of_aw Tryz.func52 rfl rfl rfl (fun ext w hext => ?_)
 refine CQR ?_; refine A0 aV ?_; refine CNQQR ?_; refine A0 mR ?_; refine A0 (g_nc_r rfl rfl) ?_; refine A0 (oFr fd_94_1 L_Trial_b) ?_; refine A0 (oFr fd_37_0 L_Block_h) ?_; refine A0 (g_load_r rfl rfl ty_34) ?_
 refine A0 (oCl (headMay_ok _) rfl fn_101 ⟨(by first | exact arg_same rfl | exact arg_bsl rfl | exact arg_own rfl rfl | exact arg_nil rfl | exact arg_rptr rfl | exact arg_fn rfl rfl | exact arg_lit rfl), trivial⟩) ?_; refine A0 oN ?_
 refine CN ?_
 refine aw_ifc (p := ¬ headMay x.b.h = true) rfl (by simp) (fun ht9 => ?_) (fun ht9 => ?_)
 ·
  refine CQR ?_; refine A0 aV ?_; refine CN ?_
  exact aw_ret1 rfl rfl (ret_eq rfl (by unfold workE; rw [if_pos (ht9)]))
 ·
  refine CSQR ?_; refine A0 aV ?_; refine CN ?_
  exact aw_ret1 rfl rfl (ret_eq rfl (by unfold workE; rw [if_neg (ht9)]))
theorem ask_coins (x : Trial) (hx : smallTrial x) : TellsM P 53 (.box 94 trialT x) [.ptr 0 0] (.val i64T (coinsE x)) (.box 94 trialT (coinsX x)) := by
 refine fnm_of_aw trivial Tryz.func53 rfl rfl ⟨Nat.one_pos, trivial⟩ (fun ext pg w hext hgr => ?_)
 refine CQR ?_; refine A0 aV ?_; refine CNQ ?_; refine CD mixed ?_; refine G0 mP ?_; refine G0 (g_nc rfl rfl) ?_; refine G0 (oFp fd_94_0) ?_; refine G0 (oFp fd_41_2) ?_; refine G0 (oLb (L_Trial_t.comp L_Tip_c) ty_39) ?_; refine G0 mP ?_
 refine G0 (g_nc rfl rfl) ?_; refine G0 (oFp fd_94_1) ?_; refine G0 (oFp fd_37_2) ?_; refine G0 (oLb (L_Trial_b.comp L_Block_t) ty_23) ?_
 refine G0 (oCl (tells_pub2 (apply_ok x.t.c x.b.t (by have := hx.1.2.2; omega))) rfl fn_102 ⟨(arg_v rfl), (arg_v rfl), trivial⟩) ?_; refine G0 mX ?_; refine G0 (by first | exact g_x20 rfl rfl | exact g_x30 rfl rfl) ?_
 refine G0 (by first | exact g_x21 rfl rfl | exact g_x31 rfl rfl) ?_; refine G0 aV ?_; refine G0 aV ?_; refine GK.nil ?_; refine CQR ?_; refine A0 mP ?_; refine A0 mV ?_; refine A0 (g_nc rfl rfl) ?_; refine A0 (oFp fd_94_3) ?_
 refine aw_store_b rfl rfl rfl rfl rfl L_Trial_c ty_39 rfl ?_; refine CNQR ?_; refine A0 mV ?_; refine A0 aV ?_; refine CN ?_
 exact aw_retm1 rfl rfl rfl rfl rfl (give_box rfl rfl) (retm_eq (give_box (x := coinsX x) rfl rfl) rfl rfl)
theorem first_ok (x0 : Trial) (l : List (Option Nat)) (hx0 : smallTrial x0) (hl : ∀ f ∈ l, Asks f) : TellsM P 54 (.box 94 trialT x0) [.ptr 0 0, .val (bsl fnoT) l] (.val i64T (firstE l x0)) (.box 94 trialT (firstX l x0)) := by
 refine fnm_of_aw trivial Tryz.func54 rfl rfl ⟨Nat.one_pos, ⟨trivial, trivial⟩⟩ (fun ext pg w hext hgr => ?_)
 refine aw_fact (d := 1) rfl fact_sl (fun hsl1 => ?_)
 refine CQR ?_; refine A0 aV ?_; refine CNQQR ?_; refine A0 mV ?_; refine A0 (g_len rfl rfl isl_99) ?_; refine A0 mV ?_; refine CNB ?_
 refine Lp (ι := Nat × Trial) 1 (fun (i : Nat × Trial) => match i with | (k, x) => ((((Fr.none).set 0 (.ptr 0 0)).set 8 (.val (bsl fnoT) l)).set 9 (.val i64T (l.length : Int))).set 10 (.val i64T (k : Int))) (fun (i : Nat × Trial) => match i with | (k, x) => (Hp.none).set 0 (.box 94 trialT x)) (fun (i : Nat × Trial) => match i with | (k, x) => k ≤ l.length ∧ smallTrial x ∧ firstE l x0 = firstE (l.drop k) x ∧ firstX l x0 = firstX (l.drop k) x) (fun (i : Nat × Trial) => match i with | (k, x) => l.length - k) ((0, x0)) (⟨Nat.zero_le _, hx0, rfl, rfl⟩) ?_
 intro ⟨k, x⟩ hinv
 dsimp only at hinv
 refine CQR ?_; refine A0 o_lss ?_; refine CNQ ?_
 refine Cf (p := k < l.length) (fun ht11 => ?_) (fun ht11 => ?_)
 ·
  obtain ⟨f, hf⟩ : ∃ f, l[k]? = some f := ⟨_, List.getElem?_eq_getElem ht11⟩
  have hask := hl f (List.mem_of_getElem? hf)
  rcases hask with he | he | he | he | he | he
  ·
   refine CSQBQR ?_; refine A0 (g_ia_n rfl rfl rfl sl_99 (by assumption)) ?_; refine A0 (g_load_r rfl rfl ty_95) ?_; refine A0 aX ?_; refine CNQR ?_; refine A0 mX ?_; refine aw_reval (d := 14) rfl he ?_
   refine aw_fnclo (d := 14) (f := 48) rfl ?_; refine A0 mP ?_
   refine A0 (g_callc (As := [_]) (Cs := []) (ask_size x) rfl rfl fn_48 ⟨(by first | exact arg_ptr rfl rfl (Lens.self _) | exact arg_ptrw rfl rfl), trivial⟩ (by intro n hn; cases hn) trivial rfl) ?_; refine A0 aX ?_; refine CNQR ?_
   refine A0 mX ?_; refine A0 o_neq ?_; refine CN ?_
   refine aw_ifc (p := ¬ askOf f x = 0) rfl (by simp [askOf, he, IntL.toI]) (fun ht18 => ?_) (fun ht18 => ?_)
   ·
    refine CQR ?_; refine A0 mX ?_; refine A0 aX ?_; refine CN ?_; refine aw_reheap (n := 0) (y := askX f x) rfl (by rw [he]; rfl) ?_
    exact aw_retm1 rfl rfl rfl rfl rfl (give_box rfl (hinv.2.2.2.trans (first_stop hf ht18).2).symm) (retm_eq (give_box rfl (hinv.2.2.2.trans (first_stop hf ht18).2).symm) rfl (by rw [hinv.2.2.1, (first_stop hf ht18).1, he]; rfl))
   ·
    refine CSIR ?_; refine A0 o_add ?_; refine A0 mV ?_; refine CN ?_; refine aw_reheap (n := 0) (y := askX f x) rfl (by rw [he]; rfl) ?_
    exact Nx ((k + 1, askX f x)) (⟨by omega, smallTrial_ask hinv.2.1, hinv.2.2.1.trans (first_step hf (Classical.not_not.1 ht18)).1, hinv.2.2.2.trans (first_step hf (Classical.not_not.1 ht18)).2⟩) (by show l.length - (k + 1) < l.length - k; omega)
  ·
   refine CSQBQR ?_; refine A0 (g_ia_n rfl rfl rfl sl_99 (by assumption)) ?_; refine A0 (g_load_r rfl rfl ty_95) ?_; refine A0 aX ?_; refine CNQR ?_; refine A0 mX ?_; refine aw_reval (d := 14) rfl he ?_
   refine aw_fnclo (d := 14) (f := 49) rfl ?_; refine A0 mP ?_
   refine A0 (g_callc (As := [_]) (Cs := []) (ask_prev x) rfl rfl fn_49 ⟨(by first | exact arg_ptr rfl rfl (Lens.self _) | exact arg_ptrw rfl rfl), trivial⟩ (by intro n hn; cases hn) trivial rfl) ?_; refine A0 aX ?_; refine CNQR ?_
   refine A0 mX ?_; refine A0 o_neq ?_; refine CN ?_
   refine aw_ifc (p := ¬ askOf f x = 0) rfl (by simp [askOf, he, IntL.toI]) (fun ht18 => ?_) (fun ht18 => ?_)
   ·
    refine CQR ?_; refine A0 mX ?_; refine A0 aX ?_; refine CN ?_; refine aw_reheap (n := 0) (y := askX f x) rfl (by rw [he]; rfl) ?_
    exact aw_retm1 rfl rfl rfl rfl rfl (give_box rfl (hinv.2.2.2.trans (first_stop hf ht18).2).symm) (retm_eq (give_box rfl (hinv.2.2.2.trans (first_stop hf ht18).2).symm) rfl (by rw [hinv.2.2.1, (first_stop hf ht18).1, he]; rfl))
   ·
    refine CSIR ?_; refine A0 o_add ?_; refine A0 mV ?_; refine CN ?_; refine aw_reheap (n := 0) (y := askX f x) rfl (by rw [he]; rfl) ?_
    exact Nx ((k + 1, askX f x)) (⟨by omega, smallTrial_ask hinv.2.1, hinv.2.2.1.trans (first_step hf (Classical.not_not.1 ht18)).1, hinv.2.2.2.trans (first_step hf (Classical.not_not.1 ht18)).2⟩) (by show l.length - (k + 1) < l.length - k; omega)
  ·
   refine CSQBQR ?_; refine A0 (g_ia_n rfl rfl rfl sl_99 (by assumption)) ?_; refine A0 (g_load_r rfl rfl ty_95) ?_; refine A0 aX ?_; refine CNQR ?_; refine A0 mX ?_; refine aw_reval (d := 14) rfl he ?_
   refine aw_fnclo (d := 14) (f := 50) rfl ?_; refine A0 mP ?_
   refine A0 (g_callc (As := [_]) (Cs := []) (ask_link x hinv.2.1) rfl rfl fn_50 ⟨(by first | exact arg_ptr rfl rfl (Lens.self _) | exact arg_ptrw rfl rfl), trivial⟩ (by intro n hn; cases hn) trivial rfl) ?_; refine A0 aX ?_; refine CNQR ?_
   refine A0 mX ?_; refine A0 o_neq ?_; refine CN ?_
   refine aw_ifc (p := ¬ askOf f x = 0) rfl (by simp [askOf, he, IntL.toI]) (fun ht18 => ?_) (fun ht18 => ?_)
   ·
    refine CQR ?_; refine A0 mX ?_; refine A0 aX ?_; refine CN ?_; refine aw_reheap (n := 0) (y := askX f x) rfl (by rw [he]; rfl) ?_
    exact aw_retm1 rfl rfl rfl rfl rfl (give_box rfl (hinv.2.2.2.trans (first_stop hf ht18).2).symm) (retm_eq (give_box rfl (hinv.2.2.2.trans (first_stop hf ht18).2).symm) rfl (by rw [hinv.2.2.1, (first_stop hf ht18).1, he]; rfl))
   ·
    refine CSIR ?_; refine A0 o_add ?_; refine A0 mV ?_; refine CN ?_; refine aw_reheap (n := 0) (y := askX f x) rfl (by rw [he]; rfl) ?_
    exact Nx ((k + 1, askX f x)) (⟨by omega, smallTrial_ask hinv.2.1, hinv.2.2.1.trans (first_step hf (Classical.not_not.1 ht18)).1, hinv.2.2.2.trans (first_step hf (Classical.not_not.1 ht18)).2⟩) (by show l.length - (k + 1) < l.length - k; omega)
  ·
   refine CSQBQR ?_; refine A0 (g_ia_n rfl rfl rfl sl_99 (by assumption)) ?_; refine A0 (g_load_r rfl rfl ty_95) ?_; refine A0 aX ?_; refine CNQR ?_; refine A0 mX ?_; refine aw_reval (d := 14) rfl he ?_
   refine aw_fnclo (d := 14) (f := 51) rfl ?_; refine A0 mP ?_
   refine A0 (g_callc (As := [_]) (Cs := []) (ask_root x) rfl rfl fn_51 ⟨(by first | exact arg_ptr rfl rfl (Lens.self _) | exact arg_ptrw rfl rfl), trivial⟩ (by intro n hn; cases hn) trivial rfl) ?_; refine A0 aX ?_; refine CNQR ?_
   refine A0 mX ?_; refine A0 o_neq ?_; refine CN ?_
   refine aw_ifc (p := ¬ askOf f x = 0) rfl (by simp [askOf, he, IntL.toI]) (fun ht18 => ?_) (fun ht18 => ?_)
   ·
    refine CQR ?_; refine A0 mX ?_; refine A0 aX ?_; refine CN ?_; refine aw_reheap (n := 0) (y := askX f x) rfl (by rw [he]; rfl) ?_
    exact aw_retm1 rfl rfl rfl rfl rfl (give_box rfl (hinv.2.2.2.trans (first_stop hf ht18).2).symm) (retm_eq (give_box rfl (hinv.2.2.2.trans (first_stop hf ht18).2).symm) rfl (by rw [hinv.2.2.1, (first_stop hf ht18).1, he]; rfl))
   ·
    refine CSIR ?_; refine A0 o_add ?_; refine A0 mV ?_; refine CN ?_; refine aw_reheap (n := 0) (y := askX f x) rfl (by rw [he]; rfl) ?_
    exact Nx ((k + 1, askX f x)) (⟨by omega, smallTrial_ask hinv.2.1, hinv.2.2.1.trans (first_step hf (Classical.not_not.1 ht18)).1, hinv.2.2.2.trans (first_step hf (Classical.not_not.1 ht18)).2⟩) (by show l.length - (k + 1) < l.length - k; omega)
  ·
   refine CSQBQR ?_; refine A0 (g_ia_n rfl rfl rfl sl_99 (by assumption)) ?_; refine A0 (g_load_r rfl rfl ty_95) ?_; refine A0 aX ?_; refine CNQR ?_; refine A0 mX ?_; refine aw_reval (d := 14) rfl he ?_
   refine aw_fnclo (d := 14) (f := 52) rfl ?_; refine A0 mP ?_
   refine A0 (g_callc (As := [_]) (Cs := []) (ask_work x) rfl rfl fn_52 ⟨(by first | exact arg_ptr rfl rfl (Lens.self _) | exact arg_ptrw rfl rfl), trivial⟩ (by intro n hn; cases hn) trivial rfl) ?_; refine A0 aX ?_; refine CNQR ?_
   refine A0 mX ?_; refine A0 o_neq ?_; refine CN ?_
   refine aw_ifc (p := ¬ askOf f x = 0) rfl (by simp [askOf, he, IntL.toI]) (fun ht18 => ?_) (fun ht18 => ?_)
   ·
    refine CQR ?_; refine A0 mX ?_; refine A0 aX ?_; refine CN ?_; refine aw_reheap (n := 0) (y := askX f x) rfl (by rw [he]; rfl) ?_
    exact aw_retm1 rfl rfl rfl rfl rfl (give_box rfl (hinv.2.2.2.trans (first_stop hf ht18).2).symm) (retm_eq (give_box rfl (hinv.2.2.2.trans (first_stop hf ht18).2).symm) rfl (by rw [hinv.2.2.1, (first_stop hf ht18).1, he]; rfl))
   ·
    refine CSIR ?_; refine A0 o_add ?_; refine A0 mV ?_; refine CN ?_; refine aw_reheap (n := 0) (y := askX f x) rfl (by rw [he]; rfl) ?_
    exact Nx ((k + 1, askX f x)) (⟨by omega, smallTrial_ask hinv.2.1, hinv.2.2.1.trans (first_step hf (Classical.not_not.1 ht18)).1, hinv.2.2.2.trans (first_step hf (Classical.not_not.1 ht18)).2⟩) (by show l.length - (k + 1) < l.length - k; omega)
  ·
   refine CSQBQR ?_; refine A0 (g_ia_n rfl rfl rfl sl_99 (by assumption)) ?_; refine A0 (g_load_r rfl rfl ty_95) ?_; refine A0 aX ?_; refine CNQR ?_; refine A0 mX ?_; refine aw_reval (d := 14) rfl he ?_
   refine aw_fnclo (d := 14) (f := 53) rfl ?_; refine A0 mP ?_
   refine aw_calluv (ask_coins x hinv.2.1) rfl rfl fn_53 rfl trivial trivial rfl ⟨(by first | exact argm_own rfl | exact argm_ptr rfl | exact argm_same rfl | exact argm_bsl rfl | exact argm_lit rfl | exact argm_clo rfl | exact argm_row rfl rfl (by decide)), trivial⟩ rfl rfl rfl ?_
   refine A0 aX ?_; refine CNQR ?_; refine A0 mX ?_; refine A0 o_neq ?_; refine CN ?_
   refine aw_ifc (p := ¬ askOf f x = 0) rfl (by simp [askOf, he, IntL.toI]) (fun ht18 => ?_) (fun ht18 => ?_)
   ·
    refine CQR ?_; refine A0 mX ?_; refine A0 aX ?_; refine CN ?_; refine aw_reheap (n := 0) (y := askX f x) rfl (by rw [he]; rfl) ?_
    exact aw_retm1 rfl rfl rfl rfl rfl (give_box rfl (hinv.2.2.2.trans (first_stop hf ht18).2).symm) (retm_eq (give_box rfl (hinv.2.2.2.trans (first_stop hf ht18).2).symm) rfl (by rw [hinv.2.2.1, (first_stop hf ht18).1, he]; rfl))
   ·
    refine CSIR ?_; refine A0 o_add ?_; refine A0 mV ?_; refine CN ?_; refine aw_reheap (n := 0) (y := askX f x) rfl (by rw [he]; rfl) ?_
    exact Nx ((k + 1, askX f x)) (⟨by omega, smallTrial_ask hinv.2.1, hinv.2.2.1.trans (first_step hf (Classical.not_not.1 ht18)).1, hinv.2.2.2.trans (first_step hf (Classical.not_not.1 ht18)).2⟩) (by show l.length - (k + 1) < l.length - k; omega)
 ·
  refine CE ?_; refine CQR ?_; refine A0 aV ?_; refine CN ?_
  exact aw_retm1 rfl rfl rfl rfl rfl (give_box rfl (hinv.2.2.2.trans (first_end (by omega)).2).symm) (retm_eq (give_box rfl (hinv.2.2.2.trans (first_end (by omega)).2).symm) rfl (hinv.2.2.1.trans (first_end (by omega)).1).symm)
end Go.Proofs.YtfepfajcdkllfaaGreat
set_option maxRecDepth 20000
namespace Go.Proofs.YtfepfajcdkllfaaGreat
set_option linter.unusedVariables false
set_option linter.unusedSimpArgs false
open Go.Ab Go.RowKit
def pushE (t : Tip) (b : Block) : Int :=
  if 48 ≤ b.h.height then 3 else if ¬ behindH b.h = behindH (nextH t b.t b.h.nonce) then 5 else
  if ¬ b.h.links = (nextH t b.t b.h.nonce).links ∨ ¬ b.l = linksT t then 6 else if ¬ b.h = nextH t b.t b.h.nonce then 7 else
  if ¬ headMay b.h = true then 4 else (applyOf t.c b.t).2
def pushT (t : Tip) (b : Block) : Tip := if pushE t b = 0 then ⟨b, mmrAppend t.p (leafH b.h), (applyOf t.c b.t).1⟩ else t
def mineBE (t : Tip) (l : List Tx) (nonce : UInt64) (tries : Int) : Int :=
  if 48 ≤ (nextH t l nonce).height then 3 else if ¬ (applyOf t.c l).2 = 0 then (applyOf t.c l).2 else if (mineOf (nextH t l nonce) tries).isSome = true then 0 else 4
def mineB (t : Tip) (l : List Tx) (nonce : UInt64) (tries : Int) : Block :=
  if mineBE t l nonce tries = 0 then ⟨(mineOf (nextH t l nonce) tries).getD (nextH t l nonce), linksT t, l⟩ else zBlock
theorem ask_two {x : Trial} : firstE [some 48, some 53] x = if 48 ≤ x.b.h.height then 3 else (applyOf x.t.c x.b.t).2 := by
  show (if sizeE x = 0 then (if coinsE x = 0 then 0 else coinsE x) else sizeE x) = _
  unfold sizeE coinsE
  by_cases h : 48 ≤ x.b.h.height
  · rw [if_pos h, if_pos h, if_neg (by decide)]
  · rw [if_neg h, if_neg h, if_pos rfl]; split <;> simp_all
theorem ite_stop {p : Prop} [Decidable p] {e r : Int} (he : e ≠ 0) : (if (if p then e else 0) = 0 then r else (if p then e else 0)) = if p then e else r := by
  by_cases h : p
  · rw [if_pos h, if_pos h, if_neg he]
  · rw [if_neg h, if_neg h, if_pos rfl]
theorem ask_all {t : Tip} {b : Block} {c : List Coin} : firstE [some 48, some 49, some 50, some 51, some 52, some 53] ⟨t, b, nextH t b.t b.h.nonce, c⟩ = pushE t b := by
  obtain ⟨x, hx⟩ : ∃ x : Trial, x = ⟨t, b, nextH t b.t b.h.nonce, c⟩ := ⟨_, rfl⟩
  have e : pushE t b = pushE x.t x.b := by rw [hx]
  have hw : x.want = nextH x.t x.b.t x.b.h.nonce := by rw [hx]
  rw [e, ← hx]
  show (if sizeE x = 0 then (if prevE x = 0 then (if linkE x = 0 then (if rootE x = 0 then (if workE x = 0 then (if coinsE x = 0 then 0 else coinsE x) else workE x) else rootE x) else linkE x) else prevE x) else sizeE x) = _
  have hc : (if coinsE x = 0 then 0 else coinsE x) = coinsE x := by split <;> simp_all
  rw [hc]
  unfold sizeE prevE linkE rootE workE coinsE pushE
  rw [ite_stop (by decide), ite_stop (by decide), ite_stop (by decide), ite_stop (by decide), ite_stop (by decide), hw]
theorem ask_allX {t : Tip} {b : Block} {c : List Coin} (h : pushE t b = 0) : (firstX [some 48, some 49, some 50, some 51, some 52, some 53] ⟨t, b, nextH t b.t b.h.nonce, c⟩).c = (applyOf t.c b.t).1 := by
  obtain ⟨x, hx⟩ : ∃ x : Trial, x = ⟨t, b, nextH t b.t b.h.nonce, c⟩ := ⟨_, rfl⟩
  have hw : x.want = nextH x.t x.b.t x.b.h.nonce := by rw [hx]
  have h : pushE x.t x.b = 0 := by rw [hx]; exact h
  have e : (applyOf t.c b.t).1 = (applyOf x.t.c x.b.t).1 := by rw [hx]
  rw [e, ← hx]
  show (if sizeE x = 0 then (if prevE x = 0 then (if linkE x = 0 then (if rootE x = 0 then (if workE x = 0 then (if coinsE x = 0 then coinsX x else coinsX x) else x) else x) else x) else x) else x).c = _
  unfold pushE at h
  rw [← hw] at h
  by_cases h1 : 48 ≤ x.b.h.height
  · rw [if_pos h1] at h; exact absurd h (by decide)
  rw [if_neg h1] at h
  by_cases h2 : ¬ behindH x.b.h = behindH x.want
  · rw [if_pos h2] at h; exact absurd h (by decide)
  rw [if_neg h2] at h
  by_cases h3 : ¬ x.b.h.links = x.want.links ∨ ¬ x.b.l = linksT x.t
  · rw [if_pos h3] at h; exact absurd h (by decide)
  rw [if_neg h3] at h
  by_cases h4 : ¬ x.b.h = x.want
  · rw [if_pos h4] at h; exact absurd h (by decide)
  rw [if_neg h4] at h
  by_cases h5 : ¬ headMay x.b.h = true
  · rw [if_pos h5] at h; exact absurd h (by decide)
  rw [if_neg h5] at h
  unfold sizeE prevE linkE rootE workE coinsE
  rw [if_neg h1, if_neg h2, if_neg h3, if_neg h4, if_neg h5, if_pos rfl, if_pos rfl, if_pos rfl, if_pos rfl, if_pos rfl, if_pos h]
  rfl
theorem asks_all : ∀ f ∈ ([some 48, some 49, some 50, some 51, some 52, some 53] : List (Option Nat)), Asks f := by intro f hf; simp at hf; unfold Asks; exact hf
theorem asks_two : ∀ f ∈ ([some 48, some 53] : List (Option Nat)), Asks f := by intro f hf; simp at hf; unfold Asks; rcases hf with h | h <;> simp [h]
theorem mineBE_err {t : Tip} {l : List Tx} {nonce : UInt64} {tries : Int} (h : ¬ (if 48 ≤ (nextH t l nonce).height then 3 else (applyOf t.c l).2) = 0) : mineBE t l nonce tries = (if 48 ≤ (nextH t l nonce).height then 3 else (applyOf t.c l).2) := by
  unfold mineBE
  split
  · rfl
  · rename_i h1; rw [if_neg h1] at h; rw [if_pos h]
theorem mineBE_work {t : Tip} {l : List Tx} {nonce : UInt64} {tries : Int} (h : (if 48 ≤ (nextH t l nonce).height then 3 else (applyOf t.c l).2) = 0) (h2 : ¬ (mineOf (nextH t l nonce) tries).isSome = true) : mineBE t l nonce tries = 4 := by
  unfold mineBE
  split
  · rename_i h1; rw [if_pos h1] at h; exact absurd h (by decide)
  · rename_i h1; rw [if_neg h1] at h; simp only [h, h2, not_true_eq_false, if_false]
theorem mineBE_ok {t : Tip} {l : List Tx} {nonce : UInt64} {tries : Int} (h : (if 48 ≤ (nextH t l nonce).height then 3 else (applyOf t.c l).2) = 0) (h2 : (mineOf (nextH t l nonce) tries).isSome = true) : mineBE t l nonce tries = 0 := by
  unfold mineBE
  split
  · rename_i h1; rw [if_pos h1] at h; exact absurd h (by decide)
  · rename_i h1; rw [if_neg h1] at h; simp only [h, h2, not_true_eq_false, if_false]
theorem push_ok (t : Tip) (b : Block) (ht : smallTip t) (hb : smallB b) : Tells P 18 [.val tipT t, .val blockT b] (.tup2 (.val tipT (pushT t b)) (.val i64T (pushE t b))) := by
 have hbt := hb.2.1
 have htp := ht.2.1
 refine fn_of_aw Tryz.func18 rfl rfl rfl (fun ext w hext => ?_)
 refine CQR ?_; refine aw_box rfl rfl rfl rfl rfl ?_; refine aw_box rfl rfl rfl rfl rfl ?_; refine aw_alloc ze_41 rfl rfl rfl rfl ?_; refine A0 aV ?_; refine CNQ ?_
 refine aw_drawx [some 1, some 1, some 1, some 1, some 1, some 1, some 1, some 1, some 1, some 1, none, some 1] mixed (by decide +kernel) ?_; refine X0 (oLs rfl rfl rfl ty_41) ?_; refine X0 (oLs rfl rfl rfl ty_37) ?_
 refine X0 (oLs rfl rfl rfl ty_41) ?_; refine X0 (oFp fd_37_2) ?_; refine X0 (oLb L_Block_t ty_23) ?_; refine X0 (oFp fd_37_0) ?_; refine X0 (oFp fd_34_7) ?_; refine X0 (oLb (L_Block_h.comp L_Head_nonce) ty_24) ?_
 refine X0 (oCl (nextH_ok t b.t b.h.nonce (by omega) (by omega)) rfl fn_47 ⟨(arg_v rfl), (arg_v rfl), (arg_v rfl), trivial⟩) ?_
 refine X0 (g_build rfl ze_94 bd_94 (.cons fd_94_0 L_Trial_t ty_41 rfl (.cons fd_94_1 L_Trial_b ty_37 rfl (.cons fd_94_2 L_Trial_want ty_34 rfl .nil))) rfl) ?_
 refine XK.e (fun fr' hfr kk H => by exact aw_box rfl rfl rfl rfl ((hfr 18 (by decide +kernel)).trans rfl) (aw_nil H)) ?_; refine X0 aP ?_; refine XK.nil' ?_; refine CQR ?_
 refine A0 (g_buildF (xs := [_, _, _, _, _, _]) rfl ar_97 ze_97 ⟨rfl, ⟨_, rfl, rfl⟩, rfl, ⟨_, rfl, rfl⟩, rfl, ⟨_, rfl, rfl⟩, rfl, ⟨_, rfl, rfl⟩, rfl, ⟨_, rfl, rfl⟩, rfl, ⟨_, rfl, rfl⟩, trivial⟩ rfl) ?_; refine aw_alloc ze_97 rfl rfl rfl rfl ?_
 refine aw_store_b rfl rfl rfl rfl rfl (Lens.self _) ty_97 rfl ?_; refine CNQ ?_; refine CQ ?_; refine aw_freeze (d := 7) rfl rfl (Lens.self _) ?_; refine CR ?_; refine A0 mP ?_; refine A0 (g_slice_r rfl rfl ar_97 rfl rfl) ?_
 refine aw_callu (first_ok ⟨t, b, nextH t b.t b.h.nonce, []⟩ [some 48, some 49, some 50, some 51, some 52, some 53] ⟨ht, by show b.t.length ≤ 4000000000000; omega⟩ asks_all) rfl fn_54 rfl trivial trivial rfl ⟨(by first | exact argm_own rfl | exact argm_ptr rfl | exact argm_same rfl | exact argm_bsl rfl | exact argm_lit rfl | exact argm_clo rfl | exact argm_row rfl rfl (by decide)), (by first | exact argm_own rfl | exact argm_ptr rfl | exact argm_same rfl | exact argm_bsl rfl | exact argm_lit rfl | exact argm_clo rfl | exact argm_row rfl rfl (by decide)), trivial⟩ rfl rfl rfl ?_
 refine aw_reval (d := 23) rfl ask_all ?_; refine A0 aV ?_; refine CNQR ?_; refine A0 mV ?_; refine A0 o_neq ?_; refine CN ?_
 refine aw_ifc (p := ¬ pushE t b = 0) rfl (by simp [IntL.toI]) (fun ht25 => ?_) (fun ht25 => ?_)
 ·
  refine CQR ?_; refine A0 (oLs rfl rfl rfl ty_41) ?_; refine A0 (oCl (own_ok t ht) rfl fn_55 ⟨(arg_v rfl), trivial⟩) ?_; refine A0 mV ?_; refine aw_store_b rfl rfl rfl rfl rfl (Lens.self _) ty_41 rfl ?_; refine A0 aV ?_; refine CN ?_
  exact aw_retr2 rfl rfl (rv_cell rfl rfl ty_41 (by unfold pushT; rw [if_neg ht25])) (rv_tmp (ret_eq rfl (rfl)))
 ·
  refine CS ?_; refine CQ ?_; refine aw_drawx [some 1, some 1, some 1, some 1, some 1, some 1, some 1, some 1, some 1, some 1, some 1, some 1, some 1, none, some 1] mixed (by decide +kernel) ?_; refine X0 (oLs rfl rfl rfl ty_37) ?_
  refine X0 (oCl (copied_ok b hb) rfl fn_56 ⟨(arg_v rfl), trivial⟩) ?_; refine X0 (oFp fd_41_1) ?_; refine X0 (oLb L_Tip_p ty_38) ?_; refine X0 (oFp fd_37_0) ?_; refine X0 (oLb L_Block_h ty_34) ?_
  refine X0 (oCl (leafH_ok _) rfl fn_57 ⟨(arg_v rfl), trivial⟩) ?_; refine X0 (oCl (tells_pub (mmrAppend_ok t.p (leafH b.h) (by omega))) rfl fn_33 ⟨(arg_v rfl), (arg_v rfl), trivial⟩) ?_; refine X0 mP ?_; refine X0 (g_nc rfl rfl) ?_
  refine X0 (oFp fd_94_3) ?_; refine X0 (oLb L_Trial_c ty_39) ?_; refine X0 (g_build rfl ze_41 bd_41 (.cons fd_41_0 L_Tip_b ty_37 rfl (.cons fd_41_1 L_Tip_p ty_38 rfl (.cons fd_41_2 L_Tip_c ty_39 rfl .nil))) rfl) ?_
  refine XK.e (x := .idk) (fun fr' hfr kk H => by exact aw_store_b rfl rfl rfl ((hfr 4 (by decide +kernel)).trans rfl) rfl (Lens.self _) ty_41 ((hfr 41 (by decide +kernel)).trans rfl) (aw_nil H)) ?_; refine X0 aV ?_; refine XK.nil' ?_
  exact aw_retr2 rfl rfl (rv_cell rfl rfl ty_41 (by unfold pushT; rw [if_pos (Classical.not_not.1 ht25), ask_allX (Classical.not_not.1 ht25)])) (rv_tmp (ret_eq rfl ((Classical.not_not.1 ht25).symm)))
theorem mineB_ok (t : Tip) (l : List Tx) (nonce : UInt64) (tries : Int) (ht : smallTip t) (hl : smallL l) : Tells P 41 [.val tipT t, .val (sl txT) l, .val u64T nonce, .val i64T tries] (.tup2 (.val blockT (mineB t l nonce tries)) (.val i64T (mineBE t l nonce tries))) := by
 have hbt := hl.1
 have htp := ht.2.1
 refine fn_of_aw Tryz.func41 rfl rfl rfl (fun ext w hext => ?_)
 refine aw_fact (d := 1) rfl fact_sl (fun hsl1 => ?_)
 refine aw_fact (d := 3) rfl fact_int (fun hin3 => ?_)
 refine CQR ?_; refine aw_box rfl rfl rfl rfl rfl ?_; refine aw_alloc ze_37 rfl rfl rfl rfl ?_; refine A0 aV ?_; refine CNQR ?_; refine A0 (oLs rfl rfl rfl ty_41) ?_; refine A0 mV ?_; refine A0 mV ?_
 refine A0 (oCl (nextH_ok t l nonce (by omega) (by omega)) rfl fn_47 ⟨(arg_v rfl), (arg_v rfl), (arg_v rfl), trivial⟩) ?_; refine aw_alloc ze_34 rfl rfl rfl rfl ?_; refine aw_store_b rfl rfl rfl rfl rfl (Lens.self _) ty_34 rfl ?_
 refine CNQR ?_; refine A0 (oLs rfl rfl rfl ty_41) ?_; refine A0 (oLs rfl rfl rfl ty_34) ?_; refine A0 mV ?_; refine A0 (g_build rfl ze_37 bd_37 (.cons fd_37_0 L_Block_h ty_34 rfl (.cons fd_37_2 L_Block_t ty_23 rfl .nil)) rfl) ?_
 refine A0 (oLs rfl rfl rfl ty_34) ?_; refine A0 (g_build rfl ze_94 bd_94 (.cons fd_94_0 L_Trial_t ty_41 rfl (.cons fd_94_1 L_Trial_b ty_37 rfl (.cons fd_94_2 L_Trial_want ty_34 rfl .nil))) rfl) ?_; refine aw_box rfl rfl rfl rfl rfl ?_
 refine A0 aP ?_; refine CNQQR ?_; refine A0 mP ?_; refine A0 (g_bslF (xs := [_, _]) rfl sl_99 row_99 ⟨rfl, ⟨_, rfl, rfl⟩, rfl, ⟨_, rfl, rfl⟩, trivial⟩ rfl rfl) ?_
 refine aw_callu (first_ok ⟨t, ⟨nextH t l nonce, [], l⟩, nextH t l nonce, []⟩ [some 48, some 53] ⟨ht, by show l.length ≤ 4000000000000; omega⟩ asks_two) rfl fn_54 rfl trivial trivial rfl ⟨(by first | exact argm_own rfl | exact argm_ptr rfl | exact argm_same rfl | exact argm_bsl rfl | exact argm_lit rfl | exact argm_clo rfl | exact argm_row rfl rfl (by decide)), (by first | exact argm_own rfl | exact argm_ptr rfl | exact argm_same rfl | exact argm_bsl rfl | exact argm_lit rfl | exact argm_clo rfl | exact argm_row rfl rfl (by decide)), trivial⟩ rfl rfl rfl ?_
 refine aw_reval (d := 27) rfl ask_two ?_; refine A0 aV ?_; refine CNQR ?_; refine A0 mV ?_; refine A0 o_neq ?_; refine CN ?_
 refine aw_ifc (p := ¬ (if 48 ≤ (nextH t l nonce).height then 3 else (applyOf t.c l).2) = 0) rfl (by simp [IntL.toI]) (fun ht29 => ?_) (fun ht29 => ?_)
 ·
  have hE : mineBE t l nonce tries = (if 48 ≤ (nextH t l nonce).height then 3 else (applyOf t.c l).2) := mineBE_err ht29
  refine CQR ?_; refine A0 (g_build rfl ze_37 bd_37 .nil rfl) ?_; refine A0 mV ?_; refine aw_store_b rfl rfl rfl rfl rfl (Lens.self _) ty_37 rfl ?_; refine A0 aV ?_; refine CN ?_
  exact aw_retr2 rfl rfl (rv_cell rfl rfl ty_37 (by unfold mineB; rw [hE, if_neg ht29])) (rv_tmp (ret_eq rfl (hE.symm)))
 ·
  refine CSQR ?_; refine A0 (oLs rfl rfl rfl ty_34) ?_; refine A0 mV ?_; refine A0 (oCl (mine_ok (nextH t l nonce) tries) rfl fn_94 ⟨(arg_v rfl), (arg_v rfl), trivial⟩) ?_; refine A0 mX ?_
  refine A0 (by first | exact g_x20 rfl rfl | exact g_x30 rfl rfl) ?_; refine A0 (by first | exact g_x21 rfl rfl | exact g_x31 rfl rfl) ?_; refine aw_store_b rfl rfl rfl rfl rfl (Lens.self _) ty_34 rfl ?_; refine A0 aV ?_; refine CNQQR ?_
  refine A0 mV ?_; refine A0 oN ?_; refine CN ?_
  refine aw_ifc (p := ¬ (mineOf (nextH t l nonce) tries).isSome = true) rfl (by cases (mineOf (nextH t l nonce) tries).isSome <;> rfl) (fun ht39 => ?_) (fun ht39 => ?_)
  ·
   have hE : mineBE t l nonce tries = 4 := mineBE_work (Classical.not_not.1 ht29) ht39
   refine CQR ?_; refine A0 (g_build rfl ze_37 bd_37 .nil rfl) ?_; refine aw_store_b rfl rfl rfl rfl rfl (Lens.self _) ty_37 rfl ?_; refine A0 aV ?_; refine CN ?_
   exact aw_retr2 rfl rfl (rv_cell rfl rfl ty_37 (by unfold mineB; rw [hE]; rfl)) (rv_tmp (ret_eq rfl (hE.symm)))
  ·
   have hE : mineBE t l nonce tries = 0 := mineBE_ok (Classical.not_not.1 ht29) (Classical.not_not.1 ht39)
   refine CS ?_; refine CQ ?_; refine aw_drawx [some 1, some 1, some 1, some 1, some 1, some 1, none, some 1] mixed (by decide +kernel) ?_; refine X0 (oLs rfl rfl rfl ty_34) ?_; refine X0 (oLs rfl rfl rfl ty_41) ?_
   refine X0 (oCl (tells_pub (linksT_ok t)) rfl fn_95 ⟨(arg_v rfl), trivial⟩) ?_; refine X0 mV ?_; refine X0 (oCl (tells_pub (txs_ok l hl)) rfl fn_96 ⟨(arg_v rfl), trivial⟩) ?_
   refine X0 (g_build rfl ze_37 bd_37 (.cons fd_37_0 L_Block_h ty_34 rfl (.cons fd_37_1 L_Block_l ty_35 rfl (.cons fd_37_2 L_Block_t ty_23 rfl .nil))) rfl) ?_
   refine XK.e (x := .idk) (fun fr' hfr kk H => by exact aw_store_b rfl rfl rfl ((hfr 8 (by decide +kernel)).trans rfl) rfl (Lens.self _) ty_37 ((hfr 46 (by decide +kernel)).trans rfl) (aw_nil H)) ?_; refine X0 aV ?_; refine XK.nil' ?_
   exact aw_retr2 rfl rfl (rv_cell rfl rfl ty_37 (by unfold mineB; rw [hE, if_pos rfl])) (rv_tmp (ret_eq rfl (hE.symm)))
end Go.Proofs.YtfepfajcdkllfaaGreat
set_option maxRecDepth 20000
namespace Go.Proofs.YtfepfajcdkllfaaGreat
set_option linter.unusedVariables false
set_option linter.unusedSimpArgs false
open Go.Ab Go.RowKit
def few (t : Tx) : Bool := decide (t.ins.length ≤ 6 ∧ t.outs.length ≤ 6)
theorem few_ok (t : Tx) : Tells P 37 [.val txT t] (.val boolT (few t)) := by
 refine fn_of_aw Tryz.func37 rfl rfl rfl (fun ext w hext => ?_)
 refine CQR ?_; refine aw_box rfl rfl rfl rfl rfl ?_; refine A0 aV ?_; refine CNQR ?_; refine A0 (oFp fd_77_0) ?_; refine A0 (oLb L_Tx_ins ty_74) ?_; refine A0 (g_len rfl rfl isl_74) ?_; refine A0 o_leq ?_
 refine Sp (d := 6) (p := t.ins.length ≤ 6) (fun g6 => ?_) (fun g6 => ?_)
 ·
  refine A0 mV ?_; refine A1 (oFp fd_77_1) ?_; refine A1 (oLb L_Tx_outs ty_75) ?_; refine A1 (g_len rfl rfl isl_75) ?_; refine A1 o_leq ?_; refine A0 oK ?_; refine A0 aV ?_; refine CN ?_
  exact aw_ret1 rfl rfl (ret_eq rfl (by unfold few; symm; first | (rw [decide_eq_decide]; simp only [IntL.toI, id_eq]; omega) | (apply decide_eq_false; omega) | (simp [g6]; done) | (simp [g6]; omega)))
 ·
  refine A0 mV ?_; refine A2 ?_; refine A2 ?_; refine A2 ?_; refine A2 ?_; refine A0 oK ?_; refine A0 aV ?_; refine CN ?_
  exact aw_ret1 rfl rfl (ret_eq rfl (by unfold few; symm; first | (rw [decide_eq_decide]; simp only [IntL.toI, id_eq]; omega) | (apply decide_eq_false; omega) | (simp [g6]; done) | (simp [g6]; omega)))
theorem fewAll_ok (l : List Tx) (m : Int) : Tells P 12 [.val (bsl txT) l, .val i64T m] (.val boolT (l.all few && decide ((l.length : Int) ≤ m))) := by
 refine fn_of_aw Tryz.func12 rfl rfl rfl (fun ext w hext => ?_)
 refine aw_fact (d := 0) rfl fact_sl (fun hsl0 => ?_)
 refine aw_fact (d := 1) rfl fact_int (fun hin1 => ?_)
 refine CQR ?_; refine A0 aV ?_; refine CNQQR ?_; refine A0 aV ?_; refine CNB ?_
 refine Lp (ι := Nat) 0 (fun (k : Nat) => (((Fr.none).set 0 (.val (bsl txT) l)).set 1 (.val i64T m)).set 5 (.val i64T (k : Int))) (fun (k : Nat) => Hp.none) (fun (k : Nat) => k ≤ l.length ∧ (l.take k).all few = true) (fun (k : Nat) => l.length - k) (0) (⟨Nat.zero_le _, rfl⟩) ?_
 intro k hinv
 refine CQQR ?_; refine A0 mV ?_; refine A0 mV ?_; refine A0 (g_len rfl rfl isl_23) ?_; refine A0 o_lss ?_; refine CN ?_
 refine Cf (p := k < l.length) (fun ht10 => ?_) (fun ht10 => ?_)
 ·
  obtain ⟨t, ht⟩ : ∃ t, l[k]? = some t := ⟨_, List.getElem?_eq_getElem ht10⟩
  refine CSQBQR ?_; refine A0 mV ?_; refine A0 mV ?_; refine A0 (g_ia_n rfl rfl rfl sl_23 (by assumption)) ?_; refine A0 (g_load_r rfl rfl ty_77) ?_
  refine A0 (oCl (few_ok _) rfl fn_37 ⟨(by first | exact arg_same rfl | exact arg_bsl rfl | exact arg_own rfl rfl | exact arg_nil rfl | exact arg_rptr rfl | exact arg_fn rfl rfl | exact arg_lit rfl), trivial⟩) ?_; refine A0 aV ?_
  refine CNQR ?_; refine A0 mV ?_; refine A0 oN ?_; refine CN ?_
  refine aw_ifc (p := ¬ few t = true) rfl (by simp) (fun ht19 => ?_) (fun ht19 => ?_)
  ·
   refine CQR ?_; refine A0 aV ?_; refine CN ?_
   exact aw_ret1 rfl rfl (ret_eq rfl (by symm; rw [Bool.and_eq_false_iff]; left; rw [List.all_eq_false]; exact ⟨t, List.mem_of_getElem? ht, ht19⟩))
  ·
   refine CSIR ?_; refine A0 mV ?_; refine A0 o_add ?_; refine A0 aV ?_; refine CN ?_
   exact Nx (k + 1) (⟨by omega, by rw [List.take_add_one, ht, List.all_append, hinv.2]; simp [Classical.not_not.1 ht19]⟩) (by omega)
 ·
  refine CE ?_; refine CQR ?_; refine A0 mV ?_; refine A0 (g_len rfl rfl isl_23) ?_; refine A0 mV ?_; refine A0 o_leq ?_; refine A0 aV ?_; refine CN ?_
  exact aw_ret1 rfl rfl (ret_eq rfl (by rw [List.take_of_length_le (by omega)] at hinv; rw [hinv.2, Bool.true_and]; rfl))
end Go.Proofs.YtfepfajcdkllfaaGreat
set_option maxRecDepth 20000
namespace Go.Proofs.YtfepfajcdkllfaaGreat
set_option linter.unusedVariables false
set_option linter.unusedSimpArgs false
open Go.Ab Go.RowKit
def s2 : Ab.Id := [219, 193, 180, 201, 0, 255, 228, 141, 87, 91, 93, 165, 198, 56, 4, 1, 37, 246, 93, 176, 254, 62, 36, 73, 75, 118, 234, 152, 100, 87, 217, 134]
def s4 : Ab.Id := [229, 45, 156, 80, 140, 80, 35, 71, 52, 77, 140, 7, 173, 145, 203, 214, 6, 138, 252, 117, 255, 98, 146, 240, 98, 160, 156, 163, 129, 200, 158, 113]
def id0 : Ab.Id := [204, 117, 100, 156, 217, 35, 11, 173, 35, 93, 199, 149, 159, 68, 227, 45, 148, 39, 20, 174, 85, 27, 122, 223, 187, 132, 2, 33, 173, 199, 16, 195]
def lk0 : Ab.Id := [191, 122, 202, 251, 39, 175, 213, 3, 220, 82, 240, 192, 217, 1, 99, 0, 242, 60, 209, 156, 152, 127, 176, 94, 46, 148, 67, 11, 109, 16, 112, 47]
def easyH : Head := ⟨0, zId, s2, s2, s4, zWide, 545259519, 0⟩
def easyN (n : UInt64) : Head := ⟨1, id0, lk0, s2, id0, [2, 0, 0, 0], 545259519, n⟩
theorem sum_s2 : shaSum [2] = s2 := by kernel_rfl
theorem sum_s4 : shaSum [4] = s4 := by kernel_rfl
theorem root_nil : rootOf [] = s2 := by rw [rootOf, if_pos (show ([] : List Ab.Id).length = 0 from rfl), sum_s2]
theorem root_one (x : Ab.Id) : rootOf [x] = x := by rw [rootOf, if_neg (show ¬ [x].length = 0 by simp), dif_pos (show [x].length ≤ 1 by simp)]; rfl
theorem easy_first : firstH 545259519 = easyH := by
  have e1 : linkRoot [] = s2 := root_nil
  have e2 : txRoot [] = s2 := root_nil
  have e3 : (mmrRoot []).h = s4 := sum_s4
  unfold firstH; rw [e1, e2, e3]; rfl
theorem easy_id : headId easyH = id0 := by kernel_rfl
theorem easy_work : headWork easyH = [2, 0, 0, 0] := by kernel_rfl
theorem easy_level : headLevel easyH = 31 := by kernel_rfl
theorem easy_ok : tgtOk 545259519 = true := by kernel_rfl
theorem easy_lk : leafOf id0 = lk0 := by kernel_rfl
theorem easy_may0 : headMay (easyN 0) = false := by kernel_rfl
theorem easy_may1 : headMay (easyN 1) = true := by kernel_rfl
end Go.Proofs.YtfepfajcdkllfaaGreat
set_option maxRecDepth 20000
namespace Go.Proofs.YtfepfajcdkllfaaGreat
set_option linter.unusedVariables false
set_option linter.unusedSimpArgs false
open Go.Ab Go.RowKit
def leaf0 : Total := leafT id0 [2, 0, 0, 0]
def easyTip : Tip := ⟨⟨easyH, [], []⟩, [leaf0], []⟩
def easyB : Block := ⟨easyN 1, [id0], []⟩
def leaf1 : Total := leafH (easyN 1)
def easyTip2 : Tip := ⟨easyB, mmrAppend [leaf0] leaf1, []⟩
theorem easy_leaf : leafH easyH = leaf0 := by unfold leafH leaf0; rw [easy_id, easy_work]
theorem easy_tip : firstTip 545259519 = easyTip := by unfold firstTip; rw [if_pos easy_ok, easy_first, easy_leaf]; rfl
theorem easy_links : linksT easyTip = [id0] := by
  show linkNext [] (headId easyH) (headLevel easyH) = _
  rw [easy_id]; unfold linkNext; rw [if_neg (show ¬ 32 < ([] : List Ab.Id).length by decide), if_pos (show ([] : List Ab.Id).length = 0 from rfl)]
theorem easy_next (n : UInt64) : nextH easyTip [] n = easyN n := by
  have e1 : linkRoot [id0] = lk0 := (root_one _).trans easy_lk
  have e2 : txRoot [] = s2 := root_nil
  unfold nextH
  rw [easy_links, e1, e2]
  show (⟨_, headId easyH, _, _, _, _, _, _⟩ : Head) = _
  rw [easy_id]; rfl
theorem easy_mine : mineOf (easyN 0) 200 = some (easyN 1) := by
  unfold mineOf
  rw [mineFrom_step (by decide) (by rw [easy_may0]; decide)]
  exact mineFrom_yes (by decide) easy_may1
theorem apply_nil : applyOf [] [] = ([], 0) := by kernel_rfl
theorem easy_mineE : mineBE easyTip [] 0 200 = 0 := by
  unfold mineBE
  rw [easy_next, if_neg (by decide), show (applyOf easyTip.c []).2 = 0 from congrArg (·.2) apply_nil, if_neg (by decide), easy_mine]; rfl
theorem easy_mineB : mineB easyTip [] 0 200 = easyB := by
  unfold mineB
  rw [easy_mineE, if_pos rfl, easy_next, easy_mine, easy_links]; rfl
theorem easy_pushE : pushE easyTip easyB = 0 := by
  unfold pushE
  have e : nextH easyTip easyB.t easyB.h.nonce = easyB.h := easy_next 1
  rw [e, if_neg (by decide), if_neg (by simp), if_neg (by rw [easy_links]; simp [easyB]), if_neg (by simp), if_neg (by rw [show headMay easyB.h = true from easy_may1]; simp)]
  exact congrArg (·.2) apply_nil
theorem easy_pushT : pushT easyTip easyB = easyTip2 := by
  unfold pushT
  rw [easy_pushE, if_pos rfl, show (applyOf easyTip.c easyB.t).1 = [] from congrArg (·.1) apply_nil]; rfl
theorem small_easyB : smallB easyB := by refine ⟨by decide, by decide, fun t ht => by cases ht⟩
def fewB (b : Block) : Bool := (b.t.all few && decide ((b.t.length : Int) ≤ 6)) && decide (b.l.length ≤ 40)
theorem few_small {l : List Tx} (h : (l.all few && decide ((l.length : Int) ≤ 6)) = true) : smallL l := by
  rw [Bool.and_eq_true, decide_eq_true_eq] at h
  refine ⟨by omega, fun t ht => ?_⟩
  have := List.all_eq_true.1 h.1 t ht
  unfold few at this
  rw [decide_eq_true_eq] at this
  exact ⟨by omega, by omega⟩
theorem fewB_small {b : Block} (h : fewB b = true) : smallB b := by
  unfold fewB at h
  rw [Bool.and_eq_true, decide_eq_true_eq] at h
  exact ⟨by omega, few_small h.1⟩
end Go.Proofs.YtfepfajcdkllfaaGreat
set_option maxRecDepth 20000
namespace Go.Proofs.YtfepfajcdkllfaaGreat
set_option linter.unusedVariables false
set_option linter.unusedSimpArgs false
open Go.Ab Go.RowKit
theorem eq_u32 {x y : UInt32} : decide (IntL.toI u32T x = IntL.toI u32T y) = decide (x = y) := by rw [decide_eq_decide]; show ((x.toNat : Nat) : Int) = ((y.toNat : Nat) : Int) ↔ _; rw [Int.ofNat_inj, UInt32.toNat_inj]
theorem pushR_len : ∀ (r : List Total) (x : Total), (pushR r x).length ≤ r.length + 1
  | [], _ => Nat.le_refl _
  | y :: r, x => by
    rw [pushR]
    split
    · have := pushR_len r (joinT y x); rw [List.length_cons]; omega
    · rw [List.length_cons]; omega
theorem mmrAppend_len {p : List Total} {x : Total} : (mmrAppend p x).length ≤ p.length + 1 := by
  unfold mmrAppend
  have := pushR_len p.reverse x
  rw [List.length_reverse] at this ⊢; exact this
theorem apply_may {p : List Coin} {l : List Tx} (h : (applyOf p l).2 = 0) : mayCoins p = true := by
  refine Classical.byContradiction fun hn => ?_
  unfold applyOf at h
  rw [if_pos hn] at h
  exact absurd h (show ¬ (1 : Int) = 0 by decide)
theorem push_iff {t : Tip} {b : Block} : pushE t b = 0 ↔ b.h.height < 48 ∧ b.h = nextH t b.t b.h.nonce ∧ b.l = linksT t ∧ headMay b.h = true ∧ (applyOf t.c b.t).2 = 0 := by
  constructor
  · intro h
    unfold pushE at h
    by_cases h1 : 48 ≤ b.h.height
    · rw [if_pos h1] at h; exact absurd h (by decide)
    rw [if_neg h1] at h
    by_cases h2 : ¬ behindH b.h = behindH (nextH t b.t b.h.nonce)
    · rw [if_pos h2] at h; exact absurd h (by decide)
    rw [if_neg h2] at h
    by_cases h3 : ¬ b.h.links = (nextH t b.t b.h.nonce).links ∨ ¬ b.l = linksT t
    · rw [if_pos h3] at h; exact absurd h (by decide)
    rw [if_neg h3] at h
    by_cases h4 : ¬ b.h = nextH t b.t b.h.nonce
    · rw [if_pos h4] at h; exact absurd h (by decide)
    rw [if_neg h4] at h
    by_cases h5 : ¬ headMay b.h = true
    · rw [if_pos h5] at h; exact absurd h (by decide)
    rw [if_neg h5] at h
    exact ⟨by omega, Classical.not_not.1 h4, Classical.not_not.1 fun hc => h3 (.inr hc), Classical.not_not.1 h5, h⟩
  · rintro ⟨h1, h2, h3, h4, h5⟩
    unfold pushE
    rw [if_neg (by omega), if_neg (Classical.not_not.2 (congrArg behindH h2)), if_neg (fun h => h.elim (fun h => h (congrArg (·.links) h2)) fun h => h h3), if_neg (Classical.not_not.2 h2), if_neg (Classical.not_not.2 h4)]
    exact h5
theorem firstTip_is {a : UInt32} (h : tgtOk a = true) : firstTip a = ⟨⟨firstH a, [], []⟩, [leafH (firstH a)], []⟩ := by unfold firstTip; rw [if_pos h]; rfl
end Go.Proofs.YtfepfajcdkllfaaGreat
set_option maxRecDepth 20000
namespace Go.Proofs.YtfepfajcdkllfaaGreat
set_option linter.unusedVariables false
set_option linter.unusedSimpArgs false
open Go.Ab Go.RowKit
theorem same_end {α : Type} {p q : List α} (hl : p.length = q.length) (h : p.take p.length = q.take p.length) : p = q := by
  rw [List.take_length, hl, List.take_length] at h
  exact h
theorem same_step {α : Type} {p q : List α} {k : Nat} {c : α} (h : p.take k = q.take k) (hp : p[k]? = some c) (hq : q[k]? = some c) : p.take (k + 1) = q.take (k + 1) := by
  rw [List.take_add_one, List.take_add_one, h, hp, hq]
theorem rsame_ok (p q : List Coin) : Tells P 60 [.val (bsl coinT) p, .val (bsl coinT) q] (.val boolT (decide (p = q))) := by
 refine fn_of_aw Tryz.func60 rfl rfl rfl (fun ext w hext => ?_)
 refine aw_fact (d := 0) rfl fact_sl (fun hsl0 => ?_)
 refine aw_fact (d := 1) rfl fact_sl (fun hsl1 => ?_)
 refine CQR ?_; refine A0 aV ?_; refine CNQQR ?_; refine A0 mV ?_; refine A0 (g_len rfl rfl isl_39) ?_; refine A0 mV ?_; refine A0 (g_len rfl rfl isl_39) ?_; refine A0 o_neq ?_; refine CN ?_
 refine aw_ifc (p := ¬ p.length = q.length) rfl (by simp [IntL.toI]; omega) (fun ht10 => ?_) (fun ht10 => ?_)
 ·
  refine CQR ?_; refine A0 aV ?_; refine CN ?_
  exact aw_ret1 rfl rfl (ret_eq rfl (decide_eq_false (fun e => ht10 (by rw [e]))).symm)
 ·
  have hpq := Classical.not_not.1 ht10
  refine CSQQR ?_; refine A0 aV ?_; refine CNB ?_
  refine Lp (ι := Nat) 0 (fun (k : Nat) => (((Fr.none).set 0 (.val (bsl coinT) p)).set 1 (.val (bsl coinT) q)).set 5 (.val i64T (k : Int))) (fun (k : Nat) => Hp.none) (fun (k : Nat) => k ≤ p.length ∧ p.take k = q.take k) (fun (k : Nat) => p.length - k) (0) (⟨Nat.zero_le _, rfl⟩) ?_
  intro k hinv
  refine CQQR ?_; refine A0 mV ?_; refine A0 mV ?_; refine A0 (g_len rfl rfl isl_39) ?_; refine A0 o_lss ?_; refine CN ?_
  refine Cf (p := k < p.length) (fun ht14 => ?_) (fun ht14 => ?_)
  ·
   obtain ⟨c, hc⟩ : ∃ c, p[k]? = some c := ⟨_, List.getElem?_eq_getElem ht14⟩
   obtain ⟨d, hd⟩ : ∃ d, q[k]? = some d := ⟨_, List.getElem?_eq_getElem (by omega)⟩
   refine CS ?_; refine CQ ?_; refine CB ?_; refine CQ ?_; refine CD mixed ?_; refine G0 mV ?_; refine G0 mV ?_; refine G0 (g_ia_i (i := k) rfl rfl rfl (by omega) sl_39 (by assumption)) ?_; refine G0 (g_load_r rfl rfl ty_150) ?_; refine G0 mV ?_
   refine G0 mV ?_; refine G0 (g_ia_i (i := k) rfl rfl rfl (by omega) sl_39 (by assumption)) ?_; refine G0 (g_load_r rfl rfl ty_150) ?_; refine G0 (g_neqS rfl rfl rfl (eqt_150)) ?_; refine GK.nil ?_
   refine aw_ifc (p := ¬ c = d) rfl (by simp) (fun ht25 => ?_) (fun ht25 => ?_)
   ·
    refine CQR ?_; refine A0 aV ?_; refine CN ?_
    exact aw_ret1 rfl rfl (ret_eq rfl (decide_eq_false (fun e => ht25 (by rw [e, hd] at hc; injection hc with hc; exact hc.symm))).symm)
   ·
    refine CSIR ?_; refine A0 mV ?_; refine A0 o_add ?_; refine A0 aV ?_; refine CN ?_
    exact Nx (k + 1) (⟨by omega, same_step hinv.2 hc ((Classical.not_not.1 ht25) ▸ hd)⟩) (by omega)
  ·
   refine CE ?_; refine CQR ?_; refine A0 aV ?_; refine CN ?_
   exact aw_ret1 rfl rfl (ret_eq rfl (decide_eq_true (same_end hpq (by have h := hinv.2; rw [show k = p.length by omega] at h; exact h))).symm)
end Go.Proofs.YtfepfajcdkllfaaGreat
set_option maxRecDepth 20000
namespace Go.Proofs.YtfepfajcdkllfaaGreat
set_option linter.unusedVariables false
set_option linter.unusedSimpArgs false
open Go.Ab Go.RowKit
theorem refIds_ok (l m : List Ab.Id) : Tells P 106 [.val (bsl idT) l, .val (bsl idT) m] (.val boolT (decide (l = m))) := by
 refine fn_of_aw Tryz.func106 rfl rfl rfl (fun ext w hext => ?_)
 refine aw_fact (d := 0) rfl fact_sl (fun hsl0 => ?_)
 refine aw_fact (d := 1) rfl fact_sl (fun hsl1 => ?_)
 refine CQR ?_; refine A0 aV ?_; refine CNQQR ?_; refine A0 mV ?_; refine A0 (g_len rfl rfl isl_35) ?_; refine A0 mV ?_; refine A0 (g_len rfl rfl isl_35) ?_; refine A0 o_neq ?_; refine CN ?_
 refine aw_ifc (p := ¬ l.length = m.length) rfl (by simp [IntL.toI]; omega) (fun ht10 => ?_) (fun ht10 => ?_)
 ·
  refine CQR ?_; refine A0 aV ?_; refine CN ?_
  exact aw_ret1 rfl rfl (ret_eq rfl (decide_eq_false (fun e => ht10 (by rw [e]))).symm)
 ·
  refine CSQQR ?_; refine A0 aV ?_; refine CNB ?_
  refine Lp (ι := Nat) 0 (fun (k : Nat) => (((Fr.none).set 0 (.val (bsl idT) l)).set 1 (.val (bsl idT) m)).set 5 (.val i64T (k : Int))) (fun (k : Nat) => Hp.none) (fun (k : Nat) => k ≤ l.length ∧ l.take k = m.take k) (fun (k : Nat) => l.length - k) (0) (⟨Nat.zero_le _, rfl⟩) ?_
  intro k hinv
  refine CQQR ?_; refine A0 mV ?_; refine A0 mV ?_; refine A0 (g_len rfl rfl isl_35) ?_; refine A0 o_lss ?_; refine CN ?_
  refine Cf (p := k < l.length) (fun ht14 => ?_) (fun ht14 => ?_)
  ·
   obtain ⟨x, hx⟩ : ∃ x, l[k]? = some x := ⟨_, List.getElem?_eq_getElem ht14⟩
   obtain ⟨y, hy⟩ : ∃ y, m[k]? = some y := ⟨_, List.getElem?_eq_getElem (by omega)⟩
   refine CS ?_; refine CQ ?_; refine CB ?_; refine CQ ?_; refine CD mixed ?_; refine G0 mV ?_; refine G0 mV ?_; refine G0 (g_ia_i (i := k) rfl rfl rfl (by omega) sl_35 (by assumption)) ?_; refine G0 (g_load_r rfl rfl ty_29) ?_; refine G0 mV ?_
   refine G0 mV ?_; refine G0 (g_ia_i (i := k) rfl rfl rfl (by omega) sl_35 (by assumption)) ?_; refine G0 (g_load_r rfl rfl ty_29) ?_; refine G0 (g_neqS rfl rfl rfl (eqt_29)) ?_; refine GK.nil ?_
   refine aw_ifc (p := ¬ x = y) rfl (by simp) (fun ht25 => ?_) (fun ht25 => ?_)
   ·
    refine CQR ?_; refine A0 aV ?_; refine CN ?_
    exact aw_ret1 rfl rfl (ret_eq rfl (decide_eq_false (ne_of_at hx hy ht25)).symm)
   ·
    refine CSIR ?_; refine A0 mV ?_; refine A0 o_add ?_; refine A0 aV ?_; refine CN ?_
    exact Nx (k + 1) (⟨by omega, beq_all_succ hx hy hinv.2 (Classical.not_not.1 ht25)⟩) (by omega)
  ·
   refine CE ?_; refine CQR ?_; refine A0 aV ?_; refine CN ?_
   exact aw_ret1 rfl rfl (ret_eq rfl (decide_eq_true (by have h := hinv.2; rw [List.take_of_length_le (by omega), List.take_of_length_le (by omega)] at h; exact h)).symm)
theorem refTotals_ok (l m : List Total) : Tells P 59 [.val (bsl totalT) l, .val (bsl totalT) m] (.val boolT (decide (l = m))) := by
 refine fn_of_aw Tryz.func59 rfl rfl rfl (fun ext w hext => ?_)
 refine aw_fact (d := 0) rfl fact_sl (fun hsl0 => ?_)
 refine aw_fact (d := 1) rfl fact_sl (fun hsl1 => ?_)
 refine CQR ?_; refine A0 aV ?_; refine CNQQR ?_; refine A0 mV ?_; refine A0 (g_len rfl rfl isl_38) ?_; refine A0 mV ?_; refine A0 (g_len rfl rfl isl_38) ?_; refine A0 o_neq ?_; refine CN ?_
 refine aw_ifc (p := ¬ l.length = m.length) rfl (by simp [IntL.toI]; omega) (fun ht10 => ?_) (fun ht10 => ?_)
 ·
  refine CQR ?_; refine A0 aV ?_; refine CN ?_
  exact aw_ret1 rfl rfl (ret_eq rfl (decide_eq_false (fun e => ht10 (by rw [e]))).symm)
 ·
  refine CSQQR ?_; refine A0 aV ?_; refine CNB ?_
  refine Lp (ι := Nat) 0 (fun (k : Nat) => (((Fr.none).set 0 (.val (bsl totalT) l)).set 1 (.val (bsl totalT) m)).set 5 (.val i64T (k : Int))) (fun (k : Nat) => Hp.none) (fun (k : Nat) => k ≤ l.length ∧ l.take k = m.take k) (fun (k : Nat) => l.length - k) (0) (⟨Nat.zero_le _, rfl⟩) ?_
  intro k hinv
  refine CQQR ?_; refine A0 mV ?_; refine A0 mV ?_; refine A0 (g_len rfl rfl isl_38) ?_; refine A0 o_lss ?_; refine CN ?_
  refine Cf (p := k < l.length) (fun ht14 => ?_) (fun ht14 => ?_)
  ·
   obtain ⟨x, hx⟩ : ∃ x, l[k]? = some x := ⟨_, List.getElem?_eq_getElem ht14⟩
   obtain ⟨y, hy⟩ : ∃ y, m[k]? = some y := ⟨_, List.getElem?_eq_getElem (by omega)⟩
   refine CS ?_; refine CQ ?_; refine CB ?_; refine CQ ?_; refine CD mixed ?_; refine G0 mV ?_; refine G0 mV ?_; refine G0 (g_ia_i (i := k) rfl rfl rfl (by omega) sl_38 (by assumption)) ?_; refine G0 (g_load_r rfl rfl ty_68) ?_; refine G0 mV ?_
   refine G0 mV ?_; refine G0 (g_ia_i (i := k) rfl rfl rfl (by omega) sl_38 (by assumption)) ?_; refine G0 (g_load_r rfl rfl ty_68) ?_; refine G0 (g_neqS rfl rfl rfl (eqt_68)) ?_; refine GK.nil ?_
   refine aw_ifc (p := ¬ x = y) rfl (by simp) (fun ht25 => ?_) (fun ht25 => ?_)
   ·
    refine CQR ?_; refine A0 aV ?_; refine CN ?_
    exact aw_ret1 rfl rfl (ret_eq rfl (decide_eq_false (ne_of_at hx hy ht25)).symm)
   ·
    refine CSIR ?_; refine A0 mV ?_; refine A0 o_add ?_; refine A0 aV ?_; refine CN ?_
    exact Nx (k + 1) (⟨by omega, beq_all_succ hx hy hinv.2 (Classical.not_not.1 ht25)⟩) (by omega)
  ·
   refine CE ?_; refine CQR ?_; refine A0 aV ?_; refine CN ?_
   exact aw_ret1 rfl rfl (ret_eq rfl (decide_eq_true (by have h := hinv.2; rw [List.take_of_length_le (by omega), List.take_of_length_le (by omega)] at h; exact h)).symm)
theorem refTx_ok (a b : Tx) : Tells P 154 [.val txT a, .val txT b] (.val boolT (decide (a = b))) := by
 refine fn_of_aw Tryz.func154 rfl rfl rfl (fun ext w hext => ?_)
 refine aw_fact (d := 0) rfl fact_txl (fun htl => ?_)
 refine CQR ?_; refine aw_box rfl rfl rfl rfl rfl ?_; refine aw_box rfl rfl rfl rfl rfl ?_; refine A0 aV ?_; refine CNQQR ?_; refine A0 (oFp fd_77_0) ?_; refine A0 (oLb L_Tx_ins ty_74) ?_; refine A0 (g_len rfl rfl isl_74) ?_
 refine A0 (oFp fd_77_0) ?_; refine A0 (oLb L_Tx_ins ty_74) ?_; refine A0 (g_len rfl rfl isl_74) ?_; refine A0 o_neq ?_
 refine aw_splitp (d := 13) (p := ¬ a.ins.length = b.ins.length) rfl (by simp [IntL.toI]; omega) (fun g13 => ?_) (fun g13 => ?_)
 ·
  refine A0 mV ?_; refine A2 ?_; refine A2 ?_; refine A2 ?_; refine A2 ?_; refine A2 ?_; refine A2 ?_; refine A2 ?_; refine A0 oK ?_; refine CN ?_; refine Ct ?_; refine CQR ?_; refine A0 aV ?_; refine CN ?_
  exact aw_ret1 rfl rfl (ret_eq rfl (decide_eq_false (fun e => g13 (by rw [e]))).symm)
 ·
  refine A0 mV ?_; refine A1 (oFp fd_77_1) ?_; refine A1 (oLb L_Tx_outs ty_75) ?_; refine A1 (g_len rfl rfl isl_75) ?_; refine A1 (oFp fd_77_1) ?_; refine A1 (oLb L_Tx_outs ty_75) ?_; refine A1 (g_len rfl rfl isl_75) ?_; refine A1 o_neq ?_
  refine A0 oK ?_; refine CN ?_
  refine aw_ifc (p := ¬ a.outs.length = b.outs.length) rfl (by simp [IntL.toI]; omega) (fun ht22 => ?_) (fun ht22 => ?_)
  ·
   refine CQR ?_; refine A0 aV ?_; refine CN ?_
   exact aw_ret1 rfl rfl (ret_eq rfl (decide_eq_false (fun e => ht22 (by rw [e]))).symm)
  ·
   refine CSQQR ?_; refine A0 aV ?_; refine CNB ?_
   refine Lp (ι := Nat) 2 (fun (k : Nat) => (((Fr.none).set 2 (.ptr 0 0)).set 3 (.ptr 1 0)).set 5 (.val i64T (k : Int))) (fun (k : Nat) => ((Hp.none).set 0 (.box 77 txT a)).set 1 (.box 77 txT b)) (fun (k : Nat) => k ≤ a.ins.length ∧ a.ins.take k = b.ins.take k) (fun (k : Nat) => a.ins.length - k) (0) (⟨Nat.zero_le _, rfl⟩) ?_
   intro k hinv
   refine CQQR ?_; refine A0 mV ?_; refine A0 (oFp fd_77_0) ?_; refine A0 (oLb L_Tx_ins ty_74) ?_; refine A0 (g_len rfl rfl isl_74) ?_; refine A0 o_lss ?_; refine CN ?_
   refine Cf (p := k < a.ins.length) (fun ht27 => ?_) (fun ht27 => ?_)
   ·
    obtain ⟨x, hx⟩ : ∃ x, a.ins[k]? = some x := ⟨_, List.getElem?_eq_getElem ht27⟩
    obtain ⟨y, hy⟩ : ∃ y, b.ins[k]? = some y := ⟨_, List.getElem?_eq_getElem (by omega)⟩
    refine CS ?_; refine CQ ?_; refine CB ?_; refine CQ ?_; refine CD mixed ?_; refine G0 (oFp fd_77_0) ?_; refine G0 (oLb L_Tx_ins ty_74) ?_; refine G0 mV ?_; refine G0 (g_ia_i (i := k) rfl rfl rfl (by omega) sl_74 (by assumption)) ?_
    refine G0 (g_load_r rfl rfl ty_131) ?_; refine G0 (oFp fd_77_0) ?_; refine G0 (oLb L_Tx_ins ty_74) ?_; refine G0 mV ?_; refine G0 (g_ia_i (i := k) rfl rfl rfl (by omega) sl_74 (by assumption)) ?_; refine G0 (g_load_r rfl rfl ty_131) ?_
    refine G0 (g_neqS rfl rfl rfl (eqt_131)) ?_; refine GK.nil ?_
    refine aw_ifc (p := ¬ x = y) rfl (by simp) (fun ht40 => ?_) (fun ht40 => ?_)
    ·
     refine CQR ?_; refine A0 aV ?_; refine CN ?_
     exact aw_ret1 rfl rfl (ret_eq rfl (decide_eq_false (fun e => ne_of_at hx hy ht40 (by rw [e]))).symm)
    ·
     refine CSIR ?_; refine A0 mV ?_; refine A0 o_add ?_; refine A0 aV ?_; refine CN ?_
     exact Nx (k + 1) (⟨by omega, beq_all_succ hx hy hinv.2 (Classical.not_not.1 ht40)⟩) (by omega)
   ·
    have hins : a.ins = b.ins := by have h := hinv.2; rw [List.take_of_length_le (by omega), List.take_of_length_le (by omega)] at h; exact h
    refine CE ?_; refine CQQR ?_; refine A0 aV ?_; refine CNB ?_
    refine Lp (ι := Nat) 2 (fun (k : Nat) => (((Fr.none).set 2 (.ptr 0 0)).set 3 (.ptr 1 0)).set 6 (.val i64T (k : Int))) (fun (k : Nat) => ((Hp.none).set 0 (.box 77 txT a)).set 1 (.box 77 txT b)) (fun (k : Nat) => k ≤ a.outs.length ∧ a.outs.take k = b.outs.take k) (fun (k : Nat) => a.outs.length - k) (0) (⟨Nat.zero_le _, rfl⟩) ?_
    intro k hinv
    refine CQQR ?_; refine A0 mV ?_; refine A0 (oFp fd_77_1) ?_; refine A0 (oLb L_Tx_outs ty_75) ?_; refine A0 (g_len rfl rfl isl_75) ?_; refine A0 o_lss ?_; refine CN ?_
    refine Cf (p := k < a.outs.length) (fun ht45 => ?_) (fun ht45 => ?_)
    ·
     obtain ⟨x, hx⟩ : ∃ x, a.outs[k]? = some x := ⟨_, List.getElem?_eq_getElem ht45⟩
     obtain ⟨y, hy⟩ : ∃ y, b.outs[k]? = some y := ⟨_, List.getElem?_eq_getElem (by omega)⟩
     refine CS ?_; refine CQ ?_; refine CB ?_; refine CQ ?_; refine CD mixed ?_; refine G0 (oFp fd_77_1) ?_; refine G0 (oLb L_Tx_outs ty_75) ?_; refine G0 mV ?_; refine G0 (g_ia_i (i := k) rfl rfl rfl (by omega) sl_75 (by assumption)) ?_
     refine G0 (g_load_r rfl rfl ty_134) ?_; refine G0 (oFp fd_77_1) ?_; refine G0 (oLb L_Tx_outs ty_75) ?_; refine G0 mV ?_; refine G0 (g_ia_i (i := k) rfl rfl rfl (by omega) sl_75 (by assumption)) ?_; refine G0 (g_load_r rfl rfl ty_134) ?_
     refine G0 (g_neqS rfl rfl rfl (eqt_134)) ?_; refine GK.nil ?_
     refine aw_ifc (p := ¬ x = y) rfl (by simp) (fun ht58 => ?_) (fun ht58 => ?_)
     ·
      refine CQR ?_; refine A0 aV ?_; refine CN ?_
      exact aw_ret1 rfl rfl (ret_eq rfl (decide_eq_false (fun e => ne_of_at hx hy ht58 (by rw [e]))).symm)
     ·
      refine CSIR ?_; refine A0 mV ?_; refine A0 o_add ?_; refine A0 aV ?_; refine CN ?_
      exact Nx (k + 1) (⟨by omega, beq_all_succ hx hy hinv.2 (Classical.not_not.1 ht58)⟩) (by omega)
    ·
     refine CE ?_; refine CQR ?_; refine A0 aV ?_; refine CN ?_
     exact aw_ret1 rfl rfl (ret_eq rfl (decide_eq_true (by have h := hinv.2; rw [List.take_of_length_le (by omega), List.take_of_length_le (by omega)] at h; cases a; cases b; simp_all)).symm)
theorem refTxs_ok (l m : List Tx) : Tells P 107 [.val (bsl txT) l, .val (bsl txT) m] (.val boolT (decide (l = m))) := by
 refine fn_of_aw Tryz.func107 rfl rfl rfl (fun ext w hext => ?_)
 refine aw_fact (d := 0) rfl fact_sl (fun hsl0 => ?_)
 refine aw_fact (d := 1) rfl fact_sl (fun hsl1 => ?_)
 refine CQR ?_; refine A0 aV ?_; refine CNQQR ?_; refine A0 mV ?_; refine A0 (g_len rfl rfl isl_23) ?_; refine A0 mV ?_; refine A0 (g_len rfl rfl isl_23) ?_; refine A0 o_neq ?_; refine CN ?_
 refine aw_ifc (p := ¬ l.length = m.length) rfl (by simp [IntL.toI]; omega) (fun ht11 => ?_) (fun ht11 => ?_)
 ·
  refine CQR ?_; refine A0 aV ?_; refine CN ?_
  exact aw_ret1 rfl rfl (ret_eq rfl (decide_eq_false (fun e => ht11 (by rw [e]))).symm)
 ·
  refine CSQQR ?_; refine A0 aV ?_; refine CNB ?_
  refine Lp (ι := Nat) 0 (fun (k : Nat) => (((Fr.none).set 0 (.val (bsl txT) l)).set 1 (.val (bsl txT) m)).set 5 (.val i64T (k : Int))) (fun (k : Nat) => Hp.none) (fun (k : Nat) => k ≤ l.length ∧ l.take k = m.take k) (fun (k : Nat) => l.length - k) (0) (⟨Nat.zero_le _, rfl⟩) ?_
  intro k hinv
  refine CQQR ?_; refine A0 mV ?_; refine A0 mV ?_; refine A0 (g_len rfl rfl isl_23) ?_; refine A0 o_lss ?_; refine CN ?_
  refine Cf (p := k < l.length) (fun ht15 => ?_) (fun ht15 => ?_)
  ·
   obtain ⟨x, hx⟩ : ∃ x, l[k]? = some x := ⟨_, List.getElem?_eq_getElem ht15⟩
   obtain ⟨y, hy⟩ : ∃ y, m[k]? = some y := ⟨_, List.getElem?_eq_getElem (by omega)⟩
   refine CS ?_; refine CQ ?_; refine CB ?_; refine CQ ?_; refine CD mixed ?_; refine G0 mV ?_; refine G0 mV ?_; refine G0 (g_ia_i (i := k) rfl rfl rfl (by omega) sl_23 (by assumption)) ?_; refine G0 (g_load_r rfl rfl ty_77) ?_; refine G0 mV ?_
   refine G0 mV ?_; refine G0 (g_ia_i (i := k) rfl rfl rfl (by omega) sl_23 (by assumption)) ?_; refine G0 (g_load_r rfl rfl ty_77) ?_
   refine G0 (oCl (refTx_ok _ _) rfl fn_154 ⟨(by first | exact arg_same rfl | exact arg_bsl rfl | exact arg_own rfl rfl | exact arg_nil rfl | exact arg_rptr rfl | exact arg_fn rfl rfl | exact arg_lit rfl), (by first | exact arg_same rfl | exact arg_bsl rfl | exact arg_own rfl rfl | exact arg_nil rfl | exact arg_rptr rfl | exact arg_fn rfl rfl | exact arg_lit rfl), trivial⟩) ?_
   refine G0 aV ?_; refine GK.nil ?_; refine CQR ?_; refine A0 mV ?_; refine A0 oN ?_; refine CN ?_
   refine aw_ifc (p := ¬ x = y) rfl (by simp) (fun ht28 => ?_) (fun ht28 => ?_)
   ·
    refine CQR ?_; refine A0 aV ?_; refine CN ?_
    exact aw_ret1 rfl rfl (ret_eq rfl (decide_eq_false (ne_of_at hx hy ht28)).symm)
   ·
    refine CSIR ?_; refine A0 mV ?_; refine A0 o_add ?_; refine A0 aV ?_; refine CN ?_
    exact Nx (k + 1) (⟨by omega, beq_all_succ hx hy hinv.2 (Classical.not_not.1 ht28)⟩) (by omega)
  ·
   refine CE ?_; refine CQR ?_; refine A0 aV ?_; refine CN ?_
   exact aw_ret1 rfl rfl (ret_eq rfl (decide_eq_true (by have h := hinv.2; rw [List.take_of_length_le (by omega), List.take_of_length_le (by omega)] at h; exact h)).symm)
theorem refB_ok (a b : Block) : Tells P 58 [.val blockT a, .val blockT b] (.val boolT (decide (a = b))) := by
 refine fn_of_aw Tryz.func58 rfl rfl rfl (fun ext w hext => ?_)
 refine CQR ?_; refine aw_box rfl rfl rfl rfl rfl ?_; refine aw_box rfl rfl rfl rfl rfl ?_; refine A0 aV ?_; refine CNQR ?_; refine A0 (oFp fd_37_1) ?_; refine A0 (oLb L_Block_l ty_35) ?_; refine A0 (oFp fd_37_1) ?_
 refine A0 (oLb L_Block_l ty_35) ?_; refine A0 (oCl (refIds_ok _ _) rfl fn_106 ⟨(arg_v rfl), (arg_v rfl), trivial⟩) ?_; refine A0 aV ?_; refine CNQR ?_; refine A0 (oFp fd_37_2) ?_; refine A0 (oLb L_Block_t ty_23) ?_; refine A0 (oFp fd_37_2) ?_
 refine A0 (oLb L_Block_t ty_23) ?_; refine A0 (oCl (refTxs_ok _ _) rfl fn_107 ⟨(arg_v rfl), (arg_v rfl), trivial⟩) ?_; refine A0 aV ?_; refine CNQR ?_; refine A0 mV ?_
 refine Sp (d := 17) (p := a.l = b.l) (fun g17 => ?_) (fun g17 => ?_)
 ·
  refine A0 mV ?_; refine A1 mV ?_; refine A0 oK ?_
  refine Sp (d := 20) (p := a.t = b.t) (fun g20 => ?_) (fun g20 => ?_)
  ·
   refine A0 mV ?_; refine A1 (oFp fd_37_0) ?_; refine A1 (oLb L_Block_h ty_34) ?_; refine A1 (oFp fd_37_0) ?_; refine A1 (oLb L_Block_h ty_34) ?_; refine A1 (g_eqlS rfl rfl rfl (eqt_34)) ?_; refine A0 oK ?_; refine A0 aV ?_; refine CN ?_
   exact aw_ret1 rfl rfl (ret_eq rfl (by rw [decide_eq_decide]; exact ⟨fun h => by cases a; cases b; simp_all, fun h => by rw [h]⟩))
  ·
   refine A0 mV ?_; refine A2 ?_; refine A2 ?_; refine A2 ?_; refine A2 ?_; refine A2 ?_; refine A0 oK ?_; refine A0 aV ?_; refine CN ?_
   exact aw_ret1 rfl rfl (ret_eq rfl (by symm; apply decide_eq_false; intro h; exact g20 (by rw [h])))
 ·
  refine A0 mV ?_; refine A2 ?_; refine A0 oK ?_; refine A0 mV ?_; refine A2 ?_; refine A2 ?_; refine A2 ?_; refine A2 ?_; refine A2 ?_; refine A0 oK ?_; refine A0 aV ?_; refine CN ?_
  exact aw_ret1 rfl rfl (ret_eq rfl (by symm; apply decide_eq_false; intro h; exact g17 (by rw [h])))
theorem refTips_ok (a b : Tip) : Tells P 19 [.val tipT a, .val tipT b] (.val boolT (decide (a = b))) := by
 refine fn_of_aw Tryz.func19 rfl rfl rfl (fun ext w hext => ?_)
 refine CQR ?_; refine aw_box rfl rfl rfl rfl rfl ?_; refine aw_box rfl rfl rfl rfl rfl ?_; refine A0 aV ?_; refine CNQR ?_; refine A0 (oFp fd_41_0) ?_; refine A0 (oLb L_Tip_b ty_37) ?_; refine A0 (oFp fd_41_0) ?_
 refine A0 (oLb L_Tip_b ty_37) ?_; refine A0 (oCl (refB_ok _ _) rfl fn_58 ⟨(arg_v rfl), (arg_v rfl), trivial⟩) ?_; refine A0 aV ?_; refine CNQR ?_; refine A0 (oFp fd_41_1) ?_; refine A0 (oLb L_Tip_p ty_38) ?_; refine A0 (oFp fd_41_1) ?_
 refine A0 (oLb L_Tip_p ty_38) ?_; refine A0 (oCl (refTotals_ok _ _) rfl fn_59 ⟨(arg_v rfl), (arg_v rfl), trivial⟩) ?_; refine A0 aV ?_; refine CNQR ?_; refine A0 (oFp fd_41_2) ?_; refine A0 (oLb L_Tip_c ty_39) ?_; refine A0 (oFp fd_41_2) ?_
 refine A0 (oLb L_Tip_c ty_39) ?_; refine A0 (oCl (rsame_ok _ _) rfl fn_60 ⟨(arg_v rfl), (arg_v rfl), trivial⟩) ?_; refine A0 aV ?_; refine CNQR ?_; refine A0 mV ?_
 refine Sp (d := 23) (p := a.b = b.b) (fun g23 => ?_) (fun g23 => ?_)
 ·
  refine A0 mV ?_; refine A1 mV ?_; refine A0 oK ?_
  refine Sp (d := 26) (p := a.p = b.p) (fun g26 => ?_) (fun g26 => ?_)
  ·
   refine A0 mV ?_; refine A1 mV ?_; refine A0 oK ?_; refine A0 aV ?_; refine CN ?_
   exact aw_ret1 rfl rfl (ret_eq rfl (by rw [decide_eq_decide]; exact ⟨fun h => by cases a; cases b; simp_all, fun h => by rw [h]⟩))
  ·
   refine A0 mV ?_; refine A2 ?_; refine A0 oK ?_; refine A0 aV ?_; refine CN ?_
   exact aw_ret1 rfl rfl (ret_eq rfl (by symm; apply decide_eq_false; intro h; exact g26 (by rw [h])))
 ·
  refine A0 mV ?_; refine A2 ?_; refine A0 oK ?_; refine A0 mV ?_; refine A2 ?_; refine A0 oK ?_; refine A0 aV ?_; refine CN ?_
  exact aw_ret1 rfl rfl (ret_eq rfl (by symm; apply decide_eq_false; intro h; exact g23 (by rw [h])))
end Go.Proofs.YtfepfajcdkllfaaGreat
set_option maxRecDepth 20000
namespace Go.Proofs.YtfepfajcdkllfaaGreat
set_option linter.unusedVariables false
set_option linter.unusedSimpArgs false
open Go.Ab Go.RowKit
theorem pushT_eq {t : Tip} {b : Block} (h : pushE t b = 0) : pushT t b = ⟨b, mmrAppend t.p (leafH b.h), (applyOf t.c b.t).1⟩ := by unfold pushT; rw [if_pos h]
end Go.Proofs.YtfepfajcdkllfaaGreat
set_option maxRecDepth 20000
namespace Go.Proofs.YtfepfajcdkllfaaGreat
set_option linter.unusedVariables false
set_option linter.unusedSimpArgs false
open Go.Ab Go.RowKit
def checkFrom : Tip → List Block → Tip × Int
  | t, [] => (t, 0)
  | t, b :: l => if pushE t b = 0 then checkFrom (pushT t b) l else (zTip, pushE t b)
def checkOf (l : List Block) : Tip × Int :=
  match l with
  | [] => (zTip, 9)
  | g :: r => if tgtOk g.h.bits = true ∧ (firstTip g.h.bits).b = g then checkFrom (firstTip g.h.bits) r else (zTip, 12)
def growE (l : List Block) (t : List Tx) (nonce : UInt64) : Int := if (checkOf l).2 = 0 then mineBE (checkOf l).1 t nonce 200 else (checkOf l).2
def growOf (l : List Block) (t : List Tx) (nonce : UInt64) : List Block := if growE l t nonce = 0 then l ++ [mineB (checkOf l).1 t nonce 200] else l
def findOf (l : List Block) (id : Ab.Id) : Int := idx (fun b => decide (headId b.h = id)) l
def levelsOf (l : List Block) : List Int := l.map fun b => headLevel b.h
def leavesOf (l : List Block) : List Total := l.map fun b => leafH b.h
def smallC (l : List Block) : Prop := l.length * 232 ≤ 140737488351232 ∧ ∀ b ∈ l, smallB b
theorem checkFrom_app : ∀ {l m : List Block} {t : Tip}, checkFrom t (l ++ m) = if (checkFrom t l).2 = 0 then checkFrom (checkFrom t l).1 m else checkFrom t l
  | [], m, t => by simp [checkFrom]
  | b :: l, m, t => by
    rw [List.cons_append, checkFrom, checkFrom]
    by_cases h : pushE t b = 0
    · rw [if_pos h, if_pos h]; exact checkFrom_app
    · rw [if_neg h, if_neg h, if_neg h]
theorem checkOf_app {l m : List Block} (h : ¬ l = []) : checkOf (l ++ m) = if (checkOf l).2 = 0 then checkFrom (checkOf l).1 m else checkOf l := by
  cases l with
  | nil => exact absurd rfl h
  | cons g r =>
    rw [List.cons_append]
    unfold checkOf
    simp only []
    by_cases h : tgtOk g.h.bits = true ∧ (firstTip g.h.bits).b = g
    · rw [if_pos h, if_pos h]; exact checkFrom_app
    · rw [if_neg h, if_neg h]; rfl
theorem chain_ne {l : List Block} (h : (checkOf l).2 = 0) : ¬ l = [] := fun e => by rw [e] at h; exact absurd h (by decide)
theorem checkOf_snoc {l : List Block} {b : Block} (h : (checkOf l).2 = 0) : checkOf (l ++ [b]) = if pushE (checkOf l).1 b = 0 then (pushT (checkOf l).1 b, 0) else (zTip, pushE (checkOf l).1 b) := by
  rw [checkOf_app (chain_ne h), if_pos h]; rfl
theorem smallC_snoc {l : List Block} {b : Block} (h : smallC l) (hl : l.length ≤ 99) (hb : smallB b) : smallC (l ++ [b]) := ⟨by rw [List.length_append, List.length_singleton]; omega, fun x hx => by
  rcases List.mem_append.1 hx with h1 | h1
  · exact h.2 x h1
  · rw [List.mem_singleton.1 h1]; exact hb⟩
theorem small_nil {t : Tip} (h1 : t.b.l = []) (h2 : t.b.t = []) (h3 : Nat.ble t.p.length 1 = true) (h4 : t.c = []) : smallTip t := by
  have := Nat.le_of_ble_eq_true h3
  refine ⟨⟨by rw [h1]; decide, by rw [h2]; decide, fun x hx => by rw [h2] at hx; cases hx⟩, by omega, by rw [h4]; decide⟩
def smallN (t : Tip) (n : Nat) : Prop := smallTip t ∧ t.p.length ≤ n + 1 ∧ t.b.h.height = n
theorem push_smallN {t : Tip} {b : Block} {n : Nat} (ht : smallN t n) (hn : n ≤ 1000000000000) (hb : smallB b) (h : pushE t b = 0) : smallN (pushT t b) (n + 1) := by
  obtain ⟨h6, h7, _, _, h5⟩ := push_iff.1 h
  rw [pushT_eq h]
  have h1 := mmrAppend_len (p := t.p) (x := leafH b.h)
  have h2 := mayCoins_len (applyOf_tot (l := b.t) (apply_may h5)).1
  obtain ⟨_, h3, h4⟩ := ht
  have e : b.h.height = IntKind.i64.wrap (t.b.h.height + 1) := congrArg (·.height) h7
  rw [h4, wrap_eq (by omega)] at e
  refine ⟨⟨hb, ?_, ?_⟩, ?_, ?_⟩
  · show (mmrAppend t.p (leafH b.h)).length ≤ 1000
    omega
  · show (applyOf t.c b.t).1.length ≤ 1000
    omega
  · show (mmrAppend t.p (leafH b.h)).length ≤ n + 1 + 1
    omega
  · show b.h.height = _
    rw [e]; omega
theorem first_small {bits : UInt32} : smallN (firstTip bits) 0 := by
  by_cases h : tgtOk bits = true
  · rw [firstTip_is h]; exact ⟨small_nil rfl rfl rfl rfl, Nat.le_of_ble_eq_true rfl, rfl⟩
  · have : firstTip bits = zTip := by unfold firstTip; rw [if_neg h]
    rw [this]; exact ⟨small_nil rfl rfl rfl rfl, Nat.le_of_ble_eq_true rfl, rfl⟩
theorem checkFrom_small : ∀ {l : List Block} {t : Tip} {n : Nat}, smallN t n → n + l.length ≤ 1000000000000 → (∀ b ∈ l, smallB b) → smallTip (checkFrom t l).1
  | [], t, n, ht, _, _ => ht.1
  | b :: l, t, n, ht, hn, hl => by
    rw [checkFrom]
    rw [List.length_cons] at hn
    split
    · rename_i h
      exact checkFrom_small (push_smallN ht (by omega) (hl b (by simp)) h) (by omega) fun x hx => hl x (by simp [hx])
    · exact small_nil rfl rfl rfl rfl
theorem check_small {l : List Block} (h : smallC l) : smallTip (checkOf l).1 := by
  cases l with
  | nil => exact small_nil rfl rfl rfl rfl
  | cons g r =>
    unfold checkOf
    simp only []
    split
    · refine checkFrom_small first_small ?_ fun x hx => h.2 x (by simp [hx])
      have := h.1
      rw [List.length_cons] at this
      omega
    · exact small_nil rfl rfl rfl rfl
end Go.Proofs.YtfepfajcdkllfaaGreat
set_option maxRecDepth 20000
namespace Go.Proofs.YtfepfajcdkllfaaGreat
set_option linter.unusedVariables false
set_option linter.unusedSimpArgs false
open Go.Ab Go.RowKit
def easyB0 : Block := ⟨easyH, [], []⟩
theorem easy_chain0 : checkOf [easyB0] = (easyTip, 0) := by
  unfold checkOf
  simp only []
  have e : firstTip easyB0.h.bits = easyTip := easy_tip
  rw [e, if_pos ⟨easy_ok, rfl⟩]; rfl
theorem easy_growE : growE [easyB0] [] 0 = 0 := by
  unfold growE; rw [easy_chain0, if_pos rfl]; exact easy_mineE
theorem easy_grown : growOf [easyB0] [] 0 = [easyB0, easyB] := by
  unfold growOf; rw [easy_growE, if_pos rfl, easy_chain0, easy_mineB]; rfl
theorem easy_chain1 : checkOf [easyB0, easyB] = (easyTip2, 0) := by
  rw [show [easyB0, easyB] = [easyB0] ++ [easyB] from rfl, checkOf_snoc (by rw [easy_chain0]), easy_chain0, easy_pushE, if_pos rfl, easy_pushT]
theorem easy_level1 : decide (0 ≤ headLevel easyB.h) = true := by kernel_rfl
theorem easy_two : decide (headId easyH = headId easyB.h) = false := by kernel_rfl
theorem easy_nz : decide (headId easyB.h = zId) = false := by kernel_rfl
theorem easy_find : findOf [easyB0, easyB] (headId easyB.h) = 1 := by
  unfold findOf
  rw [idx, idx]
  have e : decide (headId easyB0.h = headId easyB.h) = false := easy_two
  simp only [e]
  simp [idx]
theorem small_easyB0 : smallB easyB0 := by refine ⟨by decide, by decide, fun t ht => by cases ht⟩
theorem small_easyC0 : smallC [easyB0] := ⟨by decide, fun b hb => by rw [List.mem_singleton.1 hb]; exact small_easyB0⟩
theorem small_easyC : smallC [easyB0, easyB] := ⟨by decide, fun b hb => by
  rcases List.mem_cons.1 hb with h | h
  · rw [h]; exact small_easyB0
  · rw [List.mem_singleton.1 h]; exact small_easyB⟩
def fewC (l : List Block) : Bool := l.all fewB && decide ((l.length : Int) ≤ 50)
theorem fewC_small {l : List Block} (h : fewC l = true) : smallC l := by
  unfold fewC at h
  rw [Bool.and_eq_true, decide_eq_true_eq] at h
  exact ⟨by omega, fun b hb => fewB_small (List.all_eq_true.1 h.1 b hb)⟩
theorem fewC_len {l : List Block} (h : fewC l = true) : l.length ≤ 50 := by
  unfold fewC at h
  rw [Bool.and_eq_true, decide_eq_true_eq] at h
  omega
end Go.Proofs.YtfepfajcdkllfaaGreat
set_option maxRecDepth 20000
namespace Go.Proofs.YtfepfajcdkllfaaGreat
set_option linter.unusedVariables false
set_option linter.unusedSimpArgs false
open Go.Ab Go.RowKit
theorem indexFuncBlock (l : List Block) (p : Block → Bool) : Tells P 61 [.val (bsl blockT) l, .fn1 P blockT boolT p] (.val i64T (idx p l)) := by
 refine fn_of_aw Tryz.func61 rfl rfl rfl (fun ext w hext => ?_)
 refine aw_fact (d := 0) rfl fact_sl (fun hsl0 => ?_)
 refine CQR ?_; refine A0 aV ?_; refine CNQQR ?_; refine A0 mV ?_; refine A0 (g_len rfl rfl isl_22) ?_; refine A0 mV ?_; refine CNB ?_
 refine Lp (ι := Nat) 0 (fun (k : Nat) => (((((Fr.none).set 0 (.val (bsl blockT) l)).set 1 (.fn1 P blockT boolT p)).set 6 (.val (bsl blockT) l)).set 7 (.val i64T (l.length : Int))).set 8 (.val i64T (k : Int))) (fun (k : Nat) => Hp.none) (fun (k : Nat) => k ≤ l.length ∧ idx p l = shift k (idx p (l.drop k))) (fun (k : Nat) => l.length - k) (0) (⟨Nat.zero_le _, shift_zero p l⟩) ?_
 intro k hinv
 refine CQR ?_; refine A0 o_lss ?_; refine CNQ ?_
 refine Cf (p := k < l.length) (fun ht9 => ?_) (fun ht9 => ?_)
 ·
  obtain ⟨x, hx⟩ : ∃ x, l[k]? = some x := ⟨_, List.getElem?_eq_getElem ht9⟩
  refine CSQBQR ?_; refine A0 mV ?_; refine A0 aV ?_; refine CNQR ?_; refine A0 mF ?_; refine A0 mV ?_; refine A0 mV ?_; refine A0 (g_ia_n rfl rfl rfl sl_22 (by assumption)) ?_; refine A0 (g_load_r rfl rfl ty_37) ?_
  refine A0 (g_callf1 rfl rfl (by first | exact arg_same rfl | exact arg_bsl rfl | exact arg_own rfl rfl | exact arg_nil rfl | exact arg_rptr rfl | exact arg_fn rfl rfl | exact arg_lit rfl)) ?_; refine CN ?_
  refine aw_ifc (p := p x = true) rfl (by simp) (fun ht16 => ?_) (fun ht16 => ?_)
  ·
   refine CQR ?_; refine A0 mV ?_; refine A0 aV ?_; refine CN ?_
   exact aw_ret1 rfl rfl (ret_eq rfl (hinv.2.trans (idx_yes hx ht16)).symm)
  ·
   refine CSIR ?_; refine A0 o_add ?_; refine A0 mV ?_; refine CN ?_
   exact Nx (k + 1) (⟨by omega, hinv.2.trans (idx_no hx ht16)⟩) (by omega)
 ·
  refine CE ?_; refine CQR ?_; refine A0 aV ?_; refine CN ?_
  exact aw_ret1 rfl rfl (ret_eq rfl (hinv.2.trans (idx_end (by omega))).symm)
theorem equalFBlock (l m : List Block) : Tells P 42 [.val (bsl blockT) l, .val (bsl blockT) m, .fn2 P blockT blockT boolT (fun x y => decide (x = y))] (.val boolT (decide (l = m))) := by
 refine fn_of_aw Tryz.func42 rfl rfl rfl (fun ext w hext => ?_)
 refine aw_fact (d := 0) rfl fact_sl (fun hsl0 => ?_)
 refine aw_fact (d := 1) rfl fact_sl (fun hsl1 => ?_)
 refine CQR ?_; refine A0 aV ?_; refine CNQQR ?_; refine A0 mV ?_; refine A0 (g_len rfl rfl isl_22) ?_; refine A0 mV ?_; refine A0 (g_len rfl rfl isl_22) ?_; refine A0 o_neq ?_; refine CN ?_
 refine Cf (p := ¬ l.length = m.length) (fun ht14 => ?_) (fun ht14 => ?_)
 ·
  refine CQR ?_; refine A0 aV ?_; refine CN ?_
  exact aw_ret1 rfl rfl (ret_eq rfl (decide_eq_false (fun e => ht14 (by rw [e]))).symm)
 ·
  refine CSQQR ?_; refine A0 mV ?_; refine A0 (g_len rfl rfl isl_22) ?_; refine A0 mV ?_; refine CNB ?_
  refine Lp (ι := Nat) 0 (fun (k : Nat) => ((((((Fr.none).set 0 (.val (bsl blockT) l)).set 1 (.val (bsl blockT) m)).set 2 (.fn2 P blockT blockT boolT (fun x y => decide (x = y)))).set 15 (.val (bsl blockT) l)).set 16 (.val i64T (l.length : Int))).set 17 (.val i64T (k : Int))) (fun (k : Nat) => Hp.none) (fun (k : Nat) => k ≤ l.length ∧ l.take k = m.take k) (fun (k : Nat) => l.length - k) (0) (⟨Nat.zero_le _, by simp⟩) ?_
  intro k hinv
  refine CQR ?_; refine A0 o_lss ?_; refine CNQ ?_
  refine Cf (p := k < l.length) (fun ht18 => ?_) (fun ht18 => ?_)
  ·
   obtain ⟨x, hx⟩ : ∃ x, l[k]? = some x := ⟨_, List.getElem?_eq_getElem ht18⟩
   obtain ⟨y, hy⟩ : ∃ y, m[k]? = some y := ⟨_, List.getElem?_eq_getElem (by omega)⟩
   refine CSQBQR ?_; refine A0 mV ?_; refine A0 (g_ia_n rfl rfl rfl sl_22 (by assumption)) ?_; refine A0 (g_load_r rfl rfl ty_37) ?_; refine aw_alloc ze_37 rfl rfl rfl rfl ?_; refine A0 aV ?_
   refine aw_store_b rfl rfl rfl rfl rfl (Lens.self _) ty_37 rfl ?_; refine CNQR ?_; refine A0 mV ?_; refine A0 mV ?_; refine A0 (g_ia_n rfl rfl rfl sl_22 (by assumption)) ?_; refine A0 (g_load_r rfl rfl ty_37) ?_
   refine aw_alloc ze_37 rfl rfl rfl rfl ?_; refine aw_store_b rfl rfl rfl rfl rfl (Lens.self _) ty_37 rfl ?_; refine CNQR ?_; refine A0 mH ?_; refine A0 (oLs rfl rfl rfl ty_37) ?_; refine A0 (oLs rfl rfl rfl ty_37) ?_
   refine A0 (g_callf2 rfl rfl (arg_v rfl) (arg_v rfl)) ?_; refine A0 oN ?_; refine CN ?_
   refine aw_ifc (p := ¬ x = y) rfl (by simp) (fun ht30 => ?_) (fun ht30 => ?_)
   ·
    refine CQR ?_; refine A0 aV ?_; refine CN ?_
    exact aw_ret1 rfl rfl (ret_eq rfl (decide_eq_false (ne_of_at hx hy ht30)).symm)
   ·
    refine CSIR ?_; refine A0 o_add ?_; refine A0 mV ?_; refine CN ?_
    exact Nx (k + 1) (⟨by omega, beq_all_succ hx hy hinv.2 (by simpa using ht30)⟩) (by omega)
  ·
   refine CE ?_; refine CQR ?_; refine A0 aV ?_; refine CN ?_
   exact aw_ret1 rfl rfl (ret_eq rfl (decide_eq_true (by have h := hinv.2; rw [List.take_of_length_le (by omega), List.take_of_length_le (by omega)] at h; exact h)).symm)
theorem checkOf_start {l : List Block} {g : Block} (h : l[0]? = some g) (h1 : tgtOk g.h.bits = true) (h2 : (firstTip g.h.bits).b = g) : checkOf l = checkFrom (firstTip g.h.bits) (l.drop 1) := by
  cases l with
  | nil => cases h
  | cons x r =>
    injection h with h; subst h
    unfold checkOf; simp only []; rw [if_pos ⟨h1, h2⟩]; rfl
theorem checkOf_other {l : List Block} {g : Block} (h : l[0]? = some g) (h1 : ¬ (tgtOk g.h.bits = true ∧ (firstTip g.h.bits).b = g)) : checkOf l = (zTip, 12) := by
  cases l with
  | nil => cases h
  | cons x r =>
    injection h with h; subst h
    unfold checkOf; simp only []; rw [if_neg h1]
theorem check_step {r : List Block} {k : Nat} {b : Block} {t : Tip} (hb : r[k]? = some b) (h : pushE t b = 0) : checkFrom t (r.drop k) = checkFrom (pushT t b) (r.drop (k + 1)) := by
  obtain ⟨hk, rfl⟩ := List.getElem?_eq_some_iff.1 hb
  rw [List.drop_eq_getElem_cons hk, checkFrom, if_pos h]
theorem check_stop {r : List Block} {k : Nat} {b : Block} {t : Tip} (hb : r[k]? = some b) (h : ¬ pushE t b = 0) : checkFrom t (r.drop k) = (zTip, pushE t b) := by
  obtain ⟨hk, rfl⟩ := List.getElem?_eq_some_iff.1 hb
  rw [List.drop_eq_getElem_cons hk, checkFrom, if_neg h]
theorem check_end {r : List Block} {k : Nat} {t : Tip} (h : r.length ≤ k) : checkFrom t (r.drop k) = (t, 0) := by
  rw [List.drop_of_length_le h]; rfl
theorem checkOf_nil {l : List Block} (h : l.length = 0) : checkOf l = (zTip, 9) := by rw [List.eq_nil_of_length_eq_zero h]; rfl
def newOf (bits : UInt32) : List Block := if tgtOk bits = true then [(firstTip bits).b] else []
theorem own11_ok (t : Tx) (ht : smallTx t) : Tells P 91 [.val txT t] (.val txT t) := by
 refine fn_of_aw Tryz.func91 rfl rfl rfl (fun ext w hext => ?_)
 refine CQR ?_; refine aw_box rfl rfl rfl rfl rfl ?_; refine aw_alloc ze_77 rfl rfl rfl rfl ?_; refine CNQ ?_; refine aw_drawx [some 1, some 1, some 1, some 1, some 1, some 1, some 1, none] mixed (by decide +kernel) ?_
 refine X0 (oFp fd_77_0) ?_; refine X0 (oLb L_Tx_ins ty_74) ?_; refine X0 (oCl (tells_pub (cloneIn t.ins (by unfold smallTx at ht; constructor <;> omega))) rfl fn_92 ⟨(arg_v rfl), trivial⟩) ?_; refine X0 (oFp fd_77_1) ?_
 refine X0 (oLb L_Tx_outs ty_75) ?_; refine X0 (oCl (tells_pub (cloneOut t.outs (by unfold smallTx at ht; constructor <;> omega))) rfl fn_93 ⟨(arg_v rfl), trivial⟩) ?_
 refine X0 (g_build rfl ze_77 bd_77 (.cons fd_77_0 L_Tx_ins ty_74 rfl (.cons fd_77_1 L_Tx_outs ty_75 rfl .nil)) rfl) ?_
 refine XK.e (x := .idk) (fun fr' hfr kk H => by exact aw_store_b rfl rfl rfl ((hfr 2 (by decide +kernel)).trans rfl) rfl (Lens.self _) ty_77 ((hfr 9 (by decide +kernel)).trans rfl) (aw_nil H)) ?_; refine XK.nil' ?_
 exact aw_retc1 rfl rfl rfl rfl ty_77 (rfl)
theorem toldTx_ok (l : List Tx) (hl : smallL l) : Tells P 90 [.val (bsl txT) l, .clo 91 []] (.fresh 77 txT l) := by
 have hll := hl.1
 refine fn_of_aw Tryz.func90 rfl rfl rfl (fun ext w hext => ?_)
 refine aw_fact (d := 0) rfl fact_sl (fun hsl0 => ?_)
 refine CQR ?_; refine A0 aL ?_; refine CNQR ?_; refine A0 aL ?_; refine CNQQR ?_; refine A0 mV ?_; refine A0 (g_len rfl rfl isl_23) ?_; refine A0 mV ?_; refine CNB ?_; refine aw_nilrow (T := txT) (d := 5) 77 rfl ?_
 refine Lp (ι := Nat) 1 (fun (k : Nat) => ((((((Fr.none).set 0 (.val (bsl txT) l)).set 1 (.clo 91 [])).set 5 (.own 0)).set 8 (.val (bsl txT) l)).set 9 (.val i64T (l.length : Int))).set 10 (.val i64T (k : Int))) (fun (k : Nat) => (Hp.none).set 0 (.row 77 txT (l.take k))) (fun (k : Nat) => k ≤ l.length) (fun (k : Nat) => l.length - k) (0) (Nat.zero_le _) ?_
 intro k hinv
 refine CQR ?_; refine A0 o_lss ?_; refine CNQ ?_
 refine Cf (p := k < l.length) (fun ht11 => ?_) (fun ht11 => ?_)
 ·
  obtain ⟨x, hx⟩ : ∃ x, l[k]? = some x := ⟨_, List.getElem?_eq_getElem ht11⟩
  have hxm := List.mem_of_getElem? hx
  refine CSQBQR ?_; refine A0 (g_ia_n rfl rfl rfl sl_23 (by assumption)) ?_; refine A0 (g_load_r rfl rfl ty_77) ?_; refine aw_alloc ze_77 rfl rfl rfl rfl ?_; refine aw_store_b rfl rfl rfl rfl rfl (Lens.self _) ty_77 rfl ?_; refine CNR ?_
  refine A0 mO ?_; refine A0 mC ?_; refine A0 (oLs rfl rfl rfl ty_77) ?_; refine A0 (g_callc (As := [_]) (Cs := []) (own11_ok x (hl.2 x hxm)) rfl rfl fn_91 ⟨(arg_v rfl), trivial⟩ (by intro n hn; cases hn) trivial rfl) ?_
  refine A0 (g_bslice (T := txT) (xs := [_]) rfl sl_23 row_23 ⟨rfl, rfl, trivial⟩ rfl rfl) ?_; refine aw_append rfl rfl rfl rfl rfl rfl rfl row_23 (by simp; omega) ?_; refine A0 aO ?_; refine CNIR ?_; refine A0 o_add ?_; refine A0 mV ?_
  refine CN ?_; refine aw_ren 2 0 3 rfl rfl rfl rfl rfl rfl ?_; refine aw_rerow (n := 0) (y := l.take (k + 1)) rfl (by rw [List.take_add_one, hx]; rfl) ?_
  exact Nx (k + 1) (by omega) (by omega)
 ·
  refine CE ?_; refine CQR ?_; refine A0 mO ?_; refine A0 aO ?_; refine CN ?_
  exact aw_ret1 rfl rfl (ret_fresh_eq rfl rfl (by rw [List.take_of_length_le (by omega)]))
theorem own1_ok (b : Block) (hb : smallB b) : Tells P 88 [.val blockT b] (.val blockT b) := by
 have hb1 := hb.1
 refine fn_of_aw Tryz.func88 rfl rfl rfl (fun ext w hext => ?_)
 refine CQR ?_; refine aw_box rfl rfl rfl rfl rfl ?_; refine aw_alloc ze_37 rfl rfl rfl rfl ?_; refine CNQR ?_; refine A0 (oFp fd_37_1) ?_; refine A0 (oLb L_Block_l ty_35) ?_
 refine A0 (oCl (tells_pub (cloneId b.l (by constructor <;> omega))) rfl fn_89 ⟨(arg_v rfl), trivial⟩) ?_; refine A0 (oFp fd_37_1) ?_; refine aw_store_b rfl rfl rfl rfl rfl L_Block_l ty_35 rfl ?_; refine CNQR ?_; refine A0 (oFp fd_37_2) ?_
 refine A0 (oLb L_Block_t ty_23) ?_
 refine A0 (oCl (tells_pub (toldTx_ok b.t hb.2)) rfl fn_90 ⟨(arg_v rfl), (by first | exact arg_fn1 (Cs := []) rfl fn_91 (by intro n hn; cases hn) trivial rfl (fun x => own11_ok _ (by assumption)) | exact arg_fn2 (Cs := []) rfl fn_91 (by intro n hn; cases hn) trivial rfl (fun x y => own11_ok _ (by assumption)) | exact arg_clo rfl), trivial⟩) ?_
 refine A0 (oFp fd_37_2) ?_; refine aw_store_b rfl rfl rfl rfl rfl L_Block_t ty_23 rfl ?_; refine CNQR ?_; refine A0 (oLs rfl rfl rfl ty_37) ?_; refine aw_store_b rfl rfl rfl rfl rfl (Lens.self _) ty_37 rfl ?_; refine CN ?_
 exact aw_retc1 rfl rfl rfl rfl ty_37 (rfl)
theorem toldBlock_ok (l : List Block) (hl : smallC l) : Tells P 87 [.val (bsl blockT) l, .clo 88 []] (.fresh 37 blockT l) := by
 have hll := hl.1
 refine fn_of_aw Tryz.func87 rfl rfl rfl (fun ext w hext => ?_)
 refine aw_fact (d := 0) rfl fact_sl (fun hsl0 => ?_)
 refine CQR ?_; refine A0 aL ?_; refine CNQR ?_; refine A0 aL ?_; refine CNQQR ?_; refine A0 mV ?_; refine A0 (g_len rfl rfl isl_22) ?_; refine A0 mV ?_; refine CNB ?_; refine aw_nilrow (T := blockT) (d := 5) 37 rfl ?_
 refine Lp (ι := Nat) 1 (fun (k : Nat) => ((((((Fr.none).set 0 (.val (bsl blockT) l)).set 1 (.clo 88 [])).set 5 (.own 0)).set 8 (.val (bsl blockT) l)).set 9 (.val i64T (l.length : Int))).set 10 (.val i64T (k : Int))) (fun (k : Nat) => (Hp.none).set 0 (.row 37 blockT (l.take k))) (fun (k : Nat) => k ≤ l.length) (fun (k : Nat) => l.length - k) (0) (Nat.zero_le _) ?_
 intro k hinv
 refine CQR ?_; refine A0 o_lss ?_; refine CNQ ?_
 refine Cf (p := k < l.length) (fun ht11 => ?_) (fun ht11 => ?_)
 ·
  obtain ⟨x, hx⟩ : ∃ x, l[k]? = some x := ⟨_, List.getElem?_eq_getElem ht11⟩
  have hxm := List.mem_of_getElem? hx
  refine CSQBQR ?_; refine A0 (g_ia_n rfl rfl rfl sl_22 (by assumption)) ?_; refine A0 (g_load_r rfl rfl ty_37) ?_; refine aw_alloc ze_37 rfl rfl rfl rfl ?_; refine aw_store_b rfl rfl rfl rfl rfl (Lens.self _) ty_37 rfl ?_; refine CNR ?_
  refine A0 mO ?_; refine A0 mC ?_; refine A0 (oLs rfl rfl rfl ty_37) ?_; refine A0 (g_callc (As := [_]) (Cs := []) (own1_ok x (hl.2 x hxm)) rfl rfl fn_88 ⟨(arg_v rfl), trivial⟩ (by intro n hn; cases hn) trivial rfl) ?_
  refine A0 (g_bslice (T := blockT) (xs := [_]) rfl sl_22 row_22 ⟨rfl, rfl, trivial⟩ rfl rfl) ?_; refine aw_append rfl rfl rfl rfl rfl rfl rfl row_22 (by simp; omega) ?_; refine A0 aO ?_; refine CNIR ?_; refine A0 o_add ?_; refine A0 mV ?_
  refine CN ?_; refine aw_ren 2 0 3 rfl rfl rfl rfl rfl rfl ?_; refine aw_rerow (n := 0) (y := l.take (k + 1)) rfl (by rw [List.take_add_one, hx]; rfl) ?_
  exact Nx (k + 1) (by omega) (by omega)
 ·
  refine CE ?_; refine CQR ?_; refine A0 mO ?_; refine A0 aO ?_; refine CN ?_
  exact aw_ret1 rfl rfl (ret_fresh_eq rfl rfl (by rw [List.take_of_length_le (by omega)]))
theorem ownC_ok (l : List Block) (hl : smallC l) : Tells P 40 [.val (bsl blockT) l] (.fresh 37 blockT l) := by
 refine fn_of_aw Tryz.func40 rfl rfl rfl (fun ext w hext => ?_)
 refine aw_fact (d := 0) rfl fact_sl (fun hsl0 => ?_)
 refine CQR ?_; refine A0 aL ?_; refine CNQR ?_; refine A0 mV ?_
 refine aw_callf (toldBlock_ok l hl) rfl fn_87 ⟨(arg_v rfl), (by first | exact arg_fn1 (Cs := []) rfl fn_88 (by intro n hn; cases hn) trivial rfl (fun x => own1_ok _ (by assumption)) | exact arg_fn2 (Cs := []) rfl fn_88 (by intro n hn; cases hn) trivial rfl (fun x y => own1_ok _ (by assumption)) | exact arg_clo rfl), trivial⟩ rfl rfl rfl ?_
 refine A0 aO ?_; refine CN ?_
 exact aw_ret1 rfl rfl (ret_fresh_eq rfl rfl rfl)
theorem levelC_ok (b : Block) : Tells P 44 [.val blockT b] (.val i64T (headLevel b.h)) := by
 refine fn_of_aw Tryz.func44 rfl rfl rfl (fun ext w hext => ?_)
 refine CQR ?_; refine aw_box rfl rfl rfl rfl rfl ?_; refine A0 aV ?_; refine CNQR ?_; refine A0 (oFp fd_37_0) ?_; refine A0 (oLb L_Block_h ty_34) ?_; refine A0 (oCl (headLevel_ok _) rfl fn_21 ⟨(arg_v rfl), trivial⟩) ?_; refine A0 aV ?_
 refine CN ?_
 exact aw_ret1 rfl rfl (by first | exact ret_val rfl | exact ret_own rfl rfl | exact ret_nil rfl | exact ret_fresh rfl rfl | exact ret_fresh_nil rfl | exact ret_lit rfl)
theorem leafC_ok (b : Block) : Tells P 71 [.val blockT b] (.val totalT (leafH b.h)) := by
 refine fn_of_aw Tryz.func71 rfl rfl rfl (fun ext w hext => ?_)
 refine CQR ?_; refine aw_box rfl rfl rfl rfl rfl ?_; refine aw_alloc ze_68 rfl rfl rfl rfl ?_; refine CNQ ?_; refine aw_drawx [some 1, some 1, some 1, some 1, some 1, some 1, some 1, none] mixed (by decide +kernel) ?_
 refine X0 (oFp fd_37_0) ?_; refine X0 (oLb L_Block_h ty_34) ?_; refine X0 (oCl (headId_ok _) rfl fn_17 ⟨(arg_v rfl), trivial⟩) ?_; refine X0 (oFp fd_37_0) ?_; refine X0 (oLb L_Block_h ty_34) ?_
 refine X0 (oCl (headWork_ok _) rfl fn_105 ⟨(arg_v rfl), trivial⟩) ?_; refine X0 (oCl (mleaf_ok _ _) rfl fn_104 ⟨(arg_v rfl), (arg_v rfl), trivial⟩) ?_
 refine XK.e (x := .idk) (fun fr' hfr kk H => by exact aw_store_b rfl rfl rfl ((hfr 2 (by decide +kernel)).trans rfl) rfl (Lens.self _) ty_68 ((hfr 9 (by decide +kernel)).trans rfl) (aw_nil H)) ?_; refine XK.nil' ?_
 exact aw_retc1 rfl rfl rfl rfl ty_68 (rfl)
theorem toldInt_ok (l : List Block) (f : Block → Int) (hl : l.length ≤ 1000000000000) : Tells P 43 [.val (bsl blockT) l, .fn1 P blockT i64T f] (.fresh 3 i64T (l.map f)) := by
 refine fn_of_aw Tryz.func43 rfl rfl rfl (fun ext w hext => ?_)
 refine aw_fact (d := 0) rfl fact_sl (fun hsl0 => ?_)
 refine CQR ?_; refine A0 aL ?_; refine CNQR ?_; refine A0 aL ?_; refine CNQQR ?_; refine A0 mV ?_; refine A0 (g_len rfl rfl isl_22) ?_; refine A0 mV ?_; refine CNB ?_; refine aw_nilrow (T := i64T) (d := 5) 3 rfl ?_
 refine Lp (ι := Nat) 1 (fun (k : Nat) => ((((((Fr.none).set 0 (.val (bsl blockT) l)).set 1 (.fn1 P blockT i64T f)).set 5 (.own 0)).set 8 (.val (bsl blockT) l)).set 9 (.val i64T (l.length : Int))).set 10 (.val i64T (k : Int))) (fun (k : Nat) => (Hp.none).set 0 (.row 3 i64T ((l.take k).map f))) (fun (k : Nat) => k ≤ l.length) (fun (k : Nat) => l.length - k) (0) (Nat.zero_le _) ?_
 intro k hinv
 refine CQR ?_; refine A0 o_lss ?_; refine CNQ ?_
 refine Cf (p := k < l.length) (fun ht11 => ?_) (fun ht11 => ?_)
 ·
  obtain ⟨x, hx⟩ : ∃ x, l[k]? = some x := ⟨_, List.getElem?_eq_getElem ht11⟩
  have hxm := List.mem_of_getElem? hx
  refine CSQBQR ?_; refine A0 (g_ia_n rfl rfl rfl sl_22 (by assumption)) ?_; refine A0 (g_load_r rfl rfl ty_37) ?_; refine aw_alloc ze_37 rfl rfl rfl rfl ?_; refine aw_store_b rfl rfl rfl rfl rfl (Lens.self _) ty_37 rfl ?_; refine CNR ?_
  refine A0 mO ?_; refine A0 mF ?_; refine A0 (oLs rfl rfl rfl ty_37) ?_; refine A0 (g_callf1 rfl rfl (arg_v rfl)) ?_; refine A0 (g_bslice (T := i64T) (xs := [_]) rfl sl_49 row_49 ⟨rfl, rfl, trivial⟩ rfl rfl) ?_
  refine aw_append rfl rfl rfl rfl rfl rfl rfl row_49 (by simp; omega) ?_; refine A0 aO ?_; refine CNIR ?_; refine A0 o_add ?_; refine A0 mV ?_; refine CN ?_; refine aw_ren 2 0 3 rfl rfl rfl rfl rfl rfl ?_
  refine aw_rerow (n := 0) (y := (l.take (k + 1)).map f) rfl (by rw [List.take_add_one, hx]; simp) ?_
  exact Nx (k + 1) (by omega) (by omega)
 ·
  refine CE ?_; refine CQR ?_; refine A0 mO ?_; refine A0 aO ?_; refine CN ?_
  exact aw_ret1 rfl rfl (ret_fresh_eq rfl rfl (by rw [List.take_of_length_le (by omega)]))
theorem toldTotal_ok (l : List Block) (f : Block → Total) (hl : l.length ≤ 1000000000000) : Tells P 70 [.val (bsl blockT) l, .fn1 P blockT totalT f] (.fresh 68 totalT (l.map f)) := by
 refine fn_of_aw Tryz.func70 rfl rfl rfl (fun ext w hext => ?_)
 refine aw_fact (d := 0) rfl fact_sl (fun hsl0 => ?_)
 refine CQR ?_; refine A0 aL ?_; refine CNQR ?_; refine A0 aL ?_; refine CNQQR ?_; refine A0 mV ?_; refine A0 (g_len rfl rfl isl_22) ?_; refine A0 mV ?_; refine CNB ?_; refine aw_nilrow (T := totalT) (d := 5) 68 rfl ?_
 refine Lp (ι := Nat) 1 (fun (k : Nat) => ((((((Fr.none).set 0 (.val (bsl blockT) l)).set 1 (.fn1 P blockT totalT f)).set 5 (.own 0)).set 8 (.val (bsl blockT) l)).set 9 (.val i64T (l.length : Int))).set 10 (.val i64T (k : Int))) (fun (k : Nat) => (Hp.none).set 0 (.row 68 totalT ((l.take k).map f))) (fun (k : Nat) => k ≤ l.length) (fun (k : Nat) => l.length - k) (0) (Nat.zero_le _) ?_
 intro k hinv
 refine CQR ?_; refine A0 o_lss ?_; refine CNQ ?_
 refine Cf (p := k < l.length) (fun ht11 => ?_) (fun ht11 => ?_)
 ·
  obtain ⟨x, hx⟩ : ∃ x, l[k]? = some x := ⟨_, List.getElem?_eq_getElem ht11⟩
  have hxm := List.mem_of_getElem? hx
  refine CSQBQR ?_; refine A0 (g_ia_n rfl rfl rfl sl_22 (by assumption)) ?_; refine A0 (g_load_r rfl rfl ty_37) ?_; refine aw_alloc ze_37 rfl rfl rfl rfl ?_; refine aw_store_b rfl rfl rfl rfl rfl (Lens.self _) ty_37 rfl ?_; refine CNR ?_
  refine A0 mO ?_; refine A0 mF ?_; refine A0 (oLs rfl rfl rfl ty_37) ?_; refine A0 (g_callf1 rfl rfl (arg_v rfl)) ?_; refine A0 (g_bslice (T := totalT) (xs := [_]) rfl sl_38 row_38 ⟨rfl, rfl, trivial⟩ rfl rfl) ?_
  refine aw_append rfl rfl rfl rfl rfl rfl rfl row_38 (by simp; omega) ?_; refine A0 aO ?_; refine CNIR ?_; refine A0 o_add ?_; refine A0 mV ?_; refine CN ?_; refine aw_ren 2 0 3 rfl rfl rfl rfl rfl rfl ?_
  refine aw_rerow (n := 0) (y := (l.take (k + 1)).map f) rfl (by rw [List.take_add_one, hx]; simp) ?_
  exact Nx (k + 1) (by omega) (by omega)
 ·
  refine CE ?_; refine CQR ?_; refine A0 mO ?_; refine A0 aO ?_; refine CN ?_
  exact aw_ret1 rfl rfl (ret_fresh_eq rfl rfl (by rw [List.take_of_length_le (by omega)]))
theorem levels_ok (l : List Block) (hl : l.length ≤ 1000000000000) : Tells P 16 [.val (bsl blockT) l] (.fresh 3 i64T (levelsOf l)) := by
 refine fn_of_aw Tryz.func16 rfl rfl rfl (fun ext w hext => ?_)
 refine aw_fact (d := 0) rfl fact_sl (fun hsl0 => ?_)
 refine CQR ?_; refine A0 aL ?_; refine CNQR ?_; refine A0 mV ?_
 refine aw_callf (toldInt_ok l (fun b => headLevel b.h) hl) rfl fn_43 ⟨(arg_v rfl), (by first | exact arg_fn1 (Cs := []) rfl fn_44 (by intro n hn; cases hn) trivial rfl (fun x => levelC_ok x) | exact arg_fn2 (Cs := []) rfl fn_44 (by intro n hn; cases hn) trivial rfl (fun x y => levelC_ok x) | exact arg_clo rfl), trivial⟩ rfl rfl rfl ?_
 refine A0 aO ?_; refine CN ?_
 exact aw_ret1 rfl rfl (ret_fresh_eq rfl rfl rfl)
theorem leaves_ok (l : List Block) (hl : l.length ≤ 1000000000000) : Tells P 30 [.val (bsl blockT) l] (.fresh 68 totalT (leavesOf l)) := by
 refine fn_of_aw Tryz.func30 rfl rfl rfl (fun ext w hext => ?_)
 refine aw_fact (d := 0) rfl fact_sl (fun hsl0 => ?_)
 refine CQR ?_; refine A0 aL ?_; refine CNQR ?_; refine A0 mV ?_
 refine aw_callf (toldTotal_ok l (fun b => leafH b.h) hl) rfl fn_70 ⟨(arg_v rfl), (by first | exact arg_fn1 (Cs := []) rfl fn_71 (by intro n hn; cases hn) trivial rfl (fun x => leafC_ok x) | exact arg_fn2 (Cs := []) rfl fn_71 (by intro n hn; cases hn) trivial rfl (fun x y => leafC_ok x) | exact arg_clo rfl), trivial⟩ rfl rfl rfl ?_
 refine A0 aO ?_; refine CN ?_
 exact aw_ret1 rfl rfl (ret_fresh_eq rfl rfl rfl)
theorem findC1_ok (id : Ab.Id) (b : Block) : Tells P 62 [.val blockT b, .rptr idT id] (.val boolT (decide (headId b.h = id))) := by
 refine fn_of_aw Tryz.func62 rfl rfl rfl (fun ext w hext => ?_)
 refine CQR ?_; refine aw_box rfl rfl rfl rfl rfl ?_; refine A0 aV ?_; refine CNQ ?_; refine CD mixed ?_; refine G0 (oFp fd_37_0) ?_; refine G0 (oLb L_Block_h ty_34) ?_; refine G0 (oCl (headId_ok _) rfl fn_17 ⟨(arg_v rfl), trivial⟩) ?_
 refine G0 (g_load_r rfl rfl ty_29) ?_; refine G0 (g_eqlS rfl rfl rfl (eqt_29)) ?_; refine G0 aV ?_; refine GK.nil ?_
 exact aw_ret1 rfl rfl (by first | exact ret_val rfl | exact ret_own rfl rfl | exact ret_nil rfl | exact ret_fresh rfl rfl | exact ret_fresh_nil rfl | exact ret_lit rfl)
theorem findC_ok (l : List Block) (id : Ab.Id) : Tells P 20 [.val (bsl blockT) l, .val idT id] (.val i64T (findOf l id)) := by
 refine fn_of_aw Tryz.func20 rfl rfl rfl (fun ext w hext => ?_)
 refine aw_fact (d := 0) rfl fact_sl (fun hsl0 => ?_)
 refine CQR ?_; refine aw_box rfl rfl rfl rfl rfl ?_; refine A0 aV ?_; refine CNQR ?_; refine A0 mV ?_; refine A0 (g_mkf (caps := [_]) rfl rfl) ?_
 refine A0 (oCl (indexFuncBlock l (fun b => decide (headId b.h = id))) rfl fn_61 ⟨(arg_v rfl), (by first | exact arg_fn1 (Cs := [_]) rfl fn_62 (by intro n hn; simp only [List.mem_cons, List.not_mem_nil, or_false] at hn; rcases hn with rfl <;> exact ⟨_, _, _, _, rfl⟩) ⟨(by exact arg_cap rfl), trivial⟩ rfl (fun x => findC1_ok id x) | exact arg_fn2 (Cs := [_]) rfl fn_62 (by intro n hn; simp only [List.mem_cons, List.not_mem_nil, or_false] at hn; rcases hn with rfl <;> exact ⟨_, _, _, _, rfl⟩) ⟨(by exact arg_cap rfl), trivial⟩ rfl (fun x y => findC1_ok id x) | exact arg_clo rfl), trivial⟩) ?_
 refine A0 aV ?_; refine CN ?_
 exact aw_ret1 rfl rfl (ret_eq rfl rfl)
theorem sameC_ok (a b : List Block) : Tells P 15 [.val (bsl blockT) a, .val (bsl blockT) b] (.val boolT (decide (a = b))) := by
 refine fn_of_aw Tryz.func15 rfl rfl rfl (fun ext w hext => ?_)
 refine aw_fact (d := 0) rfl fact_sl (fun hsl0 => ?_)
 refine aw_fact (d := 1) rfl fact_sl (fun hsl1 => ?_)
 refine CQR ?_; refine A0 aV ?_; refine CNQR ?_; refine A0 mV ?_; refine A0 mV ?_
 refine A0 (oCl (equalFBlock _ _) rfl fn_42 ⟨(arg_v rfl), (arg_v rfl), (by first | exact arg_fn1 (Cs := []) rfl fn_39 (by intro n hn; cases hn) trivial rfl (fun x => sameB_ok x y) | exact arg_fn2 (Cs := []) rfl fn_39 (by intro n hn; cases hn) trivial rfl (fun x y => sameB_ok x y) | exact arg_clo rfl), trivial⟩) ?_
 refine A0 aV ?_; refine CN ?_
 exact aw_ret1 rfl rfl (by first | exact ret_val rfl | exact ret_own rfl rfl | exact ret_nil rfl | exact ret_fresh rfl rfl | exact ret_fresh_nil rfl | exact ret_lit rfl)
theorem check_ok (l : List Block) (hl : smallC l) : Tells P 13 [.val (bsl blockT) l] (.tup2 (.val tipT (checkOf l).1) (.val i64T (checkOf l).2)) := by
 have hll := hl.1
 refine fn_of_aw Tryz.func13 rfl rfl rfl (fun ext w hext => ?_)
 refine aw_fact (d := 0) rfl fact_sl (fun hsl0 => ?_)
 refine CQR ?_; refine aw_alloc ze_41 rfl rfl rfl rfl ?_; refine A0 aV ?_; refine CN ?_
 refine aw_scope (ι := Block) 2 0 rfl rfl rfl (fun (g : Block) => ((((Fr.none).set 0 (.val (bsl blockT) l)).set 2 (.ptr 0 0)).set 4 (.ptr 1 0)).set 6 (.val i64T 0)) (fun (g : Block) => ((Hp.none).set 0 (.box 41 tipT zTip)).set 1 (.box 41 tipT (firstTip g.h.bits))) (fun (g : Block) => l[0]? = some g ∧ tgtOk g.h.bits = true ∧ (firstTip g.h.bits).b = g) (fun (g : Block) => 0) ?_ (fun hreach => ?_)
 ·
  intro g hinv
  have hl1 := (List.getElem?_eq_some_iff.1 hinv.1).1
  refine CQQR ?_; refine A0 mV ?_; refine A0 (g_sl_l rfl rfl rfl sl_22 (by first | assumption | omega | (simp; omega))) ?_; refine A0 (g_len rfl rfl isl_22) ?_; refine A0 mV ?_; refine CNB ?_
  refine Lp (ι := Nat × Tip) 2 (fun (i : Nat × Tip) => match i with | (k, t) => (((((((Fr.none).set 0 (.val (bsl blockT) l)).set 2 (.ptr 0 0)).set 4 (.ptr 1 0)).set 6 (.val i64T 0)).set 35 (.val (bsl blockT) (l.drop 1))).set 36 (.val i64T ((l.drop 1).length : Int))).set 37 (.val i64T (k : Int))) (fun (i : Nat × Tip) => match i with | (k, t) => ((Hp.none).set 0 (.box 41 tipT zTip)).set 1 (.box 41 tipT t)) (fun (i : Nat × Tip) => match i with | (k, t) => k ≤ (l.drop 1).length ∧ smallN t k ∧ checkOf l = checkFrom t ((l.drop 1).drop k)) (fun (i : Nat × Tip) => match i with | (k, t) => (l.drop 1).length - k) ((0, firstTip g.h.bits)) (⟨Nat.zero_le _, first_small, checkOf_start hinv.1 hinv.2.1 hinv.2.2⟩) ?_
  intro ⟨k, t⟩ hin
  dsimp only at hin
  refine CQR ?_; refine A0 o_lss ?_; refine CNQ ?_
  refine Cf (p := k < (l.drop 1).length) (fun ht38 => ?_) (fun ht38 => ?_)
  ·
   have hk38 : k < l.length := by rw [List.length_drop] at ht38; omega
   obtain ⟨b, hb⟩ : ∃ b, (l.drop 1)[k]? = some b := ⟨_, List.getElem?_eq_getElem ht38⟩
   have hbm := hl.2 b (List.mem_of_mem_drop (List.mem_of_getElem? hb))
   refine CSQBQR ?_; refine A0 (g_ia_i (i := k) rfl rfl rfl (by omega) sl_22 (by assumption)) ?_; refine A0 (g_load_r rfl rfl ty_37) ?_; refine aw_alloc ze_37 rfl rfl rfl rfl ?_; refine aw_store_b rfl rfl rfl rfl rfl (Lens.self _) ty_37 rfl ?_
   refine CNQR ?_; refine A0 (oLs rfl rfl rfl ty_41) ?_; refine A0 (oLs rfl rfl rfl ty_37) ?_; refine A0 (oCl (push_ok t b hin.2.1.1 hbm) rfl fn_18 ⟨(arg_v rfl), (arg_v rfl), trivial⟩) ?_; refine A0 mX ?_
   refine A0 (by first | exact g_x20 rfl rfl | exact g_x30 rfl rfl) ?_; refine A0 (by first | exact g_x21 rfl rfl | exact g_x31 rfl rfl) ?_; refine aw_store_b rfl rfl rfl rfl rfl (Lens.self _) ty_41 rfl ?_; refine A0 aV ?_; refine CNQR ?_
   refine A0 mV ?_; refine A0 o_neq ?_; refine CN ?_
   refine aw_ifc (p := ¬ pushE t b = 0) rfl (by simp [IntL.toI]) (fun ht48 => ?_) (fun ht48 => ?_)
   ·
    refine CE ?_; refine CQQR ?_; refine A0 mV ?_; refine A0 o_neq ?_; refine CN ?_; refine aw_if_t rfl (by simpa [IntL.toI] using ht48) ?_; refine CQR ?_; refine A0 (g_build rfl ze_41 bd_41 .nil rfl) ?_; refine A0 mV ?_
    refine aw_store_b rfl rfl rfl rfl rfl (Lens.self _) ty_41 rfl ?_; refine A0 aV ?_; refine CN ?_
    exact aw_retr2 rfl rfl (rv_cell rfl rfl ty_41 (by rw [hin.2.2, check_stop hb ht48])) (rv_tmp (ret_eq rfl (by rw [hin.2.2, check_stop hb ht48])))
   ·
    refine CSIR ?_; refine A0 o_add ?_; refine A0 mV ?_; refine CN ?_; refine aw_reval (d := 6) (y := (0 : Int)) rfl (Classical.not_not.1 ht48) ?_
    exact Nx ((k + 1, pushT t b)) (⟨by omega, push_smallN hin.2.1 (by rw [List.length_drop] at ht38; omega) hbm (Classical.not_not.1 ht48), hin.2.2.trans (check_step hb (Classical.not_not.1 ht48))⟩) (by show (l.drop 1).length - (k + 1) < (l.drop 1).length - k; omega)
  ·
   refine CE ?_; refine CQQR ?_; refine A0 mV ?_; refine A0 o_neq ?_; refine CN ?_; refine Cg ?_; refine CSQR ?_; refine A0 (oLs rfl rfl rfl ty_41) ?_; refine aw_store_b rfl rfl rfl rfl rfl (Lens.self _) ty_41 rfl ?_; refine A0 aV ?_
   refine CN ?_
   exact aw_retr2 rfl rfl (rv_cell rfl rfl ty_41 (by rw [hin.2.2, check_end (by omega)])) (rv_tmp (ret_eq rfl (by rw [hin.2.2, check_end (by omega)])))
 ·
  refine CQQR ?_; refine A0 mV ?_; refine A0 (g_len rfl rfl isl_22) ?_; refine A0 o_eql ?_; refine CN ?_
  refine Cf (p := l.length = 0) (fun ht11 => ?_) (fun ht11 => ?_)
  ·
   refine CQR ?_; refine A0 (g_build rfl ze_41 bd_41 .nil rfl) ?_; refine aw_store_b rfl rfl rfl rfl rfl (Lens.self _) ty_41 rfl ?_; refine A0 aV ?_; refine CN ?_
   exact aw_retr2 rfl rfl (rv_cell rfl rfl ty_41 (by rw [checkOf_nil ht11])) (rv_tmp (ret_eq rfl (by rw [checkOf_nil ht11])))
  ·
   obtain ⟨g, hg⟩ : ∃ g, l[0]? = some g := ⟨_, List.getElem?_eq_getElem (by omega)⟩
   refine CSQR ?_; refine A0 mV ?_; refine A0 (g_ia_i (i := 0) rfl rfl rfl (by omega) sl_22 (by assumption)) ?_; refine A0 (oFr fd_37_0 L_Block_h) ?_; refine A0 (oFr fd_34_6 L_Head_bits) ?_; refine A0 (g_load_r rfl rfl ty_32) ?_
   refine A0 (oCl (firstTip_ok g.h.bits) rfl fn_38 ⟨(by first | exact arg_same rfl | exact arg_bsl rfl | exact arg_own rfl rfl | exact arg_nil rfl | exact arg_rptr rfl | exact arg_fn rfl rfl | exact arg_lit rfl), trivial⟩) ?_; refine A0 mX ?_
   refine A0 (by first | exact g_x20 rfl rfl | exact g_x30 rfl rfl) ?_; refine A0 (by first | exact g_x21 rfl rfl | exact g_x31 rfl rfl) ?_; refine aw_alloc ze_41 rfl rfl rfl rfl ?_
   refine aw_store_b rfl rfl rfl rfl rfl (Lens.self _) ty_41 rfl ?_; refine A0 aV ?_; refine CNQ ?_; refine CQ ?_; refine CD mixed ?_; refine G0 mV ?_; refine G0 oN ?_; refine G0 mV ?_
   refine GK_splitp (d := 24) (p := ¬ tgtOk g.h.bits = true) rfl (by cases tgtOk g.h.bits <;> rfl) (fun g24 => ?_) (fun g24 => ?_)
   ·
    refine G2 ?_; refine G2 ?_; refine G2 ?_; refine G2 ?_; refine G2 ?_; refine G2 ?_; refine G2 ?_; refine G0 oK ?_; refine GK.nil ?_; refine Ct ?_; refine CQR ?_; refine A0 (g_build rfl ze_41 bd_41 .nil rfl) ?_
    refine aw_store_b rfl rfl rfl rfl rfl (Lens.self _) ty_41 rfl ?_; refine A0 aV ?_; refine CN ?_
    exact aw_retr2 rfl rfl (rv_cell rfl rfl ty_41 (by rw [checkOf_other hg fun h => g24 h.1])) (rv_tmp (ret_eq rfl (by rw [checkOf_other hg fun h => g24 h.1])))
   ·
    refine G1 (oFp fd_41_0) ?_; refine G1 (oLb L_Tip_b ty_37) ?_; refine G1 mV ?_; refine G1 (g_ia_i (i := 0) rfl rfl rfl (by omega) sl_22 (by assumption)) ?_; refine G1 (g_load_r rfl rfl ty_37) ?_
    refine G1 (oCl (sameB_ok _ _) rfl fn_39 ⟨(arg_v rfl), (by first | exact arg_same rfl | exact arg_bsl rfl | exact arg_own rfl rfl | exact arg_nil rfl | exact arg_rptr rfl | exact arg_fn rfl rfl | exact arg_lit rfl), trivial⟩) ?_
    refine G1 oN ?_; refine G0 oK ?_; refine GK.nil ?_
    refine aw_ifc (p := ¬ (firstTip g.h.bits).b = g) rfl (by simp) (fun ht32 => ?_) (fun ht32 => ?_)
    ·
     refine CQR ?_; refine A0 (g_build rfl ze_41 bd_41 .nil rfl) ?_; refine aw_store_b rfl rfl rfl rfl rfl (Lens.self _) ty_41 rfl ?_; refine A0 aV ?_; refine CN ?_
     exact aw_retr2 rfl rfl (rv_cell rfl rfl ty_41 (by rw [checkOf_other hg fun h => ht32 h.2])) (rv_tmp (ret_eq rfl (by rw [checkOf_other hg fun h => ht32 h.2])))
    ·
     refine CSQR ?_; refine A0 aV ?_; refine CNQ ?_
     exact aw_reach hreach (g) rfl (⟨hg, Classical.not_not.1 g24, Classical.not_not.1 ht32⟩) rfl (by (repeat refine Fr.le_set ?_ (by first | rfl | (simp; done))); exact Fr.le_none _) (by (repeat refine Hp.le_set ?_ rfl); exact Hp.le_none _) (by (repeat refine Fr.below_setB ?_ rfl); exact Fr.below_none _) (by (repeat refine Hp.below_set ?_ (by decide)); exact Hp.below_none _)
theorem newC_ok (bits : UInt32) : Tells P 24 [.val u32T bits] (.tup2 (.val (sl blockT) (newOf bits)) (.val boolT (tgtOk bits))) := by
 refine fn_of_aw Tryz.func24 rfl rfl rfl (fun ext w hext => ?_)
 refine CQR ?_; refine A0 aL ?_; refine A0 aV ?_; refine CNQR ?_; refine A0 mV ?_; refine A0 (oCl (firstTip_ok bits) rfl fn_38 ⟨(arg_v rfl), trivial⟩) ?_; refine A0 mX ?_; refine A0 (by first | exact g_x20 rfl rfl | exact g_x30 rfl rfl) ?_
 refine A0 (by first | exact g_x21 rfl rfl | exact g_x31 rfl rfl) ?_; refine aw_alloc ze_41 rfl rfl rfl rfl ?_; refine aw_store_b rfl rfl rfl rfl rfl (Lens.self _) ty_41 rfl ?_; refine A0 aV ?_; refine CNQQR ?_; refine A0 mV ?_
 refine A0 oN ?_; refine CN ?_
 refine aw_ifc (p := ¬ tgtOk bits = true) rfl (by cases tgtOk bits <;> rfl) (fun ht12 => ?_) (fun ht12 => ?_)
 ·
  refine CQR ?_; refine A0 aL ?_; refine A0 aV ?_; refine CN ?_
  exact aw_ret2 rfl rfl (by unfold newOf; rw [if_neg ht12]; exact ret_nil rfl) (ret_eq rfl (by simpa using ht12))
 ·
  refine CSQR ?_; refine A0 (oFp fd_41_0) ?_; refine A0 (oLb L_Tip_b ty_37) ?_; refine A0 (g_bslice (T := blockT) (xs := [_]) rfl sl_22 row_22 ⟨rfl, rfl, trivial⟩ rfl rfl) ?_; refine A0 aV ?_; refine A0 aV ?_; refine CN ?_
  exact aw_ret2 rfl rfl (ret_eq rfl (by unfold newOf; rw [if_pos (Classical.not_not.1 ht12)])) (ret_eq rfl (Classical.not_not.1 ht12).symm)
theorem growC_ok (l : List Block) (t : List Tx) (nonce : UInt64) (hl : smallC l) (ht : smallL t) : Tells P 14 [.val (bsl blockT) l, .val (sl txT) t, .val u64T nonce] (.tup2 (.fresh 37 blockT (growOf l t nonce)) (.val i64T (growE l t nonce))) := by
 have hll := hl.1
 refine fn_of_aw Tryz.func14 rfl rfl rfl (fun ext w hext => ?_)
 refine aw_fact (d := 0) rfl fact_sl (fun hsl0 => ?_)
 refine aw_fact (d := 1) rfl fact_sl (fun hsl1 => ?_)
 refine CQR ?_; refine A0 aL ?_; refine A0 aV ?_; refine CNQR ?_; refine A0 mV ?_; refine aw_callf (ownC_ok l hl) rfl fn_40 ⟨(arg_v rfl), trivial⟩ rfl rfl rfl ?_; refine A0 aO ?_; refine CNQR ?_; refine A0 mV ?_
 refine A0 (oCl (check_ok l hl) rfl fn_13 ⟨(arg_v rfl), trivial⟩) ?_; refine A0 mX ?_; refine A0 (by first | exact g_x20 rfl rfl | exact g_x30 rfl rfl) ?_; refine A0 (by first | exact g_x21 rfl rfl | exact g_x31 rfl rfl) ?_
 refine aw_alloc ze_41 rfl rfl rfl rfl ?_; refine aw_store_b rfl rfl rfl rfl rfl (Lens.self _) ty_41 rfl ?_; refine A0 aV ?_; refine CNQQR ?_; refine A0 mV ?_; refine A0 o_neq ?_; refine CN ?_
 refine aw_ifc (p := ¬ (checkOf l).2 = 0) rfl (by simp [IntL.toI]) (fun ht20 => ?_) (fun ht20 => ?_)
 ·
  have hE : growE l t nonce = (checkOf l).2 := by unfold growE; rw [if_neg ht20]
  have hG : growOf l t nonce = l := by unfold growOf; rw [hE, if_neg ht20]
  refine CQR ?_; refine A0 mO ?_; refine A0 mV ?_; refine A0 aO ?_; refine A0 aV ?_; refine CN ?_
  exact aw_ret2 rfl rfl (ret_fresh_eq rfl rfl (by rw [hG])) (ret_eq rfl hE.symm)
 ·
  refine CSQR ?_; refine A0 (oLs rfl rfl rfl ty_41) ?_; refine A0 mV ?_; refine A0 mV ?_; refine A0 (oCl (mineB_ok (checkOf l).1 t nonce 200 (check_small hl) ht) rfl fn_41 ⟨(arg_v rfl), (arg_v rfl), (arg_v rfl), (arg_v rfl), trivial⟩) ?_
  refine A0 mX ?_; refine A0 (by first | exact g_x20 rfl rfl | exact g_x30 rfl rfl) ?_; refine A0 (by first | exact g_x21 rfl rfl | exact g_x31 rfl rfl) ?_; refine aw_alloc ze_37 rfl rfl rfl rfl ?_
  refine aw_store_b rfl rfl rfl rfl rfl (Lens.self _) ty_37 rfl ?_; refine A0 aV ?_; refine CNQQR ?_; refine A0 mV ?_; refine A0 o_neq ?_; refine CN ?_
  refine aw_ifc (p := ¬ mineBE (checkOf l).1 t nonce 200 = 0) rfl (by simp [IntL.toI]) (fun ht31 => ?_) (fun ht31 => ?_)
  ·
   have hE : growE l t nonce = mineBE (checkOf l).1 t nonce 200 := by unfold growE; rw [if_pos (Classical.not_not.1 ht20)]
   have hG : growOf l t nonce = l := by unfold growOf; rw [hE, if_neg ht31]
   refine CQR ?_; refine A0 mO ?_; refine A0 mV ?_; refine A0 aO ?_; refine A0 aV ?_; refine CN ?_
   exact aw_ret2 rfl rfl (ret_fresh_eq rfl rfl (by rw [hG])) (ret_eq rfl hE.symm)
  ·
   have hE : growE l t nonce = 0 := by unfold growE; rw [if_pos (Classical.not_not.1 ht20)]; exact Classical.not_not.1 ht31
   have hG : growOf l t nonce = l ++ [mineB (checkOf l).1 t nonce 200] := by unfold growOf; rw [if_pos hE]
   refine CSQR ?_; refine A0 mO ?_; refine A0 (oLs rfl rfl rfl ty_37) ?_; refine A0 (g_bslice (T := blockT) (xs := [_]) rfl sl_22 row_22 ⟨rfl, rfl, trivial⟩ rfl rfl) ?_; refine aw_append rfl rfl rfl rfl rfl rfl rfl row_22 (by simp; omega) ?_
   refine A0 aO ?_; refine A0 aV ?_; refine CN ?_
   exact aw_ret2 rfl rfl (ret_fresh_eq rfl rfl (by rw [hG])) (ret_eq rfl hE.symm)
end Go.Proofs.YtfepfajcdkllfaaGreat
set_option maxRecDepth 20000
namespace Go.Proofs.YtfepfajcdkllfaaGreat
set_option linter.unusedVariables false
set_option linter.unusedSimpArgs false
open Go.Ab Go.RowKit
theorem fewC_no {l : List Block} {k : Nat} {x : Block} (hx : l[k]? = some x) (h : ¬ fewB x = true) : fewC l = false := by
  unfold fewC
  rw [Bool.and_eq_false_iff]
  left
  rw [List.all_eq_false]
  exact ⟨x, List.mem_of_getElem? hx, h⟩
theorem fewB_all {x : Block} (h : ¬ (x.t.all few && decide ((x.t.length : Int) ≤ 6)) = true) : ¬ fewB x = true := fun h2 => by unfold fewB at h2; rw [Bool.and_eq_true] at h2; exact h h2.1
theorem fewB_links {x : Block} (h : 40 < x.l.length) : ¬ fewB x = true := fun h2 => by unfold fewB at h2; rw [Bool.and_eq_true, decide_eq_true_eq] at h2; omega
theorem fewB_yes {x : Block} (h : (x.t.all few && decide ((x.t.length : Int) ≤ 6)) = true) (h2 : ¬ 40 < x.l.length) : fewB x = true := by unfold fewB; rw [h, Bool.true_and]; exact decide_eq_true (by omega)
theorem all_take_succ {α : Type} {p : α → Bool} {l : List α} {k : Nat} {x : α} (h : (l.take k).all p = true) (hx : l[k]? = some x) (hp : p x = true) : (l.take (k + 1)).all p = true := by
  rw [List.take_add_one, hx, List.all_append, h]; simp [hp]
theorem fewC_end {l : List Block} {k : Nat} (h : (l.take k).all fewB = true) (hk : l.length ≤ k) : fewC l = decide ((l.length : Int) ≤ 50) := by
  rw [List.take_of_length_le hk] at h
  unfold fewC; rw [h, Bool.true_and]
theorem easy_newOf : newOf 545259519 = [easyB0] := by unfold newOf; rw [if_pos easy_ok, easy_tip]; rfl
theorem easy_lv0 : (levelsOf [easyB0, easyB])[0]? = some 31 := by unfold levelsOf; show some (headLevel easyH) = _; rw [easy_level]
theorem fewC_ok (l : List Block) : Tells P 11 [.val (bsl blockT) l] (.val boolT (fewC l)) := by
 refine fn_of_aw Tryz.func11 rfl rfl rfl (fun ext w hext => ?_)
 refine aw_fact (d := 0) rfl fact_sl (fun hsl0 => ?_)
 refine CQR ?_; refine A0 aV ?_; refine CNQQR ?_; refine A0 aV ?_; refine CNB ?_
 refine Lp (ι := Nat) 0 (fun (k : Nat) => ((Fr.none).set 0 (.val (bsl blockT) l)).set 3 (.val i64T (k : Int))) (fun (k : Nat) => Hp.none) (fun (k : Nat) => k ≤ l.length ∧ (l.take k).all fewB = true) (fun (k : Nat) => l.length - k) (0) (⟨Nat.zero_le _, by simp⟩) ?_
 intro k hinv
 refine CQQR ?_; refine A0 mV ?_; refine A0 mV ?_; refine A0 (g_len rfl rfl isl_22) ?_; refine A0 o_lss ?_; refine CN ?_
 refine Cf (p := k < l.length) (fun ht8 => ?_) (fun ht8 => ?_)
 ·
  obtain ⟨x, hx⟩ : ∃ x, l[k]? = some x := ⟨_, List.getElem?_eq_getElem ht8⟩
  refine CSQBQR ?_; refine A0 mV ?_; refine A0 mV ?_; refine A0 (g_ia_i (i := k) rfl rfl rfl (by omega) sl_22 (by assumption)) ?_; refine A0 (oFr fd_37_2 L_Block_t) ?_; refine A0 (g_load_r rfl rfl ty_23) ?_
  refine A0 (oCl (fewAll_ok _ _) rfl fn_12 ⟨(by first | exact arg_same rfl | exact arg_bsl rfl | exact arg_own rfl rfl | exact arg_nil rfl | exact arg_rptr rfl | exact arg_fn rfl rfl | exact arg_lit rfl), (arg_v rfl), trivial⟩) ?_
  refine A0 aV ?_; refine CNQR ?_; refine A0 mV ?_; refine A0 oN ?_; refine A0 mV ?_
  refine aw_splitp (d := 19) (p := ¬ (x.t.all few && decide ((x.t.length : Int) ≤ 6)) = true) rfl (by cases (x.t.all few && decide ((x.t.length : Int) ≤ 6)) <;> rfl) (fun g19 => ?_) (fun g19 => ?_)
  ·
   refine A2 ?_; refine A2 ?_; refine A2 ?_; refine A2 ?_; refine A2 ?_; refine A2 ?_; refine A2 ?_; refine A0 oK ?_; refine CN ?_; refine Ct ?_; refine CQR ?_; refine A0 aV ?_; refine CN ?_
   exact aw_ret1 rfl rfl (ret_eq rfl (fewC_no hx (fewB_all g19)).symm)
  ·
   refine A1 mV ?_; refine A1 mV ?_; refine A1 (g_ia_i (i := k) rfl rfl rfl (by omega) sl_22 (by assumption)) ?_; refine A1 (oFr fd_37_1 L_Block_l) ?_; refine A1 (g_load_r rfl rfl ty_35) ?_
   refine A1 (by first | exact g_len rfl rfl isl_35 | exact g_len_o rfl rfl rfl isl_35 | exact g_len_nil rfl rfl isl_35) ?_; refine A1 o_gtr ?_; refine A0 oK ?_; refine CN ?_
   refine Cf (p := 40 < x.l.length) (fun ht27 => ?_) (fun ht27 => ?_)
   ·
    refine CQR ?_; refine A0 aV ?_; refine CN ?_
    exact aw_ret1 rfl rfl (ret_eq rfl (fewC_no hx (fewB_links ht27)).symm)
   ·
    refine CSIR ?_; refine A0 mV ?_; refine A0 o_add ?_; refine A0 aV ?_; refine CN ?_
    exact Nx (k + 1) (⟨by omega, all_take_succ hinv.2 hx (fewB_yes (Classical.not_not.1 g19) ht27)⟩) (by omega)
 ·
  refine CE ?_; refine CQR ?_; refine A0 mV ?_; refine A0 (g_len rfl rfl isl_22) ?_; refine A0 o_leq ?_; refine A0 aV ?_; refine CN ?_
  exact aw_ret1 rfl rfl (ret_eq rfl (by rw [fewC_end hinv.2 (by omega), decide_eq_decide]; rfl))
theorem awake12_ok : Tells P 10 [] (.val boolT true) := by
 refine fn_of_aw Tryz.func10 rfl rfl rfl (fun ext w hext => ?_)
 have hw0 := easy_lv0
 have hw1 : (levelsOf [easyB0, easyB])[1]? = some (headLevel easyB.h) := rfl
 have hw2 : ([easyB0, easyB] : List Block)[1]? = some easyB := rfl
 refine CQR ?_; refine A0 aV ?_; refine CNQR ?_; refine A0 (oCl (newC_ok 545259519) rfl fn_24 ⟨(arg_v rfl), trivial⟩) ?_; refine A0 mX ?_; refine A0 (by first | exact g_x20 rfl rfl | exact g_x30 rfl rfl) ?_
 refine aw_reval (d := 10) (y := [easyB0]) rfl easy_newOf ?_; refine A0 (by first | exact g_x21 rfl rfl | exact g_x31 rfl rfl) ?_; refine aw_reval (d := 11) (y := true) rfl easy_ok ?_; refine A0 aV ?_; refine A0 aV ?_; refine CNQR ?_
 refine A0 mV ?_
 refine A0 (oCl (tells_pub2 (growC_ok [easyB0] [] 0 small_easyC0 ⟨by decide, fun t ht => by cases ht⟩)) rfl fn_14 ⟨(arg_v rfl), (by first | exact arg_same rfl | exact arg_bsl rfl | exact arg_own rfl rfl | exact arg_nil rfl | exact arg_rptr rfl | exact arg_fn rfl rfl | exact arg_lit rfl), (arg_v rfl), trivial⟩) ?_
 refine A0 mX ?_; refine A0 (by first | exact g_x20 rfl rfl | exact g_x30 rfl rfl) ?_; refine aw_reval (d := 15) (y := [easyB0, easyB]) rfl easy_grown ?_; refine A0 (by first | exact g_x21 rfl rfl | exact g_x31 rfl rfl) ?_
 refine aw_reval (d := 16) (y := (0 : Int)) rfl easy_growE ?_; refine A0 aV ?_; refine A0 aV ?_; refine CNQR ?_; refine A0 mV ?_; refine A0 (oCl (check_ok [easyB0, easyB] small_easyC) rfl fn_13 ⟨(arg_v rfl), trivial⟩) ?_; refine A0 mX ?_
 refine A0 (by first | exact g_x20 rfl rfl | exact g_x30 rfl rfl) ?_; refine aw_reval (d := 20) (y := easyTip2) rfl (congrArg (·.1) easy_chain1) ?_; refine A0 (by first | exact g_x21 rfl rfl | exact g_x31 rfl rfl) ?_
 refine aw_reval (d := 21) (y := (0 : Int)) rfl (congrArg (·.2) easy_chain1) ?_; refine aw_alloc ze_41 rfl rfl rfl rfl ?_; refine aw_store_b rfl rfl rfl rfl rfl (Lens.self _) ty_41 rfl ?_; refine A0 aV ?_; refine CNQR ?_; refine A0 mV ?_
 refine A0 (oCl (tells_pub (levels_ok [easyB0, easyB] (by decide))) rfl fn_16 ⟨(arg_v rfl), trivial⟩) ?_; refine A0 aV ?_; refine CNQR ?_; refine A0 mV ?_; refine A0 mV ?_; refine aw_ist (d := 25) rfl (rfl) ?_; refine A1 mV ?_
 refine A1 o_eql ?_; refine A0 oK ?_; refine A0 mV ?_; refine aw_ist (d := 29) rfl (rfl) ?_; refine A1 mV ?_; refine A1 o_eql ?_; refine A0 oK ?_; refine A0 mV ?_; refine aw_ist (d := 33) rfl (rfl) ?_; refine A1 mV ?_
 refine A1 (g_len rfl rfl isl_22) ?_; refine A1 o_eql ?_; refine A0 oK ?_; refine A0 mV ?_; refine aw_ist (d := 38) rfl (rfl) ?_; refine A1 (oFp fd_41_0) ?_; refine A1 (oFp fd_37_0) ?_; refine A1 (oFp fd_34_0) ?_
 refine A1 (oLb ((L_Tip_b.comp L_Block_h).comp L_Head_height) ty_3) ?_; refine A1 o_eql ?_; refine A0 oK ?_; refine A0 mV ?_; refine aw_ist (d := 45) rfl (rfl) ?_; refine A1 mV ?_; refine A1 (g_len rfl rfl isl_49) ?_; refine A1 o_eql ?_
 refine A0 oK ?_; refine A0 mV ?_; refine aw_ist (d := 50) rfl (rfl) ?_; refine A1 mV ?_; refine A1 (g_ia_i (i := 0) rfl rfl rfl (by omega) sl_49 (by assumption)) ?_; refine A1 (g_load_r rfl rfl ty_3) ?_; refine A1 o_eql ?_; refine A0 oK ?_
 refine A0 mV ?_; refine aw_ist (d := 56) rfl (rfl) ?_; refine A1 mV ?_; refine A1 (g_ia_i (i := 1) rfl rfl rfl (by omega) sl_49 (by assumption)) ?_; refine A1 (g_load_r rfl rfl ty_3) ?_; refine A1 o_geq ?_; refine A0 oK ?_; refine A0 mV ?_
 refine aw_ist (d := 62) rfl (by simpa [IntL.toI] using easy_level1) ?_; refine A1 mV ?_; refine A1 mV ?_; refine A1 (g_ia_i (i := 1) rfl rfl rfl (by omega) sl_22 (by assumption)) ?_; refine A1 (oFr fd_37_0 L_Block_h) ?_
 refine A1 (g_load_r rfl rfl ty_34) ?_
 refine A1 (oCl (headId_ok easyB.h) rfl fn_17 ⟨(by first | exact arg_same rfl | exact arg_bsl rfl | exact arg_own rfl rfl | exact arg_nil rfl | exact arg_rptr rfl | exact arg_fn rfl rfl | exact arg_lit rfl), trivial⟩) ?_
 refine A1 (oCl (findC_ok [easyB0, easyB] (headId easyB.h)) rfl fn_20 ⟨(arg_v rfl), (arg_v rfl), trivial⟩) ?_; refine A1 o_eql ?_; refine A0 oK ?_; refine A0 mV ?_; refine aw_ist (d := 72) rfl (by rw [easy_find]; rfl) ?_; refine A1 mV ?_
 refine A1 mV ?_; refine A1 (oCl (sameC_ok [easyB0, easyB] [easyB0, easyB]) rfl fn_15 ⟨(arg_v rfl), (arg_v rfl), trivial⟩) ?_; refine A0 oK ?_; refine A0 mV ?_; refine aw_ist (d := 77) rfl (by simp) ?_; refine A1 mV ?_
 refine A1 (g_ia_i (i := 1) rfl rfl rfl (by omega) sl_22 (by assumption)) ?_; refine A1 (oFr fd_37_0 L_Block_h) ?_; refine A1 (g_load_r rfl rfl ty_34) ?_
 refine A1 (oCl (headId_ok easyB.h) rfl fn_17 ⟨(by first | exact arg_same rfl | exact arg_bsl rfl | exact arg_own rfl rfl | exact arg_nil rfl | exact arg_rptr rfl | exact arg_fn rfl rfl | exact arg_lit rfl), trivial⟩) ?_
 refine A1 (g_buildZ rfl ar_29 ze_29 rfl) ?_; refine A1 (g_neqS rfl rfl rfl (eqt_29)) ?_; refine A0 oK ?_; refine A0 mV ?_; refine aw_ist (d := 86) rfl (by rw [easy_nz]; rfl) ?_; refine A1 mV ?_
 refine A1 (oCl (tells_pub (leaves_ok [easyB0, easyB] (by decide))) rfl fn_30 ⟨(arg_v rfl), trivial⟩) ?_; refine A1 (g_len rfl rfl isl_38) ?_; refine A1 o_eql ?_; refine A0 oK ?_; refine A0 aV ?_; refine CN ?_
 exact aw_ret1 rfl rfl (ret_eq rfl rfl)
end Go.Proofs.YtfepfajcdkllfaaGreat
set_option maxRecDepth 20000
namespace Go.Proofs.YtfepfajcdkllfaaGreat
set_option linter.unusedVariables false
set_option linter.unusedSimpArgs false
open Go.Ab Go.RowKit
theorem hpB {x y : HE} {ty : TypeId} {α : Type} {T : GoT α} {v : α} (h1 : x = .box ty T v) (h2 : y = .box ty T v) : x = y := h1.trans h2.symm
end Go.Proofs.YtfepfajcdkllfaaGreat
set_option maxRecDepth 20000
namespace Go.Proofs.YtfepfajcdkllfaaGreat
set_option linter.unusedVariables false
set_option linter.unusedSimpArgs false
open Go.Ab Go.RowKit
theorem ChainPushes_ok (l : List Block) (b : Block) (hl : smallC l) : Tells P 6 [.val (sl blockT) l, .val blockT b] (.val boolT true) := by
 refine fn_of_aw Tryz.func6 rfl rfl rfl (fun ext w hext => ?_)
 refine aw_fact (d := 0) rfl fact_sl (fun hsl0 => ?_)
 refine CQR ?_; refine aw_box rfl rfl rfl rfl rfl ?_; refine A0 aV ?_; refine CNQR ?_; refine A0 (oCl (awake12_ok) rfl fn_10 trivial) ?_; refine A0 aV ?_; refine CNQR ?_; refine A0 mV ?_
 refine A0 (oCl (fewC_ok _) rfl fn_11 ⟨(arg_v rfl), trivial⟩) ?_; refine A0 aV ?_; refine CNQR ?_; refine A0 (oLs rfl rfl rfl ty_37) ?_; refine A0 (g_bslice (T := blockT) (xs := [_]) rfl sl_22 row_22 ⟨rfl, rfl, trivial⟩ rfl rfl) ?_
 refine A0 (oCl (fewC_ok _) rfl fn_11 ⟨(arg_v rfl), trivial⟩) ?_; refine A0 aV ?_; refine CNQR ?_; refine A0 mV ?_; refine A0 (oCl (check_ok l hl) rfl fn_13 ⟨(arg_v rfl), trivial⟩) ?_; refine A0 mX ?_
 refine A0 (by first | exact g_x20 rfl rfl | exact g_x30 rfl rfl) ?_; refine A0 (by first | exact g_x21 rfl rfl | exact g_x31 rfl rfl) ?_; refine aw_alloc ze_41 rfl rfl rfl rfl ?_
 refine aw_store_b rfl rfl rfl rfl rfl (Lens.self _) ty_41 rfl ?_; refine A0 aV ?_; refine CNQQR ?_; refine A0 mV ?_; refine A0 oN ?_; refine A0 mV ?_; refine aw_isf (d := 28) rfl (rfl) ?_; refine A1 mV ?_; refine A1 oN ?_; refine A0 oK ?_
 refine A0 mV ?_
 refine aw_splitp (d := 32) (p := ¬ fewC l = true) rfl (by cases fewC l <;> rfl) (fun g32 => ?_) (fun g32 => ?_)
 ·
  refine A2 ?_; refine A2 ?_; refine A0 oK ?_; refine A0 mV ?_; refine A2 ?_; refine A2 ?_; refine A0 oK ?_; refine CN ?_; refine Ct ?_; refine CQR ?_; refine A0 mV ?_; refine A0 aV ?_; refine CN ?_
  exact aw_ret1 rfl rfl (ret_eq rfl rfl)
 ·
  refine A1 mV ?_; refine A1 oN ?_; refine A0 oK ?_; refine A0 mV ?_
  refine aw_splitp (d := 36) (p := ¬ fewC [b] = true) rfl (by cases fewC [b] <;> rfl) (fun g36 => ?_) (fun g36 => ?_)
  ·
   refine A2 ?_; refine A2 ?_; refine A0 oK ?_; refine CN ?_; refine Ct ?_; refine CQR ?_; refine A0 mV ?_; refine A0 aV ?_; refine CN ?_
   exact aw_ret1 rfl rfl (ret_eq rfl rfl)
  ·
   refine A1 mV ?_; refine A1 o_neq ?_; refine A0 oK ?_; refine CN ?_
   refine aw_ifc (p := ¬ (checkOf l).2 = 0) rfl (by simp [IntL.toI]) (fun ht39 => ?_) (fun ht39 => ?_)
   ·
    refine CQR ?_; refine A0 mV ?_; refine A0 aV ?_; refine CN ?_
    exact aw_ret1 rfl rfl (ret_eq rfl rfl)
   ·
    have hlen := fewC_len (Classical.not_not.1 g32)
    have hb1 : smallB b := (fewC_small (Classical.not_not.1 g36)).2 b (by simp)
    have hst := check_small hl
    have hsn := smallC_snoc hl (by omega) hb1
    have hs := checkOf_snoc (b := b) (Classical.not_not.1 ht39)
    refine CSQR ?_; refine A0 (oLs rfl rfl rfl ty_41) ?_; refine A0 (oLs rfl rfl rfl ty_37) ?_; refine A0 (oCl (push_ok (checkOf l).1 b hst hb1) rfl fn_18 ⟨(arg_v rfl), (arg_v rfl), trivial⟩) ?_; refine A0 mX ?_
    refine A0 (by first | exact g_x20 rfl rfl | exact g_x30 rfl rfl) ?_; refine A0 (by first | exact g_x21 rfl rfl | exact g_x31 rfl rfl) ?_; refine aw_alloc ze_41 rfl rfl rfl rfl ?_
    refine aw_store_b rfl rfl rfl rfl rfl (Lens.self _) ty_41 rfl ?_; refine A0 aV ?_; refine CNQ ?_
    refine aw_drawf 9 (.box 41 tipT zTip) [some 1, none, some 2, some 2, none, some 1, some 1, some 1, some 1000001, some 1000003, none, some 1] mixed (by decide +kernel) rfl ?_
    refine XKF.g rfl (g_mv (.inl rfl) rfl) (g_mv (.inl rfl) rfl) rfl rfl rfl rfl ?_
    refine XKF.e rfl (fun fr' hfr kk H => by exact aw_append0 rfl rfl rfl rfl rfl ((hfr 48 (by decide +kernel)).trans rfl) row_22 (by first | omega | (simp; omega)) (aw_nil H)) (EffA.conv (fun fr' hfr kk H => by exact aw_append0 rfl rfl rfl rfl rfl ((hfr 48 (by decide +kernel)).trans rfl) row_22 (by first | omega | (simp; omega)) (aw_nil H)) (by first | exact hp_out rfl | exact hp_out2 rfl rfl | exact hp_out3 rfl rfl rfl | rfl)) (by exact rfl) (by exact rfl) (by exact rfl) (by (repeat refine av_set ?_ rfl); exact fun _ _ => rfl) ?_
    refine XKF.gb (t := 3) rfl rfl rfl (fun _ he => g_load_b rfl rfl he (Lens.self _) ty_37) rfl rfl rfl ⟨hpB rfl rfl, hpB rfl rfl, trivial⟩ rfl rfl rfl ?_
    refine XKF.ga rfl (fun _ => g_bslice (T := blockT) (xs := [_]) rfl sl_22 row_22 ⟨rfl, rfl, trivial⟩ rfl rfl) rfl rfl rfl rfl ?_
    refine XKF.e rfl (fun fr' hfr kk H => by exact aw_append rfl rfl rfl rfl ((hfr 49 (by decide +kernel)).trans rfl) rfl ((hfr 51 (by decide +kernel)).trans rfl) row_22 (by first | omega | (simp; omega)) (aw_nil H)) (EffA.conv (fun fr' hfr kk H => by exact aw_append rfl rfl rfl rfl ((hfr 49 (by decide +kernel)).trans rfl) rfl ((hfr 51 (by decide +kernel)).trans rfl) row_22 (by first | omega | (simp; omega)) (aw_nil H)) (by first | exact hp_out rfl | exact hp_out2 rfl rfl | exact hp_out3 rfl rfl rfl | rfl)) (by exact rfl) (by exact rfl) (by exact rfl) (by (repeat refine av_set ?_ rfl); exact fun _ _ => rfl) ?_
    refine XKF.g rfl (g_call (check_ok (l ++ [b]) hsn) rfl fn_13 ⟨(arg_own rfl rfl), trivial⟩ rfl) (g_call (check_ok (l ++ [b]) hsn) rfl fn_13 ⟨(arg_own rfl rfl), trivial⟩ rfl) rfl rfl rfl rfl ?_
    refine XKF.g rfl (by first | exact g_mv (.inl rfl) rfl | exact g_mp (.inl rfl) rfl | exact g_mo (.inl rfl) rfl | exact g_ml (.inl rfl) rfl | exact g_mc (.inl rfl) rfl | exact g_mr (.inl rfl) rfl | exact g_mf1 (.inl rfl) rfl | exact g_mf2 (.inl rfl) rfl | exact g_mw (.inl rfl) rfl | exact g_me (.inl rfl) rfl | exact g_ms (.inl rfl) rfl | exact g_mt2 (.inl rfl) rfl | exact g_mt3 (.inl rfl) rfl | exact g_mi (.inl rfl) rfl) (by first | exact g_mv (.inl rfl) rfl | exact g_mp (.inl rfl) rfl | exact g_mo (.inl rfl) rfl | exact g_ml (.inl rfl) rfl | exact g_mc (.inl rfl) rfl | exact g_mr (.inl rfl) rfl | exact g_mf1 (.inl rfl) rfl | exact g_mf2 (.inl rfl) rfl | exact g_mw (.inl rfl) rfl | exact g_me (.inl rfl) rfl | exact g_ms (.inl rfl) rfl | exact g_mt2 (.inl rfl) rfl | exact g_mt3 (.inl rfl) rfl | exact g_mi (.inl rfl) rfl) rfl rfl rfl rfl ?_
    refine XKF.g rfl (by first | exact g_x20 rfl rfl | exact g_x30 rfl rfl) (by first | exact g_x20 rfl rfl | exact g_x30 rfl rfl) rfl rfl rfl rfl ?_
    refine XKF.ga rfl (fun _ => by first | exact g_x21 rfl rfl | exact g_x31 rfl rfl) rfl rfl rfl rfl ?_; refine XKF.f rfl ze_41 rfl rfl rfl rfl rfl rfl ?_
    refine XKF.ew (x := .idk) rfl (by decide +kernel) (fun fr' hfr kk H => by exact aw_store_b rfl rfl rfl ((hfr 12 (by decide +kernel)).trans rfl) rfl (Lens.self _) ty_41 ((hfr 54 (by decide +kernel)).trans rfl) (aw_nil H)) (by exact rfl) (by (repeat refine av_set ?_ rfl); exact fun _ _ => rfl) ?_
    refine XKF.gw rfl (by decide +kernel) (g_mv (.inr rfl) rfl) rfl rfl rfl ?_; refine XKF.nilp trivial ?_; refine CQR ?_; refine A0 (oLs rfl rfl rfl ty_41) ?_; refine A0 (oLs rfl rfl rfl ty_41) ?_
    refine A0 (oCl (refTips_ok _ _) rfl fn_19 ⟨(arg_v rfl), (arg_v rfl), trivial⟩) ?_; refine A0 aV ?_; refine CNQR ?_; refine A0 mV ?_; refine A0 mV ?_; refine A0 o_eql ?_; refine A0 mV ?_
    refine aw_ist (d := 62) rfl (by rw [hs]; simp only [IntL.toI, id_eq]; rw [decide_eq_true_eq]; split <;> first | rfl | assumption) ?_; refine A1 mV ?_; refine A1 o_neq ?_; refine A1 mV ?_
    refine aw_splitp (d := 65) (p := ¬ pushE (checkOf l).1 b = 0) rfl (by simp [IntL.toI]) (fun g65 => ?_) (fun g65 => ?_)
    ·
     refine A2 ?_; refine A1 oK ?_; refine A0 oK ?_; refine A0 aV ?_; refine CN ?_
     exact aw_ret1 rfl rfl (ret_eq rfl rfl)
    ·
     refine A1 mV ?_; refine A1 oK ?_; refine A0 oK ?_; refine A0 aV ?_; refine CN ?_
     exact aw_ret1 rfl rfl (ret_eq rfl (decide_eq_true (by rw [hs, if_pos (Classical.not_not.1 g65)])))
end Go.Proofs.YtfepfajcdkllfaaGreat
