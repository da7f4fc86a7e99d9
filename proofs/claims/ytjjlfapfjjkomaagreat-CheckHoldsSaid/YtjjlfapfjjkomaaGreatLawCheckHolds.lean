/- CheckHolds: for every input the law returns true, and each argument reads behind the call as it read before. No condition. -/
import Derived.Test.YtjjlfapfjjkomaaGreatRows
import Derived.Test.YtjjlfapfjjkomaaGreatK8
set_option maxRecDepth 100000
namespace Go.Proofs.YtjjlfapfjjkomaaGreat
set_option linter.unusedVariables false
set_option linter.unusedSimpArgs false
open Go.Ab Go.RowKit
theorem op_3 : Opens P 3 i64T KT := op_int ui_3
theorem op_5 : Opens P 5 u8T KT := op_u8 ui_5
theorem zbh : Opens P 46 idT KT := zeG op_5 zdb zG
theorem ze9 : Opens P 47 u64T KT := op_u64 ui_47
theorem op_49 : Opens P 49 wideT KT := zeG ze9 zbb zam
theorem op_50 : Opens P 50 u32T KT := op_u32 ui_50
theorem op_52 : Opens P 52 headT KT := zL Head.mk_ (fun _ => rfl) (by kernel_rfl) zal (zk zaU ty_3 op_3 rfl (zk zcF zG zbh rfl (zk zcE zG zbh rfl (zk zdS zG zbh rfl (zk zdR zG zbh rfl (zk zes zam op_49 rfl (zk zbw zbd op_50 rfl (z8 zcZ zbs ze9)))))))) (fun _ _ => trivial)
theorem op_53 : Opens P 53 (sl idT) (KAll 32 KT) := zab zbh zbW (by kernel_rfl)
theorem op_218 : Opens P 218 inT KT := zL In.mk_ (fun _ => rfl) (by kernel_rfl) zbC (zk zcx zG zbh rfl (z8 zby ty_3 op_3)) (fun _ _ => trivial)
theorem op_130 : Opens P 130 (sl inT) (KAll 40 KT) := zab op_218 ze6 (by kernel_rfl)
theorem op_221 : Opens P 221 outT KT := zL Out.mk_ (fun _ => rfl) (by kernel_rfl) zdV (zk zb0 ty_3 op_3 rfl (z8 zck ty_3 op_3)) (fun _ _ => trivial)
theorem op_131 : Opens P 131 (sl outT) (KAll 16 KT) := zab op_221 sl_131 (by kernel_rfl)
theorem op_133 : Opens P 133 txT smallTx := zL Tx.mk_ (fun _ => rfl) (by kernel_rfl) zdd (zk zbz zdW op_130 rfl (z8 zbM zek op_131)) (fun _ h => ⟨h.1.1, h.2.1⟩)
theorem op_56 : Opens P 56 (sl txT) (KAll 48 smallTx) := zab op_133 sl_56 (by kernel_rfl)
theorem op_58 : Opens P 58 blockT smallB := zL Block.mk_ (fun _ => rfl) (by kernel_rfl) zcn (zk zar zal op_52 rfl (zk zbH zbc op_53 rfl (z8 zb5 ty_56 op_56))) (fun _ h => ⟨h.2.1.1, h.2.2⟩)
theorem op_22 : Opens P 22 (sl blockT) (KAll 232 smallB) := zab op_58 zda (by kernel_rfl)
theorem own_CheckHolds : ownKnob Tryz.prog.godebug = none := by kernel_rfl
theorem laid_CheckHolds : laidOutB Tryz.prog = true := by kernel_rfl
theorem tells_CheckHolds (As : List AV) (h : Shape [⟨(sl blockT), (KAll 232 smallB)⟩, ⟨i64T, KT⟩, ⟨i64T, KT⟩, ⟨i64T, KT⟩] As) : Tells P 10 As (.val boolT true) := by
  match As, h with
  | [A0, A1, A2, A3], ⟨⟨x0, h0, k0⟩, ⟨x1, h1, k1⟩, ⟨x2, h2, k2⟩, ⟨x3, h3, k3⟩, _⟩ => subst h0; subst h1; subst h2; subst h3; exact CheckHolds_ok x0 x1 x2 x3 (k0)
theorem lifted_CheckHolds (os : Os) (started : os.Started) (H : Type) (enc : TypeId × Value → H) : ReturnsInHanded {} Tryz.checked os 10 .any (Rows.checkHoldsSpec.pre6 enc Tryz.prog Tryz.f10 Rows.checkHoldsRow.domain false) (Rows.checkHoldsSpec.post enc Tryz.prog Tryz.f10 false true false false) :=
  zdi (C := Tryz.checked) (Gs := [⟨(sl blockT), (KAll 232 smallB)⟩, ⟨i64T, KT⟩, ⟨i64T, KT⟩, ⟨i64T, KT⟩]) own_CheckHolds started (by kernel_rfl) Tryz.func10
    (ChangeSpec.witness6 (enc := enc) (C := Tryz.checked) false ⟨#[], #[.slice none 0 0, .int .i64 0, .int .i64 0, .int .i64 0], []⟩ 12 (by kernel_rfl) (by kernel_rfl) (by kernel_rfl) (by kernel_rfl))
    rfl laid_CheckHolds (by intro t ht; simp only [Tryz.params10, List.mem_cons, List.not_mem_nil, or_false] at ht; rcases ht with rfl | rfl | rfl | rfl <;> exact ⟨by kernel_rfl, of_decide_eq_true (by kernel_rfl)⟩)
    (show OpensAll P [22, 3, 3, 3] [⟨(sl blockT), (KAll 232 smallB)⟩, ⟨i64T, KT⟩, ⟨i64T, KT⟩, ⟨i64T, KT⟩] from ⟨op_22, ty_22, op_3, ty_3, op_3, ty_3, op_3, ty_3, trivial⟩) rfl Tryz.underlying4 (fun ds hl => by
      match ds, hl with
      | [d0, d1, d2, d3], _ => rfl) tells_CheckHolds
theorem nm_CheckHolds : Tryz.pinned.checked.prog.funcNamed Rows.checkHoldsRow.func = some 10 := by kernel_rfl
theorem j0_CheckHolds : (Rows.checkHoldsRow.inPlace == Tryz.pinned.checked.prog.inPlace 10) = true := by kernel_rfl
theorem j1_CheckHolds : (Rows.checkHoldsRow.unfollowed == Tryz.pinned.checked.prog.unfollowed 10) = true := by kernel_rfl
theorem j2_CheckHolds : (Rows.checkHoldsRow.recurses == Tryz.pinned.checked.prog.recurses 10) = true := by kernel_rfl
theorem j3_CheckHolds : (Rows.checkHoldsRow.named == Tryz.pinned.checked.prog.varsNamed 10) = true := by kernel_rfl
theorem jf_CheckHolds : joinedFacts Tryz.pinned.checked.prog 10 Tryz.f10 Rows.checkHoldsSpec Rows.checkHoldsRow = true := by
  unfold joinedFacts; rw [j0_CheckHolds, j1_CheckHolds, j2_CheckHolds, j3_CheckHolds]; kernel_rfl
theorem CheckHolds_said : Rows.CheckHoldsSaid :=
  OpenClaim.holds_of_wide 10 Tryz.f10 rfl rfl rfl rfl rfl rfl rfl ⟨rfl, rfl, rfl, rfl, rfl⟩ rfl rfl rfl rfl rfl nm_CheckHolds Tryz.func10 jf_CheckHolds
    (of_decide_eq_true (by kernel_rfl)) (by unfold Func.isWrapper; first | (rw [if_pos (by decide +kernel)]; kernel_rfl) | (rw [if_neg (by decide +kernel)]; exact ⟨rfl, rfl⟩))
    (fun os started H enc _ => lifted_CheckHolds os started H enc)
#print axioms CheckHolds_said
end Go.Proofs.YtjjlfapfjjkomaaGreat
