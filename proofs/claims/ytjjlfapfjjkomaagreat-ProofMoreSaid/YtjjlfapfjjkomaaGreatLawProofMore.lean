/- ProofMore: for every input the law returns true, and each argument reads behind the call as it read before. No condition. -/
import Derived.Test.YtjjlfapfjjkomaaGreatRows
import Derived.Test.YtjjlfapfjjkomaaGreatK7
set_option maxRecDepth 100000
namespace Go.Proofs.YtjjlfapfjjkomaaGreat
set_option linter.unusedVariables false
set_option linter.unusedSimpArgs false
open Go.Ab Go.RowKit
theorem op_3 : Opens P 3 i64T KT := op_int ui_3
theorem op_5 : Opens P 5 u8T KT := op_u8 ui_5
theorem zbp : Opens P 46 idT KT := op_arr op_5 zdp zI
theorem op_47 : Opens P 47 u64T KT := op_u64 ui_47
theorem op_49 : Opens P 49 wideT KT := op_arr op_47 za1 zam
theorem op_50 : Opens P 50 u32T KT := op_u32 ui_50
theorem op_52 : Opens P 52 headT KT := zW Head.mk_ (fun _ => rfl) (by kernel_rfl) zav (zl zbh ty_3 op_3 rfl (zl zdv zI zbp rfl (zl zcX zI zbp rfl (zl zd9 zI zbp rfl (zl zd8 zI zbp rfl (zl zex zam op_49 rfl (zl zbM zbe op_50 rfl (zac zcW zbi op_47)))))))) (fun _ _ => trivial)
theorem op_53 : Opens P 53 (sl idT) (KAll 32 KT) := zad zbp zcM (by kernel_rfl)
theorem op_218 : Opens P 218 inT KT := zW In.mk_ (fun _ => rfl) (by kernel_rfl) zbD (zl zcD zI zbp rfl (zac zbu ty_3 op_3)) (fun _ _ => trivial)
theorem op_130 : Opens P 130 (sl inT) (KAll 40 KT) := zad op_218 sl_130 (by kernel_rfl)
theorem op_221 : Opens P 221 outT KT := zW Out.mk_ (fun _ => rfl) (by kernel_rfl) zdY (zl zbX ty_3 op_3 rfl (zac zcg ty_3 op_3)) (fun _ _ => trivial)
theorem op_131 : Opens P 131 (sl outT) (KAll 16 KT) := zad op_221 sl_131 (by kernel_rfl)
theorem op_133 : Opens P 133 txT smallTx := zW Tx.mk_ (fun _ => rfl) (by kernel_rfl) zc7 (zl zbv zdZ op_130 rfl (zac zbG zek op_131)) (fun _ h => ⟨h.1.1, h.2.1⟩)
theorem op_56 : Opens P 56 (sl txT) (KAll 48 smallTx) := zad op_133 sl_56 (by kernel_rfl)
theorem op_58 : Opens P 58 blockT smallB := zW Block.mk_ (fun _ => rfl) (by kernel_rfl) zb5 (zl zaw zav op_52 rfl (zl zbt zbI op_53 rfl (zac zb4 ty_56 op_56))) (fun _ h => ⟨h.2.1.1, h.2.2⟩)
theorem op_22 : Opens P 22 (sl blockT) (KAll 232 smallB) := zad op_58 zc8 (by kernel_rfl)
theorem own_ProofMore : ownKnob Tryz.prog.godebug = none := by kernel_rfl
theorem laid_ProofMore : laidOutB Tryz.prog = true := by kernel_rfl
theorem tells_ProofMore (As : List AV) (h : Shape [⟨(sl blockT), (KAll 232 smallB)⟩, ⟨i64T, KT⟩, ⟨i64T, KT⟩, ⟨i64T, KT⟩] As) : Tells P 8 As (.val boolT true) := by
  match As, h with
  | [A0, A1, A2, A3], ⟨⟨x0, h0, k0⟩, ⟨x1, h1, k1⟩, ⟨x2, h2, k2⟩, ⟨x3, h3, k3⟩, _⟩ => subst h0; subst h1; subst h2; subst h3; exact ProofMore_ok x0 x1 x2 x3 (k0)
theorem lifted_ProofMore (os : Os) (started : os.Started) (H : Type) (enc : TypeId × Value → H) : ReturnsInHanded {} Tryz.checked os 8 .any (Rows.proofMoreSpec.pre6 enc Tryz.prog Tryz.f8 Rows.proofMoreRow.domain false) (Rows.proofMoreSpec.post enc Tryz.prog Tryz.f8 false true false false) :=
  zdR (C := Tryz.checked) (Gs := [⟨(sl blockT), (KAll 232 smallB)⟩, ⟨i64T, KT⟩, ⟨i64T, KT⟩, ⟨i64T, KT⟩]) own_ProofMore started (by kernel_rfl) Tryz.func8
    (ChangeSpec.witness6 (enc := enc) (C := Tryz.checked) false ⟨#[], #[.slice none 0 0, .int .i64 0, .int .i64 0, .int .i64 0], []⟩ 12 (by kernel_rfl) (by kernel_rfl) (by kernel_rfl) (by kernel_rfl))
    rfl laid_ProofMore (by intro t ht; simp only [Tryz.params8, List.mem_cons, List.not_mem_nil, or_false] at ht; rcases ht with rfl | rfl | rfl | rfl <;> exact ⟨by kernel_rfl, of_decide_eq_true (by kernel_rfl)⟩)
    (show OpensAll P [22, 3, 3, 3] [⟨(sl blockT), (KAll 232 smallB)⟩, ⟨i64T, KT⟩, ⟨i64T, KT⟩, ⟨i64T, KT⟩] from ⟨op_22, ty_22, op_3, ty_3, op_3, ty_3, op_3, ty_3, trivial⟩) rfl Tryz.underlying4 (fun ds hl => by
      match ds, hl with
      | [d0, d1, d2, d3], _ => rfl) tells_ProofMore
theorem nm_ProofMore : Tryz.pinned.checked.prog.funcNamed Rows.proofMoreRow.func = some 8 := by kernel_rfl
theorem j0_ProofMore : (Rows.proofMoreRow.inPlace == Tryz.pinned.checked.prog.inPlace 8) = true := by kernel_rfl
theorem j1_ProofMore : (Rows.proofMoreRow.unfollowed == Tryz.pinned.checked.prog.unfollowed 8) = true := by kernel_rfl
theorem j2_ProofMore : (Rows.proofMoreRow.recurses == Tryz.pinned.checked.prog.recurses 8) = true := by kernel_rfl
theorem j3_ProofMore : (Rows.proofMoreRow.named == Tryz.pinned.checked.prog.varsNamed 8) = true := by kernel_rfl
theorem jf_ProofMore : joinedFacts Tryz.pinned.checked.prog 8 Tryz.f8 Rows.proofMoreSpec Rows.proofMoreRow = true := by
  unfold joinedFacts; rw [j0_ProofMore, j1_ProofMore, j2_ProofMore, j3_ProofMore]; kernel_rfl
theorem ProofMore_said : Rows.ProofMoreSaid :=
  OpenClaim.holds_of_wide 8 Tryz.f8 rfl rfl rfl rfl rfl rfl rfl ⟨rfl, rfl, rfl, rfl, rfl⟩ rfl rfl rfl rfl rfl nm_ProofMore Tryz.func8 jf_ProofMore
    (of_decide_eq_true (by kernel_rfl)) (by unfold Func.isWrapper; first | (rw [if_pos (by decide +kernel)]; kernel_rfl) | (rw [if_neg (by decide +kernel)]; exact ⟨rfl, rfl⟩))
    (fun os started H enc _ => lifted_ProofMore os started H enc)
#print axioms ProofMore_said
end Go.Proofs.YtjjlfapfjjkomaaGreat
