/- ProofCut: for every input the law returns true, and each argument reads behind the call as it read before. No condition. -/
import Derived.Test.YtjjlfapfjjkomaaGreatRows
import Derived.Test.YtjjlfapfjjkomaaGreatK7
set_option maxRecDepth 100000
namespace Go.Proofs.YtjjlfapfjjkomaaGreat
set_option linter.unusedVariables false
set_option linter.unusedSimpArgs false
open Go.Ab Go.RowKit
theorem op_3 : Opens P 3 i64T KT := op_int ui_3
theorem op_5 : Opens P 5 u8T KT := op_u8 ui_5
theorem zbp : Opens P 46 idT KT := op_arr op_5 zdp zI
theorem op_47 : Opens P 47 u64T KT := op_u64 ui_47
theorem op_49 : Opens P 49 wideT KT := op_arr op_47 za1 zam
theorem op_50 : Opens P 50 u32T KT := op_u32 ui_50
theorem op_52 : Opens P 52 headT KT := zW Head.mk_ (fun _ => rfl) (by kernel_rfl) zav (zl zbh ty_3 op_3 rfl (zl zdv zI zbp rfl (zl zcX zI zbp rfl (zl zd9 zI zbp rfl (zl zd8 zI zbp rfl (zl zex zam op_49 rfl (zl zbM zbe op_50 rfl (zac zcW zbi op_47)))))))) (fun _ _ => trivial)
theorem op_53 : Opens P 53 (sl idT) (KAll 32 KT) := zad zbp zcM (by kernel_rfl)
theorem op_55 : Opens P 55 partT KT := zW Part.mk_ (fun _ => rfl) (by kernel_rfl) ty_55 (zl zbL zav op_52 rfl (zac zck zbI op_53)) (fun _ _ => trivial)
theorem op_23 : Opens P 23 (sl partT) (KAll 208 KT) := zad op_55 za9 (by kernel_rfl)
theorem op_25 : Opens P 25 proofT KT := zW Proof.mk_ (fun _ => rfl) (by kernel_rfl) zaH (zl zcZ ty_3 op_3 rfl (zl zcY ty_3 op_3 rfl (zac zax zcv op_23))) (fun _ _ => trivial)
theorem op_26 : Opens P 26 (sl u8T) (KAll 1 KT) := zad op_5 zar (by kernel_rfl)
theorem own_ProofCut : ownKnob Tryz.prog.godebug = none := by kernel_rfl
theorem laid_ProofCut : laidOutB Tryz.prog = true := by kernel_rfl
theorem tells_ProofCut (As : List AV) (h : Shape [⟨proofT, KT⟩, ⟨i64T, KT⟩, ⟨(sl u8T), (KAll 1 KT)⟩] As) : Tells P 7 As (.val boolT true) := by
  match As, h with
  | [A0, A1, A2], ⟨⟨x0, h0, k0⟩, ⟨x1, h1, k1⟩, ⟨x2, h2, k2⟩, _⟩ => subst h0; subst h1; subst h2; exact ProofCut_ok x0 x1 x2
theorem lifted_ProofCut (os : Os) (started : os.Started) (H : Type) (enc : TypeId × Value → H) : ReturnsInHanded {} Tryz.checked os 7 .any (Rows.proofCutSpec.pre6 enc Tryz.prog Tryz.f7 Rows.proofCutRow.domain false) (Rows.proofCutSpec.post enc Tryz.prog Tryz.f7 false true false false) :=
  zdR (C := Tryz.checked) (Gs := [⟨proofT, KT⟩, ⟨i64T, KT⟩, ⟨(sl u8T), (KAll 1 KT)⟩]) own_ProofCut started (by kernel_rfl) Tryz.func7
    (ChangeSpec.witness6 (enc := enc) (C := Tryz.checked) false ⟨#[], #[.agg #[.int .i64 0, .int .i64 0, .slice none 0 0], .int .i64 0, .slice none 0 0], []⟩ 12 (by kernel_rfl) (by kernel_rfl) (by kernel_rfl) (by kernel_rfl))
    rfl laid_ProofCut (by intro t ht; simp only [Tryz.params7, List.mem_cons, List.not_mem_nil, or_false] at ht; rcases ht with rfl | rfl | rfl <;> exact ⟨by kernel_rfl, of_decide_eq_true (by kernel_rfl)⟩)
    (show OpensAll P [25, 3, 26] [⟨proofT, KT⟩, ⟨i64T, KT⟩, ⟨(sl u8T), (KAll 1 KT)⟩] from ⟨op_25, zaH, op_3, ty_3, op_26, zc6, trivial⟩) rfl Tryz.underlying4 (fun ds hl => by
      match ds, hl with
      | [d0, d1, d2], _ => rfl) tells_ProofCut
theorem nm_ProofCut : Tryz.pinned.checked.prog.funcNamed Rows.proofCutRow.func = some 7 := by kernel_rfl
theorem j0_ProofCut : (Rows.proofCutRow.inPlace == Tryz.pinned.checked.prog.inPlace 7) = true := by kernel_rfl
theorem j1_ProofCut : (Rows.proofCutRow.unfollowed == Tryz.pinned.checked.prog.unfollowed 7) = true := by kernel_rfl
theorem j2_ProofCut : (Rows.proofCutRow.recurses == Tryz.pinned.checked.prog.recurses 7) = true := by kernel_rfl
theorem j3_ProofCut : (Rows.proofCutRow.named == Tryz.pinned.checked.prog.varsNamed 7) = true := by kernel_rfl
theorem jf_ProofCut : joinedFacts Tryz.pinned.checked.prog 7 Tryz.f7 Rows.proofCutSpec Rows.proofCutRow = true := by
  unfold joinedFacts; rw [j0_ProofCut, j1_ProofCut, j2_ProofCut, j3_ProofCut]; kernel_rfl
theorem ProofCut_said : Rows.ProofCutSaid :=
  OpenClaim.holds_of_wide 7 Tryz.f7 rfl rfl rfl rfl rfl rfl rfl ⟨rfl, rfl, rfl, rfl, rfl⟩ rfl rfl rfl rfl rfl nm_ProofCut Tryz.func7 jf_ProofCut
    (of_decide_eq_true (by kernel_rfl)) (by unfold Func.isWrapper; first | (rw [if_pos (by decide +kernel)]; kernel_rfl) | (rw [if_neg (by decide +kernel)]; exact ⟨rfl, rfl⟩))
    (fun os started H enc _ => lifted_ProofCut os started H enc)
#print axioms ProofCut_said
end Go.Proofs.YtjjlfapfjjkomaaGreat
