/- CheckOther: for every input the law returns true, and each argument reads behind the call as it read before. No condition. -/
import Derived.Test.YtjldddonpfopaaaGreatRows
import Derived.Test.YtjldddonpfopaaaGreatK6
set_option maxRecDepth 100000
namespace Go.Proofs.YtjldddonpfopaaaGreat
set_option linter.unusedVariables false
set_option linter.unusedSimpArgs false
open Go.Ab Go.RowKit
theorem op_3 : Opens P 3 i64T KT := op_int ui_3
theorem op_5 : Opens P 5 u8T KT := op_u8 ui_5
theorem op_32 : Opens P 32 idT KT := op_arr op_5 ar_32 ty_32
theorem op_33 : Opens P 33 u64T KT := op_u64 ui_33
theorem op_35 : Opens P 35 wideT KT := op_arr op_33 ar_35 ty_35
theorem op_36 : Opens P 36 u32T KT := op_u32 ui_36
theorem op_38 : Opens P 38 headT KT := op_struct Head.mk_ (fun _ => rfl) (by kernel_rfl) ty_38 (opf_cons fd_38_0 ty_3 op_3 rfl (opf_cons fd_38_1 ty_32 op_32 rfl (opf_cons fd_38_2 ty_32 op_32 rfl (opf_cons fd_38_3 ty_32 op_32 rfl (opf_cons fd_38_4 ty_32 op_32 rfl (opf_cons fd_38_5 ty_35 op_35 rfl (opf_cons fd_38_6 ty_36 op_36 rfl (opf_last fd_38_7 ty_33 op_33)))))))) (fun _ _ => trivial)
theorem op_39 : Opens P 39 (sl idT) (KAll 32 KT) := op_slice op_32 sl_39 (by kernel_rfl)
theorem op_41 : Opens P 41 partT KT := op_struct Part.mk_ (fun _ => rfl) (by kernel_rfl) ty_41 (opf_cons fd_41_0 ty_38 op_38 rfl (opf_last fd_41_1 ty_39 op_39)) (fun _ _ => trivial)
theorem op_22 : Opens P 22 (sl partT) (KAll 208 KT) := op_slice op_41 sl_22 (by kernel_rfl)
theorem op_24 : Opens P 24 proofT KT := op_struct Proof.mk_ (fun _ => rfl) (by kernel_rfl) ty_24 (opf_cons fd_24_0 ty_3 op_3 rfl (opf_cons fd_24_1 ty_3 op_3 rfl (opf_last fd_24_2 ty_22 op_22))) (fun _ _ => trivial)
theorem own_CheckOther : ownKnob Tryz.prog.godebug = none := by kernel_rfl
theorem laid_CheckOther : laidOutB Tryz.prog = true := by kernel_rfl
theorem tells_CheckOther (As : List AV) (h : Shape [⟨proofT, KT⟩, ⟨i64T, KT⟩, ⟨headT, KT⟩, ⟨i64T, KT⟩] As) : Tells P 5 As (.val boolT true) := by
  match As, h with
  | [A0, A1, A2, A3], ⟨⟨x0, h0, k0⟩, ⟨x1, h1, k1⟩, ⟨x2, h2, k2⟩, ⟨x3, h3, k3⟩, _⟩ => subst h0; subst h1; subst h2; subst h3; exact CheckOther_ok x0 x1 x2 x3
theorem lifted_CheckOther (os : Os) (started : os.Started) (H : Type) (enc : TypeId × Value → H) : ReturnsInHanded {} Tryz.checked os 5 .any (Rows.checkOtherSpec.pre6 enc Tryz.prog Tryz.f5 Rows.checkOtherRow.domain false) (Rows.checkOtherSpec.post enc Tryz.prog Tryz.f5 false true false false) :=
  law_handed (C := Tryz.checked) (Gs := [⟨proofT, KT⟩, ⟨i64T, KT⟩, ⟨headT, KT⟩, ⟨i64T, KT⟩]) own_CheckOther started (by kernel_rfl) Tryz.func5
    (ChangeSpec.witness6 (enc := enc) (C := Tryz.checked) false ⟨#[], #[.agg #[.int .i64 0, .int .i64 0, .slice none 0 0], .int .i64 0, .agg #[.int .i64 0, .int .u8 0, .int .u8 0, .int .u8 0, .int .u8 0, .int .u8 0, .int .u8 0, .int .u8 0, .int .u8 0, .int .u8 0, .int .u8 0, .int .u8 0, .int .u8 0, .int .u8 0, .int .u8 0, .int .u8 0, .int .u8 0, .int .u8 0, .int .u8 0, .int .u8 0, .int .u8 0, .int .u8 0, .int .u8 0, .int .u8 0, .int .u8 0, .int .u8 0, .int .u8 0, .int .u8 0, .int .u8 0, .int .u8 0, .int .u8 0, .int .u8 0, .int .u8 0, .int .u8 0, .int .u8 0, .int .u8 0, .int .u8 0, .int .u8 0, .int .u8 0, .int .u8 0, .int .u8 0, .int .u8 0, .int .u8 0, .int .u8 0, .int .u8 0, .int .u8 0, .int .u8 0, .int .u8 0, .int .u8 0, .int .u8 0, .int .u8 0, .int .u8 0, .int .u8 0, .int .u8 0, .int .u8 0, .int .u8 0, .int .u8 0, .int .u8 0, .int .u8 0, .int .u8 0, .int .u8 0, .int .u8 0, .int .u8 0, .int .u8 0, .int .u8 0, .int .u8 0, .int .u8 0, .int .u8 0, .int .u8 0, .int .u8 0, .int .u8 0, .int .u8 0, .int .u8 0, .int .u8 0, .int .u8 0, .int .u8 0, .int .u8 0, .int .u8 0, .int .u8 0, .int .u8 0, .int .u8 0, .int .u8 0, .int .u8 0, .int .u8 0, .int .u8 0, .int .u8 0, .int .u8 0, .int .u8 0, .int .u8 0, .int .u8 0, .int .u8 0, .int .u8 0, .int .u8 0, .int .u8 0, .int .u8 0, .int .u8 0, .int .u8 0, .int .u8 0, .int .u8 0, .int .u8 0, .int .u8 0, .int .u8 0, .int .u8 0, .int .u8 0, .int .u8 0, .int .u8 0, .int .u8 0, .int .u8 0, .int .u8 0, .int .u8 0, .int .u8 0, .int .u8 0, .int .u8 0, .int .u8 0, .int .u8 0, .int .u8 0, .int .u8 0, .int .u8 0, .int .u8 0, .int .u8 0, .int .u8 0, .int .u8 0, .int .u8 0, .int .u8 0, .int .u8 0, .int .u8 0, .int .u8 0, .int .u8 0, .int .u8 0, .int .u64 0, .int .u64 0, .int .u64 0, .int .u64 0, .int .u32 0, .int .u64 0], .int .i64 0], []⟩ 12 (by kernel_rfl) (by kernel_rfl) (by kernel_rfl) (by kernel_rfl))
    rfl laid_CheckOther (by intro t ht; simp only [Tryz.params5, List.mem_cons, List.not_mem_nil, or_false] at ht; rcases ht with rfl | rfl | rfl | rfl <;> exact ⟨by kernel_rfl, of_decide_eq_true (by kernel_rfl)⟩)
    (show OpensAll P [24, 3, 38, 3] [⟨proofT, KT⟩, ⟨i64T, KT⟩, ⟨headT, KT⟩, ⟨i64T, KT⟩] from ⟨op_24, ty_24, op_3, ty_3, op_38, ty_38, op_3, ty_3, trivial⟩) rfl Tryz.underlying4 (fun ds hl => by
      match ds, hl with
      | [d0, d1, d2, d3], _ => rfl) tells_CheckOther
theorem CheckOther_said : Rows.CheckOtherSaid :=
  OpenClaim.holds_of_wide 5 Tryz.f5 rfl rfl rfl rfl rfl rfl rfl ⟨rfl, rfl, rfl, rfl, rfl⟩ rfl rfl rfl rfl rfl (by kernel_rfl) Tryz.func5 (by kernel_rfl)
    (of_decide_eq_true (by kernel_rfl)) (by unfold Func.isWrapper; first | (rw [if_pos (by decide +kernel)]; kernel_rfl) | (rw [if_neg (by decide +kernel)]; exact ⟨rfl, rfl⟩))
    (fun os started H enc _ => lifted_CheckOther os started H enc)
#print axioms CheckOther_said
end Go.Proofs.YtjldddonpfopaaaGreat
