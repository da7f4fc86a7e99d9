/- SampleHolds: for every input the law returns true, and each argument reads behind the call as it read before. No condition. -/
import Derived.Test.YtdakocblfaojnaaGreatRows
import Derived.Test.YtdakocblfaojnaaGreatK6
set_option maxRecDepth 100000
namespace Go.Proofs.YtdakocblfaojnaaGreat
set_option linter.unusedVariables false
set_option linter.unusedSimpArgs false
open Go.Ab Go.RowKit
theorem op_3 : Opens P 3 i64T KT := op_int ui_3
theorem op_5 : Opens P 5 u8T KT := op_u8 ui_5
theorem op_26 : Opens P 26 idT KT := op_arr op_5 ar_26 ty_26
theorem op_27 : Opens P 27 u64T KT := op_u64 ui_27
theorem op_29 : Opens P 29 wideT KT := op_arr op_27 ar_29 ty_29
theorem op_30 : Opens P 30 u32T KT := op_u32 ui_30
theorem op_32 : Opens P 32 headT KT := op_struct Head.mk_ (fun _ => rfl) (by kernel_rfl) ty_32 (opf_cons fd_32_0 ty_3 op_3 rfl (opf_cons fd_32_1 ty_26 op_26 rfl (opf_cons fd_32_2 ty_26 op_26 rfl (opf_cons fd_32_3 ty_26 op_26 rfl (opf_cons fd_32_4 ty_26 op_26 rfl (opf_cons fd_32_5 ty_29 op_29 rfl (opf_cons fd_32_6 ty_30 op_30 rfl (opf_last fd_32_7 ty_27 op_27)))))))) (fun _ _ => trivial)
theorem op_40 : Opens P 40 (sl idT) (KAll 32 KT) := op_slice op_26 sl_40 (by kernel_rfl)
theorem op_178 : Opens P 178 inT KT := op_struct In.mk_ (fun _ => rfl) (by kernel_rfl) ty_178 (opf_cons fd_178_0 ty_26 op_26 rfl (opf_last fd_178_1 ty_3 op_3)) (fun _ _ => trivial)
theorem op_113 : Opens P 113 (sl inT) (KAll 40 KT) := op_slice op_178 sl_113 (by kernel_rfl)
theorem op_181 : Opens P 181 outT KT := op_struct Out.mk_ (fun _ => rfl) (by kernel_rfl) ty_181 (opf_cons fd_181_0 ty_3 op_3 rfl (opf_last fd_181_1 ty_3 op_3)) (fun _ _ => trivial)
theorem op_114 : Opens P 114 (sl outT) (KAll 16 KT) := op_slice op_181 sl_114 (by kernel_rfl)
theorem op_116 : Opens P 116 txT KT := op_struct Tx.mk_ (fun _ => rfl) (by kernel_rfl) ty_116 (opf_cons fd_116_0 ty_113 op_113 rfl (opf_last fd_116_1 ty_114 op_114)) (fun _ _ => trivial)
theorem op_41 : Opens P 41 (sl txT) (KAll 48 KT) := op_slice op_116 sl_41 (by kernel_rfl)
theorem op_43 : Opens P 43 blockT KT := op_struct Block.mk_ (fun _ => rfl) (by kernel_rfl) ty_43 (opf_cons fd_43_0 ty_32 op_32 rfl (opf_cons fd_43_1 ty_40 op_40 rfl (opf_last fd_43_2 ty_41 op_41))) (fun _ _ => trivial)
theorem op_22 : Opens P 22 (sl blockT) (KAll 232 KT) := op_slice op_43 sl_22 (by kernel_rfl)
theorem own_SampleHolds : ownKnob Tryz.prog.godebug = none := by kernel_rfl
theorem laid_SampleHolds : laidOutB Tryz.prog = true := by kernel_rfl
theorem tells_SampleHolds (As : List AV) (h : Shape [⟨(sl blockT), (KAll 232 KT)⟩, ⟨i64T, KT⟩, ⟨i64T, KT⟩] As) : Tells P 3 As (.val boolT true) := by
  match As, h with
  | [A0, A1, A2], ⟨⟨x0, h0, k0⟩, ⟨x1, h1, k1⟩, ⟨x2, h2, k2⟩, _⟩ => subst h0; subst h1; subst h2; exact SampleHolds_ok x0 x1 x2
theorem lifted_SampleHolds (os : Os) (started : os.Started) (H : Type) (enc : TypeId × Value → H) : ReturnsInHanded {} Tryz.checked os 3 .any (Rows.sampleHoldsSpec.pre6 enc Tryz.prog Tryz.f3 Rows.sampleHoldsRow.domain false) (Rows.sampleHoldsSpec.post enc Tryz.prog Tryz.f3 false true false false) :=
  law_handed (C := Tryz.checked) (Gs := [⟨(sl blockT), (KAll 232 KT)⟩, ⟨i64T, KT⟩, ⟨i64T, KT⟩]) own_SampleHolds started (by kernel_rfl) Tryz.func3
    (ChangeSpec.witness6 (enc := enc) (C := Tryz.checked) false ⟨#[], #[.slice none 0 0, .int .i64 0, .int .i64 0], []⟩ 12 (by kernel_rfl) (by kernel_rfl) (by kernel_rfl) (by kernel_rfl))
    rfl laid_SampleHolds (by intro t ht; simp only [Tryz.params3, List.mem_cons, List.not_mem_nil, or_false] at ht; rcases ht with rfl | rfl | rfl <;> exact ⟨by kernel_rfl, of_decide_eq_true (by kernel_rfl)⟩)
    (show OpensAll P [22, 3, 3] [⟨(sl blockT), (KAll 232 KT)⟩, ⟨i64T, KT⟩, ⟨i64T, KT⟩] from ⟨op_22, ty_22, op_3, ty_3, op_3, ty_3, trivial⟩) rfl Tryz.underlying4 (fun ds hl => by
      match ds, hl with
      | [d0, d1, d2], _ => rfl) tells_SampleHolds
theorem SampleHolds_said : Rows.SampleHoldsSaid :=
  OpenClaim.holds_of_wide 3 Tryz.f3 rfl rfl rfl rfl rfl rfl rfl ⟨rfl, rfl, rfl, rfl, rfl⟩ rfl rfl rfl rfl rfl (by kernel_rfl) Tryz.func3 (by kernel_rfl)
    (of_decide_eq_true (by kernel_rfl)) (by unfold Func.isWrapper; first | (rw [if_pos (by decide +kernel)]; kernel_rfl) | (rw [if_neg (by decide +kernel)]; exact ⟨rfl, rfl⟩))
    (fun os started H enc _ => lifted_SampleHolds os started H enc)
#print axioms SampleHolds_said
end Go.Proofs.YtdakocblfaojnaaGreat
