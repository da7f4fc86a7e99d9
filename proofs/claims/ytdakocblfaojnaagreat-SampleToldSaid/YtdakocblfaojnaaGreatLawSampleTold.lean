/- SampleTold: for every input the law returns true, and each argument reads behind the call as it read before. No condition. -/
import Derived.Test.YtdakocblfaojnaaGreatRows
import Derived.Test.YtdakocblfaojnaaGreatK6
set_option maxRecDepth 100000
namespace Go.Proofs.YtdakocblfaojnaaGreat
set_option linter.unusedVariables false
set_option linter.unusedSimpArgs false
open Go.Ab Go.RowKit
theorem op_3 : Opens P 3 i64T KT := op_int ui_3
theorem op_5 : Opens P 5 u8T KT := op_u8 ui_5
theorem op_26 : Opens P 26 idT KT := op_arr op_5 ar_26 ty_26
theorem op_27 : Opens P 27 u64T KT := op_u64 ui_27
theorem op_29 : Opens P 29 wideT KT := op_arr op_27 ar_29 ty_29
theorem op_30 : Opens P 30 u32T KT := op_u32 ui_30
theorem op_32 : Opens P 32 headT KT := op_struct Head.mk_ (fun _ => rfl) (by kernel_rfl) ty_32 (opf_cons fd_32_0 ty_3 op_3 rfl (opf_cons fd_32_1 ty_26 op_26 rfl (opf_cons fd_32_2 ty_26 op_26 rfl (opf_cons fd_32_3 ty_26 op_26 rfl (opf_cons fd_32_4 ty_26 op_26 rfl (opf_cons fd_32_5 ty_29 op_29 rfl (opf_cons fd_32_6 ty_30 op_30 rfl (opf_last fd_32_7 ty_27 op_27)))))))) (fun _ _ => trivial)
theorem op_53 : Opens P 53 totalT KT := op_struct Total.mk_ (fun _ => rfl) (by kernel_rfl) ty_53 (opf_cons fd_53_0 ty_26 op_26 rfl (opf_cons fd_53_1 ty_29 op_29 rfl (opf_last fd_53_2 ty_3 op_3))) (fun _ _ => trivial)
theorem op_49 : Opens P 49 (sl totalT) (KAll 72 KT) := op_slice op_53 sl_49 (by kernel_rfl)
theorem op_51 : Opens P 51 sampleT KT := op_struct Sample.mk_ (fun _ => rfl) (by kernel_rfl) ty_51 (opf_cons fd_51_0 ty_3 op_3 rfl (opf_cons fd_51_1 ty_32 op_32 rfl (opf_last fd_51_2 ty_49 op_49))) (fun _ _ => trivial)
theorem op_33 : Opens P 33 (sl sampleT) (KAll 216 KT) := op_slice op_51 sl_33 (by kernel_rfl)
theorem op_35 : Opens P 35 samplingT KT := op_struct Sampling.mk_ (fun _ => rfl) (by kernel_rfl) ty_35 (opf_cons fd_35_0 ty_32 op_32 rfl (opf_last fd_35_1 ty_33 op_33)) (fun _ _ => trivial)
theorem own_SampleTold : ownKnob Tryz.prog.godebug = none := by kernel_rfl
theorem laid_SampleTold : laidOutB Tryz.prog = true := by kernel_rfl
theorem tells_SampleTold (As : List AV) (h : Shape [⟨samplingT, KT⟩, ⟨i64T, KT⟩, ⟨i64T, KT⟩, ⟨i64T, KT⟩] As) : Tells P 7 As (.val boolT true) := by
  match As, h with
  | [A0, A1, A2, A3], ⟨⟨x0, h0, k0⟩, ⟨x1, h1, k1⟩, ⟨x2, h2, k2⟩, ⟨x3, h3, k3⟩, _⟩ => subst h0; subst h1; subst h2; subst h3; exact SampleTold_ok x0 x1 x2 x3
theorem lifted_SampleTold (os : Os) (started : os.Started) (H : Type) (enc : TypeId × Value → H) : ReturnsInHanded {} Tryz.checked os 7 .any (Rows.sampleToldSpec.pre6 enc Tryz.prog Tryz.f7 Rows.sampleToldRow.domain false) (Rows.sampleToldSpec.post enc Tryz.prog Tryz.f7 false true false false) :=
  law_handed (C := Tryz.checked) (Gs := [⟨samplingT, KT⟩, ⟨i64T, KT⟩, ⟨i64T, KT⟩, ⟨i64T, KT⟩]) own_SampleTold started (by kernel_rfl) Tryz.func7
    (ChangeSpec.witness6 (enc := enc) (C := Tryz.checked) false ⟨#[], #[.agg #[.int .i64 0, .int .u8 0, .int .u8 0, .int .u8 0, .int .u8 0, .int .u8 0, .int .u8 0, .int .u8 0, .int .u8 0, .int .u8 0, .int .u8 0, .int .u8 0, .int .u8 0, .int .u8 0, .int .u8 0, .int .u8 0, .int .u8 0, .int .u8 0, .int .u8 0, .int .u8 0, .int .u8 0, .int .u8 0, .int .u8 0, .int .u8 0, .int .u8 0, .int .u8 0, .int .u8 0, .int .u8 0, .int .u8 0, .int .u8 0, .int .u8 0, .int .u8 0, .int .u8 0, .int .u8 0, .int .u8 0, .int .u8 0, .int .u8 0, .int .u8 0, .int .u8 0, .int .u8 0, .int .u8 0, .int .u8 0, .int .u8 0, .int .u8 0, .int .u8 0, .int .u8 0, .int .u8 0, .int .u8 0, .int .u8 0, .int .u8 0, .int .u8 0, .int .u8 0, .int .u8 0, .int .u8 0, .int .u8 0, .int .u8 0, .int .u8 0, .int .u8 0, .int .u8 0, .int .u8 0, .int .u8 0, .int .u8 0, .int .u8 0, .int .u8 0, .int .u8 0, .int .u8 0, .int .u8 0, .int .u8 0, .int .u8 0, .int .u8 0, .int .u8 0, .int .u8 0, .int .u8 0, .int .u8 0, .int .u8 0, .int .u8 0, .int .u8 0, .int .u8 0, .int .u8 0, .int .u8 0, .int .u8 0, .int .u8 0, .int .u8 0, .int .u8 0, .int .u8 0, .int .u8 0, .int .u8 0, .int .u8 0, .int .u8 0, .int .u8 0, .int .u8 0, .int .u8 0, .int .u8 0, .int .u8 0, .int .u8 0, .int .u8 0, .int .u8 0, .int .u8 0, .int .u8 0, .int .u8 0, .int .u8 0, .int .u8 0, .int .u8 0, .int .u8 0, .int .u8 0, .int .u8 0, .int .u8 0, .int .u8 0, .int .u8 0, .int .u8 0, .int .u8 0, .int .u8 0, .int .u8 0, .int .u8 0, .int .u8 0, .int .u8 0, .int .u8 0, .int .u8 0, .int .u8 0, .int .u8 0, .int .u8 0, .int .u8 0, .int .u8 0, .int .u8 0, .int .u8 0, .int .u8 0, .int .u8 0, .int .u8 0, .int .u8 0, .int .u64 0, .int .u64 0, .int .u64 0, .int .u64 0, .int .u32 0, .int .u64 0, .slice none 0 0], .int .i64 0, .int .i64 0, .int .i64 0], []⟩ 12 (by kernel_rfl) (by kernel_rfl) (by kernel_rfl) (by kernel_rfl))
    rfl laid_SampleTold (by intro t ht; simp only [Tryz.params7, List.mem_cons, List.not_mem_nil, or_false] at ht; rcases ht with rfl | rfl | rfl | rfl <;> exact ⟨by kernel_rfl, of_decide_eq_true (by kernel_rfl)⟩)
    (show OpensAll P [35, 3, 3, 3] [⟨samplingT, KT⟩, ⟨i64T, KT⟩, ⟨i64T, KT⟩, ⟨i64T, KT⟩] from ⟨op_35, ty_35, op_3, ty_3, op_3, ty_3, op_3, ty_3, trivial⟩) rfl Tryz.underlying4 (fun ds hl => by
      match ds, hl with
      | [d0, d1, d2, d3], _ => rfl) tells_SampleTold
theorem SampleTold_said : Rows.SampleToldSaid :=
  OpenClaim.holds_of_wide 7 Tryz.f7 rfl rfl rfl rfl rfl rfl rfl ⟨rfl, rfl, rfl, rfl, rfl⟩ rfl rfl rfl rfl rfl (by kernel_rfl) Tryz.func7 (by kernel_rfl)
    (of_decide_eq_true (by kernel_rfl)) (by unfold Func.isWrapper; first | (rw [if_pos (by decide +kernel)]; kernel_rfl) | (rw [if_neg (by decide +kernel)]; exact ⟨rfl, rfl⟩))
    (fun os started H enc _ => lifted_SampleTold os started H enc)
#print axioms SampleTold_said
end Go.Proofs.YtdakocblfaojnaaGreat
