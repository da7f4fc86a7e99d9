/- SamplePicks: for every input the law returns true, and each argument reads behind the call as it read before. No condition. -/
import Derived.Test.YtdakocblfaojnaaGreatRows
import Derived.Test.YtdakocblfaojnaaGreatK6
set_option maxRecDepth 100000
namespace Go.Proofs.YtdakocblfaojnaaGreat
set_option linter.unusedVariables false
set_option linter.unusedSimpArgs false
open Go.Ab Go.RowKit
theorem op_5 : Opens P 5 u8T KT := op_u8 ui_5
theorem op_26 : Opens P 26 idT KT := op_arr op_5 ar_26 ty_26
theorem op_27 : Opens P 27 u64T KT := op_u64 ui_27
theorem op_29 : Opens P 29 wideT KT := op_arr op_27 ar_29 ty_29
theorem op_3 : Opens P 3 i64T KT := op_int ui_3
theorem op_53 : Opens P 53 totalT KT := op_struct Total.mk_ (fun _ => rfl) (by kernel_rfl) ty_53 (opf_cons fd_53_0 ty_26 op_26 rfl (opf_cons fd_53_1 ty_29 op_29 rfl (opf_last fd_53_2 ty_3 op_3))) (fun _ _ => trivial)
theorem op_49 : Opens P 49 (sl totalT) (KAll 72 KT) := op_slice op_53 sl_49 (by kernel_rfl)
theorem own_SamplePicks : ownKnob Tryz.prog.godebug = none := by kernel_rfl
theorem laid_SamplePicks : laidOutB Tryz.prog = true := by kernel_rfl
theorem tells_SamplePicks (As : List AV) (h : Shape [⟨idT, KT⟩, ⟨wideT, KT⟩, ⟨i64T, KT⟩, ⟨i64T, KT⟩, ⟨(sl totalT), (KAll 72 KT)⟩, ⟨wideT, KT⟩] As) : Tells P 6 As (.val boolT true) := by
  match As, h with
  | [A0, A1, A2, A3, A4, A5], ⟨⟨x0, h0, k0⟩, ⟨x1, h1, k1⟩, ⟨x2, h2, k2⟩, ⟨x3, h3, k3⟩, ⟨x4, h4, k4⟩, ⟨x5, h5, k5⟩, _⟩ => subst h0; subst h1; subst h2; subst h3; subst h4; subst h5; exact SamplePicks_ok x0 x1 x2 x3 x4 x5
theorem lifted_SamplePicks (os : Os) (started : os.Started) (H : Type) (enc : TypeId × Value → H) : ReturnsInHanded {} Tryz.checked os 6 .any (Rows.samplePicksSpec.pre6 enc Tryz.prog Tryz.f6 Rows.samplePicksRow.domain false) (Rows.samplePicksSpec.post enc Tryz.prog Tryz.f6 false true false false) :=
  law_handed (C := Tryz.checked) (Gs := [⟨idT, KT⟩, ⟨wideT, KT⟩, ⟨i64T, KT⟩, ⟨i64T, KT⟩, ⟨(sl totalT), (KAll 72 KT)⟩, ⟨wideT, KT⟩]) own_SamplePicks started (by kernel_rfl) Tryz.func6
    (ChangeSpec.witness6 (enc := enc) (C := Tryz.checked) false ⟨#[], #[.agg #[.int .u8 0, .int .u8 0, .int .u8 0, .int .u8 0, .int .u8 0, .int .u8 0, .int .u8 0, .int .u8 0, .int .u8 0, .int .u8 0, .int .u8 0, .int .u8 0, .int .u8 0, .int .u8 0, .int .u8 0, .int .u8 0, .int .u8 0, .int .u8 0, .int .u8 0, .int .u8 0, .int .u8 0, .int .u8 0, .int .u8 0, .int .u8 0, .int .u8 0, .int .u8 0, .int .u8 0, .int .u8 0, .int .u8 0, .int .u8 0, .int .u8 0, .int .u8 0], .agg #[.int .u64 0, .int .u64 0, .int .u64 0, .int .u64 0], .int .i64 0, .int .i64 0, .slice none 0 0, .agg #[.int .u64 0, .int .u64 0, .int .u64 0, .int .u64 0]], []⟩ 12 (by kernel_rfl) (by kernel_rfl) (by kernel_rfl) (by kernel_rfl))
    rfl laid_SamplePicks (by intro t ht; simp only [Tryz.params6, List.mem_cons, List.not_mem_nil, or_false] at ht; rcases ht with rfl | rfl | rfl | rfl | rfl | rfl <;> exact ⟨by kernel_rfl, of_decide_eq_true (by kernel_rfl)⟩)
    (show OpensAll P [26, 29, 3, 3, 49, 29] [⟨idT, KT⟩, ⟨wideT, KT⟩, ⟨i64T, KT⟩, ⟨i64T, KT⟩, ⟨(sl totalT), (KAll 72 KT)⟩, ⟨wideT, KT⟩] from ⟨op_26, ty_26, op_29, ty_29, op_3, ty_3, op_3, ty_3, op_49, ty_49, op_29, ty_29, trivial⟩) rfl Tryz.underlying4 (fun ds hl => by
      match ds, hl with
      | [d0, d1, d2, d3, d4, d5], _ => rfl) tells_SamplePicks
theorem SamplePicks_said : Rows.SamplePicksSaid :=
  OpenClaim.holds_of_wide 6 Tryz.f6 rfl rfl rfl rfl rfl rfl rfl ⟨rfl, rfl, rfl, rfl, rfl⟩ rfl rfl rfl rfl rfl (by kernel_rfl) Tryz.func6 (by kernel_rfl)
    (of_decide_eq_true (by kernel_rfl)) (by unfold Func.isWrapper; first | (rw [if_pos (by decide +kernel)]; kernel_rfl) | (rw [if_neg (by decide +kernel)]; exact ⟨rfl, rfl⟩))
    (fun os started H enc _ => lifted_SamplePicks os started H enc)
#print axioms SamplePicks_said
end Go.Proofs.YtdakocblfaojnaaGreat
