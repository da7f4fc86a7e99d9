/- SampleTwo: for every input the law returns true, and each argument reads behind the call as it read before. No condition. -/
import Derived.Test.YtdakocblfaojnaaGreatRows
import Derived.Test.YtdakocblfaojnaaGreatK6
set_option maxRecDepth 100000
namespace Go.Proofs.YtdakocblfaojnaaGreat
set_option linter.unusedVariables false
set_option linter.unusedSimpArgs false
open Go.Ab Go.RowKit
theorem op_3 : Opens P 3 i64T KT := op_int ui_3
theorem own_SampleTwo : ownKnob Tryz.prog.godebug = none := by kernel_rfl
theorem laid_SampleTwo : laidOutB Tryz.prog = true := by kernel_rfl
theorem tells_SampleTwo (As : List AV) (h : Shape [⟨i64T, KT⟩, ⟨i64T, KT⟩] As) : Tells P 8 As (.val boolT true) := by
  match As, h with
  | [A0, A1], ⟨⟨x0, h0, k0⟩, ⟨x1, h1, k1⟩, _⟩ => subst h0; subst h1; exact SampleTwo_ok x0 x1
theorem lifted_SampleTwo (os : Os) (started : os.Started) (H : Type) (enc : TypeId × Value → H) : ReturnsInHanded {} Tryz.checked os 8 .any (Rows.sampleTwoSpec.pre6 enc Tryz.prog Tryz.f8 Rows.sampleTwoRow.domain false) (Rows.sampleTwoSpec.post enc Tryz.prog Tryz.f8 false true false false) :=
  law_handed (C := Tryz.checked) (Gs := [⟨i64T, KT⟩, ⟨i64T, KT⟩]) own_SampleTwo started (by kernel_rfl) Tryz.func8
    (ChangeSpec.witness6 (enc := enc) (C := Tryz.checked) false ⟨#[], #[.int .i64 0, .int .i64 0], []⟩ 12 (by kernel_rfl) (by kernel_rfl) (by kernel_rfl) (by kernel_rfl))
    rfl laid_SampleTwo (by intro t ht; simp only [Tryz.params8, List.mem_cons, List.not_mem_nil, or_false] at ht; rcases ht with rfl | rfl <;> exact ⟨by kernel_rfl, of_decide_eq_true (by kernel_rfl)⟩)
    (show OpensAll P [3, 3] [⟨i64T, KT⟩, ⟨i64T, KT⟩] from ⟨op_3, ty_3, op_3, ty_3, trivial⟩) rfl Tryz.underlying4 (fun ds hl => by
      match ds, hl with
      | [d0, d1], _ => rfl) tells_SampleTwo
theorem SampleTwo_said : Rows.SampleTwoSaid :=
  OpenClaim.holds_of_wide 8 Tryz.f8 rfl rfl rfl rfl rfl rfl rfl ⟨rfl, rfl, rfl, rfl, rfl⟩ rfl rfl rfl rfl rfl (by kernel_rfl) Tryz.func8 (by kernel_rfl)
    (of_decide_eq_true (by kernel_rfl)) (by unfold Func.isWrapper; first | (rw [if_pos (by decide +kernel)]; kernel_rfl) | (rw [if_neg (by decide +kernel)]; exact ⟨rfl, rfl⟩))
    (fun os started H enc _ => lifted_SampleTwo os started H enc)
#print axioms SampleTwo_said
end Go.Proofs.YtdakocblfaojnaaGreat
