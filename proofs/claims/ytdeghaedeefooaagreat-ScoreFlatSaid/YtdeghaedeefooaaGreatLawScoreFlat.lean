/- ScoreFlat: for every input the law returns true, and each argument reads behind the call as it read before. No condition. -/
import Derived.Test.YtdeghaedeefooaaGreatRows
import Derived.Test.YtdeghaedeefooaaGreatK6
set_option maxRecDepth 100000
namespace Go.Proofs.YtdeghaedeefooaaGreat
set_option linter.unusedVariables false
set_option linter.unusedSimpArgs false
open Go.Ab Go.RowKit
theorem op_3 : Opens P 3 i64T KT := op_int ui_3
theorem own_ScoreFlat : ownKnob Tryz.prog.godebug = none := by kernel_rfl
theorem laid_ScoreFlat : laidOutB Tryz.prog = true := by kernel_rfl
theorem tells_ScoreFlat (As : List AV) (h : Shape [⟨i64T, KT⟩, ⟨i64T, KT⟩, ⟨i64T, KT⟩] As) : Tells P 8 As (.val boolT true) := by
  match As, h with
  | [A0, A1, A2], ⟨⟨x0, h0, k0⟩, ⟨x1, h1, k1⟩, ⟨x2, h2, k2⟩, _⟩ => subst h0; subst h1; subst h2; exact ScoreFlat_ok x0 x1 x2
theorem lifted_ScoreFlat (os : Os) (started : os.Started) (H : Type) (enc : TypeId × Value → H) : ReturnsInHanded {} Tryz.checked os 8 .any (Rows.scoreFlatSpec.pre6 enc Tryz.prog Tryz.f8 Rows.scoreFlatRow.domain false) (Rows.scoreFlatSpec.post enc Tryz.prog Tryz.f8 false true false false) :=
  law_handed (C := Tryz.checked) (Gs := [⟨i64T, KT⟩, ⟨i64T, KT⟩, ⟨i64T, KT⟩]) own_ScoreFlat started (by kernel_rfl) Tryz.func8
    (ChangeSpec.witness6 (enc := enc) (C := Tryz.checked) false ⟨#[], #[.int .i64 0, .int .i64 0, .int .i64 0], []⟩ 12 (by kernel_rfl) (by kernel_rfl) (by kernel_rfl) (by kernel_rfl))
    rfl laid_ScoreFlat (by intro t ht; simp only [Tryz.params8, List.mem_cons, List.not_mem_nil, or_false] at ht; rcases ht with rfl | rfl | rfl <;> exact ⟨by kernel_rfl, of_decide_eq_true (by kernel_rfl)⟩)
    (show OpensAll P [3, 3, 3] [⟨i64T, KT⟩, ⟨i64T, KT⟩, ⟨i64T, KT⟩] from ⟨op_3, ty_3, op_3, ty_3, op_3, ty_3, trivial⟩) rfl Tryz.underlying4 (fun ds hl => by
      match ds, hl with
      | [d0, d1, d2], _ => rfl) tells_ScoreFlat
theorem ScoreFlat_said : Rows.ScoreFlatSaid :=
  OpenClaim.holds_of_wide 8 Tryz.f8 rfl rfl rfl rfl rfl rfl rfl ⟨rfl, rfl, rfl, rfl, rfl⟩ rfl rfl rfl rfl rfl (by kernel_rfl) Tryz.func8 (by kernel_rfl)
    (of_decide_eq_true (by kernel_rfl)) (by unfold Func.isWrapper; first | (rw [if_pos (by decide +kernel)]; kernel_rfl) | (rw [if_neg (by decide +kernel)]; exact ⟨rfl, rfl⟩))
    (fun os started H enc _ => lifted_ScoreFlat os started H enc)
#print axioms ScoreFlat_said
end Go.Proofs.YtdeghaedeefooaaGreat
