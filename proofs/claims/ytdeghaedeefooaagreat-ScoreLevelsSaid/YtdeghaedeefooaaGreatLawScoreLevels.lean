/- ScoreLevels: for every input the law returns true, and each argument reads behind the call as it read before. No condition. -/
import Derived.Test.YtdeghaedeefooaaGreatRows
import Derived.Test.YtdeghaedeefooaaGreatK6
set_option maxRecDepth 100000
namespace Go.Proofs.YtdeghaedeefooaaGreat
set_option linter.unusedVariables false
set_option linter.unusedSimpArgs false
open Go.Ab Go.RowKit
theorem op_3 : Opens P 3 i64T KT := op_int ui_3
theorem op_22 : Opens P 22 (sl i64T) (KAll 8 KT) := op_slice op_3 sl_22 (by kernel_rfl)
theorem own_ScoreLevels : ownKnob Tryz.prog.godebug = none := by kernel_rfl
theorem laid_ScoreLevels : laidOutB Tryz.prog = true := by kernel_rfl
theorem tells_ScoreLevels (As : List AV) (h : Shape [⟨(sl i64T), (KAll 8 KT)⟩, ⟨i64T, KT⟩, ⟨i64T, KT⟩, ⟨i64T, KT⟩] As) : Tells P 6 As (.val boolT true) := by
  match As, h with
  | [A0, A1, A2, A3], ⟨⟨x0, h0, k0⟩, ⟨x1, h1, k1⟩, ⟨x2, h2, k2⟩, ⟨x3, h3, k3⟩, _⟩ => subst h0; subst h1; subst h2; subst h3; exact ScoreLevels_ok x0 x1 x2 x3
theorem lifted_ScoreLevels (os : Os) (started : os.Started) (H : Type) (enc : TypeId × Value → H) : ReturnsInHanded {} Tryz.checked os 6 .any (Rows.scoreLevelsSpec.pre6 enc Tryz.prog Tryz.f6 Rows.scoreLevelsRow.domain false) (Rows.scoreLevelsSpec.post enc Tryz.prog Tryz.f6 false true false false) :=
  law_handed (C := Tryz.checked) (Gs := [⟨(sl i64T), (KAll 8 KT)⟩, ⟨i64T, KT⟩, ⟨i64T, KT⟩, ⟨i64T, KT⟩]) own_ScoreLevels started (by kernel_rfl) Tryz.func6
    (ChangeSpec.witness6 (enc := enc) (C := Tryz.checked) false ⟨#[], #[.slice none 0 0, .int .i64 0, .int .i64 0, .int .i64 0], []⟩ 12 (by kernel_rfl) (by kernel_rfl) (by kernel_rfl) (by kernel_rfl))
    rfl laid_ScoreLevels (by intro t ht; simp only [Tryz.params6, List.mem_cons, List.not_mem_nil, or_false] at ht; rcases ht with rfl | rfl | rfl | rfl <;> exact ⟨by kernel_rfl, of_decide_eq_true (by kernel_rfl)⟩)
    (show OpensAll P [22, 3, 3, 3] [⟨(sl i64T), (KAll 8 KT)⟩, ⟨i64T, KT⟩, ⟨i64T, KT⟩, ⟨i64T, KT⟩] from ⟨op_22, ty_22, op_3, ty_3, op_3, ty_3, op_3, ty_3, trivial⟩) rfl Tryz.underlying4 (fun ds hl => by
      match ds, hl with
      | [d0, d1, d2, d3], _ => rfl) tells_ScoreLevels
theorem ScoreLevels_said : Rows.ScoreLevelsSaid :=
  OpenClaim.holds_of_wide 6 Tryz.f6 rfl rfl rfl rfl rfl rfl rfl ⟨rfl, rfl, rfl, rfl, rfl⟩ rfl rfl rfl rfl rfl (by kernel_rfl) Tryz.func6 (by kernel_rfl)
    (of_decide_eq_true (by kernel_rfl)) (by unfold Func.isWrapper; first | (rw [if_pos (by decide +kernel)]; kernel_rfl) | (rw [if_neg (by decide +kernel)]; exact ⟨rfl, rfl⟩))
    (fun os started H enc _ => lifted_ScoreLevels os started H enc)
#print axioms ScoreLevels_said
end Go.Proofs.YtdeghaedeefooaaGreat
