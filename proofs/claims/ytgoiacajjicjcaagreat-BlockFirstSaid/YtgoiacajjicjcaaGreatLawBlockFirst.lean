/- BlockFirst: for every input the law returns true, and each argument reads behind the call as it read before. No condition. -/
import Derived.Test.YtgoiacajjicjcaaGreatRows
import Derived.Test.YtgoiacajjicjcaaGreatK5
set_option maxRecDepth 100000
namespace Go.Proofs.YtgoiacajjicjcaaGreat
set_option linter.unusedVariables false
set_option linter.unusedSimpArgs false
open Go.Ab Go.RowKit
theorem op_27 : Opens P 27 u32T := op_u32 ui_27
theorem own_BlockFirst : ownKnob Tryz.prog.godebug = none := by kernel_rfl
theorem laid_BlockFirst : laidOutB Tryz.prog = true := by kernel_rfl
theorem tells_BlockFirst (As : List AV) (h : Shape [⟨u32T⟩, ⟨u32T⟩] As) : Tells P 5 As (.val boolT true) := by
  match As, h with
  | [A0, A1], ⟨⟨x0, h0⟩, ⟨x1, h1⟩, _⟩ => subst h0; subst h1; exact BlockFirst_ok x0 x1
theorem lifted_BlockFirst (os : Os) (started : os.Started) (H : Type) (enc : TypeId × Value → H) : ReturnsInHanded {} Tryz.checked os 5 .any (Rows.blockFirstSpec.pre6 enc Tryz.prog Tryz.f5 Rows.blockFirstRow.domain false) (Rows.blockFirstSpec.post enc Tryz.prog Tryz.f5 false true false false) :=
  law_handed (C := Tryz.checked) (Gs := [⟨u32T⟩, ⟨u32T⟩]) own_BlockFirst started (by kernel_rfl) Tryz.func5
    (ChangeSpec.witness6 (enc := enc) (C := Tryz.checked) false ⟨#[], #[.int .u32 0, .int .u32 0], []⟩ 12 (by kernel_rfl) (by kernel_rfl) (by kernel_rfl) (by kernel_rfl))
    rfl laid_BlockFirst (by intro t ht; simp only [Tryz.params5, List.mem_cons, List.not_mem_nil, or_false] at ht; rcases ht with rfl | rfl <;> exact ⟨by kernel_rfl, of_decide_eq_true (by kernel_rfl)⟩)
    (show OpensAll P [27, 27] [⟨u32T⟩, ⟨u32T⟩] from ⟨op_27, ty_27, op_27, ty_27, trivial⟩) rfl Tryz.underlying4 (fun ds hl => by
      match ds, hl with
      | [d0, d1], _ => rfl) tells_BlockFirst
theorem BlockFirst_said : Rows.BlockFirstSaid :=
  OpenClaim.holds_of_wide 5 Tryz.f5 rfl rfl rfl rfl rfl rfl rfl ⟨rfl, rfl, rfl, rfl, rfl⟩ rfl rfl rfl rfl rfl (by kernel_rfl) Tryz.func5 (by kernel_rfl)
    (of_decide_eq_true (by kernel_rfl)) (by unfold Func.isWrapper; first | (rw [if_pos (by decide +kernel)]; kernel_rfl) | (rw [if_neg (by decide +kernel)]; exact ⟨rfl, rfl⟩))
    (fun os started H enc _ => lifted_BlockFirst os started H enc)
#print axioms BlockFirst_said
end Go.Proofs.YtgoiacajjicjcaaGreat
