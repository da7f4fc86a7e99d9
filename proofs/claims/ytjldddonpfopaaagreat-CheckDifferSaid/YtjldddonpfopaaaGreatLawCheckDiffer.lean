/- CheckDiffer: for every input the law returns true, and each argument reads behind the call as it read before. No condition. -/
import Derived.Test.YtjldddonpfopaaaGreatRows
import Derived.Test.YtjldddonpfopaaaGreatK6
set_option maxRecDepth 100000
namespace Go.Proofs.YtjldddonpfopaaaGreat
set_option linter.unusedVariables false
set_option linter.unusedSimpArgs false
open Go.Ab Go.RowKit
theorem op_5 : Opens P 5 u8T KT := op_u8 ui_5
theorem op_32 : Opens P 32 idT KT := op_arr op_5 ar_32 ty_32
theorem op_39 : Opens P 39 (sl idT) (KAll 32 KT) := op_slice op_32 sl_39 (by kernel_rfl)
theorem own_CheckDiffer : ownKnob Tryz.prog.godebug = none := by kernel_rfl
theorem laid_CheckDiffer : laidOutB Tryz.prog = true := by kernel_rfl
theorem tells_CheckDiffer (As : List AV) (h : Shape [⟨(sl idT), (KAll 32 KT)⟩, ⟨(sl idT), (KAll 32 KT)⟩] As) : Tells P 6 As (.val boolT true) := by
  match As, h with
  | [A0, A1], ⟨⟨x0, h0, k0⟩, ⟨x1, h1, k1⟩, _⟩ => subst h0; subst h1; exact CheckDiffer_ok x0 x1
theorem lifted_CheckDiffer (os : Os) (started : os.Started) (H : Type) (enc : TypeId × Value → H) : ReturnsInHanded {} Tryz.checked os 6 .any (Rows.checkDifferSpec.pre6 enc Tryz.prog Tryz.f6 Rows.checkDifferRow.domain false) (Rows.checkDifferSpec.post enc Tryz.prog Tryz.f6 false true false false) :=
  law_handed (C := Tryz.checked) (Gs := [⟨(sl idT), (KAll 32 KT)⟩, ⟨(sl idT), (KAll 32 KT)⟩]) own_CheckDiffer started (by kernel_rfl) Tryz.func6
    (ChangeSpec.witness6 (enc := enc) (C := Tryz.checked) false ⟨#[], #[.slice none 0 0, .slice none 0 0], []⟩ 12 (by kernel_rfl) (by kernel_rfl) (by kernel_rfl) (by kernel_rfl))
    rfl laid_CheckDiffer (by intro t ht; simp only [Tryz.params6, List.mem_cons, List.not_mem_nil, or_false] at ht; rcases ht with rfl | rfl <;> exact ⟨by kernel_rfl, of_decide_eq_true (by kernel_rfl)⟩)
    (show OpensAll P [39, 39] [⟨(sl idT), (KAll 32 KT)⟩, ⟨(sl idT), (KAll 32 KT)⟩] from ⟨op_39, ty_39, op_39, ty_39, trivial⟩) rfl Tryz.underlying4 (fun ds hl => by
      match ds, hl with
      | [d0, d1], _ => rfl) tells_CheckDiffer
theorem nm_CheckDiffer : Tryz.pinned.checked.prog.funcNamed Rows.checkDifferRow.func = some 6 := by kernel_rfl
theorem jf_CheckDiffer : joinedFacts Tryz.pinned.checked.prog 6 Tryz.f6 Rows.checkDifferSpec Rows.checkDifferRow = true := by kernel_rfl
theorem CheckDiffer_said : Rows.CheckDifferSaid :=
  OpenClaim.holds_of_wide 6 Tryz.f6 rfl rfl rfl rfl rfl rfl rfl ⟨rfl, rfl, rfl, rfl, rfl⟩ rfl rfl rfl rfl rfl nm_CheckDiffer Tryz.func6 jf_CheckDiffer
    (of_decide_eq_true (by kernel_rfl)) (by unfold Func.isWrapper; first | (rw [if_pos (by decide +kernel)]; kernel_rfl) | (rw [if_neg (by decide +kernel)]; exact ⟨rfl, rfl⟩))
    (fun os started H enc _ => lifted_CheckDiffer os started H enc)
#print axioms CheckDiffer_said
end Go.Proofs.YtjldddonpfopaaaGreat
