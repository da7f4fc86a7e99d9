/- PurseTells: for every input the law returns true, and each argument reads behind the call as it read before. No condition. -/
import Derived.Test.YtmfgemnmelbflaaLaw10d
import Derived.Test.YtmfgemnmelbflaaRows
import Derived.Test.YtmfgemnmelbflaaLawRow
set_option maxRecDepth 100000
namespace Go.Proofs.Ytmfgemnmelbflaa
set_option linter.unusedVariables false
set_option linter.unusedSimpArgs false
open Go.Ab Go.RowKit

theorem op_5 : Opens P 5 u8T := op_u8 ui_5
theorem op_40 : Opens P 40 idT := op_arr op_5 ar_40 ty_40
theorem op_3 : Opens P 3 i64T := op_int ui_3
theorem op_42 : Opens P 42 inT := op_struct In.mk_ (fun _ => rfl) (by kernel_rfl) ty_42 (opf_cons fd_42_0 ty_40 op_40 rfl (opf_last fd_42_1 ty_3 op_3))
theorem op_48 : Opens P 48 outT := op_struct Out.mk_ (fun _ => rfl) (by kernel_rfl) ty_48 (opf_cons fd_48_0 ty_3 op_3 rfl (opf_last fd_48_1 ty_3 op_3))
theorem op_50 : Opens P 50 coinT := op_struct Coin.mk_ (fun _ => rfl) (by kernel_rfl) ty_50 (opf_cons fd_50_0 ty_42 op_42 rfl (opf_last fd_50_1 ty_48 op_48))
theorem op_22 : Opens P 22 (sl coinT) := op_slice op_50 sl_22
theorem op_23 : Opens P 23 (sl inT) := op_slice op_42 sl_23
theorem op_24 : Opens P 24 (sl outT) := op_slice op_48 sl_24
theorem op_26 : Opens P 26 txT := op_struct Tx.mk_ (fun _ => rfl) (by kernel_rfl) ty_26 (opf_cons fd_26_0 ty_23 op_23 rfl (opf_last fd_26_1 ty_24 op_24))
theorem op_27 : Opens P 27 (sl txT) := op_slice op_26 sl_27
theorem own_PurseTells : ownKnob Try.prog.godebug = none := by kernel_rfl
theorem laid_PurseTells : laidOutB Try.prog = true := by kernel_rfl
theorem tells_PurseTells (As : List AV) (h : Shape [⟨(sl coinT)⟩, ⟨(sl coinT)⟩, ⟨txT⟩, ⟨(sl txT)⟩] As) : Tells P 3 As (.val boolT true) := by
  match As, h with
  | [A0, A1, A2, A3], ⟨⟨x0, h0⟩, ⟨x1, h1⟩, ⟨x2, h2⟩, ⟨x3, h3⟩, _⟩ => subst h0; subst h1; subst h2; subst h3; exact PurseTells_ok x0 x1 x2 x3
theorem lifted_PurseTells (os : Os) (started : os.Started) (H : Type) (enc : TypeId × Value → H) : ReturnsInHanded {} Try.checked os 3 .any (Rows.purseTellsSpec.pre6 enc Try.prog Try.f3 Rows.purseTellsRow.domain false) (Rows.purseTellsSpec.post enc Try.prog Try.f3 false true false false) :=
  law_handed (C := Try.checked) (Gs := [⟨(sl coinT)⟩, ⟨(sl coinT)⟩, ⟨txT⟩, ⟨(sl txT)⟩]) own_PurseTells started (by kernel_rfl) Try.func3
    (ChangeSpec.witness6 (enc := enc) (C := Try.checked) false ⟨#[], #[.slice none 0 0, .slice none 0 0, .agg #[.slice none 0 0, .slice none 0 0], .slice none 0 0], []⟩ 12 (by kernel_rfl) (by kernel_rfl) (by kernel_rfl) (by kernel_rfl))
    rfl laid_PurseTells (by intro t ht; simp only [Try.params3, List.mem_cons, List.not_mem_nil, or_false] at ht; rcases ht with rfl | rfl | rfl | rfl <;> exact ⟨by kernel_rfl, of_decide_eq_true (by kernel_rfl)⟩)
    (show OpensAll P [22, 22, 26, 27] [⟨(sl coinT)⟩, ⟨(sl coinT)⟩, ⟨txT⟩, ⟨(sl txT)⟩] from ⟨op_22, ty_22, op_22, ty_22, op_26, ty_26, op_27, ty_27, trivial⟩) rfl Try.underlying4 (fun ds hl => by
      match ds, hl with
      | [d0, d1, d2, d3], _ => rfl) tells_PurseTells
theorem PurseTells_said : Rows.PurseTellsSaid :=
  OpenClaim.holds_of_wide 3 Try.f3 rfl rfl rfl rfl rfl rfl rfl ⟨rfl, rfl, rfl, rfl, rfl⟩ rfl rfl rfl rfl rfl (by kernel_rfl) Try.func3 (by kernel_rfl)
    (of_decide_eq_true (by kernel_rfl)) (by unfold Func.isWrapper; first | (rw [if_pos (by decide +kernel)]; kernel_rfl) | (rw [if_neg (by decide +kernel)]; exact ⟨rfl, rfl⟩))
    (fun os started H enc _ => lifted_PurseTells os started H enc)
#print axioms PurseTells_said
end Go.Proofs.Ytmfgemnmelbflaa
