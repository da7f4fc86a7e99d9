/- ScoreFolds: for every input the law returns true, and each argument reads behind the call as it read before. No condition. -/
import Derived.Test.YtdeghaedeefooaaGreatRows
import Derived.Test.YtdeghaedeefooaaGreatK6
set_option maxRecDepth 100000
namespace Go.Proofs.YtdeghaedeefooaaGreat
set_option linter.unusedVariables false
set_option linter.unusedSimpArgs false
open Go.Ab Go.RowKit
theorem op_3 : Opens P 3 i64T KT := op_int ui_3
theorem op_5 : Opens P 5 u8T KT := op_u8 ui_5
theorem op_49 : Opens P 49 idT KT := op_arr op_5 ar_49 ty_49
theorem op_50 : Opens P 50 u64T KT := op_u64 ui_50
theorem op_52 : Opens P 52 wideT KT := op_arr op_50 ar_52 ty_52
theorem op_53 : Opens P 53 u32T KT := op_u32 ui_53
theorem op_55 : Opens P 55 headT KT := op_struct Head.mk_ (fun _ => rfl) (by kernel_rfl) ty_55 (opf_cons fd_55_0 ty_3 op_3 rfl (opf_cons fd_55_1 ty_49 op_49 rfl (opf_cons fd_55_2 ty_49 op_49 rfl (opf_cons fd_55_3 ty_49 op_49 rfl (opf_cons fd_55_4 ty_49 op_49 rfl (opf_cons fd_55_5 ty_52 op_52 rfl (opf_cons fd_55_6 ty_53 op_53 rfl (opf_last fd_55_7 ty_50 op_50)))))))) (fun _ _ => trivial)
theorem op_56 : Opens P 56 (sl idT) (KAll 32 KT) := op_slice op_49 sl_56 (by kernel_rfl)
theorem op_58 : Opens P 58 partT KT := op_struct Part.mk_ (fun _ => rfl) (by kernel_rfl) ty_58 (opf_cons fd_58_0 ty_55 op_55 rfl (opf_last fd_58_1 ty_56 op_56)) (fun _ _ => trivial)
theorem op_23 : Opens P 23 (sl partT) (KAll 208 KT) := op_slice op_58 sl_23 (by kernel_rfl)
theorem op_25 : Opens P 25 proofT KT := op_struct Proof.mk_ (fun _ => rfl) (by kernel_rfl) ty_25 (opf_cons fd_25_0 ty_3 op_3 rfl (opf_cons fd_25_1 ty_3 op_3 rfl (opf_last fd_25_2 ty_23 op_23))) (fun _ _ => trivial)
theorem op_26 : Opens P 26 (sl proofT) (KAll 40 KT) := op_slice op_25 sl_26 (by kernel_rfl)
theorem own_ScoreFolds : ownKnob Tryz.prog.godebug = none := by kernel_rfl
theorem laid_ScoreFolds : laidOutB Tryz.prog = true := by kernel_rfl
theorem tells_ScoreFolds (As : List AV) (h : Shape [⟨(sl proofT), (KAll 40 KT)⟩, ⟨proofT, KT⟩] As) : Tells P 7 As (.val boolT true) := by
  match As, h with
  | [A0, A1], ⟨⟨x0, h0, k0⟩, ⟨x1, h1, k1⟩, _⟩ => subst h0; subst h1; exact ScoreFolds_ok x0 x1
theorem lifted_ScoreFolds (os : Os) (started : os.Started) (H : Type) (enc : TypeId × Value → H) : ReturnsInHanded {} Tryz.checked os 7 .any (Rows.scoreFoldsSpec.pre6 enc Tryz.prog Tryz.f7 Rows.scoreFoldsRow.domain false) (Rows.scoreFoldsSpec.post enc Tryz.prog Tryz.f7 false true false false) :=
  law_handed (C := Tryz.checked) (Gs := [⟨(sl proofT), (KAll 40 KT)⟩, ⟨proofT, KT⟩]) own_ScoreFolds started (by kernel_rfl) Tryz.func7
    (ChangeSpec.witness6 (enc := enc) (C := Tryz.checked) false ⟨#[], #[.slice none 0 0, .agg #[.int .i64 0, .int .i64 0, .slice none 0 0]], []⟩ 12 (by kernel_rfl) (by kernel_rfl) (by kernel_rfl) (by kernel_rfl))
    rfl laid_ScoreFolds (by intro t ht; simp only [Tryz.params7, List.mem_cons, List.not_mem_nil, or_false] at ht; rcases ht with rfl | rfl <;> exact ⟨by kernel_rfl, of_decide_eq_true (by kernel_rfl)⟩)
    (show OpensAll P [26, 25] [⟨(sl proofT), (KAll 40 KT)⟩, ⟨proofT, KT⟩] from ⟨op_26, ty_26, op_25, ty_25, trivial⟩) rfl Tryz.underlying4 (fun ds hl => by
      match ds, hl with
      | [d0, d1], _ => rfl) tells_ScoreFolds
theorem nm_ScoreFolds : Tryz.pinned.checked.prog.funcNamed Rows.scoreFoldsRow.func = some 7 := by kernel_rfl
theorem jf_ScoreFolds : joinedFacts Tryz.pinned.checked.prog 7 Tryz.f7 Rows.scoreFoldsSpec Rows.scoreFoldsRow = true := by kernel_rfl
theorem ScoreFolds_said : Rows.ScoreFoldsSaid :=
  OpenClaim.holds_of_wide 7 Tryz.f7 rfl rfl rfl rfl rfl rfl rfl ⟨rfl, rfl, rfl, rfl, rfl⟩ rfl rfl rfl rfl rfl nm_ScoreFolds Tryz.func7 jf_ScoreFolds
    (of_decide_eq_true (by kernel_rfl)) (by unfold Func.isWrapper; first | (rw [if_pos (by decide +kernel)]; kernel_rfl) | (rw [if_neg (by decide +kernel)]; exact ⟨rfl, rfl⟩))
    (fun os started H enc _ => lifted_ScoreFolds os started H enc)
#print axioms ScoreFolds_said
end Go.Proofs.YtdeghaedeefooaaGreat
