/- BlockPushes: for every input the law returns true, and each argument reads behind the call as it read before. No condition. -/
import Derived.Test.YtgoiacajjicjcaaGreatRows
import Derived.Test.YtgoiacajjicjcaaGreatK5
set_option maxRecDepth 100000
namespace Go.Proofs.YtgoiacajjicjcaaGreat
set_option linter.unusedVariables false
set_option linter.unusedSimpArgs false
open Go.Ab Go.RowKit
theorem op_3 : Opens P 3 i64T := op_int ui_3
theorem op_5 : Opens P 5 u8T := op_u8 ui_5
theorem op_23 : Opens P 23 idT := op_arr op_5 ar_23 ty_23
theorem op_24 : Opens P 24 u64T := op_u64 ui_24
theorem op_26 : Opens P 26 wideT := op_arr op_24 ar_26 ty_26
theorem op_27 : Opens P 27 u32T := op_u32 ui_27
theorem op_29 : Opens P 29 headT := op_struct Head.mk_ (fun _ => rfl) (by kernel_rfl) ty_29 (opf_cons fd_29_0 ty_3 op_3 rfl (opf_cons fd_29_1 ty_23 op_23 rfl (opf_cons fd_29_2 ty_23 op_23 rfl (opf_cons fd_29_3 ty_23 op_23 rfl (opf_cons fd_29_4 ty_23 op_23 rfl (opf_cons fd_29_5 ty_26 op_26 rfl (opf_cons fd_29_6 ty_27 op_27 rfl (opf_last fd_29_7 ty_24 op_24))))))))
theorem op_30 : Opens P 30 (sl idT) := op_slice op_23 sl_30
theorem op_119 : Opens P 119 inT := op_struct In.mk_ (fun _ => rfl) (by kernel_rfl) ty_119 (opf_cons fd_119_0 ty_23 op_23 rfl (opf_last fd_119_1 ty_3 op_3))
theorem op_96 : Opens P 96 (sl inT) := op_slice op_119 sl_96
theorem op_121 : Opens P 121 outT := op_struct Out.mk_ (fun _ => rfl) (by kernel_rfl) ty_121 (opf_cons fd_121_0 ty_3 op_3 rfl (opf_last fd_121_1 ty_3 op_3))
theorem op_97 : Opens P 97 (sl outT) := op_slice op_121 sl_97
theorem op_99 : Opens P 99 txT := op_struct Tx.mk_ (fun _ => rfl) (by kernel_rfl) ty_99 (opf_cons fd_99_0 ty_96 op_96 rfl (opf_last fd_99_1 ty_97 op_97))
theorem op_31 : Opens P 31 (sl txT) := op_slice op_99 sl_31
theorem op_33 : Opens P 33 blockT := op_struct Block.mk_ (fun _ => rfl) (by kernel_rfl) ty_33 (opf_cons fd_33_0 ty_29 op_29 rfl (opf_cons fd_33_1 ty_30 op_30 rfl (opf_last fd_33_2 ty_31 op_31)))
theorem op_54 : Opens P 54 totalT := op_struct Total.mk_ (fun _ => rfl) (by kernel_rfl) ty_54 (opf_cons fd_54_0 ty_23 op_23 rfl (opf_cons fd_54_1 ty_26 op_26 rfl (opf_last fd_54_2 ty_3 op_3)))
theorem op_34 : Opens P 34 (sl totalT) := op_slice op_54 sl_34
theorem op_123 : Opens P 123 coinT := op_struct Coin.mk_ (fun _ => rfl) (by kernel_rfl) ty_123 (opf_cons fd_123_0 ty_119 op_119 rfl (opf_last fd_123_1 ty_121 op_121))
theorem op_35 : Opens P 35 (sl coinT) := op_slice op_123 sl_35
theorem op_37 : Opens P 37 tipT := op_struct Tip.mk_ (fun _ => rfl) (by kernel_rfl) ty_37 (opf_cons fd_37_0 ty_33 op_33 rfl (opf_cons fd_37_1 ty_34 op_34 rfl (opf_last fd_37_2 ty_35 op_35)))
theorem own_BlockPushes : ownKnob Tryz.prog.godebug = none := by kernel_rfl
theorem laid_BlockPushes : laidOutB Tryz.prog = true := by kernel_rfl
theorem tells_BlockPushes (As : List AV) (h : Shape [⟨tipT⟩, ⟨blockT⟩, ⟨u64T⟩] As) : Tells P 8 As (.val boolT true) := by
  match As, h with
  | [A0, A1, A2], ⟨⟨x0, h0⟩, ⟨x1, h1⟩, ⟨x2, h2⟩, _⟩ => subst h0; subst h1; subst h2; exact BlockPushes_ok x0 x1 x2
theorem lifted_BlockPushes (os : Os) (started : os.Started) (H : Type) (enc : TypeId × Value → H) : ReturnsInHanded {} Tryz.checked os 8 .any (Rows.blockPushesSpec.pre6 enc Tryz.prog Tryz.f8 Rows.blockPushesRow.domain false) (Rows.blockPushesSpec.post enc Tryz.prog Tryz.f8 false true false false) :=
  law_handed (C := Tryz.checked) (Gs := [⟨tipT⟩, ⟨blockT⟩, ⟨u64T⟩]) own_BlockPushes started (by kernel_rfl) Tryz.func8
    (ChangeSpec.witness6 (enc := enc) (C := Tryz.checked) false ⟨#[], #[.agg #[.int .i64 0, .int .u8 0, .int .u8 0, .int .u8 0, .int .u8 0, .int .u8 0, .int .u8 0, .int .u8 0, .int .u8 0, .int .u8 0, .int .u8 0, .int .u8 0, .int .u8 0, .int .u8 0, .int .u8 0, .int .u8 0, .int .u8 0, .int .u8 0, .int .u8 0, .int .u8 0, .int .u8 0, .int .u8 0, .int .u8 0, .int .u8 0, .int .u8 0, .int .u8 0, .int .u8 0, .int .u8 0, .int .u8 0, .int .u8 0, .int .u8 0, .int .u8 0, .int .u8 0, .int .u8 0, .int .u8 0, .int .u8 0, .int .u8 0, .int .u8 0, .int .u8 0, .int .u8 0, .int .u8 0, .int .u8 0, .int .u8 0, .int .u8 0, .int .u8 0, .int .u8 0, .int .u8 0, .int .u8 0, .int .u8 0, .int .u8 0, .int .u8 0, .int .u8 0, .int .u8 0, .int .u8 0, .int .u8 0, .int .u8 0, .int .u8 0, .int .u8 0, .int .u8 0, .int .u8 0, .int .u8 0, .int .u8 0, .int .u8 0, .int .u8 0, .int .u8 0, .int .u8 0, .int .u8 0, .int .u8 0, .int .u8 0, .int .u8 0, .int .u8 0, .int .u8 0, .int .u8 0, .int .u8 0, .int .u8 0, .int .u8 0, .int .u8 0, .int .u8 0, .int .u8 0, .int .u8 0, .int .u8 0, .int .u8 0, .int .u8 0, .int .u8 0, .int .u8 0, .int .u8 0, .int .u8 0, .int .u8 0, .int .u8 0, .int .u8 0, .int .u8 0, .int .u8 0, .int .u8 0, .int .u8 0, .int .u8 0, .int .u8 0, .int .u8 0, .int .u8 0, .int .u8 0, .int .u8 0, .int .u8 0, .int .u8 0, .int .u8 0, .int .u8 0, .int .u8 0, .int .u8 0, .int .u8 0, .int .u8 0, .int .u8 0, .int .u8 0, .int .u8 0, .int .u8 0, .int .u8 0, .int .u8 0, .int .u8 0, .int .u8 0, .int .u8 0, .int .u8 0, .int .u8 0, .int .u8 0, .int .u8 0, .int .u8 0, .int .u8 0, .int .u8 0, .int .u8 0, .int .u8 0, .int .u8 0, .int .u8 0, .int .u8 0, .int .u64 0, .int .u64 0, .int .u64 0, .int .u64 0, .int .u32 0, .int .u64 0, .slice none 0 0, .slice none 0 0, .slice none 0 0, .slice none 0 0], .agg #[.int .i64 0, .int .u8 0, .int .u8 0, .int .u8 0, .int .u8 0, .int .u8 0, .int .u8 0, .int .u8 0, .int .u8 0, .int .u8 0, .int .u8 0, .int .u8 0, .int .u8 0, .int .u8 0, .int .u8 0, .int .u8 0, .int .u8 0, .int .u8 0, .int .u8 0, .int .u8 0, .int .u8 0, .int .u8 0, .int .u8 0, .int .u8 0, .int .u8 0, .int .u8 0, .int .u8 0, .int .u8 0, .int .u8 0, .int .u8 0, .int .u8 0, .int .u8 0, .int .u8 0, .int .u8 0, .int .u8 0, .int .u8 0, .int .u8 0, .int .u8 0, .int .u8 0, .int .u8 0, .int .u8 0, .int .u8 0, .int .u8 0, .int .u8 0, .int .u8 0, .int .u8 0, .int .u8 0, .int .u8 0, .int .u8 0, .int .u8 0, .int .u8 0, .int .u8 0, .int .u8 0, .int .u8 0, .int .u8 0, .int .u8 0, .int .u8 0, .int .u8 0, .int .u8 0, .int .u8 0, .int .u8 0, .int .u8 0, .int .u8 0, .int .u8 0, .int .u8 0, .int .u8 0, .int .u8 0, .int .u8 0, .int .u8 0, .int .u8 0, .int .u8 0, .int .u8 0, .int .u8 0, .int .u8 0, .int .u8 0, .int .u8 0, .int .u8 0, .int .u8 0, .int .u8 0, .int .u8 0, .int .u8 0, .int .u8 0, .int .u8 0, .int .u8 0, .int .u8 0, .int .u8 0, .int .u8 0, .int .u8 0, .int .u8 0, .int .u8 0, .int .u8 0, .int .u8 0, .int .u8 0, .int .u8 0, .int .u8 0, .int .u8 0, .int .u8 0, .int .u8 0, .int .u8 0, .int .u8 0, .int .u8 0, .int .u8 0, .int .u8 0, .int .u8 0, .int .u8 0, .int .u8 0, .int .u8 0, .int .u8 0, .int .u8 0, .int .u8 0, .int .u8 0, .int .u8 0, .int .u8 0, .int .u8 0, .int .u8 0, .int .u8 0, .int .u8 0, .int .u8 0, .int .u8 0, .int .u8 0, .int .u8 0, .int .u8 0, .int .u8 0, .int .u8 0, .int .u8 0, .int .u8 0, .int .u8 0, .int .u8 0, .int .u8 0, .int .u64 0, .int .u64 0, .int .u64 0, .int .u64 0, .int .u32 0, .int .u64 0, .slice none 0 0, .slice none 0 0], .int .u64 0], []⟩ 12 (by kernel_rfl) (by kernel_rfl) (by kernel_rfl) (by kernel_rfl))
    rfl laid_BlockPushes (by intro t ht; simp only [Tryz.params8, List.mem_cons, List.not_mem_nil, or_false] at ht; rcases ht with rfl | rfl | rfl <;> exact ⟨by kernel_rfl, of_decide_eq_true (by kernel_rfl)⟩)
    (show OpensAll P [37, 33, 24] [⟨tipT⟩, ⟨blockT⟩, ⟨u64T⟩] from ⟨op_37, ty_37, op_33, ty_33, op_24, ty_24, trivial⟩) rfl Tryz.underlying4 (fun ds hl => by
      match ds, hl with
      | [d0, d1, d2], _ => rfl) tells_BlockPushes
theorem BlockPushes_said : Rows.BlockPushesSaid :=
  OpenClaim.holds_of_wide 8 Tryz.f8 rfl rfl rfl rfl rfl rfl rfl ⟨rfl, rfl, rfl, rfl, rfl⟩ rfl rfl rfl rfl rfl (by kernel_rfl) Tryz.func8 (by kernel_rfl)
    (of_decide_eq_true (by kernel_rfl)) (by unfold Func.isWrapper; first | (rw [if_pos (by decide +kernel)]; kernel_rfl) | (rw [if_neg (by decide +kernel)]; exact ⟨rfl, rfl⟩))
    (fun os started H enc _ => lifted_BlockPushes os started H enc)
#print axioms BlockPushes_said
end Go.Proofs.YtgoiacajjicjcaaGreat
