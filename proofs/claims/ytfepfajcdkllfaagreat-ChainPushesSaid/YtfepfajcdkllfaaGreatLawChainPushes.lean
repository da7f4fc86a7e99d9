/- ChainPushes: for every input the law returns true, and each argument reads behind the call as it read before. No condition. -/
import Derived.Test.YtfepfajcdkllfaaGreatRows
import Derived.Test.YtfepfajcdkllfaaGreatK5
set_option maxRecDepth 100000
namespace Go.Proofs.YtfepfajcdkllfaaGreat
set_option linter.unusedVariables false
set_option linter.unusedSimpArgs false
open Go.Ab Go.RowKit
theorem op_3 : Opens P 3 i64T KT := op_int ui_3
theorem op_5 : Opens P 5 u8T KT := op_u8 ui_5
theorem op_29 : Opens P 29 idT KT := op_arr op_5 ar_29 ty_29
theorem op_24 : Opens P 24 u64T KT := op_u64 ui_24
theorem op_31 : Opens P 31 wideT KT := op_arr op_24 ar_31 ty_31
theorem op_32 : Opens P 32 u32T KT := op_u32 ui_32
theorem op_34 : Opens P 34 headT KT := op_struct Head.mk_ (fun _ => rfl) (by kernel_rfl) ty_34 (opf_cons fd_34_0 ty_3 op_3 rfl (opf_cons fd_34_1 ty_29 op_29 rfl (opf_cons fd_34_2 ty_29 op_29 rfl (opf_cons fd_34_3 ty_29 op_29 rfl (opf_cons fd_34_4 ty_29 op_29 rfl (opf_cons fd_34_5 ty_31 op_31 rfl (opf_cons fd_34_6 ty_32 op_32 rfl (opf_last fd_34_7 ty_24 op_24)))))))) (fun _ _ => trivial)
theorem op_35 : Opens P 35 (sl idT) (KAll 32 KT) := op_slice op_29 sl_35 (by kernel_rfl)
theorem op_131 : Opens P 131 inT KT := op_struct In.mk_ (fun _ => rfl) (by kernel_rfl) ty_131 (opf_cons fd_131_0 ty_29 op_29 rfl (opf_last fd_131_1 ty_3 op_3)) (fun _ _ => trivial)
theorem op_74 : Opens P 74 (sl inT) (KAll 40 KT) := op_slice op_131 sl_74 (by kernel_rfl)
theorem op_134 : Opens P 134 outT KT := op_struct Out.mk_ (fun _ => rfl) (by kernel_rfl) ty_134 (opf_cons fd_134_0 ty_3 op_3 rfl (opf_last fd_134_1 ty_3 op_3)) (fun _ _ => trivial)
theorem op_75 : Opens P 75 (sl outT) (KAll 16 KT) := op_slice op_134 sl_75 (by kernel_rfl)
theorem op_77 : Opens P 77 txT smallTx := op_struct Tx.mk_ (fun _ => rfl) (by kernel_rfl) ty_77 (opf_cons fd_77_0 ty_74 op_74 rfl (opf_last fd_77_1 ty_75 op_75)) (fun _ h => ⟨h.1.1, h.2.1⟩)
theorem op_23 : Opens P 23 (sl txT) (KAll 48 smallTx) := op_slice op_77 sl_23 (by kernel_rfl)
theorem op_37 : Opens P 37 blockT smallB := op_struct Block.mk_ (fun _ => rfl) (by kernel_rfl) ty_37 (opf_cons fd_37_0 ty_34 op_34 rfl (opf_cons fd_37_1 ty_35 op_35 rfl (opf_last fd_37_2 ty_23 op_23))) (fun _ h => ⟨h.2.1.1, h.2.2⟩)
theorem op_22 : Opens P 22 (sl blockT) (KAll 232 smallB) := op_slice op_37 sl_22 (by kernel_rfl)
theorem own_ChainPushes : ownKnob Tryz.prog.godebug = none := by kernel_rfl
theorem laid_ChainPushes : laidOutB Tryz.prog = true := by kernel_rfl
theorem tells_ChainPushes (As : List AV) (h : Shape [⟨(sl blockT), (KAll 232 smallB)⟩, ⟨blockT, smallB⟩] As) : Tells P 6 As (.val boolT true) := by
  match As, h with
  | [A0, A1], ⟨⟨x0, h0, k0⟩, ⟨x1, h1, k1⟩, _⟩ => subst h0; subst h1; exact ChainPushes_ok x0 x1 (k0)
theorem lifted_ChainPushes (os : Os) (started : os.Started) (H : Type) (enc : TypeId × Value → H) : ReturnsInHanded {} Tryz.checked os 6 .any (Rows.chainPushesSpec.pre6 enc Tryz.prog Tryz.f6 Rows.chainPushesRow.domain false) (Rows.chainPushesSpec.post enc Tryz.prog Tryz.f6 false true false false) :=
  law_handed (C := Tryz.checked) (Gs := [⟨(sl blockT), (KAll 232 smallB)⟩, ⟨blockT, smallB⟩]) own_ChainPushes started (by kernel_rfl) Tryz.func6
    (ChangeSpec.witness6 (enc := enc) (C := Tryz.checked) false ⟨#[], #[.slice none 0 0, .agg #[.int .i64 0, .int .u8 0, .int .u8 0, .int .u8 0, .int .u8 0, .int .u8 0, .int .u8 0, .int .u8 0, .int .u8 0, .int .u8 0, .int .u8 0, .int .u8 0, .int .u8 0, .int .u8 0, .int .u8 0, .int .u8 0, .int .u8 0, .int .u8 0, .int .u8 0, .int .u8 0, .int .u8 0, .int .u8 0, .int .u8 0, .int .u8 0, .int .u8 0, .int .u8 0, .int .u8 0, .int .u8 0, .int .u8 0, .int .u8 0, .int .u8 0, .int .u8 0, .int .u8 0, .int .u8 0, .int .u8 0, .int .u8 0, .int .u8 0, .int .u8 0, .int .u8 0, .int .u8 0, .int .u8 0, .int .u8 0, .int .u8 0, .int .u8 0, .int .u8 0, .int .u8 0, .int .u8 0, .int .u8 0, .int .u8 0, .int .u8 0, .int .u8 0, .int .u8 0, .int .u8 0, .int .u8 0, .int .u8 0, .int .u8 0, .int .u8 0, .int .u8 0, .int .u8 0, .int .u8 0, .int .u8 0, .int .u8 0, .int .u8 0, .int .u8 0, .int .u8 0, .int .u8 0, .int .u8 0, .int .u8 0, .int .u8 0, .int .u8 0, .int .u8 0, .int .u8 0, .int .u8 0, .int .u8 0, .int .u8 0, .int .u8 0, .int .u8 0, .int .u8 0, .int .u8 0, .int .u8 0, .int .u8 0, .int .u8 0, .int .u8 0, .int .u8 0, .int .u8 0, .int .u8 0, .int .u8 0, .int .u8 0, .int .u8 0, .int .u8 0, .int .u8 0, .int .u8 0, .int .u8 0, .int .u8 0, .int .u8 0, .int .u8 0, .int .u8 0, .int .u8 0, .int .u8 0, .int .u8 0, .int .u8 0, .int .u8 0, .int .u8 0, .int .u8 0, .int .u8 0, .int .u8 0, .int .u8 0, .int .u8 0, .int .u8 0, .int .u8 0, .int .u8 0, .int .u8 0, .int .u8 0, .int .u8 0, .int .u8 0, .int .u8 0, .int .u8 0, .int .u8 0, .int .u8 0, .int .u8 0, .int .u8 0, .int .u8 0, .int .u8 0, .int .u8 0, .int .u8 0, .int .u8 0, .int .u8 0, .int .u8 0, .int .u8 0, .int .u64 0, .int .u64 0, .int .u64 0, .int .u64 0, .int .u32 0, .int .u64 0, .slice none 0 0, .slice none 0 0]], []⟩ 12 (by kernel_rfl) (by kernel_rfl) (by kernel_rfl) (by kernel_rfl))
    rfl laid_ChainPushes (by intro t ht; simp only [Tryz.params6, List.mem_cons, List.not_mem_nil, or_false] at ht; rcases ht with rfl | rfl <;> exact ⟨by kernel_rfl, of_decide_eq_true (by kernel_rfl)⟩)
    (show OpensAll P [22, 37] [⟨(sl blockT), (KAll 232 smallB)⟩, ⟨blockT, smallB⟩] from ⟨op_22, ty_22, op_37, ty_37, trivial⟩) rfl Tryz.underlying4 (fun ds hl => by
      match ds, hl with
      | [d0, d1], _ => rfl) tells_ChainPushes
theorem ChainPushes_said : Rows.ChainPushesSaid :=
  OpenClaim.holds_of_wide 6 Tryz.f6 rfl rfl rfl rfl rfl rfl rfl ⟨rfl, rfl, rfl, rfl, rfl⟩ rfl rfl rfl rfl rfl (by kernel_rfl) Tryz.func6 (by kernel_rfl)
    (of_decide_eq_true (by kernel_rfl)) (by unfold Func.isWrapper; first | (rw [if_pos (by decide +kernel)]; kernel_rfl) | (rw [if_neg (by decide +kernel)]; exact ⟨rfl, rfl⟩))
    (fun os started H enc _ => lifted_ChainPushes os started H enc)
#print axioms ChainPushes_said
end Go.Proofs.YtfepfajcdkllfaaGreat
