/- CheckAncestry: for every input the law returns true, and each argument reads behind the call as it read before. No condition. -/
import Derived.Test.YtjldddonpfopaaaGreatRows
import Derived.Test.YtjldddonpfopaaaGreatK6
set_option maxRecDepth 100000
namespace Go.Proofs.YtjldddonpfopaaaGreat
set_option linter.unusedVariables false
set_option linter.unusedSimpArgs false
open Go.Ab Go.RowKit
theorem op_3 : Opens P 3 i64T KT := op_int ui_3
theorem op_5 : Opens P 5 u8T KT := op_u8 ui_5
theorem op_32 : Opens P 32 idT KT := op_arr op_5 ar_32 ty_32
theorem op_33 : Opens P 33 u64T KT := op_u64 ui_33
theorem op_35 : Opens P 35 wideT KT := op_arr op_33 ar_35 ty_35
theorem op_36 : Opens P 36 u32T KT := op_u32 ui_36
theorem op_38 : Opens P 38 headT KT := op_struct Head.mk_ (fun _ => rfl) (by kernel_rfl) ty_38 (opf_cons fd_38_0 ty_3 op_3 rfl (opf_cons fd_38_1 ty_32 op_32 rfl (opf_cons fd_38_2 ty_32 op_32 rfl (opf_cons fd_38_3 ty_32 op_32 rfl (opf_cons fd_38_4 ty_32 op_32 rfl (opf_cons fd_38_5 ty_35 op_35 rfl (opf_cons fd_38_6 ty_36 op_36 rfl (opf_last fd_38_7 ty_33 op_33)))))))) (fun _ _ => trivial)
theorem op_39 : Opens P 39 (sl idT) (KAll 32 KT) := op_slice op_32 sl_39 (by kernel_rfl)
theorem op_41 : Opens P 41 partT KT := op_struct Part.mk_ (fun _ => rfl) (by kernel_rfl) ty_41 (opf_cons fd_41_0 ty_38 op_38 rfl (opf_last fd_41_1 ty_39 op_39)) (fun _ _ => trivial)
theorem op_22 : Opens P 22 (sl partT) (KAll 208 KT) := op_slice op_41 sl_22 (by kernel_rfl)
theorem op_24 : Opens P 24 proofT KT := op_struct Proof.mk_ (fun _ => rfl) (by kernel_rfl) ty_24 (opf_cons fd_24_0 ty_3 op_3 rfl (opf_cons fd_24_1 ty_3 op_3 rfl (opf_last fd_24_2 ty_22 op_22))) (fun _ _ => trivial)
theorem op_193 : Opens P 193 inT KT := op_struct In.mk_ (fun _ => rfl) (by kernel_rfl) ty_193 (opf_cons fd_193_0 ty_32 op_32 rfl (opf_last fd_193_1 ty_3 op_3)) (fun _ _ => trivial)
theorem op_137 : Opens P 137 (sl inT) (KAll 40 KT) := op_slice op_193 sl_137 (by kernel_rfl)
theorem op_196 : Opens P 196 outT KT := op_struct Out.mk_ (fun _ => rfl) (by kernel_rfl) ty_196 (opf_cons fd_196_0 ty_3 op_3 rfl (opf_last fd_196_1 ty_3 op_3)) (fun _ _ => trivial)
theorem op_138 : Opens P 138 (sl outT) (KAll 16 KT) := op_slice op_196 sl_138 (by kernel_rfl)
theorem op_140 : Opens P 140 txT KT := op_struct Tx.mk_ (fun _ => rfl) (by kernel_rfl) ty_140 (opf_cons fd_140_0 ty_137 op_137 rfl (opf_last fd_140_1 ty_138 op_138)) (fun _ _ => trivial)
theorem op_58 : Opens P 58 (sl txT) (KAll 48 KT) := op_slice op_140 sl_58 (by kernel_rfl)
theorem op_60 : Opens P 60 blockT KT := op_struct Block.mk_ (fun _ => rfl) (by kernel_rfl) ty_60 (opf_cons fd_60_0 ty_38 op_38 rfl (opf_cons fd_60_1 ty_39 op_39 rfl (opf_last fd_60_2 ty_58 op_58))) (fun _ _ => trivial)
theorem op_52 : Opens P 52 (sl blockT) (KAll 232 KT) := op_slice op_60 sl_52 (by kernel_rfl)
theorem own_CheckAncestry : ownKnob Tryz.prog.godebug = none := by kernel_rfl
theorem laid_CheckAncestry : laidOutB Tryz.prog = true := by kernel_rfl
theorem tells_CheckAncestry (As : List AV) (h : Shape [⟨proofT, KT⟩, ⟨(sl blockT), (KAll 232 KT)⟩, ⟨i64T, KT⟩] As) : Tells P 8 As (.val boolT true) := by
  match As, h with
  | [A0, A1, A2], ⟨⟨x0, h0, k0⟩, ⟨x1, h1, k1⟩, ⟨x2, h2, k2⟩, _⟩ => subst h0; subst h1; subst h2; exact CheckAncestry_ok x0 x1 x2
theorem lifted_CheckAncestry (os : Os) (started : os.Started) (H : Type) (enc : TypeId × Value → H) : ReturnsInHanded {} Tryz.checked os 8 .any (Rows.checkAncestrySpec.pre6 enc Tryz.prog Tryz.f8 Rows.checkAncestryRow.domain false) (Rows.checkAncestrySpec.post enc Tryz.prog Tryz.f8 false true false false) :=
  law_handed (C := Tryz.checked) (Gs := [⟨proofT, KT⟩, ⟨(sl blockT), (KAll 232 KT)⟩, ⟨i64T, KT⟩]) own_CheckAncestry started (by kernel_rfl) Tryz.func8
    (ChangeSpec.witness6 (enc := enc) (C := Tryz.checked) false ⟨#[], #[.agg #[.int .i64 0, .int .i64 0, .slice none 0 0], .slice none 0 0, .int .i64 0], []⟩ 12 (by kernel_rfl) (by kernel_rfl) (by kernel_rfl) (by kernel_rfl))
    rfl laid_CheckAncestry (by intro t ht; simp only [Tryz.params8, List.mem_cons, List.not_mem_nil, or_false] at ht; rcases ht with rfl | rfl | rfl <;> exact ⟨by kernel_rfl, of_decide_eq_true (by kernel_rfl)⟩)
    (show OpensAll P [24, 52, 3] [⟨proofT, KT⟩, ⟨(sl blockT), (KAll 232 KT)⟩, ⟨i64T, KT⟩] from ⟨op_24, ty_24, op_52, ty_52, op_3, ty_3, trivial⟩) rfl Tryz.underlying4 (fun ds hl => by
      match ds, hl with
      | [d0, d1, d2], _ => rfl) tells_CheckAncestry
theorem nm_CheckAncestry : Tryz.pinned.checked.prog.funcNamed Rows.checkAncestryRow.func = some 8 := by kernel_rfl
theorem j0_CheckAncestry : (Rows.checkAncestryRow.inPlace == Tryz.pinned.checked.prog.inPlace 8) = true := by kernel_rfl
theorem j1_CheckAncestry : (Rows.checkAncestryRow.unfollowed == Tryz.pinned.checked.prog.unfollowed 8) = true := by kernel_rfl
theorem j2_CheckAncestry : (Rows.checkAncestryRow.recurses == Tryz.pinned.checked.prog.recurses 8) = true := by kernel_rfl
theorem j3_CheckAncestry : (Rows.checkAncestryRow.named == Tryz.pinned.checked.prog.varsNamed 8) = true := by kernel_rfl
theorem jf_CheckAncestry : joinedFacts Tryz.pinned.checked.prog 8 Tryz.f8 Rows.checkAncestrySpec Rows.checkAncestryRow = true := by
  unfold joinedFacts; rw [j0_CheckAncestry, j1_CheckAncestry, j2_CheckAncestry, j3_CheckAncestry]; kernel_rfl
theorem CheckAncestry_said : Rows.CheckAncestrySaid :=
  OpenClaim.holds_of_wide 8 Tryz.f8 rfl rfl rfl rfl rfl rfl rfl ⟨rfl, rfl, rfl, rfl, rfl⟩ rfl rfl rfl rfl rfl nm_CheckAncestry Tryz.func8 jf_CheckAncestry
    (of_decide_eq_true (by kernel_rfl)) (by unfold Func.isWrapper; first | (rw [if_pos (by decide +kernel)]; kernel_rfl) | (rw [if_neg (by decide +kernel)]; exact ⟨rfl, rfl⟩))
    (fun os started H enc _ => lifted_CheckAncestry os started H enc)
#print axioms CheckAncestry_said
end Go.Proofs.YtjldddonpfopaaaGreat
