/- CheckTells: for every input the law returns true, and each argument reads behind the call as it read before. No condition. -/
import Derived.Test.YtjldddonpfopaaaGreatRows
import Derived.Test.YtjldddonpfopaaaGreatK8
set_option maxRecDepth 100000
namespace Go.Proofs.YtjldddonpfopaaaGreat
set_option linter.unusedVariables false
set_option linter.unusedSimpArgs false
open Go.Ab Go.RowKit
theorem op_3 : Opens P 3 i64T KT := op_int ui_3
theorem op_5 : Opens P 5 u8T KT := op_u8 ui_5
theorem op_32 : Opens P 32 idT KT := op_arr op_5 za5 zM
theorem op_33 : Opens P 33 u64T KT := op_u64 ui_33
theorem op_35 : Opens P 35 wideT KT := op_arr op_33 zag zZ
theorem op_36 : Opens P 36 u32T KT := op_u32 ui_36
theorem op_38 : Opens P 38 headT KT := zd0 Head.mk_ (fun _ => rfl) (by kernel_rfl) zao (zbX zbH ty_3 op_3 rfl (zbX zcX zM op_32 rfl (zbX zcW zM op_32 rfl (zbX zeE zM op_32 rfl (zbX zeD zM op_32 rfl (zbX fd_38_5 zZ op_35 rfl (zbX zbk z8 op_36 rfl (zfb zeC zav op_33)))))))) (fun _ _ => trivial)
theorem op_39 : Opens P 39 (sl idT) (KAll 32 KT) := op_slice op_32 zak (by kernel_rfl)
theorem op_41 : Opens P 41 partT KT := zd0 Part.mk_ (fun _ => rfl) (by kernel_rfl) ty_41 (zbX zbS zao op_38 rfl (zfb zdi zbj op_39)) (fun _ _ => trivial)
theorem op_22 : Opens P 22 (sl partT) (KAll 208 KT) := op_slice op_41 zds (by kernel_rfl)
theorem op_24 : Opens P 24 proofT KT := zd0 Proof.mk_ (fun _ => rfl) (by kernel_rfl) zdG (zbX fd_24_0 ty_3 op_3 rfl (zbX fd_24_1 ty_3 op_3 rfl (zfb zcd ze2 op_22))) (fun _ _ => trivial)
theorem op_193 : Opens P 193 inT KT := zd0 In.mk_ (fun _ => rfl) (by kernel_rfl) zbi (zbX zb6 zM op_32 rfl (zfb za3 ty_3 op_3)) (fun _ _ => trivial)
theorem op_137 : Opens P 137 (sl inT) (KAll 40 KT) := op_slice op_193 zdt (by kernel_rfl)
theorem op_196 : Opens P 196 outT KT := zd0 Out.mk_ (fun _ => rfl) (by kernel_rfl) zdU (zbX zbL ty_3 op_3 rfl (zfb zck ty_3 op_3)) (fun _ _ => trivial)
theorem op_138 : Opens P 138 (sl outT) (KAll 16 KT) := op_slice op_196 zdV (by kernel_rfl)
theorem op_140 : Opens P 140 txT KT := zd0 Tx.mk_ (fun _ => rfl) (by kernel_rfl) ty_140 (zbX zbg zda op_137 rfl (zfb zbf zc9 op_138)) (fun _ _ => trivial)
theorem op_58 : Opens P 58 (sl txT) (KAll 48 KT) := op_slice op_140 zec (by kernel_rfl)
theorem op_60 : Opens P 60 blockT KT := zd0 Block.mk_ (fun _ => rfl) (by kernel_rfl) zb8 (zbX zan zao op_38 rfl (zbX zbR zbj op_39 rfl (zfb zd5 ty_58 op_58))) (fun _ _ => trivial)
theorem op_52 : Opens P 52 (sl blockT) (KAll 232 KT) := op_slice op_60 zcR (by kernel_rfl)
theorem own_CheckTells : ownKnob Tryz.prog.godebug = none := by kernel_rfl
theorem laid_CheckTells : laidOutB Tryz.prog = true := by kernel_rfl
theorem tells_CheckTells (As : List AV) (h : Shape [⟨proofT, KT⟩, ⟨(sl blockT), (KAll 232 KT)⟩, ⟨(sl idT), (KAll 32 KT)⟩, ⟨(sl idT), (KAll 32 KT)⟩] As) : Tells P 7 As (.val boolT true) := by
  match As, h with
  | [A0, A1, A2, A3], ⟨⟨x0, h0, k0⟩, ⟨x1, h1, k1⟩, ⟨x2, h2, k2⟩, ⟨x3, h3, k3⟩, _⟩ => subst h0; subst h1; subst h2; subst h3; exact CheckTells_ok x0 x1 x2 x3
theorem lifted_CheckTells (os : Os) (started : os.Started) (H : Type) (enc : TypeId × Value → H) : ReturnsInHanded {} Tryz.checked os 7 .any (Rows.checkTellsSpec.pre6 enc Tryz.prog Tryz.f7 Rows.checkTellsRow.domain false) (Rows.checkTellsSpec.post enc Tryz.prog Tryz.f7 false true false false) :=
  law_handed (C := Tryz.checked) (Gs := [⟨proofT, KT⟩, ⟨(sl blockT), (KAll 232 KT)⟩, ⟨(sl idT), (KAll 32 KT)⟩, ⟨(sl idT), (KAll 32 KT)⟩]) own_CheckTells started (by kernel_rfl) Tryz.func7
    (ChangeSpec.witness6 (enc := enc) (C := Tryz.checked) false ⟨#[], #[.agg #[.int .i64 0, .int .i64 0, .slice none 0 0], .slice none 0 0, .slice none 0 0, .slice none 0 0], []⟩ 12 (by kernel_rfl) (by kernel_rfl) (by kernel_rfl) (by kernel_rfl))
    rfl laid_CheckTells (by intro t ht; simp only [Tryz.params7, List.mem_cons, List.not_mem_nil, or_false] at ht; rcases ht with rfl | rfl | rfl | rfl <;> exact ⟨by kernel_rfl, of_decide_eq_true (by kernel_rfl)⟩)
    (show OpensAll P [24, 52, 39, 39] [⟨proofT, KT⟩, ⟨(sl blockT), (KAll 232 KT)⟩, ⟨(sl idT), (KAll 32 KT)⟩, ⟨(sl idT), (KAll 32 KT)⟩] from ⟨op_24, zdG, op_52, ty_52, op_39, zbj, op_39, zbj, trivial⟩) rfl Tryz.underlying4 (fun ds hl => by
      match ds, hl with
      | [d0, d1, d2, d3], _ => rfl) tells_CheckTells
theorem nm_CheckTells : Tryz.pinned.checked.prog.funcNamed Rows.checkTellsRow.func = some 7 := by kernel_rfl
theorem j0_CheckTells : (Rows.checkTellsRow.inPlace == Tryz.pinned.checked.prog.inPlace 7) = true := by kernel_rfl
theorem j1_CheckTells : (Rows.checkTellsRow.unfollowed == Tryz.pinned.checked.prog.unfollowed 7) = true := by kernel_rfl
theorem j2_CheckTells : (Rows.checkTellsRow.recurses == Tryz.pinned.checked.prog.recurses 7) = true := by kernel_rfl
theorem j3_CheckTells : (Rows.checkTellsRow.named == Tryz.pinned.checked.prog.varsNamed 7) = true := by kernel_rfl
theorem jf_CheckTells : joinedFacts Tryz.pinned.checked.prog 7 Tryz.f7 Rows.checkTellsSpec Rows.checkTellsRow = true := by
  unfold joinedFacts; rw [j0_CheckTells, j1_CheckTells, j2_CheckTells, j3_CheckTells]; kernel_rfl
theorem CheckTells_said : Rows.CheckTellsSaid :=
  OpenClaim.holds_of_wide 7 Tryz.f7 rfl rfl rfl rfl rfl rfl rfl ⟨rfl, rfl, rfl, rfl, rfl⟩ rfl rfl rfl rfl rfl nm_CheckTells Tryz.func7 jf_CheckTells
    (of_decide_eq_true (by kernel_rfl)) (by unfold Func.isWrapper; first | (rw [if_pos (by decide +kernel)]; kernel_rfl) | (rw [if_neg (by decide +kernel)]; exact ⟨rfl, rfl⟩))
    (fun os started H enc _ => lifted_CheckTells os started H enc)
#print axioms CheckTells_said
end Go.Proofs.YtjldddonpfopaaaGreat
