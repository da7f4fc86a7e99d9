/- StoreBest: for every input the law returns true, and each argument reads behind the call as it read before. No condition. -/
import Derived.Test.YtgoebfjaaklopaaGreatRows
import Derived.Test.YtgoebfjaaklopaaGreatK6
set_option maxRecDepth 100000
namespace Go.Proofs.YtgoebfjaaklopaaGreat
set_option linter.unusedVariables false
set_option linter.unusedSimpArgs false
open Go.Ab Go.RowKit
theorem op_3 : Opens P 3 i64T KT := op_int ui_3
theorem op_5 : Opens P 5 u8T KT := op_u8 ui_5
theorem op_27 : Opens P 27 idT KT := op_arr op_5 ar_27 ty_27
theorem op_28 : Opens P 28 u64T KT := op_u64 ui_28
theorem op_30 : Opens P 30 wideT KT := op_arr op_28 ar_30 ty_30
theorem op_31 : Opens P 31 u32T KT := op_u32 ui_31
theorem op_33 : Opens P 33 headT KT := op_struct Head.mk_ (fun _ => rfl) (by kernel_rfl) ty_33 (opf_cons fd_33_0 ty_3 op_3 rfl (opf_cons fd_33_1 ty_27 op_27 rfl (opf_cons fd_33_2 ty_27 op_27 rfl (opf_cons fd_33_3 ty_27 op_27 rfl (opf_cons fd_33_4 ty_27 op_27 rfl (opf_cons fd_33_5 ty_30 op_30 rfl (opf_cons fd_33_6 ty_31 op_31 rfl (opf_last fd_33_7 ty_28 op_28)))))))) (fun _ _ => trivial)
theorem op_34 : Opens P 34 (sl idT) (KAll 32 KT) := op_slice op_27 sl_34 (by kernel_rfl)
theorem op_120 : Opens P 120 inT KT := op_struct In.mk_ (fun _ => rfl) (by kernel_rfl) ty_120 (opf_cons fd_120_0 ty_27 op_27 rfl (opf_last fd_120_1 ty_3 op_3)) (fun _ _ => trivial)
theorem op_109 : Opens P 109 (sl inT) (KAll 40 KT) := op_slice op_120 sl_109 (by kernel_rfl)
theorem op_123 : Opens P 123 outT KT := op_struct Out.mk_ (fun _ => rfl) (by kernel_rfl) ty_123 (opf_cons fd_123_0 ty_3 op_3 rfl (opf_last fd_123_1 ty_3 op_3)) (fun _ _ => trivial)
theorem op_110 : Opens P 110 (sl outT) (KAll 16 KT) := op_slice op_123 sl_110 (by kernel_rfl)
theorem op_112 : Opens P 112 txT KT := op_struct Tx.mk_ (fun _ => rfl) (by kernel_rfl) ty_112 (opf_cons fd_112_0 ty_109 op_109 rfl (opf_last fd_112_1 ty_110 op_110)) (fun _ _ => trivial)
theorem op_35 : Opens P 35 (sl txT) (KAll 48 KT) := op_slice op_112 sl_35 (by kernel_rfl)
theorem op_37 : Opens P 37 blockT KT := op_struct Block.mk_ (fun _ => rfl) (by kernel_rfl) ty_37 (opf_cons fd_37_0 ty_33 op_33 rfl (opf_cons fd_37_1 ty_34 op_34 rfl (opf_last fd_37_2 ty_35 op_35))) (fun _ _ => trivial)
theorem op_22 : Opens P 22 (sl blockT) (KAll 232 KT) := op_slice op_37 sl_22 (by kernel_rfl)
theorem op_23 : Opens P 23 (sl i64T) (KAll 8 KT) := op_slice op_3 sl_23 (by kernel_rfl)
theorem op_25 : Opens P 25 storeT KT := op_struct Store.mk_ (fun _ => rfl) (by kernel_rfl) ty_25 (opf_cons fd_25_0 ty_22 op_22 rfl (opf_last fd_25_1 ty_23 op_23)) (fun _ _ => trivial)
theorem own_StoreBest : ownKnob Tryz.prog.godebug = none := by kernel_rfl
theorem laid_StoreBest : laidOutB Tryz.prog = true := by kernel_rfl
theorem tells_StoreBest (As : List AV) (h : Shape [⟨storeT, KT⟩, ⟨i64T, KT⟩] As) : Tells P 5 As (.val boolT true) := by
  match As, h with
  | [A0, A1], ⟨⟨x0, h0, k0⟩, ⟨x1, h1, k1⟩, _⟩ => subst h0; subst h1; exact StoreBest_ok x0 x1
theorem lifted_StoreBest (os : Os) (started : os.Started) (H : Type) (enc : TypeId × Value → H) : ReturnsInHanded {} Tryz.checked os 5 .any (Rows.storeBestSpec.pre6 enc Tryz.prog Tryz.f5 Rows.storeBestRow.domain false) (Rows.storeBestSpec.post enc Tryz.prog Tryz.f5 false true false false) :=
  law_handed (C := Tryz.checked) (Gs := [⟨storeT, KT⟩, ⟨i64T, KT⟩]) own_StoreBest started (by kernel_rfl) Tryz.func5
    (ChangeSpec.witness6 (enc := enc) (C := Tryz.checked) false ⟨#[], #[.agg #[.slice none 0 0, .slice none 0 0], .int .i64 0], []⟩ 12 (by kernel_rfl) (by kernel_rfl) (by kernel_rfl) (by kernel_rfl))
    rfl laid_StoreBest (by intro t ht; simp only [Tryz.params5, List.mem_cons, List.not_mem_nil, or_false] at ht; rcases ht with rfl | rfl <;> exact ⟨by kernel_rfl, of_decide_eq_true (by kernel_rfl)⟩)
    (show OpensAll P [25, 3] [⟨storeT, KT⟩, ⟨i64T, KT⟩] from ⟨op_25, ty_25, op_3, ty_3, trivial⟩) rfl Tryz.underlying4 (fun ds hl => by
      match ds, hl with
      | [d0, d1], _ => rfl) tells_StoreBest
theorem nm_StoreBest : Tryz.pinned.checked.prog.funcNamed Rows.storeBestRow.func = some 5 := by kernel_rfl
theorem j0_StoreBest : (Rows.storeBestRow.inPlace == Tryz.pinned.checked.prog.inPlace 5) = true := by kernel_rfl
theorem j1_StoreBest : (Rows.storeBestRow.unfollowed == Tryz.pinned.checked.prog.unfollowed 5) = true := by kernel_rfl
theorem j2_StoreBest : (Rows.storeBestRow.recurses == Tryz.pinned.checked.prog.recurses 5) = true := by kernel_rfl
theorem j3_StoreBest : (Rows.storeBestRow.named == Tryz.pinned.checked.prog.varsNamed 5) = true := by kernel_rfl
theorem jf_StoreBest : joinedFacts Tryz.pinned.checked.prog 5 Tryz.f5 Rows.storeBestSpec Rows.storeBestRow = true := by
  unfold joinedFacts; rw [j0_StoreBest, j1_StoreBest, j2_StoreBest, j3_StoreBest]; kernel_rfl
theorem StoreBest_said : Rows.StoreBestSaid :=
  OpenClaim.holds_of_wide 5 Tryz.f5 rfl rfl rfl rfl rfl rfl rfl ⟨rfl, rfl, rfl, rfl, rfl⟩ rfl rfl rfl rfl rfl nm_StoreBest Tryz.func5 jf_StoreBest
    (of_decide_eq_true (by kernel_rfl)) (by unfold Func.isWrapper; first | (rw [if_pos (by decide +kernel)]; kernel_rfl) | (rw [if_neg (by decide +kernel)]; exact ⟨rfl, rfl⟩))
    (fun os started H enc _ => lifted_StoreBest os started H enc)
#print axioms StoreBest_said
end Go.Proofs.YtgoebfjaaklopaaGreat
