/- ScoreTells: for every input the law returns true, and each argument reads behind the call as it read before. No condition. -/
import Derived.Test.YtdeghaedeefooaaGreatRows
import Derived.Test.YtdeghaedeefooaaGreatK7
set_option maxRecDepth 100000
namespace Go.Proofs.YtdeghaedeefooaaGreat
set_option linter.unusedVariables false
set_option linter.unusedSimpArgs false
open Go.Ab Go.RowKit
theorem op_3 : Opens P 3 i64T KT := op_int ui_3
theorem op_22 : Opens P 22 (sl i64T) (KAll 8 KT) := op_slice op_3 zdq (by kernel_rfl)
theorem op_5 : Opens P 5 u8T KT := op_u8 ui_5
theorem op_49 : Opens P 49 idT KT := op_arr op_5 zbI zx
theorem op_50 : Opens P 50 u64T KT := op_u64 ui_50
theorem op_52 : Opens P 52 wideT KT := op_arr op_50 zal zk
theorem op_53 : Opens P 53 u32T KT := op_u32 ui_53
theorem op_55 : Opens P 55 headT KT := op_struct Head.mk_ (fun _ => rfl) (by kernel_rfl) zai (zc3 za0 ty_3 op_3 rfl (zc3 zdQ zx op_49 rfl (zc3 zdP zx op_49 rfl (zc3 fd_55_3 zx op_49 rfl (zc3 fd_55_4 zx op_49 rfl (zc3 fd_55_5 zk op_52 rfl (zc3 zby zae op_53 rfl (opf_last fd_55_7 zaE op_50)))))))) (fun _ _ => trivial)
theorem op_56 : Opens P 56 (sl idT) (KAll 32 KT) := op_slice op_49 za5 (by kernel_rfl)
theorem op_58 : Opens P 58 partT KT := op_struct Part.mk_ (fun _ => rfl) (by kernel_rfl) ty_58 (zc3 zaU zai op_55 rfl (opf_last zbx zbC op_56)) (fun _ _ => trivial)
theorem op_23 : Opens P 23 (sl partT) (KAll 208 KT) := op_slice op_58 zcf (by kernel_rfl)
theorem op_25 : Opens P 25 proofT KT := op_struct Proof.mk_ (fun _ => rfl) (by kernel_rfl) zy (zc3 zbZ ty_3 op_3 rfl (zc3 zbS ty_3 op_3 rfl (opf_last zac zbh op_23))) (fun _ _ => trivial)
theorem op_26 : Opens P 26 (sl proofT) (KAll 40 KT) := op_slice op_25 sl_26 (by kernel_rfl)
theorem own_ScoreTells : ownKnob Tryz.prog.godebug = none := by kernel_rfl
theorem laid_ScoreTells : laidOutB Tryz.prog = true := by kernel_rfl
theorem tells_ScoreTells (As : List AV) (h : Shape [⟨(sl i64T), (KAll 8 KT)⟩, ⟨i64T, KT⟩, ⟨proofT, KT⟩, ⟨proofT, KT⟩, ⟨(sl proofT), (KAll 40 KT)⟩] As) : Tells P 3 As (.val boolT true) := by
  match As, h with
  | [A0, A1, A2, A3, A4], ⟨⟨x0, h0, k0⟩, ⟨x1, h1, k1⟩, ⟨x2, h2, k2⟩, ⟨x3, h3, k3⟩, ⟨x4, h4, k4⟩, _⟩ => subst h0; subst h1; subst h2; subst h3; subst h4; exact ScoreTells_ok x0 x1 x2 x3 x4
theorem lifted_ScoreTells (os : Os) (started : os.Started) (H : Type) (enc : TypeId × Value → H) : ReturnsInHanded {} Tryz.checked os 3 .any (Rows.scoreTellsSpec.pre6 enc Tryz.prog Tryz.f3 Rows.scoreTellsRow.domain false) (Rows.scoreTellsSpec.post enc Tryz.prog Tryz.f3 false true false false) :=
  law_handed (C := Tryz.checked) (Gs := [⟨(sl i64T), (KAll 8 KT)⟩, ⟨i64T, KT⟩, ⟨proofT, KT⟩, ⟨proofT, KT⟩, ⟨(sl proofT), (KAll 40 KT)⟩]) own_ScoreTells started (by kernel_rfl) Tryz.func3
    (ChangeSpec.witness6 (enc := enc) (C := Tryz.checked) false ⟨#[], #[.slice none 0 0, .int .i64 0, .agg #[.int .i64 0, .int .i64 0, .slice none 0 0], .agg #[.int .i64 0, .int .i64 0, .slice none 0 0], .slice none 0 0], []⟩ 12 (by kernel_rfl) (by kernel_rfl) (by kernel_rfl) (by kernel_rfl))
    rfl laid_ScoreTells (by intro t ht; simp only [Tryz.params3, List.mem_cons, List.not_mem_nil, or_false] at ht; rcases ht with rfl | rfl | rfl | rfl | rfl <;> exact ⟨by kernel_rfl, of_decide_eq_true (by kernel_rfl)⟩)
    (show OpensAll P [22, 3, 25, 25, 26] [⟨(sl i64T), (KAll 8 KT)⟩, ⟨i64T, KT⟩, ⟨proofT, KT⟩, ⟨proofT, KT⟩, ⟨(sl proofT), (KAll 40 KT)⟩] from ⟨op_22, ty_22, op_3, ty_3, op_25, zy, op_25, zy, op_26, ty_26, trivial⟩) rfl Tryz.underlying4 (fun ds hl => by
      match ds, hl with
      | [d0, d1, d2, d3, d4], _ => rfl) tells_ScoreTells
theorem nm_ScoreTells : Tryz.pinned.checked.prog.funcNamed Rows.scoreTellsRow.func = some 3 := by kernel_rfl
theorem j0_ScoreTells : (Rows.scoreTellsRow.inPlace == Tryz.pinned.checked.prog.inPlace 3) = true := by kernel_rfl
theorem j1_ScoreTells : (Rows.scoreTellsRow.unfollowed == Tryz.pinned.checked.prog.unfollowed 3) = true := by kernel_rfl
theorem j2_ScoreTells : (Rows.scoreTellsRow.recurses == Tryz.pinned.checked.prog.recurses 3) = true := by kernel_rfl
theorem j3_ScoreTells : (Rows.scoreTellsRow.named == Tryz.pinned.checked.prog.varsNamed 3) = true := by kernel_rfl
theorem jf_ScoreTells : joinedFacts Tryz.pinned.checked.prog 3 Tryz.f3 Rows.scoreTellsSpec Rows.scoreTellsRow = true := by
  unfold joinedFacts; rw [j0_ScoreTells, j1_ScoreTells, j2_ScoreTells, j3_ScoreTells]; kernel_rfl
theorem ScoreTells_said : Rows.ScoreTellsSaid :=
  OpenClaim.holds_of_wide 3 Tryz.f3 rfl rfl rfl rfl rfl rfl rfl ⟨rfl, rfl, rfl, rfl, rfl⟩ rfl rfl rfl rfl rfl nm_ScoreTells Tryz.func3 jf_ScoreTells
    (of_decide_eq_true (by kernel_rfl)) (by unfold Func.isWrapper; first | (rw [if_pos (by decide +kernel)]; kernel_rfl) | (rw [if_neg (by decide +kernel)]; exact ⟨rfl, rfl⟩))
    (fun os started H enc _ => lifted_ScoreTells os started H enc)
#print axioms ScoreTells_said
end Go.Proofs.YtdeghaedeefooaaGreat
