/- ProofTells: for every input the law returns true, and each argument reads behind the call as it read before. No condition. -/
import Derived.Test.YtjjlfapfjjkomaaGreatRows
import Derived.Test.YtjjlfapfjjkomaaGreatK9
set_option maxRecDepth 100000
namespace Go.Proofs.YtjjlfapfjjkomaaGreat
set_option linter.unusedVariables false
set_option linter.unusedSimpArgs false
open Go.Ab Go.RowKit
theorem op_3:Opens P 3 i64T KT:=op_int ui_3
theorem op_5:Opens P 5 u8T KT:=op_u8 ui_5
theorem op_46:Opens P 46 idT KT:=op_arr op_5 zfj zab
theorem op_47:Opens P 47 u64T KT:=op_u64 zlk
theorem op_49:Opens P 49 z7 KT:=op_arr op_47 zbf zal
theorem op_50:Opens P 50 u32T KT:=op_u32 ui_50
theorem op_52:Opens P 52 zbx KT:=zgc Head.mk_ (fun _=>rfl) yv zaM (zcM zc9 ty_3 op_3 rfl (zcM zfv zab op_46 rfl (zcM zex zab op_46 rfl (zcM zfu zab op_46 rfl (zcM zft zab op_46 rfl (zcM zg7 zal op_49 rfl (zcM zce zbp op_50 rfl (zhY zfs za9 op_47)))))))) (fun _ _=>trivial)
theorem op_53:Opens P 53 (sl idT) (KAll 32 KT):=zhZ op_46 zek yv
theorem op_218:Opens P 218 inT KT:=zgc In.mk_ (fun _=>rfl) yv zcc (zcM zdd zab op_46 rfl (zhY zb1 ty_3 op_3)) (fun _ _=>trivial)
theorem op_130:Opens P 130 (sl inT) (KAll 40 KT):=zhZ op_218 ze5 yv
theorem op_221:Opens P 221 outT KT:=zgc Out.mk_ (fun _=>rfl) yv zf3 (zcM zcx ty_3 op_3 rfl (zhY zdz ty_3 op_3)) (fun _ _=>trivial)
theorem op_131:Opens P 131 (sl outT) (KAll 16 KT):=zhZ op_221 zf7 yv
theorem op_133:Opens P 133 txT ziC:=zgc Tx.mk_ (fun _=>rfl) yv zfy (zcM zcy zfz op_130 rfl (zhY zcb zeO op_131)) (fun _ h=>⟨h.1.1,h.2.1⟩)
theorem op_56:Opens P 56 (sl txT) (KAll 48 ziC):=zhZ op_133 zkq yv
theorem op_58:Opens P 58 zU zgI:=zgc Block.mk_ (fun _=>rfl) yv zdJ (zcM zaR zaM op_52 rfl (zcM zcO zcG op_53 rfl (zhY zgn znn op_56))) (fun _ h=>⟨h.2.1.1,h.2.2⟩)
theorem op_22:Opens P 22 (sl zU) (KAll 232 zgI):=zhZ op_58 zf6 yv
theorem op_55:Opens P 55 zbL KT:=zgc Part.mk_ (fun _=>rfl) yv ziA (zcM zew zaM op_52 rfl (zhY zcP zcG op_53)) (fun _ _=>trivial)
theorem op_23:Opens P 23 (sl zbL) (KAll 208 KT):=zhZ op_55 zkr yv
theorem op_25:Opens P 25 zax KT:=zgc Proof.mk_ (fun _=>rfl) yv zbD (zcM zcQ ty_3 op_3 rfl (zcM zey ty_3 op_3 rfl (zhY zcC zhi op_23))) (fun _ _=>trivial)
theorem op_26:Opens P 26 (sl u8T) (KAll 1 KT):=zhZ op_5 zb4 yv
theorem zo6:ownKnob Tryz.prog.godebug=none:=yv
theorem zob:laidOutB Tryz.prog=true:=yv
theorem zmr (As:List AV) (h:Shape [⟨(sl zU),(KAll 232 zgI)⟩,⟨i64T,KT⟩,⟨i64T,KT⟩,⟨i64T,KT⟩,⟨zax,KT⟩,⟨zax,KT⟩,⟨(sl u8T),(KAll 1 KT)⟩] As):Tells P 3 As (.val zs true):=by
  match As,h with
  | [A0,A1,A2,A3,A4,A5,A6],⟨⟨x0,h0,k0⟩,⟨x1,h1,k1⟩,⟨x2,h2,k2⟩,⟨x3,h3,k3⟩,⟨x4,h4,k4⟩,⟨x5,h5,k5⟩,⟨x6,h6,k6⟩,_⟩=>subst h0;subst h1;subst h2;subst h3;subst h4;subst h5;subst h6;exact zrQ x0 x1 x2 x3 x4 x5 x6 (k0)
theorem zlC (os:Os) (started:os.Started) (H:Type) (enc:TypeId×Value→H):ReturnsInHanded {} Tryz.checked os 3 .any (Rows.proofTellsSpec.pre6 enc Tryz.prog Tryz.f3 Rows.proofTellsRow.domain false) (Rows.proofTellsSpec.post enc Tryz.prog Tryz.f3 false true false false) :=
  law_handed (C:=Tryz.checked) (Gs:=[⟨(sl zU),(KAll 232 zgI)⟩,⟨i64T,KT⟩,⟨i64T,KT⟩,⟨i64T,KT⟩,⟨zax,KT⟩,⟨zax,KT⟩,⟨(sl u8T),(KAll 1 KT)⟩]) zo6 started yv Tryz.func3
    (ChangeSpec.witness6 (enc:=enc) (C:=Tryz.checked) false ⟨#[],#[.slice none 0 0,.int .i64 0,.int .i64 0,.int .i64 0,.agg #[.int .i64 0,.int .i64 0,.slice none 0 0],.agg #[.int .i64 0,.int .i64 0,.slice none 0 0],.slice none 0 0],[]⟩ 12 yv yv yv yv)
    rfl zob (by intro t ht;simp only[Tryz.params3,List.mem_cons,List.not_mem_nil,or_false] at ht;rcases ht with rfl|rfl|rfl|rfl|rfl|rfl|rfl<;>exact⟨by kernel_rfl,of_decide_eq_true yv⟩)
    (show zm9 P [22,3,3,3,25,25,26] [⟨(sl zU),(KAll 232 zgI)⟩,⟨i64T,KT⟩,⟨i64T,KT⟩,⟨i64T,KT⟩,⟨zax,KT⟩,⟨zax,KT⟩,⟨(sl u8T),(KAll 1 KT)⟩] from⟨op_22,ty_22,op_3,ty_3,op_3,ty_3,op_3,ty_3,op_25,zbD,op_25,zbD,op_26,zhK,trivial⟩) rfl Tryz.underlying4 (fun ds hl=>by
      match ds,hl with
      | [d0,d1,d2,d3,d4,d5,d6],_=>rfl) zmr
theorem zq0:Tryz.pinned.checked.prog.funcNamed Rows.proofTellsRow.func=some 3:=yv
theorem zre:(Rows.proofTellsRow.inPlace==Tryz.pinned.checked.prog.inPlace 3)=true:=yv
theorem zrd:(Rows.proofTellsRow.unfollowed==Tryz.pinned.checked.prog.unfollowed 3)=true:=yv
theorem zrc:(Rows.proofTellsRow.recurses==Tryz.pinned.checked.prog.recurses 3)=true:=yv
theorem zrb:(Rows.proofTellsRow.named==Tryz.pinned.checked.prog.varsNamed 3)=true:=yv
theorem zra:joinedFacts Tryz.pinned.checked.prog 3 Tryz.f3 Rows.proofTellsSpec Rows.proofTellsRow=true:=by
  unfold joinedFacts;rw[zre,zrd,zrc,zrb];kernel_rfl
theorem ProofTells_said:Rows.ProofTellsSaid :=
  OpenClaim.holds_of_wide 3 Tryz.f3 rfl rfl rfl rfl rfl rfl rfl yag rfl rfl rfl rfl rfl zq0 Tryz.func3 zra
    (of_decide_eq_true yv) (by unfold Func.isWrapper;first|(rw[ut yd];kernel_rfl)|(rw[ur yd];exact⟨rfl,rfl⟩))
    (fun os started H enc _=>zlC os started H enc)
#print axioms ProofTells_said
end Go.Proofs.YtjjlfapfjjkomaaGreat
