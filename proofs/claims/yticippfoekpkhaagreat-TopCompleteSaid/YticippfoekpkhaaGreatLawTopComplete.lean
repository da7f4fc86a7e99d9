/- TopComplete: for every input the law returns true, and each argument reads behind the call as it read before. No condition. -/
import Derived.Test.YticippfoekpkhaaGreatRows
import Derived.Test.YticippfoekpkhaaGreatK8
set_option maxRecDepth 100000
namespace Go.Proofs.YticippfoekpkhaaGreat
set_option linter.unusedVariables false
set_option linter.unusedSimpArgs false
open Go.Ab Go.RowKit
theorem op_3:Opens P 3 i64T KT:=op_int ui_3
theorem op_5:Opens P 5 u8T KT:=op_u8 ui_5
theorem op_26:Opens P 26 idT KT:=op_arr op_5 zjz zaA
theorem op_27:Opens P 27 u64T KT:=op_u64 zou
theorem op_29:Opens P 29 zan KT:=op_arr op_27 zcx zap
theorem op_30:Opens P 30 u32T KT:=op_u32 ui_30
theorem op_32:Opens P 32 zbl KT:=zh1 Head.mk_ (fun _=>rfl) yq zaF (zdi zcr ty_3 op_3 rfl (zdi zhm zaA op_26 rfl (zdi zhl zaA op_26 rfl (zdi zlf zaA op_26 rfl (zdi zjr zaA op_26 rfl (zdi zih zap op_29 rfl (zdi zdr zbS op_30 rfl (zj2 zig zco op_27)))))))) (fun _ _=>trivial)
theorem op_33:Opens P 33 (sl idT) (KAll 32 KT):=zj3 op_26 zeM yq
theorem op_201:Opens P 201 inT KT:=zh1 In.mk_ (fun _=>rfl) yq zdx (zdi zhn zaA op_26 rfl (zj2 zdX ty_3 op_3)) (fun _ _=>trivial)
theorem op_121:Opens P 121 (sl inT) (KAll 40 KT):=zj3 op_201 zo4 yq
theorem op_204:Opens P 204 outT KT:=zh1 Out.mk_ (fun _=>rfl) yq zhM (zdi ze4 ty_3 op_3 rfl (zj2 zf6 ty_3 op_3)) (fun _ _=>trivial)
theorem op_122:Opens P 122 (sl outT) (KAll 16 KT):=zj3 op_204 zo3 yq
theorem op_124:Opens P 124 txT zhQ:=zh1 Tx.mk_ (fun _=>rfl) yq zgx (zdi zdY zhN op_121 rfl (zj2 zes ziW op_122)) (fun _ h=>⟨h.1.1,h.2.1⟩)
theorem op_34:Opens P 34 (sl txT) (KAll 48 zhQ):=zj3 op_124 zm4 yq
theorem op_36:Opens P 36 zH zfX:=zh1 Block.mk_ (fun _=>rfl) yq zdO (zdi zaU zaF op_32 rfl (zdi zdW zcy op_33 rfl (zj2 zeQ zl7 op_34))) (fun _ h=>⟨h.2.1.1,h.2.2⟩)
theorem op_22:Opens P 22 (sl zH) (KAll 232 zfX):=zj3 op_36 zfQ yq
theorem znp:ownKnob Tryz.prog.godebug=none:=yq
theorem zmf:laidOutB Tryz.prog=true:=yq
theorem zkO (As:List AV) (h:Shape [⟨(sl zH),(KAll 232 zfX)⟩,⟨i64T,KT⟩,⟨i64T,KT⟩,⟨i64T,KT⟩,⟨i64T,KT⟩] As):Tells P 3 As (.val zn true):=by
  match As,h with
  | [A0,A1,A2,A3,A4],⟨⟨x0,h0,k0⟩,⟨x1,h1,k1⟩,⟨x2,h2,k2⟩,⟨x3,h3,k3⟩,⟨x4,h4,k4⟩,_⟩=>subst h0;subst h1;subst h2;subst h3;subst h4;exact zoS x0 x1 x2 x3 x4 (k0)
theorem zka (os:Os) (started:os.Started) (H:Type) (enc:TypeId×Value→H):ReturnsInHanded {} Tryz.checked os 3 .any (Rows.topCompleteSpec.pre6 enc Tryz.prog Tryz.f3 Rows.topCompleteRow.domain false) (Rows.topCompleteSpec.post enc Tryz.prog Tryz.f3 false true false false) :=
  law_handed (C:=Tryz.checked) (Gs:=[⟨(sl zH),(KAll 232 zfX)⟩,⟨i64T,KT⟩,⟨i64T,KT⟩,⟨i64T,KT⟩,⟨i64T,KT⟩]) znp started yq Tryz.func3
    (ChangeSpec.witness6 (enc:=enc) (C:=Tryz.checked) false ⟨#[],#[.slice none 0 0,.int .i64 0,.int .i64 0,.int .i64 0,.int .i64 0],[]⟩ 12 yq yq yq yq)
    rfl zmf (by intro t ht;simp only[Tryz.params3,List.mem_cons,List.not_mem_nil,or_false] at ht;rcases ht with rfl|rfl|rfl|rfl|rfl<;>exact⟨by kernel_rfl,of_decide_eq_true yq⟩)
    (show zmG P [22,3,3,3,3] [⟨(sl zH),(KAll 232 zfX)⟩,⟨i64T,KT⟩,⟨i64T,KT⟩,⟨i64T,KT⟩,⟨i64T,KT⟩] from⟨op_22,ty_22,op_3,ty_3,op_3,ty_3,op_3,ty_3,op_3,ty_3,trivial⟩) rfl Tryz.underlying4 (fun ds hl=>by
      match ds,hl with
      | [d0,d1,d2,d3,d4],_=>rfl) zkO
theorem zoG:Tryz.pinned.checked.prog.funcNamed Rows.topCompleteRow.func=some 3:=yq
theorem zoN:(Rows.topCompleteRow.inPlace==Tryz.pinned.checked.prog.inPlace 3)=true:=yq
theorem zoM:(Rows.topCompleteRow.unfollowed==Tryz.pinned.checked.prog.unfollowed 3)=true:=yq
theorem zoL:(Rows.topCompleteRow.recurses==Tryz.pinned.checked.prog.recurses 3)=true:=yq
theorem zoK:(Rows.topCompleteRow.named==Tryz.pinned.checked.prog.varsNamed 3)=true:=yq
theorem zoJ:joinedFacts Tryz.pinned.checked.prog 3 Tryz.f3 Rows.topCompleteSpec Rows.topCompleteRow=true:=by
  unfold joinedFacts;rw[zoN,zoM,zoL,zoK];kernel_rfl
theorem TopComplete_said:Rows.TopCompleteSaid :=
  OpenClaim.holds_of_wide 3 Tryz.f3 rfl rfl rfl rfl rfl rfl rfl yZ rfl rfl rfl rfl rfl zoG Tryz.func3 zoJ
    (of_decide_eq_true yq) (by unfold Func.isWrapper;first|(rw[if_pos yc];kernel_rfl)|(rw[if_neg yc];exact⟨rfl,rfl⟩))
    (fun os started H enc _=>zka os started H enc)
#print axioms TopComplete_said
end Go.Proofs.YticippfoekpkhaaGreat
