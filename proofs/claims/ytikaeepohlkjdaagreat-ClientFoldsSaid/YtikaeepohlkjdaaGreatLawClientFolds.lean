/- ClientFolds: for every input the law returns true, and each argument reads behind the call as it read before. No condition. -/
import Derived.Test.YtikaeepohlkjdaaGreatRows
import Derived.Test.YtikaeepohlkjdaaGreatK8
set_option maxRecDepth 100000
namespace Go.Proofs.YtikaeepohlkjdaaGreat
set_option linter.unusedVariables false
set_option linter.unusedSimpArgs false
open Go.Ab Go.RowKit
theorem op_3:Opens P 3 i64T KT:=zm9 ui_3
theorem op_5:Opens P 5 u8T KT:=op_u8 ui_5
theorem zoz:Opens P 22 (sl u8T) (KAll 1 KT):=zbM op_5 zcG yo
theorem ztQ:Opens P 36 msgT KT:=zbt Msg.mk_ (fun _=>rfl) yo zmx (zH zbr ty_3 op_3 rfl (zH za1 ty_3 op_3 rfl (zcg zem zcx zoz))) (fun _ _=>trivial)
theorem ztP:Opens P 37 (sl msgT) (KAll 40 KT):=zbM ztQ ze9 yo
theorem zm8:ownKnob Tryz.prog.godebug=none:=yo
theorem zlY:laidOutB Tryz.prog=true:=yo
theorem zky (As:List AV) (h:Shape [⟨i64T,KT⟩,⟨i64T,KT⟩,⟨(sl msgT),(KAll 40 KT)⟩] As):Tells P 9 As (.val zl true):=by
  match As,h with
  | [A0,A1,A2],⟨⟨x0,h0,k0⟩,⟨x1,h1,k1⟩,⟨x2,h2,k2⟩,_⟩=>subst h0;subst h1;subst h2;exact zoO x0 x1 x2
theorem zjZ (os:Os) (started:os.Started) (H:Type) (enc:TypeId×Value→H):ReturnsInHanded {} Tryz.checked os 9 .any (Rows.clientFoldsSpec.pre6 enc Tryz.prog Tryz.f9 Rows.clientFoldsRow.domain false) (Rows.clientFoldsSpec.post enc Tryz.prog Tryz.f9 false true false false) :=
  zeh (C:=Tryz.checked) (Gs:=[⟨i64T,KT⟩,⟨i64T,KT⟩,⟨(sl msgT),(KAll 40 KT)⟩]) zm8 started yo Tryz.func9
    (ChangeSpec.witness6 (enc:=enc) (C:=Tryz.checked) false ⟨#[],#[.int .i64 0,.int .i64 0,.slice none 0 0],[]⟩ 12 yo yo yo yo)
    rfl zlY (by intro t ht;simp only[Tryz.params9,List.mem_cons,List.not_mem_nil,or_false] at ht;rcases ht with rfl|rfl|rfl<;>exact⟨by kernel_rfl,of_decide_eq_true yo⟩)
    (show zeD P [3,3,37] [⟨i64T,KT⟩,⟨i64T,KT⟩,⟨(sl msgT),(KAll 40 KT)⟩] from⟨op_3,ty_3,op_3,ty_3,ztP,ty_37,trivial⟩) rfl Tryz.underlying4 (fun ds hl=>by
      match ds,hl with
      | [d0,d1,d2],_=>rfl) zky
theorem zoB:Tryz.pinned.checked.prog.funcNamed Rows.clientFoldsRow.func=some 9:=yo
theorem zoK:(Rows.clientFoldsRow.inPlace==Tryz.pinned.checked.prog.inPlace 9)=true:=yo
theorem zoJ:(Rows.clientFoldsRow.unfollowed==Tryz.pinned.checked.prog.unfollowed 9)=true:=yo
theorem zoI:(Rows.clientFoldsRow.recurses==Tryz.pinned.checked.prog.recurses 9)=true:=yo
theorem zoH:(Rows.clientFoldsRow.named==Tryz.pinned.checked.prog.varsNamed 9)=true:=yo
theorem zoG:joinedFacts Tryz.pinned.checked.prog 9 Tryz.f9 Rows.clientFoldsSpec Rows.clientFoldsRow=true:=by
  unfold joinedFacts;rw[zoK,zoJ,zoI,zoH];kernel_rfl
theorem ClientFolds_said:Rows.ClientFoldsSaid :=
  OpenClaim.holds_of_wide 9 Tryz.f9 rfl rfl rfl rfl rfl rfl rfl yY rfl rfl rfl rfl rfl zoB Tryz.func9 zoG
    (of_decide_eq_true yo) yI
    (fun os started H enc _=>zjZ os started H enc)
#print axioms ClientFolds_said
end Go.Proofs.YtikaeepohlkjdaaGreat
